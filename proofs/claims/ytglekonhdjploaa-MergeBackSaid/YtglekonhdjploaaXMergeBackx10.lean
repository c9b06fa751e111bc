-- Laid by this session's own printer (wip/xprint.py): each Go function that the law reaches as a plain Lean function, and that the call comes to it.
import Derived.Test.YtglekonhdjploaaXMergeBackx0
import Derived.Test.YtglekonhdjploaaXMergeBackx3
import Derived.Test.YtglekonhdjploaaXMergeBackx5
import Derived.Test.YtglekonhdjploaaXMergeBackx6
import Derived.Test.YtglekonhdjploaaXMergeBackx7
import Derived.Test.YtglekonhdjploaaXMergeBackx8
import Derived.Test.YtglekonhdjploaaXMergeBackx9
namespace Go.Proofs.Ytglekonhdjploaa.XMergeBack
open Go.RowKit Go.Proofs.YtglekonhdjploaaW.PrintWords Go.Proofs.YtglekonhdjploaaW.PrintLast Go.Proofs.YtglekonhdjploaaW.PrintMore
attribute [local go_sem] max2_int min2_int max_two min_two max_three min_three max_four min_four   -- for this text's walks alone
set_option linter.unusedVariables false
set_option linter.unusedSimpArgs false

/-! ### darninglaw17_MergeBack: function 11 -/
mutual
def darninglaw17_MergeBack.j0 : Nat → List (S35) → Int → Int → Int → Bool → Option (Bool)
 | 0, _, _, _, _, _ => none
 | k + 1, x0, x1, x2, x3, x32 => if x32 = true then ((darninglaw17_awake.f k).bind fun t254 => (some t254)) else (if (IntKind.u64.wrap ((x0.length : Int))) = 0 then (none) else (if 0 ≤ (wrap64 (Int.tmod (IntKind.u64.wrap (x2)) (IntKind.u64.wrap ((x0.length : Int))))) then (if (wrap64 (Int.tmod (IntKind.u64.wrap (x2)) (IntKind.u64.wrap ((x0.length : Int))))) < (x0.length : Int) then (if ((rd_T35 x0 (wrap64 (Int.tmod (IntKind.u64.wrap (x2)) (IntKind.u64.wrap ((x0.length : Int)))))).f2 = true) then ((merge_Blocks.f k x0 (wrap64 (Int.tmod (IntKind.u64.wrap (x2)) (IntKind.u64.wrap ((x0.length : Int)))))).bind fun bt268 => ((merge_Edit.f k x0 (wrap64 (Int.tmod (IntKind.u64.wrap (x2)) (IntKind.u64.wrap ((x0.length : Int)))))).bind fun bt272 => ((darninglaw14_Words.f k x0 x1).bind fun t276 => ((darningref4_Apply.f k t276 (([(⟨bt272.1, bt272.2.1⟩ : S30)] : List (S30)))).bind fun t282 => ((chain_Blocks.f k t282).bind fun bt285 => (if bt268.2 = true then (if bt272.2.2 = true then (if bt285.2 = true then ((darningref4_SameBlocks.f k bt285.1 bt268.1).bind fun t289 => (if t289 = true then ((chain_May.f k bt268.1 x1).bind fun t290 => (if t290 = true then ((chain_Free.f k bt268.1).bind fun t291 => ((chain_Free.f k x0).bind fun t292 => (if t291 = (wrap64 (t292 + ((rd_T35 x0 (wrap64 (Int.tmod (IntKind.u64.wrap (x2)) (IntKind.u64.wrap ((x0.length : Int)))))).f1))) then ((darninglaw17_awake.f k).bind fun t294 => (darninglaw17_MergeBack.j2 k t294)) else (darninglaw17_MergeBack.j2 k false)))) else (darninglaw17_MergeBack.j2 k false))) else (darninglaw17_MergeBack.j2 k false))) else (darninglaw17_MergeBack.j2 k false)) else (darninglaw17_MergeBack.j2 k false)) else (darninglaw17_MergeBack.j2 k false))))))) else ((carve_Blocks.f k x0 (wrap64 (Int.tmod (IntKind.u64.wrap (x2)) (IntKind.u64.wrap ((x0.length : Int))))) (wrap64 (2 + (wrap64 (Int.tmod (IntKind.u64.wrap (x3)) 60))))).bind fun bt256 => (if bt256.2 = true then ((merge_Blocks.f k bt256.1 (wrap64 (Int.tmod (IntKind.u64.wrap (x2)) (IntKind.u64.wrap ((x0.length : Int)))))).bind fun bt262 => (if bt262.2 = true then ((darningref4_SameBlocks.f k bt262.1 x0).bind fun t266 => (if t266 = true then ((darninglaw17_awake.f k).bind fun t267 => (darninglaw17_MergeBack.j1 k t267)) else (darninglaw17_MergeBack.j1 k false))) else (darninglaw17_MergeBack.j1 k false))) else (if ((rd_T35 x0 (wrap64 (Int.tmod (IntKind.u64.wrap (x2)) (IntKind.u64.wrap ((x0.length : Int)))))).f1) < (wrap64 (2 + (wrap64 (Int.tmod (IntKind.u64.wrap (x3)) 60)))) then ((darninglaw17_awake.f k).bind fun t261 => (some t261)) else (some false))))) else (none)) else (none)))
def darninglaw17_MergeBack.j2 : Nat → Bool → Option (Bool)
 | 0, _ => none
 | k + 1, x8 => some x8
def darninglaw17_MergeBack.j1 : Nat → Bool → Option (Bool)
 | 0, _ => none
 | k + 1, x8 => some x8
end
def darninglaw17_MergeBack.f (k : Nat) (l0 : List (S35)) (a1 : Int) (a2 : Int) (a3 : Int) : Option (Bool) := if (l0.length : Int) > 300 then (darninglaw17_MergeBack.j0 k l0 a1 a2 a3 true) else (if (l0.length : Int) = 0 then (darninglaw17_MergeBack.j0 k l0 a1 a2 a3 true) else ((darningref4_MayBlocks.f k l0 a1).bind fun t253 => (darninglaw17_MergeBack.j0 k l0 a1 a2 a3 (!t253))))
theorem darninglaw17_MergeBack.mono_l : ∀ k, (∀ y0 y1 y2 y3 y4, LeO (darninglaw17_MergeBack.j0 k y0 y1 y2 y3 y4) (darninglaw17_MergeBack.j0 (k + 1) y0 y1 y2 y3 y4)) ∧ (∀ y0, LeO (darninglaw17_MergeBack.j2 k y0) (darninglaw17_MergeBack.j2 (k + 1) y0)) ∧ (∀ y0, LeO (darninglaw17_MergeBack.j1 k y0) (darninglaw17_MergeBack.j1 (k + 1) y0))
 | 0 => ⟨fun _ _ _ _ _ r h => by simp [darninglaw17_MergeBack.j0] at h, fun _ r h => by simp [darninglaw17_MergeBack.j2] at h, fun _ r h => by simp [darninglaw17_MergeBack.j1] at h⟩
 | k + 1 => by
  obtain ⟨ih0, ih1, ih2⟩ := darninglaw17_MergeBack.mono_l k
  refine ⟨?_, ?_, ?_⟩
  ·
   intro y0 y1 y2 y3 y4
   unfold darninglaw17_MergeBack.j0
   repeat' first
   | (with_reducible exact ih0 _ _ _ _ _)
   | (with_reducible exact ih1 _)
   | (with_reducible exact ih2 _)
   | (with_reducible exact carve_Blocks.mono _ _ _ _)
   | (with_reducible exact chain_Blocks.mono _ _)
   | (with_reducible exact chain_Free.mono _ _)
   | (with_reducible exact chain_May.mono _ _ _)
   | (with_reducible exact darninglaw14_Words.mono _ _ _)
   | (with_reducible exact darninglaw17_awake.mono _)
   | (with_reducible exact darningref4_Apply.mono _ _ _)
   | (with_reducible exact darningref4_MayBlocks.mono _ _ _)
   | (with_reducible exact darningref4_SameBlocks.mono _ _ _)
   | (with_reducible exact merge_Blocks.mono _ _ _)
   | (with_reducible exact merge_Edit.mono _ _ _)
   | (with_reducible exact LeO.refl _)
   | (with_reducible exact LeO.none _)
   | (with_reducible refine LeO.ite ?_ ?_)
   | (with_reducible refine LeO.bind ?_ (fun _ => ?_))
   | exact ih0 _ _ _ _ _
   | exact ih1 _
   | exact ih2 _
   | exact carve_Blocks.mono _ _ _ _
   | exact chain_Blocks.mono _ _
   | exact chain_Free.mono _ _
   | exact chain_May.mono _ _ _
   | exact darninglaw14_Words.mono _ _ _
   | exact darninglaw17_awake.mono _
   | exact darningref4_Apply.mono _ _ _
   | exact darningref4_MayBlocks.mono _ _ _
   | exact darningref4_SameBlocks.mono _ _ _
   | exact merge_Blocks.mono _ _ _
   | exact merge_Edit.mono _ _ _
   | exact LeO.none _
   | refine LeO.ite ?_ ?_
   | refine LeO.bind ?_ (fun _ => ?_)
  ·
   intro y0
   unfold darninglaw17_MergeBack.j2
   repeat' first
   | (with_reducible exact ih0 _ _ _ _ _)
   | (with_reducible exact ih1 _)
   | (with_reducible exact ih2 _)
   | (with_reducible exact carve_Blocks.mono _ _ _ _)
   | (with_reducible exact chain_Blocks.mono _ _)
   | (with_reducible exact chain_Free.mono _ _)
   | (with_reducible exact chain_May.mono _ _ _)
   | (with_reducible exact darninglaw14_Words.mono _ _ _)
   | (with_reducible exact darninglaw17_awake.mono _)
   | (with_reducible exact darningref4_Apply.mono _ _ _)
   | (with_reducible exact darningref4_MayBlocks.mono _ _ _)
   | (with_reducible exact darningref4_SameBlocks.mono _ _ _)
   | (with_reducible exact merge_Blocks.mono _ _ _)
   | (with_reducible exact merge_Edit.mono _ _ _)
   | (with_reducible exact LeO.refl _)
   | (with_reducible exact LeO.none _)
   | (with_reducible refine LeO.ite ?_ ?_)
   | (with_reducible refine LeO.bind ?_ (fun _ => ?_))
   | exact ih0 _ _ _ _ _
   | exact ih1 _
   | exact ih2 _
   | exact carve_Blocks.mono _ _ _ _
   | exact chain_Blocks.mono _ _
   | exact chain_Free.mono _ _
   | exact chain_May.mono _ _ _
   | exact darninglaw14_Words.mono _ _ _
   | exact darninglaw17_awake.mono _
   | exact darningref4_Apply.mono _ _ _
   | exact darningref4_MayBlocks.mono _ _ _
   | exact darningref4_SameBlocks.mono _ _ _
   | exact merge_Blocks.mono _ _ _
   | exact merge_Edit.mono _ _ _
   | exact LeO.none _
   | refine LeO.ite ?_ ?_
   | refine LeO.bind ?_ (fun _ => ?_)
  ·
   intro y0
   unfold darninglaw17_MergeBack.j1
   repeat' first
   | (with_reducible exact ih0 _ _ _ _ _)
   | (with_reducible exact ih1 _)
   | (with_reducible exact ih2 _)
   | (with_reducible exact carve_Blocks.mono _ _ _ _)
   | (with_reducible exact chain_Blocks.mono _ _)
   | (with_reducible exact chain_Free.mono _ _)
   | (with_reducible exact chain_May.mono _ _ _)
   | (with_reducible exact darninglaw14_Words.mono _ _ _)
   | (with_reducible exact darninglaw17_awake.mono _)
   | (with_reducible exact darningref4_Apply.mono _ _ _)
   | (with_reducible exact darningref4_MayBlocks.mono _ _ _)
   | (with_reducible exact darningref4_SameBlocks.mono _ _ _)
   | (with_reducible exact merge_Blocks.mono _ _ _)
   | (with_reducible exact merge_Edit.mono _ _ _)
   | (with_reducible exact LeO.refl _)
   | (with_reducible exact LeO.none _)
   | (with_reducible refine LeO.ite ?_ ?_)
   | (with_reducible refine LeO.bind ?_ (fun _ => ?_))
   | exact ih0 _ _ _ _ _
   | exact ih1 _
   | exact ih2 _
   | exact carve_Blocks.mono _ _ _ _
   | exact chain_Blocks.mono _ _
   | exact chain_Free.mono _ _
   | exact chain_May.mono _ _ _
   | exact darninglaw14_Words.mono _ _ _
   | exact darninglaw17_awake.mono _
   | exact darningref4_Apply.mono _ _ _
   | exact darningref4_MayBlocks.mono _ _ _
   | exact darningref4_SameBlocks.mono _ _ _
   | exact merge_Blocks.mono _ _ _
   | exact merge_Edit.mono _ _ _
   | exact LeO.none _
   | refine LeO.ite ?_ ?_
   | refine LeO.bind ?_ (fun _ => ?_)
theorem darninglaw17_MergeBack.mono : ∀ a0 a1 a2 a3 k, LeO (darninglaw17_MergeBack.f k a0 a1 a2 a3) (darninglaw17_MergeBack.f (k + 1) a0 a1 a2 a3) := by
 intro a0 a1 a2 a3 k
 obtain ⟨ih0, ih1, ih2⟩ := darninglaw17_MergeBack.mono_l k
 unfold darninglaw17_MergeBack.f
 repeat' first
   | (with_reducible exact ih0 _ _ _ _ _)
   | (with_reducible exact ih1 _)
   | (with_reducible exact ih2 _)
   | (with_reducible exact carve_Blocks.mono _ _ _ _)
   | (with_reducible exact chain_Blocks.mono _ _)
   | (with_reducible exact chain_Free.mono _ _)
   | (with_reducible exact chain_May.mono _ _ _)
   | (with_reducible exact darninglaw14_Words.mono _ _ _)
   | (with_reducible exact darninglaw17_awake.mono _)
   | (with_reducible exact darningref4_Apply.mono _ _ _)
   | (with_reducible exact darningref4_MayBlocks.mono _ _ _)
   | (with_reducible exact darningref4_SameBlocks.mono _ _ _)
   | (with_reducible exact merge_Blocks.mono _ _ _)
   | (with_reducible exact merge_Edit.mono _ _ _)
   | (with_reducible exact LeO.refl _)
   | (with_reducible exact LeO.none _)
   | (with_reducible refine LeO.ite ?_ ?_)
   | (with_reducible refine LeO.bind ?_ (fun _ => ?_))
   | exact ih0 _ _ _ _ _
   | exact ih1 _
   | exact ih2 _
   | exact carve_Blocks.mono _ _ _ _
   | exact chain_Blocks.mono _ _
   | exact chain_Free.mono _ _
   | exact chain_May.mono _ _ _
   | exact darninglaw14_Words.mono _ _ _
   | exact darninglaw17_awake.mono _
   | exact darningref4_Apply.mono _ _ _
   | exact darningref4_MayBlocks.mono _ _ _
   | exact darningref4_SameBlocks.mono _ _ _
   | exact merge_Blocks.mono _ _ _
   | exact merge_Edit.mono _ _ _
   | exact LeO.none _
   | refine LeO.ite ?_ ?_
   | refine LeO.bind ?_ (fun _ => ?_)
def darninglaw17_MergeBack.T12 : Bool × List (List Nat × List Nat) := (true, [([], []), ([], []), ([0, 1], [0, 1]), ([], []), ([3], [3]), ([2, 4, 2], [2, 4]), ([5, 5], [5]), ([6], [6]), ([7], [7]), ([7], [7]), ([8, 6, 0, 1, 2, 3, 4, 5, 6, 7, 8], [8]), ([9, 10, 0, 1, 2, 3, 4, 5, 6, 7, 8, 9, 10], [9])])
def darninglaw17_MergeBack.B12 : List Nat := [0, 0, 3, 0, 8, 31, 63, 127, 255, 255, 511, 2047]
theorem darninglaw17_MergeBack.tab12 : rtab .any (opsOf Try.f11 12) = darninglaw17_MergeBack.T12 := by kernel_rfl
theorem darninglaw17_MergeBack.bits12 : waitsOk darninglaw17_MergeBack.T12.2 darninglaw17_MergeBack.B12 = true := by kernel_rfl
def darninglaw17_MergeBack.T13 : Bool × List (List Nat × List Nat) := (true, [([], []), ([0], [0]), ([1], [1]), ([1, 2], [1, 2]), ([3, 1], [3]), ([4], [4]), ([4, 5], [4, 5]), ([6, 4], [6]), ([7], [7]), ([7], [7]), ([8, 9, 7, 7], [7, 8, 9]), ([7, 10], [7, 10]), ([11, 10], [11]), ([12], [12]), ([12], [12]), ([13, 14, 12, 12], [12, 13, 14]), ([12, 15], [12, 15]), ([16, 15], [16]), ([17], [17]), ([18, 17, 17], [17, 18]), ([17], [17]), ([20, 19, 17], [17, 20]), ([17], [17]), ([17], [17]), ([22, 23, 17], [17, 22, 23]), ([24, 17], [17, 24]), ([25, 17], [17, 25]), ([21, 26, 17], [17, 21, 26]), ([19, 27, 17], [17, 19, 27]), ([17, 28], [17, 28]), ([29, 21], [29]), ([30, 30], [30]), ([30, 31], [30, 31]), ([32, 31, 0, 1, 2, 3, 4, 5, 6, 7, 8, 9, 10, 11, 12, 13, 14, 15, 16, 17, 18, 19, 20, 21, 22, 23, 24, 25, 26, 27, 28, 29, 30, 31, 32], [32])])
def darninglaw17_MergeBack.B13 : List Nat := [0, 1, 3, 7, 15, 31, 63, 127, 255, 255, 1023, 2047, 4095, 8191, 8191, 32767, 65535, 131071, 262143, 524287, 262143, 2097151, 262143, 262143, 12845055, 29622271, 63176703, 134217727, 268435455, 536870911, 1073741823, 2147483647, 4294967295, 8589934591]
theorem darninglaw17_MergeBack.tab13 : rtab .any (opsOf Try.f11 13) = darninglaw17_MergeBack.T13 := by kernel_rfl
theorem darninglaw17_MergeBack.bits13 : waitsOk darninglaw17_MergeBack.T13.2 darninglaw17_MergeBack.B13 = true := by kernel_rfl
set_option maxHeartbeats 8000000 in
set_option maxRecDepth 100000 in
theorem darninglaw17_MergeBack.calls (k : Nat) (A0 : Option Addr) (c0 : Nat) (l0 : List (S35)) (a1 : Int) (a2 : Int) (a3 : Int) (r : Bool) (w : World) (hr0 : Kd.C k35 w A0 l0.length l0) (hc0 : l0.length ≤ c0) (h : darninglaw17_MergeBack.f k l0 a1 a2 a3 = some r) :
  Calls Try.prog 11 #[.slice A0 l0.length c0, .int .i64 a1, .int .i64 a2, .int .i64 a3] w fun e w' => e = .returned (.bool r) ∧ Below w.heap.size w w' := by
 have hu30 := Try.underlying30
 have HR0 := Aside0.mk hr0
 have HC0 := Aside0.mk hc0
 clear hr0 hc0
 have HB := Aside0.mk (Below.refl w.heap.size w)
 have H : (if (l0.length : Int) > 300 then (darninglaw17_MergeBack.j0 k l0 a1 a2 a3 true) else (if (l0.length : Int) = 0 then (darninglaw17_MergeBack.j0 k l0 a1 a2 a3 true) else ((darningref4_MayBlocks.f k l0 a1).bind fun t253 => (darninglaw17_MergeBack.j0 k l0 a1 a2 a3 (!t253))))) = some r := h
 clear h
 have HC5 := Aside0.mk H
 clear H
 go_enter Try.func11, Try.ntmps11
 go_upto_region 1 with (fail)
 go_cut [32] (fun v32 wc => ∃ (kq : Nat) (x32_4 : Bool), v32 = .bool x32_4 ∧ Aside0 (darninglaw17_MergeBack.j0 kq l0 a1 a2 a3 x32_4 = some r) ∧ Aside0 (kq ≤ k) ∧ Aside0 (Below w.heap.size w wc))
 case first =>
  have H := HC5.out
  clear HC5
  by_cases c6 : (l0.length : Int) > 300
  ·
   rw [if_pos c6] at H
   have c6b0 : decide (300 < (l0.length : Int)) = true := decide_eq_true c6
   have c6b1 : decide (300 < l0.length) = true := decide_eq_true (by omega)
   clear c6
   (first | rw [c6b0] | (simp only [i64_w, i32_w]; rw [c6b0]) | skip)
   have H' := Aside0.mk H
   clear H
   go_wp2
   go_meet
   case rel => exact ⟨_, (true), (by first | rfl | (simp; done) | (simp [*]; done)), H', ⟨by first | omega | exact Nat.le_refl _⟩, ⟨by repeat (first | (with_reducible first | exact HB.out | apply below_alloc | apply pw_below_drewN | apply below_drew1) | exact HB.out)⟩⟩
  ·
   rw [if_neg c6] at H
   have c6b0 : decide (300 < (l0.length : Int)) = false := decide_eq_false c6
   have c6b1 : decide (300 < l0.length) = false := decide_eq_false (by omega)
   clear c6
   (first | rw [c6b0] | (simp only [i64_w, i32_w]; rw [c6b0]) | skip)
   by_cases c7 : (l0.length : Int) = 0
   ·
    rw [if_pos c7] at H
    have c7b0 : ((l0.length : Int) == 0) = true := beq_iff_eq.mpr c7
    have c7b1 : ((l0.length : Int) != 0) = false := bne_eq_false_iff_eq.mpr c7
    clear c7
    have H' := Aside0.mk H
    clear H
    go_wp2
    go_meet
    case rel => exact ⟨_, (true), (by first | rfl | (simp; done) | (simp [*]; done)), H', ⟨by first | omega | exact Nat.le_refl _⟩, ⟨by repeat (first | (with_reducible first | exact HB.out | apply below_alloc | apply pw_below_drewN | apply below_drew1) | exact HB.out)⟩⟩
   ·
    rw [if_neg c7] at H
    have c7b0 : ((l0.length : Int) == 0) = false := beq_eq_false_iff_ne.mpr c7
    have c7b1 : ((l0.length : Int) != 0) = true := bne_iff_ne.mpr c7
    have c7b2 : ¬ (l0 = []) := fun h_ => c7 (by rw [h_]; rfl)
    replace H := Option.bind_eq_some_iff.mp H
    obtain ⟨t253, A80, H⟩ := H
    replace H : (darninglaw17_MergeBack.j0 k l0 a1 a2 a3 (!t253)) = some r := H
    have A8 := Aside0.mk A80
    clear A80
    have H' := Aside0.mk H
    clear H
    go_wp2_with (first | (go_at_call 21; (with_reducible refine (darningref4_MayBlocks.calls k _ _ l0 a1 t253 _ ?side1 ?side2 A8.out).mono ?_); (case side1 => repeat (first | exact (Kd.C_below HR0.out HB.out) | (with_reducible refine Kd.C_alloc ?_ _) | (with_reducible refine Kd.C_drewN ?_ _) | (with_reducible refine Kd.C_drew ?_))); (case side2 => exact HC0.out); rintro e w9 ⟨rfl, hb⟩; have n0_ := Aside0.mk (below_step (by repeat (first | (with_reducible first | exact HB.out | apply below_alloc | apply pw_below_drewN | apply below_drew1) | exact HB.out)) hb); clear HB; have HB := n0_; clear n0_; (try clear hb); (try clear hb2); (try clear hk); (try clear hi)))
    go_meet
    case rel => exact ⟨_, (!t253), (by first | rfl | (simp; done) | (simp [*]; done)), H', ⟨by first | omega | exact Nat.le_refl _⟩, ⟨by repeat (first | (with_reducible first | exact HB.out | apply below_alloc | apply pw_below_drewN | apply below_drew1) | exact HB.out)⟩⟩
 case rest =>
  clear HC5
  try clear c1
  try clear p2
  try clear c6
  try clear c6b0
  try clear c6b1
  try clear c7
  try clear c7b0
  try clear c7b1
  try clear c7b2
  obtain ⟨kq, x32_4, rfl, HA, HJ4, HB⟩ := hcut
  cases kq with
  | zero => exact absurd HA.out (by simp [darninglaw17_MergeBack.j0])
  | succ kj4 =>
   have H := HA.out
   clear HA
   simp only [darninglaw17_MergeBack.j0] at H
   by_cases c10 : x32_4 = true
   ·
    subst c10
    have H1 : ((darninglaw17_awake.f kj4).bind fun t254 => (some t254)) = some r := by rw [if_pos rfl] at H; exact H
    clear H
    have H := H1
    clear H1
    replace H := Option.bind_eq_some_iff.mp H
    obtain ⟨t254, A110, H⟩ := H
    replace H : (some t254) = some r := H
    have A11 := Aside0.mk A110
    clear A110
    obtain rfl := Option.some.inj H
    go_wp2_with (first | ((with_reducible refine gate_callee (f := 15) rfl ?_); refine goesL_ (some 33) rfl rfl Try.func15 (by kernel_rfl) rfl #[] rfl (by (try simp only [List.map_toArray, List.map_cons, List.map_nil]); first | done | rfl | (simp only [List.length_drop, List.length_take]; rfl)) ?_; (with_reducible refine (darninglaw17_awake.calls kj4  t254 _ A11.out).mono ?_); rintro e w12 ⟨rfl, hb⟩; refine ⟨_, rfl, ?_⟩; have n0_ := Aside0.mk (below_step (by repeat (first | (with_reducible first | exact HB.out | apply below_alloc | apply pw_below_drewN | apply below_drew1) | exact HB.out)) hb); clear HB; have HB := n0_; clear n0_; (try clear hb); (try clear hb2); (try clear hk); (try clear hi)))
    go_ret
    exact ⟨by first | rfl | (simp [errW_none, errW_some] <;> rfl) | (simp [*, errW_none, errW_some] <;> rfl), by repeat (first | (with_reducible first | exact HB.out | apply below_alloc | apply pw_below_drewN | apply below_drew1) | exact HB.out)⟩
   ·
    replace c10 := Bool.eq_false_iff.mpr c10
    subst c10
    have H1 : (if (IntKind.u64.wrap ((l0.length : Int))) = 0 then (none) else (if 0 ≤ (wrap64 (Int.tmod (IntKind.u64.wrap (a2)) (IntKind.u64.wrap ((l0.length : Int))))) then (if (wrap64 (Int.tmod (IntKind.u64.wrap (a2)) (IntKind.u64.wrap ((l0.length : Int))))) < (l0.length : Int) then (if ((rd_T35 l0 (wrap64 (Int.tmod (IntKind.u64.wrap (a2)) (IntKind.u64.wrap ((l0.length : Int)))))).f2 = true) then ((merge_Blocks.f kj4 l0 (wrap64 (Int.tmod (IntKind.u64.wrap (a2)) (IntKind.u64.wrap ((l0.length : Int)))))).bind fun bt268 => ((merge_Edit.f kj4 l0 (wrap64 (Int.tmod (IntKind.u64.wrap (a2)) (IntKind.u64.wrap ((l0.length : Int)))))).bind fun bt272 => ((darninglaw14_Words.f kj4 l0 a1).bind fun t276 => ((darningref4_Apply.f kj4 t276 (([(⟨bt272.1, bt272.2.1⟩ : S30)] : List (S30)))).bind fun t282 => ((chain_Blocks.f kj4 t282).bind fun bt285 => (if bt268.2 = true then (if bt272.2.2 = true then (if bt285.2 = true then ((darningref4_SameBlocks.f kj4 bt285.1 bt268.1).bind fun t289 => (if t289 = true then ((chain_May.f kj4 bt268.1 a1).bind fun t290 => (if t290 = true then ((chain_Free.f kj4 bt268.1).bind fun t291 => ((chain_Free.f kj4 l0).bind fun t292 => (if t291 = (wrap64 (t292 + ((rd_T35 l0 (wrap64 (Int.tmod (IntKind.u64.wrap (a2)) (IntKind.u64.wrap ((l0.length : Int)))))).f1))) then ((darninglaw17_awake.f kj4).bind fun t294 => (darninglaw17_MergeBack.j2 kj4 t294)) else (darninglaw17_MergeBack.j2 kj4 false)))) else (darninglaw17_MergeBack.j2 kj4 false))) else (darninglaw17_MergeBack.j2 kj4 false))) else (darninglaw17_MergeBack.j2 kj4 false)) else (darninglaw17_MergeBack.j2 kj4 false)) else (darninglaw17_MergeBack.j2 kj4 false))))))) else ((carve_Blocks.f kj4 l0 (wrap64 (Int.tmod (IntKind.u64.wrap (a2)) (IntKind.u64.wrap ((l0.length : Int))))) (wrap64 (2 + (wrap64 (Int.tmod (IntKind.u64.wrap (a3)) 60))))).bind fun bt256 => (if bt256.2 = true then ((merge_Blocks.f kj4 bt256.1 (wrap64 (Int.tmod (IntKind.u64.wrap (a2)) (IntKind.u64.wrap ((l0.length : Int)))))).bind fun bt262 => (if bt262.2 = true then ((darningref4_SameBlocks.f kj4 bt262.1 l0).bind fun t266 => (if t266 = true then ((darninglaw17_awake.f kj4).bind fun t267 => (darninglaw17_MergeBack.j1 kj4 t267)) else (darninglaw17_MergeBack.j1 kj4 false))) else (darninglaw17_MergeBack.j1 kj4 false))) else (if ((rd_T35 l0 (wrap64 (Int.tmod (IntKind.u64.wrap (a2)) (IntKind.u64.wrap ((l0.length : Int)))))).f1) < (wrap64 (2 + (wrap64 (Int.tmod (IntKind.u64.wrap (a3)) 60)))) then ((darninglaw17_awake.f kj4).bind fun t261 => (some t261)) else (some false))))) else (none)) else (none))) = some r := by rw [if_neg (show ¬ (false = true) by decide)] at H; exact H
    clear H
    have H := H1
    clear H1
    by_cases c13 : (IntKind.u64.wrap ((l0.length : Int))) = 0
    ·
     rw [if_pos c13] at H
     exact absurd H (by simp)
    ·
     rw [if_neg c13] at H
     have c13b0 : ((IntKind.u64.wrap ((l0.length : Int))) == 0) = false := beq_eq_false_iff_ne.mpr c13
     have c13b1 : ((IntKind.u64.wrap ((l0.length : Int))) != 0) = true := bne_iff_ne.mpr c13
     obtain ⟨ji14, hji14⟩ : ∃ j_ : Int, (wrap64 (Int.tmod (IntKind.u64.wrap (a2)) (IntKind.u64.wrap ((l0.length : Int))))) = j_ := ⟨_, rfl⟩
     replace H : (if 0 ≤ (ji14) then (if (ji14) < (l0.length : Int) then (if ((rd_T35 l0 (ji14)).f2 = true) then ((merge_Blocks.f kj4 l0 (ji14)).bind fun bt268 => ((merge_Edit.f kj4 l0 (ji14)).bind fun bt272 => ((darninglaw14_Words.f kj4 l0 a1).bind fun t276 => ((darningref4_Apply.f kj4 t276 (([(⟨bt272.1, bt272.2.1⟩ : S30)] : List (S30)))).bind fun t282 => ((chain_Blocks.f kj4 t282).bind fun bt285 => (if bt268.2 = true then (if bt272.2.2 = true then (if bt285.2 = true then ((darningref4_SameBlocks.f kj4 bt285.1 bt268.1).bind fun t289 => (if t289 = true then ((chain_May.f kj4 bt268.1 a1).bind fun t290 => (if t290 = true then ((chain_Free.f kj4 bt268.1).bind fun t291 => ((chain_Free.f kj4 l0).bind fun t292 => (if t291 = (wrap64 (t292 + ((rd_T35 l0 (ji14)).f1))) then ((darninglaw17_awake.f kj4).bind fun t294 => (darninglaw17_MergeBack.j2 kj4 t294)) else (darninglaw17_MergeBack.j2 kj4 false)))) else (darninglaw17_MergeBack.j2 kj4 false))) else (darninglaw17_MergeBack.j2 kj4 false))) else (darninglaw17_MergeBack.j2 kj4 false)) else (darninglaw17_MergeBack.j2 kj4 false)) else (darninglaw17_MergeBack.j2 kj4 false))))))) else ((carve_Blocks.f kj4 l0 (ji14) (wrap64 (2 + (wrap64 (Int.tmod (IntKind.u64.wrap (a3)) 60))))).bind fun bt256 => (if bt256.2 = true then ((merge_Blocks.f kj4 bt256.1 (ji14)).bind fun bt262 => (if bt262.2 = true then ((darningref4_SameBlocks.f kj4 bt262.1 l0).bind fun t266 => (if t266 = true then ((darninglaw17_awake.f kj4).bind fun t267 => (darninglaw17_MergeBack.j1 kj4 t267)) else (darninglaw17_MergeBack.j1 kj4 false))) else (darninglaw17_MergeBack.j1 kj4 false))) else (if ((rd_T35 l0 (ji14)).f1) < (wrap64 (2 + (wrap64 (Int.tmod (IntKind.u64.wrap (a3)) 60)))) then ((darninglaw17_awake.f kj4).bind fun t261 => (some t261)) else (some false))))) else (none)) else (none)) = some r := by first | (rw [hji14] at H; exact H) | (simp only [hji14] at H ⊢; exact H)
     have hji14w : (IntKind.i64.wrap (Int.tmod (IntKind.u64.wrap (a2)) (IntKind.u64.wrap ((l0.length : Int))))) = ji14 := (i64_w _).trans hji14
     by_cases c15 : 0 ≤ (ji14)
     ·
      rw [if_pos c15] at H
      have c15b0 : decide (0 ≤ (ji14)) = true := decide_eq_true c15
      clear c15
      by_cases c16 : (ji14) < (l0.length : Int)
      ·
       rw [if_pos c16] at H
       have c16b0 : decide ((ji14) < (l0.length : Int)) = true := decide_eq_true c16
       clear c16
       first | (generalize hbq17 : (rd_T35 l0 (ji14)).f2 = bq17 at *; replace hbq17 := hbq17.symm) | (obtain ⟨bq17, hbq17⟩ : ∃ b_ : Bool, b_ = ((rd_T35 l0 (ji14)).f2) := ⟨_, rfl⟩)
       replace H : (if (bq17 = true) then ((merge_Blocks.f kj4 l0 (ji14)).bind fun bt268 => ((merge_Edit.f kj4 l0 (ji14)).bind fun bt272 => ((darninglaw14_Words.f kj4 l0 a1).bind fun t276 => ((darningref4_Apply.f kj4 t276 (([(⟨bt272.1, bt272.2.1⟩ : S30)] : List (S30)))).bind fun t282 => ((chain_Blocks.f kj4 t282).bind fun bt285 => (if bt268.2 = true then (if bt272.2.2 = true then (if bt285.2 = true then ((darningref4_SameBlocks.f kj4 bt285.1 bt268.1).bind fun t289 => (if t289 = true then ((chain_May.f kj4 bt268.1 a1).bind fun t290 => (if t290 = true then ((chain_Free.f kj4 bt268.1).bind fun t291 => ((chain_Free.f kj4 l0).bind fun t292 => (if t291 = (wrap64 (t292 + ((rd_T35 l0 (ji14)).f1))) then ((darninglaw17_awake.f kj4).bind fun t294 => (darninglaw17_MergeBack.j2 kj4 t294)) else (darninglaw17_MergeBack.j2 kj4 false)))) else (darninglaw17_MergeBack.j2 kj4 false))) else (darninglaw17_MergeBack.j2 kj4 false))) else (darninglaw17_MergeBack.j2 kj4 false)) else (darninglaw17_MergeBack.j2 kj4 false)) else (darninglaw17_MergeBack.j2 kj4 false))))))) else ((carve_Blocks.f kj4 l0 (ji14) (wrap64 (2 + (wrap64 (Int.tmod (IntKind.u64.wrap (a3)) 60))))).bind fun bt256 => (if bt256.2 = true then ((merge_Blocks.f kj4 bt256.1 (ji14)).bind fun bt262 => (if bt262.2 = true then ((darningref4_SameBlocks.f kj4 bt262.1 l0).bind fun t266 => (if t266 = true then ((darninglaw17_awake.f kj4).bind fun t267 => (darninglaw17_MergeBack.j1 kj4 t267)) else (darninglaw17_MergeBack.j1 kj4 false))) else (darninglaw17_MergeBack.j1 kj4 false))) else (if ((rd_T35 l0 (ji14)).f1) < (wrap64 (2 + (wrap64 (Int.tmod (IntKind.u64.wrap (a3)) 60)))) then ((darninglaw17_awake.f kj4).bind fun t261 => (some t261)) else (some false))))) = some r := by first | exact H | (rw [← hbq17] at H; exact H)
       have Nbq17 := Aside0.mk hbq17
       clear hbq17
       (try rw [← Nbq17.out])
       by_cases c18 : (bq17 = true)
       ·
        subst c18
        have H1 : ((merge_Blocks.f kj4 l0 (ji14)).bind fun bt268 => ((merge_Edit.f kj4 l0 (ji14)).bind fun bt272 => ((darninglaw14_Words.f kj4 l0 a1).bind fun t276 => ((darningref4_Apply.f kj4 t276 (([(⟨bt272.1, bt272.2.1⟩ : S30)] : List (S30)))).bind fun t282 => ((chain_Blocks.f kj4 t282).bind fun bt285 => (if bt268.2 = true then (if bt272.2.2 = true then (if bt285.2 = true then ((darningref4_SameBlocks.f kj4 bt285.1 bt268.1).bind fun t289 => (if t289 = true then ((chain_May.f kj4 bt268.1 a1).bind fun t290 => (if t290 = true then ((chain_Free.f kj4 bt268.1).bind fun t291 => ((chain_Free.f kj4 l0).bind fun t292 => (if t291 = (wrap64 (t292 + ((rd_T35 l0 (ji14)).f1))) then ((darninglaw17_awake.f kj4).bind fun t294 => (darninglaw17_MergeBack.j2 kj4 t294)) else (darninglaw17_MergeBack.j2 kj4 false)))) else (darninglaw17_MergeBack.j2 kj4 false))) else (darninglaw17_MergeBack.j2 kj4 false))) else (darninglaw17_MergeBack.j2 kj4 false)) else (darninglaw17_MergeBack.j2 kj4 false)) else (darninglaw17_MergeBack.j2 kj4 false))))))) = some r := by rw [if_pos rfl] at H; exact H
        clear H
        have H := H1
        clear H1
        replace H := Option.bind_eq_some_iff.mp H
        obtain ⟨⟨t268, t271⟩, A190, H⟩ := H
        replace H : ((merge_Edit.f kj4 l0 (ji14)).bind fun bt272 => ((darninglaw14_Words.f kj4 l0 a1).bind fun t276 => ((darningref4_Apply.f kj4 t276 (([(⟨bt272.1, bt272.2.1⟩ : S30)] : List (S30)))).bind fun t282 => ((chain_Blocks.f kj4 t282).bind fun bt285 => (if t271 = true then (if bt272.2.2 = true then (if bt285.2 = true then ((darningref4_SameBlocks.f kj4 bt285.1 t268).bind fun t289 => (if t289 = true then ((chain_May.f kj4 t268 a1).bind fun t290 => (if t290 = true then ((chain_Free.f kj4 t268).bind fun t291 => ((chain_Free.f kj4 l0).bind fun t292 => (if t291 = (wrap64 (t292 + ((rd_T35 l0 (ji14)).f1))) then ((darninglaw17_awake.f kj4).bind fun t294 => (darninglaw17_MergeBack.j2 kj4 t294)) else (darninglaw17_MergeBack.j2 kj4 false)))) else (darninglaw17_MergeBack.j2 kj4 false))) else (darninglaw17_MergeBack.j2 kj4 false))) else (darninglaw17_MergeBack.j2 kj4 false)) else (darninglaw17_MergeBack.j2 kj4 false)) else (darninglaw17_MergeBack.j2 kj4 false)))))) = some r := H
        have A19 := Aside0.mk A190
        clear A190
        replace H := Option.bind_eq_some_iff.mp H
        obtain ⟨⟨t272, t273, t274⟩, A200, H⟩ := H
        replace H : ((darninglaw14_Words.f kj4 l0 a1).bind fun t276 => ((darningref4_Apply.f kj4 t276 (([(⟨t272, t273⟩ : S30)] : List (S30)))).bind fun t282 => ((chain_Blocks.f kj4 t282).bind fun bt285 => (if t271 = true then (if t274 = true then (if bt285.2 = true then ((darningref4_SameBlocks.f kj4 bt285.1 t268).bind fun t289 => (if t289 = true then ((chain_May.f kj4 t268 a1).bind fun t290 => (if t290 = true then ((chain_Free.f kj4 t268).bind fun t291 => ((chain_Free.f kj4 l0).bind fun t292 => (if t291 = (wrap64 (t292 + ((rd_T35 l0 (ji14)).f1))) then ((darninglaw17_awake.f kj4).bind fun t294 => (darninglaw17_MergeBack.j2 kj4 t294)) else (darninglaw17_MergeBack.j2 kj4 false)))) else (darninglaw17_MergeBack.j2 kj4 false))) else (darninglaw17_MergeBack.j2 kj4 false))) else (darninglaw17_MergeBack.j2 kj4 false)) else (darninglaw17_MergeBack.j2 kj4 false)) else (darninglaw17_MergeBack.j2 kj4 false))))) = some r := H
        have A20 := Aside0.mk A200
        clear A200
        replace H := Option.bind_eq_some_iff.mp H
        obtain ⟨t276, A210, H⟩ := H
        replace H : ((darningref4_Apply.f kj4 t276 (([(⟨t272, t273⟩ : S30)] : List (S30)))).bind fun t282 => ((chain_Blocks.f kj4 t282).bind fun bt285 => (if t271 = true then (if t274 = true then (if bt285.2 = true then ((darningref4_SameBlocks.f kj4 bt285.1 t268).bind fun t289 => (if t289 = true then ((chain_May.f kj4 t268 a1).bind fun t290 => (if t290 = true then ((chain_Free.f kj4 t268).bind fun t291 => ((chain_Free.f kj4 l0).bind fun t292 => (if t291 = (wrap64 (t292 + ((rd_T35 l0 (ji14)).f1))) then ((darninglaw17_awake.f kj4).bind fun t294 => (darninglaw17_MergeBack.j2 kj4 t294)) else (darninglaw17_MergeBack.j2 kj4 false)))) else (darninglaw17_MergeBack.j2 kj4 false))) else (darninglaw17_MergeBack.j2 kj4 false))) else (darninglaw17_MergeBack.j2 kj4 false)) else (darninglaw17_MergeBack.j2 kj4 false)) else (darninglaw17_MergeBack.j2 kj4 false)))) = some r := H
        have A21 := Aside0.mk A210
        clear A210
        obtain ⟨y279, hy279⟩ : ∃ y_ : List (S30), y_ = (([(⟨t272, t273⟩ : S30)] : List (S30))) := ⟨_, rfl⟩
        replace H : ((darningref4_Apply.f kj4 t276 y279).bind fun t282 => ((chain_Blocks.f kj4 t282).bind fun bt285 => (if t271 = true then (if t274 = true then (if bt285.2 = true then ((darningref4_SameBlocks.f kj4 bt285.1 t268).bind fun t289 => (if t289 = true then ((chain_May.f kj4 t268 a1).bind fun t290 => (if t290 = true then ((chain_Free.f kj4 t268).bind fun t291 => ((chain_Free.f kj4 l0).bind fun t292 => (if t291 = (wrap64 (t292 + ((rd_T35 l0 (ji14)).f1))) then ((darninglaw17_awake.f kj4).bind fun t294 => (darninglaw17_MergeBack.j2 kj4 t294)) else (darninglaw17_MergeBack.j2 kj4 false)))) else (darninglaw17_MergeBack.j2 kj4 false))) else (darninglaw17_MergeBack.j2 kj4 false))) else (darninglaw17_MergeBack.j2 kj4 false)) else (darninglaw17_MergeBack.j2 kj4 false)) else (darninglaw17_MergeBack.j2 kj4 false)))) = some r := by first | (rw [hy279]; with_reducible exact H) | (have H2_ := (Option.bind_some _ _).symm.trans H; rw [hy279]; with_reducible exact H2_) | (have H2_ := (Option.bind_some _ _).symm.trans H; with_reducible exact H2_) | with_reducible exact H | (rw [hy279]; exact H) | exact H
        have Ny279 := Aside0.mk hy279
        clear hy279
        replace H := Option.bind_eq_some_iff.mp H
        obtain ⟨t282, A220, H⟩ := H
        replace H : ((chain_Blocks.f kj4 t282).bind fun bt285 => (if t271 = true then (if t274 = true then (if bt285.2 = true then ((darningref4_SameBlocks.f kj4 bt285.1 t268).bind fun t289 => (if t289 = true then ((chain_May.f kj4 t268 a1).bind fun t290 => (if t290 = true then ((chain_Free.f kj4 t268).bind fun t291 => ((chain_Free.f kj4 l0).bind fun t292 => (if t291 = (wrap64 (t292 + ((rd_T35 l0 (ji14)).f1))) then ((darninglaw17_awake.f kj4).bind fun t294 => (darninglaw17_MergeBack.j2 kj4 t294)) else (darninglaw17_MergeBack.j2 kj4 false)))) else (darninglaw17_MergeBack.j2 kj4 false))) else (darninglaw17_MergeBack.j2 kj4 false))) else (darninglaw17_MergeBack.j2 kj4 false)) else (darninglaw17_MergeBack.j2 kj4 false)) else (darninglaw17_MergeBack.j2 kj4 false))) = some r := H
        have A22 := Aside0.mk A220
        clear A220
        replace H := Option.bind_eq_some_iff.mp H
        obtain ⟨⟨t285, t286⟩, A230, H⟩ := H
        replace H : (if t271 = true then (if t274 = true then (if t286 = true then ((darningref4_SameBlocks.f kj4 t285 t268).bind fun t289 => (if t289 = true then ((chain_May.f kj4 t268 a1).bind fun t290 => (if t290 = true then ((chain_Free.f kj4 t268).bind fun t291 => ((chain_Free.f kj4 l0).bind fun t292 => (if t291 = (wrap64 (t292 + ((rd_T35 l0 (ji14)).f1))) then ((darninglaw17_awake.f kj4).bind fun t294 => (darninglaw17_MergeBack.j2 kj4 t294)) else (darninglaw17_MergeBack.j2 kj4 false)))) else (darninglaw17_MergeBack.j2 kj4 false))) else (darninglaw17_MergeBack.j2 kj4 false))) else (darninglaw17_MergeBack.j2 kj4 false)) else (darninglaw17_MergeBack.j2 kj4 false)) else (darninglaw17_MergeBack.j2 kj4 false)) = some r := H
        have A23 := Aside0.mk A230
        clear A230
        have HC24 := Aside0.mk H
        clear H
        have p255 : 0 ≤ ((ji14) : Int) := of_decide_eq_true (by first | (with_reducible assumption) | assumption)
        have q255 : (ji14) < (l0.length : Int) := of_decide_eq_true (by first | (with_reducible assumption) | assumption)
        obtain ⟨ad255, e255, hx255_0, hx255_1, hx255_2⟩ := at_T35 HR0.out (ji14) p255 q255
        (try rw [← Nbq17.out] at hx255_2)
        cases e255
        replace hx255_0 := (HB.out.cell (World.block_lt_of_cell? w _ hx255_0)).trans hx255_0
        replace hx255_1 := (HB.out.cell (World.block_lt_of_cell? w _ hx255_1)).trans hx255_1
        replace hx255_2 := (HB.out.cell (World.block_lt_of_cell? w _ hx255_2)).trans hx255_2
        replace p255 := eq_true p255
        replace q255 := eq_true q255
        try go_wp2_with (first | ((with_reducible refine gate_callee (f := 16) rfl ?_); refine goesL_ (some 89) rfl rfl Try.func16 (by kernel_rfl) rfl #[.slice (some ad255) l0.length c0, .int .i64 ji14] rfl (by (try simp only [List.map_toArray, List.map_cons, List.map_nil]); first | done | (simp only [hji14]; rfl) | rfl | (simp only [List.length_drop, List.length_take]; rfl)) ?_; (with_reducible refine (merge_Blocks.calls kj4 (fun k_ => k_ < w.heap.size) _ _ l0 ji14 t268 t271 _ ?side1 A19.out).mono ?_); (case side1 => exact Kd.V_mk HC0.out (Kd.F_below (Kd.C_F k35_heap HR0.out) (by repeat (first | (with_reducible first | exact HB.out | apply below_alloc | apply pw_below_drewN | apply below_drew1) | exact HB.out)))); rintro e w25 ⟨v269, rfl, ho0, hb⟩; refine ⟨_, rfl, ?_⟩; have n0_ := Aside0.mk (Kd.R_lower (Kd.R_mono (ok' := fun k_ => True) ho0 (fun _ hk_ => trivial)) (below_size (by repeat (first | (with_reducible first | exact HB.out | apply below_alloc | apply pw_below_drewN | apply below_drew1) | exact HB.out)))); have n1_ := Aside0.mk (below_step (by repeat (first | (with_reducible first | exact HB.out | apply below_alloc | apply pw_below_drewN | apply below_drew1) | exact HB.out)) hb); clear HB; have HO270 := n0_; have HB := n1_; clear n0_ n1_; (try clear hb); (try clear hb2); (try clear hk); (try clear hi); (try clear ho0)) | ((with_reducible refine gate_callee (f := 18) rfl ?_); refine goesL_ (some 95) rfl rfl Try.func18 (by kernel_rfl) rfl #[.slice (some ad255) l0.length c0, .int .i64 ji14] rfl (by (try simp only [List.map_toArray, List.map_cons, List.map_nil]); first | done | (simp only [hji14]; rfl) | rfl | (simp only [List.length_drop, List.length_take]; rfl)) ?_; (with_reducible refine (merge_Edit.calls kj4 _ _ l0 ji14 t272 t273 t274 _ ?side1 ?side2 A20.out).mono ?_); (case side1 => repeat (first | exact (Kd.C_below HR0.out HB.out) | (with_reducible refine Kd.C_alloc ?_ _) | (with_reducible refine Kd.C_drewN ?_ _) | (with_reducible refine Kd.C_drew ?_))); (case side2 => exact HC0.out); rintro e w26 ⟨rfl, hb⟩; refine ⟨_, rfl, ?_⟩; have n0_ := Aside0.mk (Kd.R_below (by (with_reducible repeat (first | apply Kd.R_alloc | apply Kd.R_drewN | apply Kd.R_drew)); exact HO270.out) hb); have n1_ := Aside0.mk (below_step (by repeat (first | (with_reducible first | exact HB.out | apply below_alloc | apply pw_below_drewN | apply below_drew1) | exact HB.out)) hb); clear HO270; clear HB; have HO270 := n0_; have HB := n1_; clear n0_ n1_; (try clear hb); (try clear hb2); (try clear hk); (try clear hi)) | ((with_reducible refine gate_dst (N := 15) rfl ?_); (try (refine gate_guard (by rfl) ?_; dsimp only)); refine box_event ?hg (N := 15) ?hd (cs := #[.int .i64 0, .int .u64 0]) (t := 30) ?hr ?_; (case hd => rfl); (case hg => rfl); (case hr => first | (go_simp; done) | (go_simp; rfl)); intro gb275 hg w27 hbox hb; have n0_ := Aside0.mk (Kd.R_below (by (with_reducible repeat (first | apply Kd.R_alloc | apply Kd.R_drewN | apply Kd.R_drew)); exact HO270.out) hb); have n1_ := Aside0.mk (below_step (by repeat (first | (with_reducible first | exact HB.out | apply below_alloc | apply pw_below_drewN | apply below_drew1) | exact HB.out)) hb); have n2_ := Aside0.mk (hbox); have n3_ := Aside0.mk ((by rw [hg]; exact (below_size (by repeat (first | (with_reducible first | exact HB.out | apply below_alloc | apply pw_below_drewN | apply below_drew1) | exact HB.out))) : w.heap.size ≤ gb275)); have n4_ := Aside0.mk ((by rw [hg]; exact (below_size (by repeat (first | (with_reducible first | exact HB.out | apply below_alloc | apply pw_below_drewN | apply below_drew1) | exact HB.out))) : w.heap.size ≤ gb275)); clear HO270; clear HB; have HO270 := n0_; have HB := n1_; have BK275 := n2_; have GW275 := n3_; have GE275 := n4_; clear n0_ n1_ n2_ n3_ n4_; clear hb hbox hg; have hcz28_0 : w27.cell? ⟨gb275, 0, none⟩ = some (.int .i64 0) := (blk_cell BK275.out 0).trans rfl; have hcz28_1 : w27.cell? ⟨gb275, 1, none⟩ = some (.int .u64 0) := (blk_cell BK275.out 1).trans rfl; have hfz28_0 := blk_frozen BK275.out 0; have hfz28_1 := blk_frozen BK275.out 1))
        have n0_ : Aside0 (Kd.R k35 35 ((w27.setCell ⟨gb275, 0, none⟩ (.int .i64 t272)).setCell ⟨gb275, 1, none⟩ (.int .u64 t273)) w.heap.size (fun _ => True) v269 t268) := ⟨by (with_reducible repeat (first | apply Kd.R_alloc | apply Kd.R_drewN | apply Kd.R_drew)); exact Kd.R_mono (Kd.R_far (p := ⟨gb275, 1, none⟩) (Kd.R_far (p := ⟨gb275, 0, none⟩) (Kd.R_types HO270.out BK275.out (by decide)) (fun _ hk => hk.2) (.int .i64 t272)) (fun _ hk => hk.2) (.int .u64 t273)) (fun _ hk => trivial)⟩
        have n1_ : Aside0 (((w27.setCell ⟨gb275, 0, none⟩ (.int .i64 t272)).setCell ⟨gb275, 1, none⟩ (.int .u64 t273)).heap[gb275]? = some (.cells #[.int .i64 t272, .int .u64 t273] 30 (0, 0))) := ⟨by (with_reducible repeat (first | refine blk_drewN ?_ _ | refine blk_drew ?_ | refine blk_alloc ?_ _)); refine blk_put (cs := #[.int .i64 t272, .int .u64 0]) ?_ 1 _ rfl; (with_reducible repeat (first | refine blk_drewN ?_ _ | refine blk_drew ?_ | refine blk_alloc ?_ _)); refine blk_put (cs := #[.int .i64 0, .int .u64 0]) ?_ 0 _ rfl; (with_reducible repeat (first | refine blk_drewN ?_ _ | refine blk_drew ?_ | refine blk_alloc ?_ _)); exact BK275.out⟩
        have n2_ : Aside0 (Below w.heap.size w ((w27.setCell ⟨gb275, 0, none⟩ (.int .i64 t272)).setCell ⟨gb275, 1, none⟩ (.int .u64 t273))) := ⟨by repeat (first | (with_reducible first | exact HB.out | apply below_alloc | apply pw_below_drewN | apply below_drew1 | refine below_set ?_ GE275.out) | exact HB.out)⟩
        (try clear HO270)
        (try clear BK275)
        (try clear HB)
        generalize ((w27.setCell ⟨gb275, 0, none⟩ (.int .i64 t272)).setCell ⟨gb275, 1, none⟩ (.int .u64 t273)) = w29 at n0_ n1_ n2_ ⊢
        have HO270 := n0_
        have BK275 := n1_
        have HB := n2_
        clear n0_ n1_ n2_
        have n0_ := Aside0.mk (Kd.R_drew HO270.out)
        have n1_ := Aside0.mk (blk_drew BK275.out)
        have n2_ := Aside0.mk (below_drew1 HB.out)
        clear HO270
        clear BK275
        clear HB
        have HO270 := n0_
        have BK275 := n1_
        have HB := n2_
        clear n0_ n1_ n2_
        refine start_ (n := 12) (S := fun w' => True) (ds := []) (onA 12 0) (by kernel_rfl) rfl rfl trivial (fun hHeld => ?_); refine with_tabW darninglaw17_MergeBack.tab12 darninglaw17_MergeBack.bits12 (fun HT_ HW_ => ?_)
        generalize w29.drew = w30 at HO270 BK275 HB hHeld ⊢
        refine pure_ (i := 0) (N := some 99) (v := ?_) (a' := ?_) (onA 12 1) rfl rfl (any_of HT_.out (by kernel_rfl)) (fun _ _ _ h => h) (Or.inl ⟨by rfl, ?_⟩) ?_ ?_
        rotate_left
        ·
         intro w'
         go_simp
         with_reducible rfl
        rotate_left
        ·
         simp only [Act.put, List.setIfInBounds_toArray, List.set_cons_zero, List.set_cons_succ, i64_w, i32_w]
         rfl
        refine pure_ (i := 1) (N := some 100) (v := ?_) (a' := ?_) (onA 12 2) rfl rfl (any_of HT_.out (by kernel_rfl)) (fun _ _ _ h => h) (Or.inl ⟨by rfl, ?_⟩) ?_ ?_
        rotate_left
        ·
         intro w'
         go_simp
         with_reducible rfl
        rotate_left
        ·
         simp only [Act.put, List.setIfInBounds_toArray, List.set_cons_zero, List.set_cons_succ, i64_w, i32_w]
         rfl
        refine inv_at [2, 3, 4, 5, 6, 7, 8, 9, 10, 11] (fun a0_ b a w' => ∃ (v277 : Value) (v280 : Value) (v283 : Value) (v287 : Value) (m6_ : Value) (m7_ : Value) (m8_ : Value) (m10_ : Value), a = putSel a0_ b [(2, 101, v277), (3, 102, .agg #[.int .i64 t272, .int .u64 t273]), (4, 103, v280), (5, 104, v283), (6, 105, m6_), (7, 98, m7_), (8, 106, m8_), (9, 107, .bool t286), (10, 17, m10_), (11, 18, .bool t286)] ∧ (Kd.R k35 35 w' w.heap.size (fun _ => True) v269 t268) ∧ (w'.heap[gb275]? = some (.cells #[.int .i64 t272, .int .u64 t273] 30 (0, 0))) ∧ (Below w.heap.size w w') ∧ (b 2 = true → Kd.R (Kd.int .u64) 28 w' w.heap.size (fun _ => True) v277 t276) ∧ (b 4 = true → Kd.R k30 30 w' w.heap.size (fun k_ => k_ ≠ gb275) v280 y279) ∧ (b 5 = true → Kd.R (Kd.int .u64) 28 w' w.heap.size (fun _ => True) v283 t282) ∧ (b 6 = true → Kd.R k35 35 w' w.heap.size (fun k_ => some k_ ≠ (v269 : Value).ownBlock) v287 t285) ∧ (b 6 = true → (m6_ : Value) = .tuple #[v287, .bool t286]) ∧ (b 7 = true → (m7_ : Value) = .tuple #[v287, .bool t286]) ∧ (b 8 = true → (m8_ : Value) = v287) ∧ (b 10 = true → (m10_ : Value) = v287)) HT_.out HW_.out (by kernel_rfl) (by kernel_rfl) ?_ ?_ ?_
        ·
         exact ⟨.bool false, .bool false, .bool false, .bool false, .bool false, .bool false, .bool false, .bool false, by simp only [putSel, Bool.false_eq_true, if_false], HO270.out, BK275.out, HB.out, fun h_ => absurd h_ (by decide), fun h_ => absurd h_ (by decide), fun h_ => absurd h_ (by decide), fun h_ => absurd h_ (by decide), fun h_ => absurd h_ (by decide), fun h_ => absurd h_ (by decide), fun h_ => absurd h_ (by decide), fun h_ => absurd h_ (by decide)⟩
        ·
         skip
         clear BK275 HB HO270
         refine steps_cons ?_ ?_
         ·
          rintro b a w' ⟨v277, v280, v283, v287, m6_, m7_, m8_, m10_, ha, Q_HO270, Q_BK275, Q_HB, Q_HO278, Q_HO281, Q_HO284, Q_HO288, Q_X6_, Q_X7_, Q_X8_, Q_X10_⟩ hb_ hon hoff
          refine ⟨_, rfl, fun K hK => ?_⟩
          have e99 : a.tmps[99]? = some (.slice (some ad255) l0.length c0) := by rw [ha]; exact (putSel_off rfl).trans rfl
          have e100 : a.tmps[100]? = some (.int .i64 a1) := by rw [ha]; exact (putSel_off rfl).trans rfl
          replace ha := Aside0.mk ha
          have HO270 := Aside0.mk Q_HO270
          have BK275 := Aside0.mk Q_BK275
          have HB := Aside0.mk Q_HB
          refine goes_ Try.func33 (by kernel_rfl) rfl #[.slice (some ad255) l0.length c0, .int .i64 a1] (by rfl) rfl rfl (by first | (simp only [List.map_toArray, List.map_cons, List.map_nil, Act.eval, Array.getD_eq_getD_getElem?, Option.getD_some, e99, e100]; done) | (simp only [List.map_toArray, List.map_cons, List.map_nil, Act.eval, Array.getD_eq_getD_getElem?, Option.getD_some, e99, e100]; rfl)) ?_
          with_reducible refine (darninglaw14_Words.calls kj4 _ _ l0 a1 t276 _ ?side1 ?side2 A21.out).mono ?_
          (case side1 => repeat (first | exact (Kd.C_below HR0.out HB.out) | (with_reducible refine Kd.C_alloc ?_ _) | (with_reducible refine Kd.C_drewN ?_ _) | (with_reducible refine Kd.C_drew ?_)))
          (case side2 => exact HC0.out)
          rintro e w31 ⟨v277, rfl, ho0, hb⟩
          refine ⟨_, rfl, ?_⟩
          have n0_ := Aside0.mk (Kd.R_below (by (with_reducible repeat (first | apply Kd.R_alloc | apply Kd.R_drewN | apply Kd.R_drew)); exact HO270.out) hb)
          have n1_ := Aside0.mk (Kd.R_lower ho0 (below_size (by repeat (first | (with_reducible first | exact HB.out | apply below_alloc | apply pw_below_drewN | apply below_drew1 | refine below_set ?_ GE275.out) | exact HB.out))))
          have n2_ := Aside0.mk (blk_below (g := gb275) (o := .cells #[.int .i64 t272, .int .u64 t273] 30 (0, 0)) (by (with_reducible repeat (first | refine blk_drewN ?_ _ | refine blk_drew ?_ | refine blk_alloc ?_ _)); exact BK275.out) hb)
          have n3_ := Aside0.mk (below_step (by repeat (first | (with_reducible first | exact HB.out | apply below_alloc | apply pw_below_drewN | apply below_drew1 | refine below_set ?_ GE275.out) | exact HB.out)) hb)
          have z_HO281 := fun (h0_ : b 4 = true) => (show Kd.R k30 30 w31 w.heap.size (fun k_ => k_ ≠ gb275) v280 y279 from by first | exact (Kd.R_below (by (with_reducible repeat (first | apply Kd.R_alloc | apply Kd.R_drewN | apply Kd.R_drew)); exact (Q_HO281 h0_)) hb) | exact Kd.R_mono (Kd.R_below (by (with_reducible repeat (first | apply Kd.R_alloc | apply Kd.R_drewN | apply Kd.R_drew)); exact (Q_HO281 h0_)) hb) (fun _ h_ => by first | trivial | exact h_ | exact h_.1))
          clear HO270
          clear BK275
          clear HB
          have HO270 := n0_
          have HO278 := n1_
          have BK275 := n2_
          have HB := n3_
          clear n0_ n1_ n2_ n3_
          (try clear hb)
          (try clear hb2)
          (try clear hk)
          (try clear hi)
          (try clear ho0)
          refine hK.out _ _ ⟨v277, v280, v283, v287, m6_, m7_, m8_, m10_, (by rw [ha.out]; exact putSel_upk 0 hb_ rfl rfl rfl), (by (with_reducible repeat (first | apply Kd.R_alloc | apply Kd.R_drewN | apply Kd.R_drew)); exact HO270.out), (by (with_reducible repeat (first | refine blk_drewN ?_ _ | refine blk_drew ?_ | refine blk_alloc ?_ _)); exact BK275.out), (by repeat (first | (with_reducible first | exact HB.out | apply below_alloc | apply pw_below_drewN | apply below_drew1 | refine below_set ?_ GE275.out) | exact HB.out)), fun _ => (by (with_reducible repeat (first | apply Kd.R_alloc | apply Kd.R_drewN | apply Kd.R_drew)); exact HO278.out), z_HO281, fun h0_ => absurd ((hoff 5 (by kernel_rfl)).symm.trans h0_) (by decide), fun h0_ => absurd ((hoff 6 (by kernel_rfl)).symm.trans h0_) (by decide), fun h0_ => absurd ((hoff 6 (by kernel_rfl)).symm.trans h0_) (by decide), fun h0_ => absurd ((hoff 7 (by kernel_rfl)).symm.trans h0_) (by decide), fun h0_ => absurd ((hoff 8 (by kernel_rfl)).symm.trans h0_) (by decide), fun h0_ => absurd ((hoff 10 (by kernel_rfl)).symm.trans h0_) (by decide)⟩
         refine steps_cons ?_ ?_
         ·
          rintro b a w' ⟨v277, v280, v283, v287, m6_, m7_, m8_, m10_, ha, Q_HO270, Q_BK275, Q_HB, Q_HO278, Q_HO281, Q_HO284, Q_HO288, Q_X6_, Q_X7_, Q_X8_, Q_X10_⟩ hb_ hon hoff
          refine ⟨_, rfl, fun K hK => ?_⟩
          have e15 : a.tmps[15]? = some (.pointer (some ⟨gb275, 0, none⟩)) := by rw [ha]; exact (putSel_off rfl).trans rfl
          replace ha := Aside0.mk ha
          have HO270 := Aside0.mk Q_HO270
          have BK275 := Aside0.mk Q_BK275
          have HB := Aside0.mk Q_HB
          have hc0_ : w'.cell? ⟨gb275, 0, none⟩ = some (.int .i64 t272) := (blk_cell BK275.out 0).trans rfl
          have hc1_ : w'.cell? ⟨gb275, 1, none⟩ = some (.int .u64 t273) := (blk_cell BK275.out 1).trans rfl
          refine value_ (w1 := w') (v := .agg #[.int .i64 t272, .int .u64 t273]) (by rfl) rfl ?_ ?_
          ·
           go_simp
           (try simp only [i64_w])
           try rfl
          refine hK.out _ _ ⟨v277, v280, v283, v287, m6_, m7_, m8_, m10_, (by rw [ha.out]; exact putSel_upk 1 hb_ rfl rfl rfl), Q_HO270, Q_BK275, Q_HB, Q_HO278, fun h0_ => absurd ((hoff 4 (by kernel_rfl)).symm.trans h0_) (by decide), fun h0_ => absurd ((hoff 5 (by kernel_rfl)).symm.trans h0_) (by decide), fun h0_ => absurd ((hoff 6 (by kernel_rfl)).symm.trans h0_) (by decide), fun h0_ => absurd ((hoff 6 (by kernel_rfl)).symm.trans h0_) (by decide), fun h0_ => absurd ((hoff 7 (by kernel_rfl)).symm.trans h0_) (by decide), fun h0_ => absurd ((hoff 8 (by kernel_rfl)).symm.trans h0_) (by decide), fun h0_ => absurd ((hoff 10 (by kernel_rfl)).symm.trans h0_) (by decide)⟩
         refine steps_cons ?_ ?_
         ·
          rintro b a w' ⟨v277, v280, v283, v287, m6_, m7_, m8_, m10_, ha, Q_HO270, Q_BK275, Q_HB, Q_HO278, Q_HO281, Q_HO284, Q_HO288, Q_X6_, Q_X7_, Q_X8_, Q_X10_⟩ hb_ hon hoff
          refine ⟨_, rfl, fun K hK => ?_⟩
          have e102 : a.tmps[102]? = some (.agg #[.int .i64 t272, .int .u64 t273]) := by rw [ha]; exact putSel_on (e := (3, 102, .agg #[.int .i64 t272, .int .u64 t273])) 1 rfl rfl (hon 3 (by kernel_rfl)) rfl
          replace ha := Aside0.mk ha
          have HO270 := Aside0.mk Q_HO270
          have BK275 := Aside0.mk Q_BK275
          have HB := Aside0.mk Q_HB
          refine Kd.R_lit_step k30 _ 30 ?hg (N := 103) ?hd (xs := ([(⟨t272, t273⟩ : S30)] : List (S30))) (inner := [.int .i64 t272, .int .u64 t273]) (ok := fun _ => True) (okp := fun _ => True) ?hr ?hp (fun _ hk => hk) trivial (Below.refl _ _) (Nat.le_refl _) (by simp) ?_; (case hd => rfl); (case hg => rfl); (case hr => first | (go_simp; done) | (go_simp; rfl)); (case hp => exact (Reps.c2 (show Kd.M k30 _ _ _ (⟨t272, t273⟩ : S30) [.int .i64 t272, .int .u64 t273] from (k30_mkM _ _ _ (⟨t272, t273⟩ : S30) )) (Reps.none _ _)))
          intro v280 w31 ho32 hb hg_ hnew_
          clear hg_ hnew_
          (first | rw [← Ny279.out] at ho32 | (simp only [Int.reduceToNat] at ho32; rw [← Ny279.out] at ho32))
          have n0_ := Aside0.mk (Kd.R_below (by (with_reducible repeat (first | apply Kd.R_alloc | apply Kd.R_drewN | apply Kd.R_drew)); exact HO270.out) hb)
          have n1_ := Aside0.mk (Kd.R_lower (Kd.R_newB ho32 (g := gb275) (o := .cells #[.int .i64 t272, .int .u64 t273] 30 (0, 0)) (by (with_reducible repeat (first | refine blk_drewN ?_ _ | refine blk_drew ?_ | refine blk_alloc ?_ _)); exact BK275.out)) (below_size (by repeat (first | (with_reducible first | exact HB.out | apply below_alloc | apply pw_below_drewN | apply below_drew1 | refine below_set ?_ GE275.out) | exact HB.out))))
          have n2_ := Aside0.mk (blk_below (g := gb275) (o := .cells #[.int .i64 t272, .int .u64 t273] 30 (0, 0)) (by (with_reducible repeat (first | refine blk_drewN ?_ _ | refine blk_drew ?_ | refine blk_alloc ?_ _)); exact BK275.out) hb)
          have n3_ := Aside0.mk (below_step (by repeat (first | (with_reducible first | exact HB.out | apply below_alloc | apply pw_below_drewN | apply below_drew1 | refine below_set ?_ GE275.out) | exact HB.out)) hb)
          have z_HO278 := fun (h0_ : b 2 = true) => (show Kd.R (Kd.int .u64) 28 w31 w.heap.size (fun _ => True) v277 t276 from by first | exact (Kd.R_below (by (with_reducible repeat (first | apply Kd.R_alloc | apply Kd.R_drewN | apply Kd.R_drew)); exact (Q_HO278 h0_)) hb) | exact Kd.R_mono (Kd.R_below (by (with_reducible repeat (first | apply Kd.R_alloc | apply Kd.R_drewN | apply Kd.R_drew)); exact (Q_HO278 h0_)) hb) (fun _ h_ => by first | trivial | exact h_ | exact h_.1))
          clear HO270
          clear BK275
          clear HB
          have HO270 := n0_
          have HO281 := n1_
          have BK275 := n2_
          have HB := n3_
          clear n0_ n1_ n2_ n3_
          clear hb ho32
          refine hK.out _ _ ⟨v277, v280, v283, v287, m6_, m7_, m8_, m10_, (by rw [ha.out]; exact putSel_upk 2 hb_ rfl rfl rfl), (by (with_reducible repeat (first | apply Kd.R_alloc | apply Kd.R_drewN | apply Kd.R_drew)); exact HO270.out), (by (with_reducible repeat (first | refine blk_drewN ?_ _ | refine blk_drew ?_ | refine blk_alloc ?_ _)); exact BK275.out), (by repeat (first | (with_reducible first | exact HB.out | apply below_alloc | apply pw_below_drewN | apply below_drew1 | refine below_set ?_ GE275.out) | exact HB.out)), z_HO278, fun _ => (by (with_reducible repeat (first | apply Kd.R_alloc | apply Kd.R_drewN | apply Kd.R_drew)); exact Kd.R_mono HO281.out (fun _ hk => by first | exact hk.2 | trivial)), fun h0_ => absurd ((hoff 5 (by kernel_rfl)).symm.trans h0_) (by decide), fun h0_ => absurd ((hoff 6 (by kernel_rfl)).symm.trans h0_) (by decide), fun h0_ => absurd ((hoff 6 (by kernel_rfl)).symm.trans h0_) (by decide), fun h0_ => absurd ((hoff 7 (by kernel_rfl)).symm.trans h0_) (by decide), fun h0_ => absurd ((hoff 8 (by kernel_rfl)).symm.trans h0_) (by decide), fun h0_ => absurd ((hoff 10 (by kernel_rfl)).symm.trans h0_) (by decide)⟩
         refine steps_cons ?_ ?_
         ·
          rintro b a w' ⟨v277, v280, v283, v287, m6_, m7_, m8_, m10_, ha, Q_HO270, Q_BK275, Q_HB, Q_HO278, Q_HO281, Q_HO284, Q_HO288, Q_X6_, Q_X7_, Q_X8_, Q_X10_⟩ hb_ hon hoff
          refine ⟨_, rfl, fun K hK => ?_⟩
          have e101 : a.tmps[101]? = some (v277) := by rw [ha]; exact putSel_on (e := (2, 101, v277)) 0 rfl rfl (hon 2 (by kernel_rfl)) rfl
          have e103 : a.tmps[103]? = some (v280) := by rw [ha]; exact putSel_on (e := (4, 103, v280)) 2 rfl rfl (hon 4 (by kernel_rfl)) rfl
          replace ha := Aside0.mk ha
          have HO270 := Aside0.mk Q_HO270
          have BK275 := Aside0.mk Q_BK275
          have HB := Aside0.mk Q_HB
          have HO278 := Aside0.mk (Q_HO278 (hon 2 (by kernel_rfl)))
          have HO281 := Aside0.mk (Q_HO281 (hon 4 (by kernel_rfl)))
          obtain ⟨Ao35, co35, eo35⟩ := Kd.R_slice HO278.out
          (first | subst eo35 | (injection eo35 with f1_ f2_ f3_; have f4_ := f1_.symm; have f5_ := f3_.symm; clear f1_ f2_ f3_; subst f4_; subst f5_))
          obtain ⟨Ao36, co36, eo36⟩ := Kd.R_slice HO281.out
          (first | subst eo36 | (injection eo36 with f1_ f2_ f3_; have f4_ := f1_.symm; have f5_ := f3_.symm; clear f1_ f2_ f3_; subst f4_; subst f5_))
          refine goes_ Try.func34 (by kernel_rfl) rfl #[.slice Ao35 t276.length co35, .slice Ao36 y279.length co36] (by rfl) rfl rfl (by first | (simp only [List.map_toArray, List.map_cons, List.map_nil, Act.eval, Array.getD_eq_getD_getElem?, Option.getD_some, e101, e103]; done) | (simp only [List.map_toArray, List.map_cons, List.map_nil, Act.eval, Array.getD_eq_getD_getElem?, Option.getD_some, e101, e103]; rfl)) ?_
          with_reducible refine (darningref4_Apply.calls kj4 _ _ t276 _ _ y279 t282 _ ?side1 ?side2 ?side3 ?side4 A22.out).mono ?_
          (case side1 => repeat (first | exact (Kd.R_reads' HO278.out).2.2 | (with_reducible refine Kd.C_alloc ?_ _) | (with_reducible refine Kd.C_drewN ?_ _) | (with_reducible refine Kd.C_drew ?_)))
          (case side2 => exact (Kd.R_reads' HO278.out).2.1)
          (case side3 => repeat (first | exact (Kd.R_reads' HO281.out).2.2 | (with_reducible refine Kd.C_alloc ?_ _) | (with_reducible refine Kd.C_drewN ?_ _) | (with_reducible refine Kd.C_drew ?_)))
          (case side4 => exact (Kd.R_reads' HO281.out).2.1)
          rintro e w37 ⟨v283, rfl, ho0, hb⟩
          refine ⟨_, rfl, ?_⟩
          have n0_ := Aside0.mk (Kd.R_below (by (with_reducible repeat (first | apply Kd.R_alloc | apply Kd.R_drewN | apply Kd.R_drew)); exact HO270.out) hb)
          have n1_ := Aside0.mk (Kd.R_elder' (by (with_reducible repeat (first | apply Kd.R_alloc | apply Kd.R_drewN | apply Kd.R_drew)); exact HO278.out) (Kd.R_base ho0) hb)
          have n2_ := Aside0.mk (Kd.R_below (by (with_reducible repeat (first | apply Kd.R_alloc | apply Kd.R_drewN | apply Kd.R_drew)); exact HO281.out) hb)
          have n3_ := Aside0.mk (Kd.R_lower (Kd.R_new' ho0 (Kd.R_lt (by (with_reducible repeat (first | apply Kd.R_alloc | apply Kd.R_drewN | apply Kd.R_drew)); exact HO278.out))) (below_size (by repeat (first | (with_reducible first | exact HB.out | apply below_alloc | apply pw_below_drewN | apply below_drew1 | refine below_set ?_ GE275.out) | exact HB.out))))
          have n4_ := Aside0.mk (blk_below (g := gb275) (o := .cells #[.int .i64 t272, .int .u64 t273] 30 (0, 0)) (by (with_reducible repeat (first | refine blk_drewN ?_ _ | refine blk_drew ?_ | refine blk_alloc ?_ _)); exact BK275.out) hb)
          have n5_ := Aside0.mk (below_step (by repeat (first | (with_reducible first | exact HB.out | apply below_alloc | apply pw_below_drewN | apply below_drew1 | refine below_set ?_ GE275.out) | exact HB.out)) hb)
          clear HO270
          clear HO278
          clear HO281
          clear BK275
          clear HB
          have HO270 := n0_
          have HO278 := n1_
          have HO281 := n2_
          have HO284 := n3_
          have BK275 := n4_
          have HB := n5_
          clear n0_ n1_ n2_ n3_ n4_ n5_
          (try clear hb)
          (try clear hb2)
          (try clear hk)
          (try clear hi)
          (try clear ho0)
          refine hK.out _ _ ⟨.slice Ao35 t276.length co35, .slice Ao36 y279.length co36, v283, v287, m6_, m7_, m8_, m10_, (by rw [ha.out]; exact putSel_upk 3 hb_ rfl rfl rfl), (by (with_reducible repeat (first | apply Kd.R_alloc | apply Kd.R_drewN | apply Kd.R_drew)); exact HO270.out), (by (with_reducible repeat (first | refine blk_drewN ?_ _ | refine blk_drew ?_ | refine blk_alloc ?_ _)); exact BK275.out), (by repeat (first | (with_reducible first | exact HB.out | apply below_alloc | apply pw_below_drewN | apply below_drew1 | refine below_set ?_ GE275.out) | exact HB.out)), fun _ => (by (with_reducible repeat (first | apply Kd.R_alloc | apply Kd.R_drewN | apply Kd.R_drew)); exact Kd.R_mono HO278.out (fun _ hk => by first | exact hk.2 | trivial)), fun _ => (by (with_reducible repeat (first | apply Kd.R_alloc | apply Kd.R_drewN | apply Kd.R_drew)); exact HO281.out), fun _ => (by (with_reducible repeat (first | apply Kd.R_alloc | apply Kd.R_drewN | apply Kd.R_drew)); exact Kd.R_mono HO284.out (fun _ hk => by first | exact hk.2 | trivial)), fun h0_ => absurd ((hoff 6 (by kernel_rfl)).symm.trans h0_) (by decide), fun h0_ => absurd ((hoff 6 (by kernel_rfl)).symm.trans h0_) (by decide), fun h0_ => absurd ((hoff 7 (by kernel_rfl)).symm.trans h0_) (by decide), fun h0_ => absurd ((hoff 8 (by kernel_rfl)).symm.trans h0_) (by decide), fun h0_ => absurd ((hoff 10 (by kernel_rfl)).symm.trans h0_) (by decide)⟩
         refine steps_cons ?_ ?_
         ·
          rintro b a w' ⟨v277, v280, v283, v287, m6_, m7_, m8_, m10_, ha, Q_HO270, Q_BK275, Q_HB, Q_HO278, Q_HO281, Q_HO284, Q_HO288, Q_X6_, Q_X7_, Q_X8_, Q_X10_⟩ hb_ hon hoff
          refine ⟨_, rfl, fun K hK => ?_⟩
          have e104 : a.tmps[104]? = some (v283) := by rw [ha]; exact putSel_on (e := (5, 104, v283)) 3 rfl rfl (hon 5 (by kernel_rfl)) rfl
          replace ha := Aside0.mk ha
          have HO270 := Aside0.mk Q_HO270
          have BK275 := Aside0.mk Q_BK275
          have HB := Aside0.mk Q_HB
          have HO278 := Aside0.mk (Q_HO278 (hon 2 (by kernel_rfl)))
          have HO281 := Aside0.mk (Q_HO281 (hon 4 (by kernel_rfl)))
          have HO284 := Aside0.mk (Q_HO284 (hon 5 (by kernel_rfl)))
          obtain ⟨Ao38, co38, eo38⟩ := Kd.R_slice HO284.out
          (first | subst eo38 | (injection eo38 with f1_ f2_ f3_; have f4_ := f1_.symm; have f5_ := f3_.symm; clear f1_ f2_ f3_; subst f4_; subst f5_))
          refine goes_ Try.func35 (by kernel_rfl) rfl #[.slice Ao38 t282.length co38] (by rfl) rfl rfl (by first | (simp only [List.map_toArray, List.map_cons, List.map_nil, Act.eval, Array.getD_eq_getD_getElem?, Option.getD_some, e104]; done) | (simp only [List.map_toArray, List.map_cons, List.map_nil, Act.eval, Array.getD_eq_getD_getElem?, Option.getD_some, e104]; rfl)) ?_
          with_reducible refine (chain_Blocks.calls kj4 _ _ t282 t285 t286 _ ?side1 ?side2 A23.out).mono ?_
          (case side1 => repeat (first | exact (Kd.R_reads' HO284.out).2.2 | (with_reducible refine Kd.C_alloc ?_ _) | (with_reducible refine Kd.C_drewN ?_ _) | (with_reducible refine Kd.C_drew ?_)))
          (case side2 => exact (Kd.R_reads' HO284.out).2.1)
          rintro e w39 ⟨v287, rfl, ho0, hb⟩
          refine ⟨_, rfl, ?_⟩
          have n0_ := Aside0.mk (Kd.R_elder' (by (with_reducible repeat (first | apply Kd.R_alloc | apply Kd.R_drewN | apply Kd.R_drew)); exact HO270.out) (Kd.R_base ho0) hb)
          have n1_ := Aside0.mk (Kd.R_below (by (with_reducible repeat (first | apply Kd.R_alloc | apply Kd.R_drewN | apply Kd.R_drew)); exact HO278.out) hb)
          have n2_ := Aside0.mk (Kd.R_below (by (with_reducible repeat (first | apply Kd.R_alloc | apply Kd.R_drewN | apply Kd.R_drew)); exact HO281.out) hb)
          have n3_ := Aside0.mk (Kd.R_below (by (with_reducible repeat (first | apply Kd.R_alloc | apply Kd.R_drewN | apply Kd.R_drew)); exact HO284.out) hb)
          have n4_ := Aside0.mk (Kd.R_lower (Kd.R_new' ho0 (Kd.R_lt (by (with_reducible repeat (first | apply Kd.R_alloc | apply Kd.R_drewN | apply Kd.R_drew)); exact HO270.out))) (below_size (by repeat (first | (with_reducible first | exact HB.out | apply below_alloc | apply pw_below_drewN | apply below_drew1 | refine below_set ?_ GE275.out) | exact HB.out))))
          have n5_ := Aside0.mk (blk_below (g := gb275) (o := .cells #[.int .i64 t272, .int .u64 t273] 30 (0, 0)) (by (with_reducible repeat (first | refine blk_drewN ?_ _ | refine blk_drew ?_ | refine blk_alloc ?_ _)); exact BK275.out) hb)
          have n6_ := Aside0.mk (below_step (by repeat (first | (with_reducible first | exact HB.out | apply below_alloc | apply pw_below_drewN | apply below_drew1 | refine below_set ?_ GE275.out) | exact HB.out)) hb)
          clear HO270
          clear HO278
          clear HO281
          clear HO284
          clear BK275
          clear HB
          have HO270 := n0_
          have HO278 := n1_
          have HO281 := n2_
          have HO284 := n3_
          have HO288 := n4_
          have BK275 := n5_
          have HB := n6_
          clear n0_ n1_ n2_ n3_ n4_ n5_ n6_
          (try clear hb)
          (try clear hb2)
          (try clear hk)
          (try clear hi)
          (try clear ho0)
          refine hK.out _ _ ⟨v277, v280, .slice Ao38 t282.length co38, v287, (.tuple #[v287, .bool t286]), m7_, m8_, m10_, (by rw [ha.out]; exact putSel_upk 4 hb_ rfl rfl rfl), (by (with_reducible repeat (first | apply Kd.R_alloc | apply Kd.R_drewN | apply Kd.R_drew)); exact Kd.R_mono HO270.out (fun _ hk => by first | exact hk.2 | trivial)), (by (with_reducible repeat (first | refine blk_drewN ?_ _ | refine blk_drew ?_ | refine blk_alloc ?_ _)); exact BK275.out), (by repeat (first | (with_reducible first | exact HB.out | apply below_alloc | apply pw_below_drewN | apply below_drew1 | refine below_set ?_ GE275.out) | exact HB.out)), fun _ => (by (with_reducible repeat (first | apply Kd.R_alloc | apply Kd.R_drewN | apply Kd.R_drew)); exact HO278.out), fun _ => (by (with_reducible repeat (first | apply Kd.R_alloc | apply Kd.R_drewN | apply Kd.R_drew)); exact HO281.out), fun _ => (by (with_reducible repeat (first | apply Kd.R_alloc | apply Kd.R_drewN | apply Kd.R_drew)); exact HO284.out), fun _ => (by (with_reducible repeat (first | apply Kd.R_alloc | apply Kd.R_drewN | apply Kd.R_drew)); exact Kd.R_mono HO288.out (fun _ hk => by first | exact hk.2 | trivial)), fun _ => rfl, fun h0_ => absurd ((hoff 7 (by kernel_rfl)).symm.trans h0_) (by decide), fun h0_ => absurd ((hoff 8 (by kernel_rfl)).symm.trans h0_) (by decide), fun h0_ => absurd ((hoff 10 (by kernel_rfl)).symm.trans h0_) (by decide)⟩
         refine steps_cons ?_ ?_
         ·
          rintro b a w' ⟨v277, v280, v283, v287, m6_, m7_, m8_, m10_, ha, Q_HO270, Q_BK275, Q_HB, Q_HO278, Q_HO281, Q_HO284, Q_HO288, Q_X6_, Q_X7_, Q_X8_, Q_X10_⟩ hb_ hon hoff
          refine ⟨_, rfl, fun K hK => ?_⟩
          have e105 : a.tmps[105]? = some (m6_) := by rw [ha]; exact putSel_on (e := (6, 105, m6_)) 4 rfl rfl (hon 6 (by kernel_rfl)) rfl
          rw [Q_X6_ (hon 6 (by kernel_rfl))] at e105
          replace ha := Aside0.mk ha
          have HO270 := Aside0.mk Q_HO270
          have BK275 := Aside0.mk Q_BK275
          have HB := Aside0.mk Q_HB
          have HO278 := Aside0.mk (Q_HO278 (hon 2 (by kernel_rfl)))
          have HO281 := Aside0.mk (Q_HO281 (hon 4 (by kernel_rfl)))
          have HO284 := Aside0.mk (Q_HO284 (hon 5 (by kernel_rfl)))
          have HO288 := Aside0.mk (Q_HO288 (hon 6 (by kernel_rfl)))
          refine value_ (w1 := w') (v := .tuple #[v287, .bool t286]) (by rfl) rfl ?_ ?_
          ·
           go_simp
           (try simp only [i64_w])
           try rfl
          refine hK.out _ _ ⟨v277, v280, v283, v287, m6_, (.tuple #[v287, .bool t286]), m8_, m10_, (by rw [ha.out]; exact putSel_upk 5 hb_ rfl rfl rfl), Q_HO270, Q_BK275, Q_HB, Q_HO278, Q_HO281, Q_HO284, Q_HO288, Q_X6_, fun _ => rfl, fun h0_ => absurd ((hoff 8 (by kernel_rfl)).symm.trans h0_) (by decide), fun h0_ => absurd ((hoff 10 (by kernel_rfl)).symm.trans h0_) (by decide)⟩
         refine steps_cons ?_ ?_
         ·
          rintro b a w' ⟨v277, v280, v283, v287, m6_, m7_, m8_, m10_, ha, Q_HO270, Q_BK275, Q_HB, Q_HO278, Q_HO281, Q_HO284, Q_HO288, Q_X6_, Q_X7_, Q_X8_, Q_X10_⟩ hb_ hon hoff
          refine ⟨_, rfl, fun K hK => ?_⟩
          have e98 : a.tmps[98]? = some (m7_) := by rw [ha]; exact putSel_on (e := (7, 98, m7_)) 5 rfl rfl (hon 7 (by kernel_rfl)) rfl
          rw [Q_X7_ (hon 7 (by kernel_rfl))] at e98
          replace ha := Aside0.mk ha
          have HO270 := Aside0.mk Q_HO270
          have BK275 := Aside0.mk Q_BK275
          have HB := Aside0.mk Q_HB
          have HO278 := Aside0.mk (Q_HO278 (hon 2 (by kernel_rfl)))
          have HO281 := Aside0.mk (Q_HO281 (hon 4 (by kernel_rfl)))
          have HO284 := Aside0.mk (Q_HO284 (hon 5 (by kernel_rfl)))
          have HO288 := Aside0.mk (Q_HO288 (hon 6 (by kernel_rfl)))
          obtain ⟨Ao8_0, co8_0, eo_⟩ := Kd.R_slice HO288.out
          subst eo_
          refine value_ (w1 := w') (v := .slice Ao8_0 t285.length co8_0) (by rfl) rfl ?_ ?_
          ·
           go_simp
           (try simp only [i64_w])
           try rfl
          refine hK.out _ _ ⟨v277, v280, v283, .slice Ao8_0 t285.length co8_0, m6_, m7_, (.slice Ao8_0 t285.length co8_0), m10_, (by rw [ha.out]; exact putSel_upk 6 hb_ rfl rfl rfl), Q_HO270, Q_BK275, Q_HB, Q_HO278, Q_HO281, Q_HO284, Q_HO288, Q_X6_, Q_X7_, fun _ => rfl, fun h0_ => absurd ((hoff 10 (by kernel_rfl)).symm.trans h0_) (by decide)⟩
         refine steps_cons ?_ ?_
         ·
          rintro b a w' ⟨v277, v280, v283, v287, m6_, m7_, m8_, m10_, ha, Q_HO270, Q_BK275, Q_HB, Q_HO278, Q_HO281, Q_HO284, Q_HO288, Q_X6_, Q_X7_, Q_X8_, Q_X10_⟩ hb_ hon hoff
          refine ⟨_, rfl, fun K hK => ?_⟩
          have e98 : a.tmps[98]? = some (m7_) := by rw [ha]; exact putSel_on (e := (7, 98, m7_)) 5 rfl rfl (hon 7 (by kernel_rfl)) rfl
          rw [Q_X7_ (hon 7 (by kernel_rfl))] at e98
          replace ha := Aside0.mk ha
          have HO270 := Aside0.mk Q_HO270
          have BK275 := Aside0.mk Q_BK275
          have HB := Aside0.mk Q_HB
          have HO278 := Aside0.mk (Q_HO278 (hon 2 (by kernel_rfl)))
          have HO281 := Aside0.mk (Q_HO281 (hon 4 (by kernel_rfl)))
          have HO284 := Aside0.mk (Q_HO284 (hon 5 (by kernel_rfl)))
          have HO288 := Aside0.mk (Q_HO288 (hon 6 (by kernel_rfl)))
          obtain ⟨Ao9_0, co9_0, eo_⟩ := Kd.R_slice HO288.out
          subst eo_
          refine value_ (w1 := w') (v := .bool t286) (by rfl) rfl ?_ ?_
          ·
           go_simp
           (try simp only [i64_w])
           try rfl
          refine hK.out _ _ ⟨v277, v280, v283, .slice Ao9_0 t285.length co9_0, m6_, m7_, m8_, m10_, (by rw [ha.out]; exact putSel_upk 7 hb_ rfl rfl rfl), Q_HO270, Q_BK275, Q_HB, Q_HO278, Q_HO281, Q_HO284, Q_HO288, Q_X6_, Q_X7_, Q_X8_, Q_X10_⟩
         refine steps_cons ?_ ?_
         ·
          rintro b a w' ⟨v277, v280, v283, v287, m6_, m7_, m8_, m10_, ha, Q_HO270, Q_BK275, Q_HB, Q_HO278, Q_HO281, Q_HO284, Q_HO288, Q_X6_, Q_X7_, Q_X8_, Q_X10_⟩ hb_ hon hoff
          refine ⟨_, rfl, fun K hK => ?_⟩
          have e106 : a.tmps[106]? = some (m8_) := by rw [ha]; exact putSel_on (e := (8, 106, m8_)) 6 rfl rfl (hon 8 (by kernel_rfl)) rfl
          rw [Q_X8_ (hon 8 (by kernel_rfl))] at e106
          replace ha := Aside0.mk ha
          have HO270 := Aside0.mk Q_HO270
          have BK275 := Aside0.mk Q_BK275
          have HB := Aside0.mk Q_HB
          have HO278 := Aside0.mk (Q_HO278 (hon 2 (by kernel_rfl)))
          have HO281 := Aside0.mk (Q_HO281 (hon 4 (by kernel_rfl)))
          have HO284 := Aside0.mk (Q_HO284 (hon 5 (by kernel_rfl)))
          have HO288 := Aside0.mk (Q_HO288 (hon 6 (by kernel_rfl)))
          refine value_ (w1 := w') (v := v287) (by rfl) rfl ?_ ?_
          ·
           go_simp
           (try simp only [i64_w])
           try rfl
          refine hK.out _ _ ⟨v277, v280, v283, v287, m6_, m7_, m8_, (v287), (by rw [ha.out]; exact putSel_upk 8 hb_ rfl rfl rfl), Q_HO270, Q_BK275, Q_HB, Q_HO278, Q_HO281, Q_HO284, Q_HO288, Q_X6_, Q_X7_, Q_X8_, fun _ => rfl⟩
         refine steps_cons ?_ ?_
         ·
          rintro b a w' ⟨v277, v280, v283, v287, m6_, m7_, m8_, m10_, ha, Q_HO270, Q_BK275, Q_HB, Q_HO278, Q_HO281, Q_HO284, Q_HO288, Q_X6_, Q_X7_, Q_X8_, Q_X10_⟩ hb_ hon hoff
          refine ⟨_, rfl, fun K hK => ?_⟩
          have e107 : a.tmps[107]? = some (.bool t286) := by rw [ha]; exact putSel_on (e := (9, 107, .bool t286)) 7 rfl rfl (hon 9 (by kernel_rfl)) rfl
          replace ha := Aside0.mk ha
          have HO270 := Aside0.mk Q_HO270
          have BK275 := Aside0.mk Q_BK275
          have HB := Aside0.mk Q_HB
          have HO278 := Aside0.mk (Q_HO278 (hon 2 (by kernel_rfl)))
          have HO281 := Aside0.mk (Q_HO281 (hon 4 (by kernel_rfl)))
          have HO284 := Aside0.mk (Q_HO284 (hon 5 (by kernel_rfl)))
          have HO288 := Aside0.mk (Q_HO288 (hon 6 (by kernel_rfl)))
          refine value_ (w1 := w') (v := .bool t286) (by rfl) rfl ?_ ?_
          ·
           go_simp
           (try simp only [i64_w])
           try rfl
          refine hK.out _ _ ⟨v277, v280, v283, v287, m6_, m7_, m8_, m10_, (by rw [ha.out]; exact putSel_upk 9 hb_ rfl rfl rfl), Q_HO270, Q_BK275, Q_HB, Q_HO278, Q_HO281, Q_HO284, Q_HO288, Q_X6_, Q_X7_, Q_X8_, Q_X10_⟩
         exact steps_nil
        rintro b a w39 hall ⟨v277, v280, v283, v287, m6_, m7_, m8_, m10_, ha, Q_HO270, Q_BK275, Q_HB, Q_HO278, Q_HO281, Q_HO284, Q_HO288, Q_X6_, Q_X7_, Q_X8_, Q_X10_⟩
        clear BK275 HB HO270
        have hb2_ := hall 2 (by kernel_rfl)
        have hb3_ := hall 3 (by kernel_rfl)
        have hb4_ := hall 4 (by kernel_rfl)
        have hb5_ := hall 5 (by kernel_rfl)
        have hb6_ := hall 6 (by kernel_rfl)
        have hb7_ := hall 7 (by kernel_rfl)
        have hb8_ := hall 8 (by kernel_rfl)
        have hb9_ := hall 9 (by kernel_rfl)
        have hb10_ := hall 10 (by kernel_rfl)
        have hb11_ := hall 11 (by kernel_rfl)
        subst ha
        obtain rfl := Q_X6_ hb6_
        obtain rfl := Q_X7_ hb7_
        obtain rfl := Q_X8_ hb8_
        obtain rfl := Q_X10_ hb10_
        simp only [putSel, hb2_, hb3_, hb4_, hb5_, hb6_, hb7_, hb8_, hb9_, hb10_, hb11_, if_true, Act.put, List.setIfInBounds_toArray, List.set_cons_zero, List.set_cons_succ]
        have HO270 := Aside0.mk Q_HO270
        clear Q_HO270
        have BK275 := Aside0.mk Q_BK275
        clear Q_BK275
        have HB := Aside0.mk Q_HB
        clear Q_HB
        have HO278 := Aside0.mk (Q_HO278 hb2_)
        clear Q_HO278
        have HO281 := Aside0.mk (Q_HO281 hb4_)
        clear Q_HO281
        have HO284 := Aside0.mk (Q_HO284 hb5_)
        clear Q_HO284
        have HO288 := Aside0.mk (Q_HO288 hb6_)
        clear Q_HO288
        clear hall hb2_ hb3_ hb4_ hb5_ hb6_ hb7_ hb8_ hb9_ hb10_ hb11_
        go_upto_region 13 with (fail)
        go_cut [8] (fun v8 wc => ∃ (kq : Nat) (x8_23 : Bool), v8 = .bool x8_23 ∧ Aside0 (darninglaw17_MergeBack.j2 kq x8_23 = some r) ∧ Aside0 (kq ≤ kj4) ∧ Aside0 (wc.heap[gb275]? = some (.cells #[.int .i64 t272, .int .u64 t273] 30 (0, 0))) ∧ Aside0 (Below w.heap.size w wc))
        case first =>
         have H := HC24.out
         clear HC24
         by_cases c40 : t271 = true
         ·
          subst c40
          have H1 : (if t274 = true then (if t286 = true then ((darningref4_SameBlocks.f kj4 t285 t268).bind fun t289 => (if t289 = true then ((chain_May.f kj4 t268 a1).bind fun t290 => (if t290 = true then ((chain_Free.f kj4 t268).bind fun t291 => ((chain_Free.f kj4 l0).bind fun t292 => (if t291 = (wrap64 (t292 + ((rd_T35 l0 (ji14)).f1))) then ((darninglaw17_awake.f kj4).bind fun t294 => (darninglaw17_MergeBack.j2 kj4 t294)) else (darninglaw17_MergeBack.j2 kj4 false)))) else (darninglaw17_MergeBack.j2 kj4 false))) else (darninglaw17_MergeBack.j2 kj4 false))) else (darninglaw17_MergeBack.j2 kj4 false)) else (darninglaw17_MergeBack.j2 kj4 false)) = some r := by rw [if_pos rfl] at H; exact H
          clear H
          have H := H1
          clear H1
          by_cases c41 : t274 = true
          ·
           subst c41
           have H1 : (if t286 = true then ((darningref4_SameBlocks.f kj4 t285 t268).bind fun t289 => (if t289 = true then ((chain_May.f kj4 t268 a1).bind fun t290 => (if t290 = true then ((chain_Free.f kj4 t268).bind fun t291 => ((chain_Free.f kj4 l0).bind fun t292 => (if t291 = (wrap64 (t292 + ((rd_T35 l0 (ji14)).f1))) then ((darninglaw17_awake.f kj4).bind fun t294 => (darninglaw17_MergeBack.j2 kj4 t294)) else (darninglaw17_MergeBack.j2 kj4 false)))) else (darninglaw17_MergeBack.j2 kj4 false))) else (darninglaw17_MergeBack.j2 kj4 false))) else (darninglaw17_MergeBack.j2 kj4 false)) = some r := by rw [if_pos rfl] at H; exact H
           clear H
           have H := H1
           clear H1
           by_cases c42 : t286 = true
           ·
            subst c42
            have H1 : ((darningref4_SameBlocks.f kj4 t285 t268).bind fun t289 => (if t289 = true then ((chain_May.f kj4 t268 a1).bind fun t290 => (if t290 = true then ((chain_Free.f kj4 t268).bind fun t291 => ((chain_Free.f kj4 l0).bind fun t292 => (if t291 = (wrap64 (t292 + ((rd_T35 l0 (ji14)).f1))) then ((darninglaw17_awake.f kj4).bind fun t294 => (darninglaw17_MergeBack.j2 kj4 t294)) else (darninglaw17_MergeBack.j2 kj4 false)))) else (darninglaw17_MergeBack.j2 kj4 false))) else (darninglaw17_MergeBack.j2 kj4 false))) = some r := by rw [if_pos rfl] at H; exact H
            clear H
            have H := H1
            clear H1
            replace H := Option.bind_eq_some_iff.mp H
            obtain ⟨t289, A430, H⟩ := H
            replace H : (if t289 = true then ((chain_May.f kj4 t268 a1).bind fun t290 => (if t290 = true then ((chain_Free.f kj4 t268).bind fun t291 => ((chain_Free.f kj4 l0).bind fun t292 => (if t291 = (wrap64 (t292 + ((rd_T35 l0 (ji14)).f1))) then ((darninglaw17_awake.f kj4).bind fun t294 => (darninglaw17_MergeBack.j2 kj4 t294)) else (darninglaw17_MergeBack.j2 kj4 false)))) else (darninglaw17_MergeBack.j2 kj4 false))) else (darninglaw17_MergeBack.j2 kj4 false)) = some r := H
            have A43 := Aside0.mk A430
            clear A430
            by_cases c44 : t289 = true
            ·
             subst c44
             have H1 : ((chain_May.f kj4 t268 a1).bind fun t290 => (if t290 = true then ((chain_Free.f kj4 t268).bind fun t291 => ((chain_Free.f kj4 l0).bind fun t292 => (if t291 = (wrap64 (t292 + ((rd_T35 l0 (ji14)).f1))) then ((darninglaw17_awake.f kj4).bind fun t294 => (darninglaw17_MergeBack.j2 kj4 t294)) else (darninglaw17_MergeBack.j2 kj4 false)))) else (darninglaw17_MergeBack.j2 kj4 false))) = some r := by rw [if_pos rfl] at H; exact H
             clear H
             have H := H1
             clear H1
             replace H := Option.bind_eq_some_iff.mp H
             obtain ⟨t290, A450, H⟩ := H
             replace H : (if t290 = true then ((chain_Free.f kj4 t268).bind fun t291 => ((chain_Free.f kj4 l0).bind fun t292 => (if t291 = (wrap64 (t292 + ((rd_T35 l0 (ji14)).f1))) then ((darninglaw17_awake.f kj4).bind fun t294 => (darninglaw17_MergeBack.j2 kj4 t294)) else (darninglaw17_MergeBack.j2 kj4 false)))) else (darninglaw17_MergeBack.j2 kj4 false)) = some r := H
             have A45 := Aside0.mk A450
             clear A450
             by_cases c46 : t290 = true
             ·
              subst c46
              have H1 : ((chain_Free.f kj4 t268).bind fun t291 => ((chain_Free.f kj4 l0).bind fun t292 => (if t291 = (wrap64 (t292 + ((rd_T35 l0 (ji14)).f1))) then ((darninglaw17_awake.f kj4).bind fun t294 => (darninglaw17_MergeBack.j2 kj4 t294)) else (darninglaw17_MergeBack.j2 kj4 false)))) = some r := by rw [if_pos rfl] at H; exact H
              clear H
              have H := H1
              clear H1
              replace H := Option.bind_eq_some_iff.mp H
              obtain ⟨t291, A470, H⟩ := H
              replace H : ((chain_Free.f kj4 l0).bind fun t292 => (if t291 = (wrap64 (t292 + ((rd_T35 l0 (ji14)).f1))) then ((darninglaw17_awake.f kj4).bind fun t294 => (darninglaw17_MergeBack.j2 kj4 t294)) else (darninglaw17_MergeBack.j2 kj4 false))) = some r := H
              have A47 := Aside0.mk A470
              clear A470
              replace H := Option.bind_eq_some_iff.mp H
              obtain ⟨t292, A480, H⟩ := H
              replace H : (if t291 = (wrap64 (t292 + ((rd_T35 l0 (ji14)).f1))) then ((darninglaw17_awake.f kj4).bind fun t294 => (darninglaw17_MergeBack.j2 kj4 t294)) else (darninglaw17_MergeBack.j2 kj4 false)) = some r := H
              have A48 := Aside0.mk A480
              clear A480
              by_cases c49 : t291 = (wrap64 (t292 + ((rd_T35 l0 (ji14)).f1)))
              ·
               rw [if_pos c49] at H
               have c49b0 : (t291 == (wrap64 (t292 + ((rd_T35 l0 (ji14)).f1)))) = true := beq_iff_eq.mpr c49
               have c49b1 : (t291 != (wrap64 (t292 + ((rd_T35 l0 (ji14)).f1)))) = false := bne_eq_false_iff_eq.mpr c49
               clear c49
               (first | rw [c49b0] | (simp only [i64_w, i32_w]; rw [c49b0]) | skip)
               replace H := Option.bind_eq_some_iff.mp H
               obtain ⟨t294, A500, H⟩ := H
               replace H : (darninglaw17_MergeBack.j2 kj4 t294) = some r := H
               have A50 := Aside0.mk A500
               clear A500
               have H' := Aside0.mk H
               clear H
               try go_wp2
               have n0_ := Aside0.mk (Kd.R_drew HO270.out)
               have n1_ := Aside0.mk (Kd.R_drew HO278.out)
               have n2_ := Aside0.mk (Kd.R_drew HO281.out)
               have n3_ := Aside0.mk (Kd.R_drew HO284.out)
               have n4_ := Aside0.mk (Kd.R_drew HO288.out)
               have n5_ := Aside0.mk (blk_drew BK275.out)
               have n6_ := Aside0.mk (below_drew1 HB.out)
               clear HO270
               clear HO278
               clear HO281
               clear HO284
               clear HO288
               clear BK275
               clear HB
               have HO270 := n0_
               have HO278 := n1_
               have HO281 := n2_
               have HO284 := n3_
               have HO288 := n4_
               have BK275 := n5_
               have HB := n6_
               clear n0_ n1_ n2_ n3_ n4_ n5_ n6_
               obtain ⟨Ao52, co52, eo52⟩ := Kd.R_slice HO288.out
               (first | subst eo52 | (injection eo52 with f1_ f2_ f3_; have f4_ := f1_.symm; have f5_ := f3_.symm; clear f1_ f2_ f3_; subst f4_; subst f5_))
               obtain ⟨Ao53, co53, eo53⟩ := Kd.R_slice HO270.out
               (first | subst eo53 | (injection eo53 with f1_ f2_ f3_; have f4_ := f1_.symm; have f5_ := f3_.symm; clear f1_ f2_ f3_; subst f4_; subst f5_))
               have p293 : 0 ≤ ((ji14) : Int) := of_decide_eq_true (by first | (with_reducible assumption) | assumption)
               have q293 : (ji14) < (l0.length : Int) := of_decide_eq_true (by first | (with_reducible assumption) | assumption)
               obtain ⟨ad293, e293, hx293_0, hx293_1, hx293_2⟩ := at_T35 HR0.out (ji14) p293 q293
               have hw293_2 := hx293_2
               (try rw [← Nbq17.out] at hw293_2)
               have hw293_1 := hx293_1
               (try rw [← Nbq17.out] at hw293_1)
               have hw293_0 := hx293_0
               (try rw [← Nbq17.out] at hw293_0)
               (try rw [← Nbq17.out] at hx293_2)
               obtain rfl : ad255 = ad293 := (by injection e293)
               replace hx293_0 := (HB.out.cell (World.block_lt_of_cell? w _ hx293_0)).trans hx293_0
               replace hx293_1 := (HB.out.cell (World.block_lt_of_cell? w _ hx293_1)).trans hx293_1
               replace hx293_2 := (HB.out.cell (World.block_lt_of_cell? w _ hx293_2)).trans hx293_2
               replace p293 := eq_true p293
               replace q293 := eq_true q293
               refine start_ (n := 34) (S := fun w' => w'.cell? (ad255.add (((ji14)).toNat * 3)) = some (.int .i64 ((rd_T35 l0 (ji14)).f0)) ∧ w'.cell? ⟨(ad255.add (((ji14)).toNat * 3)).block, (ad255.add (((ji14)).toNat * 3)).off + 1, none⟩ = some (.int .i64 ((rd_T35 l0 (ji14)).f1)) ∧ w'.cell? ⟨(ad255.add (((ji14)).toNat * 3)).block, (ad255.add (((ji14)).toNat * 3)).off + 2, none⟩ = some (.bool (true))) (ds := []) (onA 34 0) (by kernel_rfl) rfl rfl ⟨((HB.out.cell (World.block_lt_of_cell? w _ hw293_0)).trans hw293_0), ((HB.out.cell (World.block_lt_of_cell? w _ hw293_1)).trans hw293_1), ((HB.out.cell (World.block_lt_of_cell? w _ hw293_2)).trans hw293_2)⟩ (fun hHeld => ?_); refine with_tabW darninglaw17_MergeBack.tab13 darninglaw17_MergeBack.bits13 (fun HT_ HW_ => ?_)
               generalize w39.drew = w51 at HO270 HO278 HO281 HO284 HO288 BK275 HB hx293_0 hx293_1 hx293_2 hHeld ⊢
               refine pure_ (i := 0) (N := some 108) (v := ?_) (a' := ?_) (onA 34 1) rfl rfl (any_of HT_.out (by kernel_rfl)) (fun _ _ _ h => h) (Or.inl ⟨by rfl, ?_⟩) ?_ ?_
               rotate_left
               ·
                intro w'
                go_simp
                with_reducible rfl
               rotate_left
               ·
                simp only [Act.put, List.setIfInBounds_toArray, List.set_cons_zero, List.set_cons_succ, i64_w, i32_w]
                rfl
               refine pure_ (i := 1) (N := some 109) (v := ?_) (a' := ?_) (onA 34 2) rfl rfl (any_of HT_.out (by kernel_rfl)) (fun _ _ _ h => h) (Or.inl ⟨by rfl, ?_⟩) ?_ ?_
               rotate_left
               ·
                intro w'
                go_simp
                with_reducible rfl
               rotate_left
               ·
                simp only [Act.put, List.setIfInBounds_toArray, List.set_cons_zero, List.set_cons_succ, i64_w, i32_w]
                rfl
               refine pure_ (i := 2) (N := some 110) (v := ?_) (a' := ?_) (onA 34 3) rfl rfl (any_of HT_.out (by kernel_rfl)) (fun _ _ _ h => h) (Or.inl ⟨by rfl, ?_⟩) ?_ ?_
               rotate_left
               ·
                intro w'
                go_simp
                with_reducible rfl
               rotate_left
               ·
                simp only [Act.put, List.setIfInBounds_toArray, List.set_cons_zero, List.set_cons_succ, i64_w, i32_w]
                rfl
               refine pure_ (i := 3) (N := some 111) (v := ?_) (a' := ?_) (onA 34 4) rfl rfl (any_of HT_.out (by kernel_rfl)) (fun _ _ _ h => h) (Or.inl ⟨by rfl, ?_⟩) ?_ ?_
               rotate_left
               ·
                intro w'
                go_simp
                with_reducible rfl
               rotate_left
               ·
                simp only [Act.put, List.setIfInBounds_toArray, List.set_cons_zero, List.set_cons_succ, i64_w, i32_w]
                rfl
               refine pure_ (i := 4) (N := some 112) (v := ?_) (a' := ?_) (onA 34 5) rfl rfl (any_of HT_.out (by kernel_rfl)) (fun _ _ _ h => h) (Or.inl ⟨by rfl, ?_⟩) ?_ ?_
               rotate_left
               ·
                intro w'
                go_simp
                with_reducible rfl
               rotate_left
               ·
                simp only [Act.put, List.setIfInBounds_toArray, List.set_cons_zero, List.set_cons_succ, i64_w, i32_w]
                rfl
               refine pure_ (i := 5) (N := some 113) (v := ?_) (a' := ?_) (onA 34 6) rfl rfl (any_of HT_.out (by kernel_rfl)) (fun _ _ _ h => h) (Or.inl ⟨by rfl, ?_⟩) ?_ ?_
               rotate_left
               ·
                intro w'
                go_simp
                with_reducible rfl
               rotate_left
               ·
                simp only [Act.put, List.setIfInBounds_toArray, List.set_cons_zero, List.set_cons_succ, i64_w, i32_w]
                rfl
               refine pure_ (i := 6) (N := some 114) (v := ?_) (a' := ?_) (onA 34 7) rfl rfl (any_of HT_.out (by kernel_rfl)) (fun _ _ _ h => h) (Or.inl ⟨by rfl, ?_⟩) ?_ ?_
               rotate_left
               ·
                intro w'
                go_simp
                with_reducible rfl
               rotate_left
               ·
                simp only [Act.put, List.setIfInBounds_toArray, List.set_cons_zero, List.set_cons_succ, i64_w, i32_w]
                rfl
               refine pure_ (i := 7) (N := some 115) (v := ?_) (a' := ?_) (onA 34 8) rfl rfl (any_of HT_.out (by kernel_rfl)) (fun _ _ _ h => h) (Or.inl ⟨by rfl, ?_⟩) ?_ ?_
               rotate_left
               ·
                intro w'
                go_simp
                with_reducible rfl
               rotate_left
               ·
                simp only [Act.put, List.setIfInBounds_toArray, List.set_cons_zero, List.set_cons_succ, i64_w, i32_w]
                rfl
               refine pure_ (i := 8) (N := some 116) (v := ?_) (a' := ?_) (onA 34 9) rfl rfl (any_of HT_.out (by kernel_rfl)) (fun _ _ _ h => h) (Or.inl ⟨by rfl, ?_⟩) ?_ ?_
               rotate_left
               ·
                intro w'
                go_simp
                with_reducible rfl
               rotate_left
               ·
                simp only [Act.put, List.setIfInBounds_toArray, List.set_cons_zero, List.set_cons_succ, i64_w, i32_w]
                rfl
               refine pure_ (i := 9) (N := some 117) (v := ?_) (a' := ?_) (onA 34 10) rfl rfl (any_of HT_.out (by kernel_rfl)) (fun _ _ _ h => h) (Or.inl ⟨by rfl, ?_⟩) ?_ ?_
               rotate_left
               ·
                intro w'
                go_simp
                with_reducible rfl
               rotate_left
               ·
                simp only [Act.put, List.setIfInBounds_toArray, List.set_cons_zero, List.set_cons_succ, i64_w, i32_w]
                rfl
               refine one_ (i := 10) (N := some 118) (onA 34 11) rfl rfl (one_of HT_.out (by kernel_rfl)) (by decide) (fun K hK => ?_)
               refine goes_ Try.func19 (by kernel_rfl) rfl #[.slice Ao52 t285.length co52, .slice Ao53 t268.length co53] (by rfl) rfl rfl (by (try simp only [List.map_toArray, List.map_cons, List.map_nil]); first | done | rfl | (simp only [List.length_drop, List.length_take]; rfl)) ?_
               with_reducible refine (darningref4_SameBlocks.calls kj4 _ _ t285 _ _ t268 true _ ?side1 ?side2 ?side3 ?side4 A43.out).mono ?_
               (case side1 => repeat (first | exact (Kd.R_reads' HO288.out).2.2 | (with_reducible refine Kd.C_alloc ?_ _) | (with_reducible refine Kd.C_drewN ?_ _) | (with_reducible refine Kd.C_drew ?_)))
               (case side2 => exact (Kd.R_reads' HO288.out).2.1)
               (case side3 => repeat (first | exact (Kd.R_reads' HO270.out).2.2 | (with_reducible refine Kd.C_alloc ?_ _) | (with_reducible refine Kd.C_drewN ?_ _) | (with_reducible refine Kd.C_drew ?_)))
               (case side4 => exact (Kd.R_reads' HO270.out).2.1)
               rintro e w' ⟨rfl, ⟨nd, rfl⟩⟩
               refine ⟨_, rfl, ?_⟩
               refine hK.out _ _ ⟨((HB.out.cell (World.block_lt_of_cell? w _ hw293_0)).trans hw293_0), ((HB.out.cell (World.block_lt_of_cell? w _ hw293_1)).trans hw293_1), ((HB.out.cell (World.block_lt_of_cell? w _ hw293_2)).trans hw293_2)⟩ (fun hHeld => ?_)
               clear hK K
               refine norm_ (a' := ?_) ?_ ?_
               rotate_left
               ·
                show Act.put _ (some 118) _ = _
                simp only [Act.put, List.setIfInBounds_toArray, List.set_cons_zero, List.set_cons_succ, i64_w, i32_w]
                rfl
               refine pure_ (i := 11) (N := some 119) (v := ?_) (a' := ?_) (onA 34 12) rfl rfl (any_of HT_.out (by kernel_rfl)) (fun _ _ _ h => h) (Or.inl ⟨by rfl, ?_⟩) ?_ ?_
               rotate_left
               ·
                intro w'
                go_simp
                with_reducible rfl
               rotate_left
               ·
                simp only [Act.put, List.setIfInBounds_toArray, List.set_cons_zero, List.set_cons_succ, i64_w, i32_w]
                rfl
               refine pure_ (i := 12) (N := some 120) (v := ?_) (a' := ?_) (onA 34 13) rfl rfl (any_of HT_.out (by kernel_rfl)) (fun _ _ _ h => h) (Or.inl ⟨by rfl, ?_⟩) ?_ ?_
               rotate_left
               ·
                intro w'
                go_simp
                with_reducible rfl
               rotate_left
               ·
                simp only [Act.put, List.setIfInBounds_toArray, List.set_cons_zero, List.set_cons_succ, i64_w, i32_w]
                rfl
               refine pure_ (i := 13) (N := some 121) (v := ?_) (a' := ?_) (onA 34 14) rfl rfl (any_of HT_.out (by kernel_rfl)) (fun _ _ _ h => h) (Or.inl ⟨by rfl, ?_⟩) ?_ ?_
               rotate_left
               ·
                intro w'
                go_simp
                with_reducible rfl
               rotate_left
               ·
                simp only [Act.put, List.setIfInBounds_toArray, List.set_cons_zero, List.set_cons_succ, i64_w, i32_w]
                rfl
               refine pure_ (i := 14) (N := some 122) (v := ?_) (a' := ?_) (onA 34 15) rfl rfl (any_of HT_.out (by kernel_rfl)) (fun _ _ _ h => h) (Or.inl ⟨by rfl, ?_⟩) ?_ ?_
               rotate_left
               ·
                intro w'
                go_simp
                with_reducible rfl
               rotate_left
               ·
                simp only [Act.put, List.setIfInBounds_toArray, List.set_cons_zero, List.set_cons_succ, i64_w, i32_w]
                rfl
               refine one_ (i := 15) (N := some 123) (onA 34 16) rfl rfl (one_of HT_.out (by kernel_rfl)) (by decide) (fun K hK => ?_)
               refine goes_ Try.func36 (by kernel_rfl) rfl #[.slice Ao53 t268.length co53, .int .i64 a1] (by rfl) rfl rfl (by (try simp only [List.map_toArray, List.map_cons, List.map_nil]); first | done | rfl | (simp only [List.length_drop, List.length_take]; rfl)) ?_
               with_reducible refine (chain_May.calls kj4 _ _ t268 a1 true _ ?side1 ?side2 A45.out).mono ?_
               (case side1 => repeat (first | exact (Kd.R_reads' HO270.out).2.2 | (with_reducible refine Kd.C_alloc ?_ _) | (with_reducible refine Kd.C_drewN ?_ _) | (with_reducible refine Kd.C_drew ?_)))
               (case side2 => exact (Kd.R_reads' HO270.out).2.1)
               rintro e w54 ⟨rfl, hb⟩
               refine ⟨_, rfl, ?_⟩
               have n0_ := Aside0.mk (Kd.R_below (by (with_reducible repeat (first | apply Kd.R_alloc | apply Kd.R_drewN | apply Kd.R_drew)); exact HO270.out) hb)
               have n1_ := Aside0.mk (Kd.R_below (by (with_reducible repeat (first | apply Kd.R_alloc | apply Kd.R_drewN | apply Kd.R_drew)); exact HO278.out) hb)
               have n2_ := Aside0.mk (Kd.R_below (by (with_reducible repeat (first | apply Kd.R_alloc | apply Kd.R_drewN | apply Kd.R_drew)); exact HO281.out) hb)
               have n3_ := Aside0.mk (Kd.R_below (by (with_reducible repeat (first | apply Kd.R_alloc | apply Kd.R_drewN | apply Kd.R_drew)); exact HO284.out) hb)
               have n4_ := Aside0.mk (Kd.R_below (by (with_reducible repeat (first | apply Kd.R_alloc | apply Kd.R_drewN | apply Kd.R_drew)); exact HO288.out) hb)
               have n5_ := Aside0.mk (blk_below (g := gb275) (o := .cells #[.int .i64 t272, .int .u64 t273] 30 (0, 0)) (by (with_reducible repeat (first | refine blk_drewN ?_ _ | refine blk_drew ?_ | refine blk_alloc ?_ _)); exact BK275.out) hb)
               have n6_ := Aside0.mk (below_step (by repeat (first | (with_reducible first | exact HB.out | apply below_alloc | apply pw_below_drewN | apply below_drew1 | refine below_set ?_ GE275.out) | exact HB.out)) hb)
               clear HO270
               clear HO278
               clear HO281
               clear HO284
               clear HO288
               clear BK275
               clear HB
               have HO270 := n0_
               have HO278 := n1_
               have HO281 := n2_
               have HO284 := n3_
               have HO288 := n4_
               have BK275 := n5_
               have HB := n6_
               clear n0_ n1_ n2_ n3_ n4_ n5_ n6_
               (try clear hb)
               (try clear hb2)
               (try clear hk)
               (try clear hi)
               refine hK.out _ _ ⟨((HB.out.cell (World.block_lt_of_cell? w _ hw293_0)).trans hw293_0), ((HB.out.cell (World.block_lt_of_cell? w _ hw293_1)).trans hw293_1), ((HB.out.cell (World.block_lt_of_cell? w _ hw293_2)).trans hw293_2)⟩ (fun hHeld => ?_)
               clear hK K
               refine norm_ (a' := ?_) ?_ ?_
               rotate_left
               ·
                show Act.put _ (some 123) _ = _
                simp only [Act.put, List.setIfInBounds_toArray, List.set_cons_zero, List.set_cons_succ, i64_w, i32_w]
                rfl
               refine pure_ (i := 16) (N := some 124) (v := ?_) (a' := ?_) (onA 34 17) rfl rfl (any_of HT_.out (by kernel_rfl)) (fun _ _ _ h => h) (Or.inl ⟨by rfl, ?_⟩) ?_ ?_
               rotate_left
               ·
                intro w'
                go_simp
                with_reducible rfl
               rotate_left
               ·
                simp only [Act.put, List.setIfInBounds_toArray, List.set_cons_zero, List.set_cons_succ, i64_w, i32_w]
                rfl
               refine pure_ (i := 17) (N := some 125) (v := ?_) (a' := ?_) (onA 34 18) rfl rfl (any_of HT_.out (by kernel_rfl)) (fun _ _ _ h => h) (Or.inl ⟨by rfl, ?_⟩) ?_ ?_
               rotate_left
               ·
                intro w'
                go_simp
                with_reducible rfl
               rotate_left
               ·
                simp only [Act.put, List.setIfInBounds_toArray, List.set_cons_zero, List.set_cons_succ, i64_w, i32_w]
                rfl
               refine pure_ (i := 18) (N := some 126) (v := ?_) (a' := ?_) (onA 34 19) rfl rfl (any_of HT_.out (by kernel_rfl)) (fun _ _ _ h => h) (Or.inl ⟨by rfl, ?_⟩) ?_ ?_
               rotate_left
               ·
                intro w'
                go_simp
                with_reducible rfl
               rotate_left
               ·
                simp only [Act.put, List.setIfInBounds_toArray, List.set_cons_zero, List.set_cons_succ, i64_w, i32_w]
                rfl
               refine pure_ (i := 20) (N := some 128) (v := ?_) (a' := ?_) #[tt_, tt_, tt_, tt_, tt_, tt_, tt_, tt_, tt_, tt_, tt_, tt_, tt_, tt_, tt_, tt_, tt_, tt_, tt_, ff_, tt_, ff_, ff_, ff_, ff_, ff_, ff_, ff_, ff_, ff_, ff_, ff_, ff_, ff_] rfl rfl (any_of HT_.out (by kernel_rfl)) (fun _ _ _ h => h) (Or.inl ⟨by rfl, ?_⟩) ?_ ?_
               rotate_left
               ·
                intro w'
                go_simp
                with_reducible rfl
               rotate_left
               ·
                simp only [Act.put, List.setIfInBounds_toArray, List.set_cons_zero, List.set_cons_succ, i64_w, i32_w]
                rfl
               refine pure_ (i := 22) (N := some 130) (v := ?_) (a' := ?_) #[tt_, tt_, tt_, tt_, tt_, tt_, tt_, tt_, tt_, tt_, tt_, tt_, tt_, tt_, tt_, tt_, tt_, tt_, tt_, ff_, tt_, ff_, tt_, ff_, ff_, ff_, ff_, ff_, ff_, ff_, ff_, ff_, ff_, ff_] rfl rfl (any_of HT_.out (by kernel_rfl)) (fun _ _ _ h => h) (Or.inl ⟨by rfl, ?_⟩) ?_ ?_
               rotate_left
               ·
                intro w'
                go_simp
                with_reducible rfl
               rotate_left
               ·
                simp only [Act.put, List.setIfInBounds_toArray, List.set_cons_zero, List.set_cons_succ, i64_w, i32_w]
                rfl
               refine pure_ (i := 23) (N := some 131) (v := ?_) (a' := ?_) #[tt_, tt_, tt_, tt_, tt_, tt_, tt_, tt_, tt_, tt_, tt_, tt_, tt_, tt_, tt_, tt_, tt_, tt_, tt_, ff_, tt_, ff_, tt_, tt_, ff_, ff_, ff_, ff_, ff_, ff_, ff_, ff_, ff_, ff_] rfl rfl (any_of HT_.out (by kernel_rfl)) (fun _ _ _ h => h) (Or.inl ⟨by rfl, ?_⟩) ?_ ?_
               rotate_left
               ·
                intro w'
                go_simp
                with_reducible rfl
               rotate_left
               ·
                simp only [Act.put, List.setIfInBounds_toArray, List.set_cons_zero, List.set_cons_succ, i64_w, i32_w]
                rfl
               refine pure_ (i := 24) (N := some 132) (v := ?_) (a' := ?_) #[tt_, tt_, tt_, tt_, tt_, tt_, tt_, tt_, tt_, tt_, tt_, tt_, tt_, tt_, tt_, tt_, tt_, tt_, tt_, ff_, tt_, ff_, tt_, tt_, tt_, ff_, ff_, ff_, ff_, ff_, ff_, ff_, ff_, ff_] rfl rfl (any_of HT_.out (by kernel_rfl)) (fun _ _ _ h => h) (Or.inl ⟨by rfl, ?_⟩) ?_ ?_
               rotate_left
               ·
                intro w'
                go_simp
                with_reducible rfl
               rotate_left
               ·
                simp only [Act.put, List.setIfInBounds_toArray, List.set_cons_zero, List.set_cons_succ, i64_w, i32_w]
                rfl
               refine pure_ (i := 25) (N := some 133) (v := ?_) (a' := ?_) #[tt_, tt_, tt_, tt_, tt_, tt_, tt_, tt_, tt_, tt_, tt_, tt_, tt_, tt_, tt_, tt_, tt_, tt_, tt_, ff_, tt_, ff_, tt_, tt_, tt_, tt_, ff_, ff_, ff_, ff_, ff_, ff_, ff_, ff_] rfl rfl (any_of HT_.out (by kernel_rfl)) (fun _ _ _ h => h) (Or.inl ⟨by rfl, ?_⟩) ?_ ?_
               rotate_left
               ·
                intro w'
                go_simp
                with_reducible rfl
               rotate_left
               ·
                simp only [Act.put, List.setIfInBounds_toArray, List.set_cons_zero, List.set_cons_succ, i64_w, i32_w]
                rfl
               refine take_ (i := 26) (N := some 134) (v := ?_) (a' := ?_) #[tt_, tt_, tt_, tt_, tt_, tt_, tt_, tt_, tt_, tt_, tt_, tt_, tt_, tt_, tt_, tt_, tt_, tt_, tt_, ff_, tt_, ff_, tt_, tt_, tt_, tt_, tt_, ff_, ff_, ff_, ff_, ff_, ff_, ff_] rfl rfl (take_ofW HT_.out HW_.out (by kernel_rfl)) (fun _ _ _ h => h) (Or.inl ⟨by rfl, ?_⟩) hHeld ?_ ?_
               rotate_left
               ·
                rintro w' ⟨s0, s1, s2⟩
                go_simp
                with_reducible rfl
               rotate_left
               ·
                simp only [Act.put, List.setIfInBounds_toArray, List.set_cons_zero, List.set_cons_succ, i64_w, i32_w]
                rfl
               refine one_ (i := 19) (N := some 127) #[tt_, tt_, tt_, tt_, tt_, tt_, tt_, tt_, tt_, tt_, tt_, tt_, tt_, tt_, tt_, tt_, tt_, tt_, tt_, tt_, tt_, ff_, tt_, tt_, tt_, tt_, tt_, ff_, ff_, ff_, ff_, ff_, ff_, ff_] rfl rfl (one_of HT_.out (by kernel_rfl)) (by decide) (fun K hK => ?_)
               refine goes_ Try.func37 (by kernel_rfl) rfl #[.slice Ao53 t268.length co53] (by rfl) rfl rfl (by (try simp only [List.map_toArray, List.map_cons, List.map_nil]); first | done | rfl | (simp only [List.length_drop, List.length_take]; rfl)) ?_
               with_reducible refine (chain_Free.calls kj4 _ _ t268 t291 _ ?side1 ?side2 A47.out).mono ?_
               (case side1 => repeat (first | exact (Kd.R_reads' HO270.out).2.2 | (with_reducible refine Kd.C_alloc ?_ _) | (with_reducible refine Kd.C_drewN ?_ _) | (with_reducible refine Kd.C_drew ?_)))
               (case side2 => exact (Kd.R_reads' HO270.out).2.1)
               rintro e w55 ⟨rfl, hb⟩
               refine ⟨_, rfl, ?_⟩
               have n0_ := Aside0.mk (Kd.R_below (by (with_reducible repeat (first | apply Kd.R_alloc | apply Kd.R_drewN | apply Kd.R_drew)); exact HO270.out) hb)
               have n1_ := Aside0.mk (Kd.R_below (by (with_reducible repeat (first | apply Kd.R_alloc | apply Kd.R_drewN | apply Kd.R_drew)); exact HO278.out) hb)
               have n2_ := Aside0.mk (Kd.R_below (by (with_reducible repeat (first | apply Kd.R_alloc | apply Kd.R_drewN | apply Kd.R_drew)); exact HO281.out) hb)
               have n3_ := Aside0.mk (Kd.R_below (by (with_reducible repeat (first | apply Kd.R_alloc | apply Kd.R_drewN | apply Kd.R_drew)); exact HO284.out) hb)
               have n4_ := Aside0.mk (Kd.R_below (by (with_reducible repeat (first | apply Kd.R_alloc | apply Kd.R_drewN | apply Kd.R_drew)); exact HO288.out) hb)
               have n5_ := Aside0.mk (blk_below (g := gb275) (o := .cells #[.int .i64 t272, .int .u64 t273] 30 (0, 0)) (by (with_reducible repeat (first | refine blk_drewN ?_ _ | refine blk_drew ?_ | refine blk_alloc ?_ _)); exact BK275.out) hb)
               have n6_ := Aside0.mk (below_step (by repeat (first | (with_reducible first | exact HB.out | apply below_alloc | apply pw_below_drewN | apply below_drew1 | refine below_set ?_ GE275.out) | exact HB.out)) hb)
               clear HO270
               clear HO278
               clear HO281
               clear HO284
               clear HO288
               clear BK275
               clear HB
               have HO270 := n0_
               have HO278 := n1_
               have HO281 := n2_
               have HO284 := n3_
               have HO288 := n4_
               have BK275 := n5_
               have HB := n6_
               clear n0_ n1_ n2_ n3_ n4_ n5_ n6_
               (try clear hb)
               (try clear hb2)
               (try clear hk)
               (try clear hi)
               refine hK.out _ _ ⟨((HB.out.cell (World.block_lt_of_cell? w _ hw293_0)).trans hw293_0), ((HB.out.cell (World.block_lt_of_cell? w _ hw293_1)).trans hw293_1), ((HB.out.cell (World.block_lt_of_cell? w _ hw293_2)).trans hw293_2)⟩ (fun hHeld => ?_)
               clear hK K
               refine norm_ (a' := ?_) ?_ ?_
               rotate_left
               ·
                show Act.put _ (some 127) _ = _
                simp only [Act.put, List.setIfInBounds_toArray, List.set_cons_zero, List.set_cons_succ, i64_w, i32_w]
                rfl
               refine one_ (i := 21) (N := some 129) (onA 34 27) rfl rfl (one_of HT_.out (by kernel_rfl)) (by decide) (fun K hK => ?_)
               refine goes_ Try.func37 (by kernel_rfl) rfl #[.slice (some ad255) l0.length c0] (by rfl) rfl rfl (by (try simp only [List.map_toArray, List.map_cons, List.map_nil]); first | done | rfl | (simp only [List.length_drop, List.length_take]; rfl)) ?_
               with_reducible refine (chain_Free.calls kj4 _ _ l0 t292 _ ?side1 ?side2 A48.out).mono ?_
               (case side1 => repeat (first | exact (Kd.C_below HR0.out HB.out) | (with_reducible refine Kd.C_alloc ?_ _) | (with_reducible refine Kd.C_drewN ?_ _) | (with_reducible refine Kd.C_drew ?_)))
               (case side2 => exact HC0.out)
               rintro e w56 ⟨rfl, hb⟩
               refine ⟨_, rfl, ?_⟩
               have n0_ := Aside0.mk (Kd.R_below (by (with_reducible repeat (first | apply Kd.R_alloc | apply Kd.R_drewN | apply Kd.R_drew)); exact HO270.out) hb)
               have n1_ := Aside0.mk (Kd.R_below (by (with_reducible repeat (first | apply Kd.R_alloc | apply Kd.R_drewN | apply Kd.R_drew)); exact HO278.out) hb)
               have n2_ := Aside0.mk (Kd.R_below (by (with_reducible repeat (first | apply Kd.R_alloc | apply Kd.R_drewN | apply Kd.R_drew)); exact HO281.out) hb)
               have n3_ := Aside0.mk (Kd.R_below (by (with_reducible repeat (first | apply Kd.R_alloc | apply Kd.R_drewN | apply Kd.R_drew)); exact HO284.out) hb)
               have n4_ := Aside0.mk (Kd.R_below (by (with_reducible repeat (first | apply Kd.R_alloc | apply Kd.R_drewN | apply Kd.R_drew)); exact HO288.out) hb)
               have n5_ := Aside0.mk (blk_below (g := gb275) (o := .cells #[.int .i64 t272, .int .u64 t273] 30 (0, 0)) (by (with_reducible repeat (first | refine blk_drewN ?_ _ | refine blk_drew ?_ | refine blk_alloc ?_ _)); exact BK275.out) hb)
               have n6_ := Aside0.mk (below_step (by repeat (first | (with_reducible first | exact HB.out | apply below_alloc | apply pw_below_drewN | apply below_drew1 | refine below_set ?_ GE275.out) | exact HB.out)) hb)
               clear HO270
               clear HO278
               clear HO281
               clear HO284
               clear HO288
               clear BK275
               clear HB
               have HO270 := n0_
               have HO278 := n1_
               have HO281 := n2_
               have HO284 := n3_
               have HO288 := n4_
               have BK275 := n5_
               have HB := n6_
               clear n0_ n1_ n2_ n3_ n4_ n5_ n6_
               (try clear hb)
               (try clear hb2)
               (try clear hk)
               (try clear hi)
               refine hK.out _ _ ⟨((HB.out.cell (World.block_lt_of_cell? w _ hw293_0)).trans hw293_0), ((HB.out.cell (World.block_lt_of_cell? w _ hw293_1)).trans hw293_1), ((HB.out.cell (World.block_lt_of_cell? w _ hw293_2)).trans hw293_2)⟩ (fun hHeld => ?_)
               clear hK K
               refine norm_ (a' := ?_) ?_ ?_
               rotate_left
               ·
                show Act.put _ (some 129) _ = _
                simp only [Act.put, List.setIfInBounds_toArray, List.set_cons_zero, List.set_cons_succ, i64_w, i32_w]
                rfl
               refine pure_ (i := 27) (N := some 135) (v := ?_) (a' := ?_) (onA 34 28) rfl rfl (any_of HT_.out (by kernel_rfl)) (fun _ _ _ h => h) (Or.inl ⟨by rfl, ?_⟩) ?_ ?_
               rotate_left
               ·
                intro w'
                go_simp
                with_reducible rfl
               rotate_left
               ·
                simp only [Act.put, List.setIfInBounds_toArray, List.set_cons_zero, List.set_cons_succ, i64_w, i32_w]
                rfl
               refine pure_ (i := 28) (N := some 136) (v := ?_) (a' := ?_) (onA 34 29) rfl rfl (any_of HT_.out (by kernel_rfl)) (fun _ _ _ h => h) (Or.inl ⟨by rfl, ?_⟩) ?_ ?_
               rotate_left
               ·
                intro w'
                go_simp
                with_reducible rfl
               rotate_left
               ·
                simp only [Act.put, List.setIfInBounds_toArray, List.set_cons_zero, List.set_cons_succ, i64_w, i32_w]
                rfl
               refine pure_ (i := 29) (N := some 137) (v := ?_) (a' := ?_) (onA 34 30) rfl rfl (any_of HT_.out (by kernel_rfl)) (fun _ _ _ h => h) (Or.inl ⟨by rfl, ?_⟩) ?_ ?_
               rotate_left
               ·
                intro w'
                go_simp
                with_reducible rfl
               rotate_left
               ·
                simp only [Act.put, List.setIfInBounds_toArray, List.set_cons_zero, List.set_cons_succ, i64_w, i32_w]
                rfl
               refine pure_ (i := 30) (N := some 138) (v := ?_) (a' := ?_) (onA 34 31) rfl rfl (any_of HT_.out (by kernel_rfl)) (fun _ _ _ h => h) (Or.inl ⟨by rfl, ?_⟩) ?_ ?_
               rotate_left
               ·
                intro w'
                go_simp
                with_reducible rfl
               rotate_left
               ·
                simp only [Act.put, List.setIfInBounds_toArray, List.set_cons_zero, List.set_cons_succ, i64_w, i32_w]
                rfl
               refine one_ (i := 31) (N := some 139) (onA 34 32) rfl rfl (one_of HT_.out (by kernel_rfl)) (by decide) (fun K hK => ?_)
               refine goes_ Try.func15 (by kernel_rfl) rfl #[] (by rfl) rfl rfl (by (try simp only [List.map_toArray, List.map_cons, List.map_nil]); first | done | rfl | (simp only [List.length_drop, List.length_take]; rfl)) ?_
               with_reducible refine (darninglaw17_awake.calls kj4  t294 _ A50.out).mono ?_
               rintro e w57 ⟨rfl, hb⟩
               refine ⟨_, rfl, ?_⟩
               have n0_ := Aside0.mk (Kd.R_below (by (with_reducible repeat (first | apply Kd.R_alloc | apply Kd.R_drewN | apply Kd.R_drew)); exact HO270.out) hb)
               have n1_ := Aside0.mk (Kd.R_below (by (with_reducible repeat (first | apply Kd.R_alloc | apply Kd.R_drewN | apply Kd.R_drew)); exact HO278.out) hb)
               have n2_ := Aside0.mk (Kd.R_below (by (with_reducible repeat (first | apply Kd.R_alloc | apply Kd.R_drewN | apply Kd.R_drew)); exact HO281.out) hb)
               have n3_ := Aside0.mk (Kd.R_below (by (with_reducible repeat (first | apply Kd.R_alloc | apply Kd.R_drewN | apply Kd.R_drew)); exact HO284.out) hb)
               have n4_ := Aside0.mk (Kd.R_below (by (with_reducible repeat (first | apply Kd.R_alloc | apply Kd.R_drewN | apply Kd.R_drew)); exact HO288.out) hb)
               have n5_ := Aside0.mk (blk_below (g := gb275) (o := .cells #[.int .i64 t272, .int .u64 t273] 30 (0, 0)) (by (with_reducible repeat (first | refine blk_drewN ?_ _ | refine blk_drew ?_ | refine blk_alloc ?_ _)); exact BK275.out) hb)
               have n6_ := Aside0.mk (below_step (by repeat (first | (with_reducible first | exact HB.out | apply below_alloc | apply pw_below_drewN | apply below_drew1 | refine below_set ?_ GE275.out) | exact HB.out)) hb)
               clear HO270
               clear HO278
               clear HO281
               clear HO284
               clear HO288
               clear BK275
               clear HB
               have HO270 := n0_
               have HO278 := n1_
               have HO281 := n2_
               have HO284 := n3_
               have HO288 := n4_
               have BK275 := n5_
               have HB := n6_
               clear n0_ n1_ n2_ n3_ n4_ n5_ n6_
               (try clear hb)
               (try clear hb2)
               (try clear hk)
               (try clear hi)
               refine hK.out _ _ ⟨((HB.out.cell (World.block_lt_of_cell? w _ hw293_0)).trans hw293_0), ((HB.out.cell (World.block_lt_of_cell? w _ hw293_1)).trans hw293_1), ((HB.out.cell (World.block_lt_of_cell? w _ hw293_2)).trans hw293_2)⟩ (fun hHeld => ?_)
               clear hK K
               refine norm_ (a' := ?_) ?_ ?_
               rotate_left
               ·
                show Act.put _ (some 139) _ = _
                simp only [Act.put, List.setIfInBounds_toArray, List.set_cons_zero, List.set_cons_succ, i64_w, i32_w]
                rfl
               refine pure_ (i := 32) (N := some 140) (v := ?_) (a' := ?_) (onA 34 33) rfl rfl (any_of HT_.out (by kernel_rfl)) (fun _ _ _ h => h) (Or.inl ⟨by rfl, ?_⟩) ?_ ?_
               rotate_left
               ·
                intro w'
                go_simp
                with_reducible rfl
               rotate_left
               ·
                simp only [Act.put, List.setIfInBounds_toArray, List.set_cons_zero, List.set_cons_succ, i64_w, i32_w]
                rfl
               refine pure_ (i := 33) (N := some 8) (v := ?_) (a' := ?_) (onA 34 34) rfl rfl (any_of HT_.out (by kernel_rfl)) (fun _ _ _ h => h) (Or.inl ⟨by rfl, ?_⟩) ?_ ?_
               rotate_left
               ·
                intro w'
                go_simp
                with_reducible rfl
               rotate_left
               ·
                simp only [Act.put, List.setIfInBounds_toArray, List.set_cons_zero, List.set_cons_succ, i64_w, i32_w]
                rfl
               refine done_ (done_of HT_.out (by kernel_rfl)) ?_
               try go_wp2
               go_meet
               case rel => (try simp only [← Nbq17.out]); exact ⟨_, (t294), (by first | rfl | (simp; done) | (simp [*]; done)), H', ⟨by have := HJ4.out; first | omega | exact Nat.le_refl _⟩, ⟨by (with_reducible repeat (first | refine blk_drewN ?_ _ | refine blk_drew ?_ | refine blk_alloc ?_ _)); exact BK275.out⟩, ⟨by repeat (first | (with_reducible first | exact HB.out | apply below_alloc | apply pw_below_drewN | apply below_drew1 | refine below_set ?_ GE275.out) | exact HB.out)⟩⟩
              ·
               rw [if_neg c49] at H
               have c49b0 : (t291 == (wrap64 (t292 + ((rd_T35 l0 (ji14)).f1)))) = false := beq_eq_false_iff_ne.mpr c49
               have c49b1 : (t291 != (wrap64 (t292 + ((rd_T35 l0 (ji14)).f1)))) = true := bne_iff_ne.mpr c49
               (first | rw [c49b0] | (simp only [i64_w, i32_w]; rw [c49b0]) | skip)
               have H' := Aside0.mk H
               clear H
               try go_wp2
               have n0_ := Aside0.mk (Kd.R_drew HO270.out)
               have n1_ := Aside0.mk (Kd.R_drew HO278.out)
               have n2_ := Aside0.mk (Kd.R_drew HO281.out)
               have n3_ := Aside0.mk (Kd.R_drew HO284.out)
               have n4_ := Aside0.mk (Kd.R_drew HO288.out)
               have n5_ := Aside0.mk (blk_drew BK275.out)
               have n6_ := Aside0.mk (below_drew1 HB.out)
               clear HO270
               clear HO278
               clear HO281
               clear HO284
               clear HO288
               clear BK275
               clear HB
               have HO270 := n0_
               have HO278 := n1_
               have HO281 := n2_
               have HO284 := n3_
               have HO288 := n4_
               have BK275 := n5_
               have HB := n6_
               clear n0_ n1_ n2_ n3_ n4_ n5_ n6_
               obtain ⟨Ao59, co59, eo59⟩ := Kd.R_slice HO288.out
               (first | subst eo59 | (injection eo59 with f1_ f2_ f3_; have f4_ := f1_.symm; have f5_ := f3_.symm; clear f1_ f2_ f3_; subst f4_; subst f5_))
               obtain ⟨Ao60, co60, eo60⟩ := Kd.R_slice HO270.out
               (first | subst eo60 | (injection eo60 with f1_ f2_ f3_; have f4_ := f1_.symm; have f5_ := f3_.symm; clear f1_ f2_ f3_; subst f4_; subst f5_))
               have p293 : 0 ≤ ((ji14) : Int) := of_decide_eq_true (by first | (with_reducible assumption) | assumption)
               have q293 : (ji14) < (l0.length : Int) := of_decide_eq_true (by first | (with_reducible assumption) | assumption)
               obtain ⟨ad293, e293, hx293_0, hx293_1, hx293_2⟩ := at_T35 HR0.out (ji14) p293 q293
               have hw293_2 := hx293_2
               (try rw [← Nbq17.out] at hw293_2)
               have hw293_1 := hx293_1
               (try rw [← Nbq17.out] at hw293_1)
               have hw293_0 := hx293_0
               (try rw [← Nbq17.out] at hw293_0)
               (try rw [← Nbq17.out] at hx293_2)
               obtain rfl : ad255 = ad293 := (by injection e293)
               replace hx293_0 := (HB.out.cell (World.block_lt_of_cell? w _ hx293_0)).trans hx293_0
               replace hx293_1 := (HB.out.cell (World.block_lt_of_cell? w _ hx293_1)).trans hx293_1
               replace hx293_2 := (HB.out.cell (World.block_lt_of_cell? w _ hx293_2)).trans hx293_2
               replace p293 := eq_true p293
               replace q293 := eq_true q293
               refine start_ (n := 34) (S := fun w' => w'.cell? (ad255.add (((ji14)).toNat * 3)) = some (.int .i64 ((rd_T35 l0 (ji14)).f0)) ∧ w'.cell? ⟨(ad255.add (((ji14)).toNat * 3)).block, (ad255.add (((ji14)).toNat * 3)).off + 1, none⟩ = some (.int .i64 ((rd_T35 l0 (ji14)).f1)) ∧ w'.cell? ⟨(ad255.add (((ji14)).toNat * 3)).block, (ad255.add (((ji14)).toNat * 3)).off + 2, none⟩ = some (.bool (true))) (ds := []) (onA 34 0) (by kernel_rfl) rfl rfl ⟨((HB.out.cell (World.block_lt_of_cell? w _ hw293_0)).trans hw293_0), ((HB.out.cell (World.block_lt_of_cell? w _ hw293_1)).trans hw293_1), ((HB.out.cell (World.block_lt_of_cell? w _ hw293_2)).trans hw293_2)⟩ (fun hHeld => ?_); refine with_tabW darninglaw17_MergeBack.tab13 darninglaw17_MergeBack.bits13 (fun HT_ HW_ => ?_)
               generalize w39.drew = w58 at HO270 HO278 HO281 HO284 HO288 BK275 HB hx293_0 hx293_1 hx293_2 hHeld ⊢
               refine pure_ (i := 0) (N := some 108) (v := ?_) (a' := ?_) (onA 34 1) rfl rfl (any_of HT_.out (by kernel_rfl)) (fun _ _ _ h => h) (Or.inl ⟨by rfl, ?_⟩) ?_ ?_
               rotate_left
               ·
                intro w'
                go_simp
                with_reducible rfl
               rotate_left
               ·
                simp only [Act.put, List.setIfInBounds_toArray, List.set_cons_zero, List.set_cons_succ, i64_w, i32_w]
                rfl
               refine pure_ (i := 1) (N := some 109) (v := ?_) (a' := ?_) (onA 34 2) rfl rfl (any_of HT_.out (by kernel_rfl)) (fun _ _ _ h => h) (Or.inl ⟨by rfl, ?_⟩) ?_ ?_
               rotate_left
               ·
                intro w'
                go_simp
                with_reducible rfl
               rotate_left
               ·
                simp only [Act.put, List.setIfInBounds_toArray, List.set_cons_zero, List.set_cons_succ, i64_w, i32_w]
                rfl
               refine pure_ (i := 2) (N := some 110) (v := ?_) (a' := ?_) (onA 34 3) rfl rfl (any_of HT_.out (by kernel_rfl)) (fun _ _ _ h => h) (Or.inl ⟨by rfl, ?_⟩) ?_ ?_
               rotate_left
               ·
                intro w'
                go_simp
                with_reducible rfl
               rotate_left
               ·
                simp only [Act.put, List.setIfInBounds_toArray, List.set_cons_zero, List.set_cons_succ, i64_w, i32_w]
                rfl
               refine pure_ (i := 3) (N := some 111) (v := ?_) (a' := ?_) (onA 34 4) rfl rfl (any_of HT_.out (by kernel_rfl)) (fun _ _ _ h => h) (Or.inl ⟨by rfl, ?_⟩) ?_ ?_
               rotate_left
               ·
                intro w'
                go_simp
                with_reducible rfl
               rotate_left
               ·
                simp only [Act.put, List.setIfInBounds_toArray, List.set_cons_zero, List.set_cons_succ, i64_w, i32_w]
                rfl
               refine pure_ (i := 4) (N := some 112) (v := ?_) (a' := ?_) (onA 34 5) rfl rfl (any_of HT_.out (by kernel_rfl)) (fun _ _ _ h => h) (Or.inl ⟨by rfl, ?_⟩) ?_ ?_
               rotate_left
               ·
                intro w'
                go_simp
                with_reducible rfl
               rotate_left
               ·
                simp only [Act.put, List.setIfInBounds_toArray, List.set_cons_zero, List.set_cons_succ, i64_w, i32_w]
                rfl
               refine pure_ (i := 5) (N := some 113) (v := ?_) (a' := ?_) (onA 34 6) rfl rfl (any_of HT_.out (by kernel_rfl)) (fun _ _ _ h => h) (Or.inl ⟨by rfl, ?_⟩) ?_ ?_
               rotate_left
               ·
                intro w'
                go_simp
                with_reducible rfl
               rotate_left
               ·
                simp only [Act.put, List.setIfInBounds_toArray, List.set_cons_zero, List.set_cons_succ, i64_w, i32_w]
                rfl
               refine pure_ (i := 6) (N := some 114) (v := ?_) (a' := ?_) (onA 34 7) rfl rfl (any_of HT_.out (by kernel_rfl)) (fun _ _ _ h => h) (Or.inl ⟨by rfl, ?_⟩) ?_ ?_
               rotate_left
               ·
                intro w'
                go_simp
                with_reducible rfl
               rotate_left
               ·
                simp only [Act.put, List.setIfInBounds_toArray, List.set_cons_zero, List.set_cons_succ, i64_w, i32_w]
                rfl
               refine pure_ (i := 7) (N := some 115) (v := ?_) (a' := ?_) (onA 34 8) rfl rfl (any_of HT_.out (by kernel_rfl)) (fun _ _ _ h => h) (Or.inl ⟨by rfl, ?_⟩) ?_ ?_
               rotate_left
               ·
                intro w'
                go_simp
                with_reducible rfl
               rotate_left
               ·
                simp only [Act.put, List.setIfInBounds_toArray, List.set_cons_zero, List.set_cons_succ, i64_w, i32_w]
                rfl
               refine pure_ (i := 8) (N := some 116) (v := ?_) (a' := ?_) (onA 34 9) rfl rfl (any_of HT_.out (by kernel_rfl)) (fun _ _ _ h => h) (Or.inl ⟨by rfl, ?_⟩) ?_ ?_
               rotate_left
               ·
                intro w'
                go_simp
                with_reducible rfl
               rotate_left
               ·
                simp only [Act.put, List.setIfInBounds_toArray, List.set_cons_zero, List.set_cons_succ, i64_w, i32_w]
                rfl
               refine pure_ (i := 9) (N := some 117) (v := ?_) (a' := ?_) (onA 34 10) rfl rfl (any_of HT_.out (by kernel_rfl)) (fun _ _ _ h => h) (Or.inl ⟨by rfl, ?_⟩) ?_ ?_
               rotate_left
               ·
                intro w'
                go_simp
                with_reducible rfl
               rotate_left
               ·
                simp only [Act.put, List.setIfInBounds_toArray, List.set_cons_zero, List.set_cons_succ, i64_w, i32_w]
                rfl
               refine one_ (i := 10) (N := some 118) (onA 34 11) rfl rfl (one_of HT_.out (by kernel_rfl)) (by decide) (fun K hK => ?_)
               refine goes_ Try.func19 (by kernel_rfl) rfl #[.slice Ao59 t285.length co59, .slice Ao60 t268.length co60] (by rfl) rfl rfl (by (try simp only [List.map_toArray, List.map_cons, List.map_nil]); first | done | rfl | (simp only [List.length_drop, List.length_take]; rfl)) ?_
               with_reducible refine (darningref4_SameBlocks.calls kj4 _ _ t285 _ _ t268 true _ ?side1 ?side2 ?side3 ?side4 A43.out).mono ?_
               (case side1 => repeat (first | exact (Kd.R_reads' HO288.out).2.2 | (with_reducible refine Kd.C_alloc ?_ _) | (with_reducible refine Kd.C_drewN ?_ _) | (with_reducible refine Kd.C_drew ?_)))
               (case side2 => exact (Kd.R_reads' HO288.out).2.1)
               (case side3 => repeat (first | exact (Kd.R_reads' HO270.out).2.2 | (with_reducible refine Kd.C_alloc ?_ _) | (with_reducible refine Kd.C_drewN ?_ _) | (with_reducible refine Kd.C_drew ?_)))
               (case side4 => exact (Kd.R_reads' HO270.out).2.1)
               rintro e w' ⟨rfl, ⟨nd, rfl⟩⟩
               refine ⟨_, rfl, ?_⟩
               refine hK.out _ _ ⟨((HB.out.cell (World.block_lt_of_cell? w _ hw293_0)).trans hw293_0), ((HB.out.cell (World.block_lt_of_cell? w _ hw293_1)).trans hw293_1), ((HB.out.cell (World.block_lt_of_cell? w _ hw293_2)).trans hw293_2)⟩ (fun hHeld => ?_)
               clear hK K
               refine norm_ (a' := ?_) ?_ ?_
               rotate_left
               ·
                show Act.put _ (some 118) _ = _
                simp only [Act.put, List.setIfInBounds_toArray, List.set_cons_zero, List.set_cons_succ, i64_w, i32_w]
                rfl
               refine pure_ (i := 11) (N := some 119) (v := ?_) (a' := ?_) (onA 34 12) rfl rfl (any_of HT_.out (by kernel_rfl)) (fun _ _ _ h => h) (Or.inl ⟨by rfl, ?_⟩) ?_ ?_
               rotate_left
               ·
                intro w'
                go_simp
                with_reducible rfl
               rotate_left
               ·
                simp only [Act.put, List.setIfInBounds_toArray, List.set_cons_zero, List.set_cons_succ, i64_w, i32_w]
                rfl
               refine pure_ (i := 12) (N := some 120) (v := ?_) (a' := ?_) (onA 34 13) rfl rfl (any_of HT_.out (by kernel_rfl)) (fun _ _ _ h => h) (Or.inl ⟨by rfl, ?_⟩) ?_ ?_
               rotate_left
               ·
                intro w'
                go_simp
                with_reducible rfl
               rotate_left
               ·
                simp only [Act.put, List.setIfInBounds_toArray, List.set_cons_zero, List.set_cons_succ, i64_w, i32_w]
                rfl
               refine pure_ (i := 13) (N := some 121) (v := ?_) (a' := ?_) (onA 34 14) rfl rfl (any_of HT_.out (by kernel_rfl)) (fun _ _ _ h => h) (Or.inl ⟨by rfl, ?_⟩) ?_ ?_
               rotate_left
               ·
                intro w'
                go_simp
                with_reducible rfl
               rotate_left
               ·
                simp only [Act.put, List.setIfInBounds_toArray, List.set_cons_zero, List.set_cons_succ, i64_w, i32_w]
                rfl
               refine pure_ (i := 14) (N := some 122) (v := ?_) (a' := ?_) (onA 34 15) rfl rfl (any_of HT_.out (by kernel_rfl)) (fun _ _ _ h => h) (Or.inl ⟨by rfl, ?_⟩) ?_ ?_
               rotate_left
               ·
                intro w'
                go_simp
                with_reducible rfl
               rotate_left
               ·
                simp only [Act.put, List.setIfInBounds_toArray, List.set_cons_zero, List.set_cons_succ, i64_w, i32_w]
                rfl
               refine one_ (i := 15) (N := some 123) (onA 34 16) rfl rfl (one_of HT_.out (by kernel_rfl)) (by decide) (fun K hK => ?_)
               refine goes_ Try.func36 (by kernel_rfl) rfl #[.slice Ao60 t268.length co60, .int .i64 a1] (by rfl) rfl rfl (by (try simp only [List.map_toArray, List.map_cons, List.map_nil]); first | done | rfl | (simp only [List.length_drop, List.length_take]; rfl)) ?_
               with_reducible refine (chain_May.calls kj4 _ _ t268 a1 true _ ?side1 ?side2 A45.out).mono ?_
               (case side1 => repeat (first | exact (Kd.R_reads' HO270.out).2.2 | (with_reducible refine Kd.C_alloc ?_ _) | (with_reducible refine Kd.C_drewN ?_ _) | (with_reducible refine Kd.C_drew ?_)))
               (case side2 => exact (Kd.R_reads' HO270.out).2.1)
               rintro e w61 ⟨rfl, hb⟩
               refine ⟨_, rfl, ?_⟩
               have n0_ := Aside0.mk (Kd.R_below (by (with_reducible repeat (first | apply Kd.R_alloc | apply Kd.R_drewN | apply Kd.R_drew)); exact HO270.out) hb)
               have n1_ := Aside0.mk (Kd.R_below (by (with_reducible repeat (first | apply Kd.R_alloc | apply Kd.R_drewN | apply Kd.R_drew)); exact HO278.out) hb)
               have n2_ := Aside0.mk (Kd.R_below (by (with_reducible repeat (first | apply Kd.R_alloc | apply Kd.R_drewN | apply Kd.R_drew)); exact HO281.out) hb)
               have n3_ := Aside0.mk (Kd.R_below (by (with_reducible repeat (first | apply Kd.R_alloc | apply Kd.R_drewN | apply Kd.R_drew)); exact HO284.out) hb)
               have n4_ := Aside0.mk (Kd.R_below (by (with_reducible repeat (first | apply Kd.R_alloc | apply Kd.R_drewN | apply Kd.R_drew)); exact HO288.out) hb)
               have n5_ := Aside0.mk (blk_below (g := gb275) (o := .cells #[.int .i64 t272, .int .u64 t273] 30 (0, 0)) (by (with_reducible repeat (first | refine blk_drewN ?_ _ | refine blk_drew ?_ | refine blk_alloc ?_ _)); exact BK275.out) hb)
               have n6_ := Aside0.mk (below_step (by repeat (first | (with_reducible first | exact HB.out | apply below_alloc | apply pw_below_drewN | apply below_drew1 | refine below_set ?_ GE275.out) | exact HB.out)) hb)
               clear HO270
               clear HO278
               clear HO281
               clear HO284
               clear HO288
               clear BK275
               clear HB
               have HO270 := n0_
               have HO278 := n1_
               have HO281 := n2_
               have HO284 := n3_
               have HO288 := n4_
               have BK275 := n5_
               have HB := n6_
               clear n0_ n1_ n2_ n3_ n4_ n5_ n6_
               (try clear hb)
               (try clear hb2)
               (try clear hk)
               (try clear hi)
               refine hK.out _ _ ⟨((HB.out.cell (World.block_lt_of_cell? w _ hw293_0)).trans hw293_0), ((HB.out.cell (World.block_lt_of_cell? w _ hw293_1)).trans hw293_1), ((HB.out.cell (World.block_lt_of_cell? w _ hw293_2)).trans hw293_2)⟩ (fun hHeld => ?_)
               clear hK K
               refine norm_ (a' := ?_) ?_ ?_
               rotate_left
               ·
                show Act.put _ (some 123) _ = _
                simp only [Act.put, List.setIfInBounds_toArray, List.set_cons_zero, List.set_cons_succ, i64_w, i32_w]
                rfl
               refine pure_ (i := 16) (N := some 124) (v := ?_) (a' := ?_) (onA 34 17) rfl rfl (any_of HT_.out (by kernel_rfl)) (fun _ _ _ h => h) (Or.inl ⟨by rfl, ?_⟩) ?_ ?_
               rotate_left
               ·
                intro w'
                go_simp
                with_reducible rfl
               rotate_left
               ·
                simp only [Act.put, List.setIfInBounds_toArray, List.set_cons_zero, List.set_cons_succ, i64_w, i32_w]
                rfl
               refine pure_ (i := 17) (N := some 125) (v := ?_) (a' := ?_) (onA 34 18) rfl rfl (any_of HT_.out (by kernel_rfl)) (fun _ _ _ h => h) (Or.inl ⟨by rfl, ?_⟩) ?_ ?_
               rotate_left
               ·
                intro w'
                go_simp
                with_reducible rfl
               rotate_left
               ·
                simp only [Act.put, List.setIfInBounds_toArray, List.set_cons_zero, List.set_cons_succ, i64_w, i32_w]
                rfl
               refine pure_ (i := 18) (N := some 126) (v := ?_) (a' := ?_) (onA 34 19) rfl rfl (any_of HT_.out (by kernel_rfl)) (fun _ _ _ h => h) (Or.inl ⟨by rfl, ?_⟩) ?_ ?_
               rotate_left
               ·
                intro w'
                go_simp
                with_reducible rfl
               rotate_left
               ·
                simp only [Act.put, List.setIfInBounds_toArray, List.set_cons_zero, List.set_cons_succ, i64_w, i32_w]
                rfl
               refine pure_ (i := 20) (N := some 128) (v := ?_) (a' := ?_) #[tt_, tt_, tt_, tt_, tt_, tt_, tt_, tt_, tt_, tt_, tt_, tt_, tt_, tt_, tt_, tt_, tt_, tt_, tt_, ff_, tt_, ff_, ff_, ff_, ff_, ff_, ff_, ff_, ff_, ff_, ff_, ff_, ff_, ff_] rfl rfl (any_of HT_.out (by kernel_rfl)) (fun _ _ _ h => h) (Or.inl ⟨by rfl, ?_⟩) ?_ ?_
               rotate_left
               ·
                intro w'
                go_simp
                with_reducible rfl
               rotate_left
               ·
                simp only [Act.put, List.setIfInBounds_toArray, List.set_cons_zero, List.set_cons_succ, i64_w, i32_w]
                rfl
               refine pure_ (i := 22) (N := some 130) (v := ?_) (a' := ?_) #[tt_, tt_, tt_, tt_, tt_, tt_, tt_, tt_, tt_, tt_, tt_, tt_, tt_, tt_, tt_, tt_, tt_, tt_, tt_, ff_, tt_, ff_, tt_, ff_, ff_, ff_, ff_, ff_, ff_, ff_, ff_, ff_, ff_, ff_] rfl rfl (any_of HT_.out (by kernel_rfl)) (fun _ _ _ h => h) (Or.inl ⟨by rfl, ?_⟩) ?_ ?_
               rotate_left
               ·
                intro w'
                go_simp
                with_reducible rfl
               rotate_left
               ·
                simp only [Act.put, List.setIfInBounds_toArray, List.set_cons_zero, List.set_cons_succ, i64_w, i32_w]
                rfl
               refine pure_ (i := 23) (N := some 131) (v := ?_) (a' := ?_) #[tt_, tt_, tt_, tt_, tt_, tt_, tt_, tt_, tt_, tt_, tt_, tt_, tt_, tt_, tt_, tt_, tt_, tt_, tt_, ff_, tt_, ff_, tt_, tt_, ff_, ff_, ff_, ff_, ff_, ff_, ff_, ff_, ff_, ff_] rfl rfl (any_of HT_.out (by kernel_rfl)) (fun _ _ _ h => h) (Or.inl ⟨by rfl, ?_⟩) ?_ ?_
               rotate_left
               ·
                intro w'
                go_simp
                with_reducible rfl
               rotate_left
               ·
                simp only [Act.put, List.setIfInBounds_toArray, List.set_cons_zero, List.set_cons_succ, i64_w, i32_w]
                rfl
               refine pure_ (i := 24) (N := some 132) (v := ?_) (a' := ?_) #[tt_, tt_, tt_, tt_, tt_, tt_, tt_, tt_, tt_, tt_, tt_, tt_, tt_, tt_, tt_, tt_, tt_, tt_, tt_, ff_, tt_, ff_, tt_, tt_, tt_, ff_, ff_, ff_, ff_, ff_, ff_, ff_, ff_, ff_] rfl rfl (any_of HT_.out (by kernel_rfl)) (fun _ _ _ h => h) (Or.inl ⟨by rfl, ?_⟩) ?_ ?_
               rotate_left
               ·
                intro w'
                go_simp
                with_reducible rfl
               rotate_left
               ·
                simp only [Act.put, List.setIfInBounds_toArray, List.set_cons_zero, List.set_cons_succ, i64_w, i32_w]
                rfl
               refine pure_ (i := 25) (N := some 133) (v := ?_) (a' := ?_) #[tt_, tt_, tt_, tt_, tt_, tt_, tt_, tt_, tt_, tt_, tt_, tt_, tt_, tt_, tt_, tt_, tt_, tt_, tt_, ff_, tt_, ff_, tt_, tt_, tt_, tt_, ff_, ff_, ff_, ff_, ff_, ff_, ff_, ff_] rfl rfl (any_of HT_.out (by kernel_rfl)) (fun _ _ _ h => h) (Or.inl ⟨by rfl, ?_⟩) ?_ ?_
               rotate_left
               ·
                intro w'
                go_simp
                with_reducible rfl
               rotate_left
               ·
                simp only [Act.put, List.setIfInBounds_toArray, List.set_cons_zero, List.set_cons_succ, i64_w, i32_w]
                rfl
               refine take_ (i := 26) (N := some 134) (v := ?_) (a' := ?_) #[tt_, tt_, tt_, tt_, tt_, tt_, tt_, tt_, tt_, tt_, tt_, tt_, tt_, tt_, tt_, tt_, tt_, tt_, tt_, ff_, tt_, ff_, tt_, tt_, tt_, tt_, tt_, ff_, ff_, ff_, ff_, ff_, ff_, ff_] rfl rfl (take_ofW HT_.out HW_.out (by kernel_rfl)) (fun _ _ _ h => h) (Or.inl ⟨by rfl, ?_⟩) hHeld ?_ ?_
               rotate_left
               ·
                rintro w' ⟨s0, s1, s2⟩
                go_simp
                with_reducible rfl
               rotate_left
               ·
                simp only [Act.put, List.setIfInBounds_toArray, List.set_cons_zero, List.set_cons_succ, i64_w, i32_w]
                rfl
               refine one_ (i := 19) (N := some 127) #[tt_, tt_, tt_, tt_, tt_, tt_, tt_, tt_, tt_, tt_, tt_, tt_, tt_, tt_, tt_, tt_, tt_, tt_, tt_, tt_, tt_, ff_, tt_, tt_, tt_, tt_, tt_, ff_, ff_, ff_, ff_, ff_, ff_, ff_] rfl rfl (one_of HT_.out (by kernel_rfl)) (by decide) (fun K hK => ?_)
               refine goes_ Try.func37 (by kernel_rfl) rfl #[.slice Ao60 t268.length co60] (by rfl) rfl rfl (by (try simp only [List.map_toArray, List.map_cons, List.map_nil]); first | done | rfl | (simp only [List.length_drop, List.length_take]; rfl)) ?_
               with_reducible refine (chain_Free.calls kj4 _ _ t268 t291 _ ?side1 ?side2 A47.out).mono ?_
               (case side1 => repeat (first | exact (Kd.R_reads' HO270.out).2.2 | (with_reducible refine Kd.C_alloc ?_ _) | (with_reducible refine Kd.C_drewN ?_ _) | (with_reducible refine Kd.C_drew ?_)))
               (case side2 => exact (Kd.R_reads' HO270.out).2.1)
               rintro e w62 ⟨rfl, hb⟩
               refine ⟨_, rfl, ?_⟩
               have n0_ := Aside0.mk (Kd.R_below (by (with_reducible repeat (first | apply Kd.R_alloc | apply Kd.R_drewN | apply Kd.R_drew)); exact HO270.out) hb)
               have n1_ := Aside0.mk (Kd.R_below (by (with_reducible repeat (first | apply Kd.R_alloc | apply Kd.R_drewN | apply Kd.R_drew)); exact HO278.out) hb)
               have n2_ := Aside0.mk (Kd.R_below (by (with_reducible repeat (first | apply Kd.R_alloc | apply Kd.R_drewN | apply Kd.R_drew)); exact HO281.out) hb)
               have n3_ := Aside0.mk (Kd.R_below (by (with_reducible repeat (first | apply Kd.R_alloc | apply Kd.R_drewN | apply Kd.R_drew)); exact HO284.out) hb)
               have n4_ := Aside0.mk (Kd.R_below (by (with_reducible repeat (first | apply Kd.R_alloc | apply Kd.R_drewN | apply Kd.R_drew)); exact HO288.out) hb)
               have n5_ := Aside0.mk (blk_below (g := gb275) (o := .cells #[.int .i64 t272, .int .u64 t273] 30 (0, 0)) (by (with_reducible repeat (first | refine blk_drewN ?_ _ | refine blk_drew ?_ | refine blk_alloc ?_ _)); exact BK275.out) hb)
               have n6_ := Aside0.mk (below_step (by repeat (first | (with_reducible first | exact HB.out | apply below_alloc | apply pw_below_drewN | apply below_drew1 | refine below_set ?_ GE275.out) | exact HB.out)) hb)
               clear HO270
               clear HO278
               clear HO281
               clear HO284
               clear HO288
               clear BK275
               clear HB
               have HO270 := n0_
               have HO278 := n1_
               have HO281 := n2_
               have HO284 := n3_
               have HO288 := n4_
               have BK275 := n5_
               have HB := n6_
               clear n0_ n1_ n2_ n3_ n4_ n5_ n6_
               (try clear hb)
               (try clear hb2)
               (try clear hk)
               (try clear hi)
               refine hK.out _ _ ⟨((HB.out.cell (World.block_lt_of_cell? w _ hw293_0)).trans hw293_0), ((HB.out.cell (World.block_lt_of_cell? w _ hw293_1)).trans hw293_1), ((HB.out.cell (World.block_lt_of_cell? w _ hw293_2)).trans hw293_2)⟩ (fun hHeld => ?_)
               clear hK K
               refine norm_ (a' := ?_) ?_ ?_
               rotate_left
               ·
                show Act.put _ (some 127) _ = _
                simp only [Act.put, List.setIfInBounds_toArray, List.set_cons_zero, List.set_cons_succ, i64_w, i32_w]
                rfl
               refine one_ (i := 21) (N := some 129) (onA 34 27) rfl rfl (one_of HT_.out (by kernel_rfl)) (by decide) (fun K hK => ?_)
               refine goes_ Try.func37 (by kernel_rfl) rfl #[.slice (some ad255) l0.length c0] (by rfl) rfl rfl (by (try simp only [List.map_toArray, List.map_cons, List.map_nil]); first | done | rfl | (simp only [List.length_drop, List.length_take]; rfl)) ?_
               with_reducible refine (chain_Free.calls kj4 _ _ l0 t292 _ ?side1 ?side2 A48.out).mono ?_
               (case side1 => repeat (first | exact (Kd.C_below HR0.out HB.out) | (with_reducible refine Kd.C_alloc ?_ _) | (with_reducible refine Kd.C_drewN ?_ _) | (with_reducible refine Kd.C_drew ?_)))
               (case side2 => exact HC0.out)
               rintro e w63 ⟨rfl, hb⟩
               refine ⟨_, rfl, ?_⟩
               have n0_ := Aside0.mk (Kd.R_below (by (with_reducible repeat (first | apply Kd.R_alloc | apply Kd.R_drewN | apply Kd.R_drew)); exact HO270.out) hb)
               have n1_ := Aside0.mk (Kd.R_below (by (with_reducible repeat (first | apply Kd.R_alloc | apply Kd.R_drewN | apply Kd.R_drew)); exact HO278.out) hb)
               have n2_ := Aside0.mk (Kd.R_below (by (with_reducible repeat (first | apply Kd.R_alloc | apply Kd.R_drewN | apply Kd.R_drew)); exact HO281.out) hb)
               have n3_ := Aside0.mk (Kd.R_below (by (with_reducible repeat (first | apply Kd.R_alloc | apply Kd.R_drewN | apply Kd.R_drew)); exact HO284.out) hb)
               have n4_ := Aside0.mk (Kd.R_below (by (with_reducible repeat (first | apply Kd.R_alloc | apply Kd.R_drewN | apply Kd.R_drew)); exact HO288.out) hb)
               have n5_ := Aside0.mk (blk_below (g := gb275) (o := .cells #[.int .i64 t272, .int .u64 t273] 30 (0, 0)) (by (with_reducible repeat (first | refine blk_drewN ?_ _ | refine blk_drew ?_ | refine blk_alloc ?_ _)); exact BK275.out) hb)
               have n6_ := Aside0.mk (below_step (by repeat (first | (with_reducible first | exact HB.out | apply below_alloc | apply pw_below_drewN | apply below_drew1 | refine below_set ?_ GE275.out) | exact HB.out)) hb)
               clear HO270
               clear HO278
               clear HO281
               clear HO284
               clear HO288
               clear BK275
               clear HB
               have HO270 := n0_
               have HO278 := n1_
               have HO281 := n2_
               have HO284 := n3_
               have HO288 := n4_
               have BK275 := n5_
               have HB := n6_
               clear n0_ n1_ n2_ n3_ n4_ n5_ n6_
               (try clear hb)
               (try clear hb2)
               (try clear hk)
               (try clear hi)
               refine hK.out _ _ ⟨((HB.out.cell (World.block_lt_of_cell? w _ hw293_0)).trans hw293_0), ((HB.out.cell (World.block_lt_of_cell? w _ hw293_1)).trans hw293_1), ((HB.out.cell (World.block_lt_of_cell? w _ hw293_2)).trans hw293_2)⟩ (fun hHeld => ?_)
               clear hK K
               refine norm_ (a' := ?_) ?_ ?_
               rotate_left
               ·
                show Act.put _ (some 129) _ = _
                simp only [Act.put, List.setIfInBounds_toArray, List.set_cons_zero, List.set_cons_succ, i64_w, i32_w]
                rfl
               refine pure_ (i := 27) (N := some 135) (v := ?_) (a' := ?_) (onA 34 28) rfl rfl (any_of HT_.out (by kernel_rfl)) (fun _ _ _ h => h) (Or.inl ⟨by rfl, ?_⟩) ?_ ?_
               rotate_left
               ·
                intro w'
                go_simp
                with_reducible rfl
               rotate_left
               ·
                simp only [Act.put, List.setIfInBounds_toArray, List.set_cons_zero, List.set_cons_succ, i64_w, i32_w]
                rfl
               refine pure_ (i := 28) (N := some 136) (v := ?_) (a' := ?_) (onA 34 29) rfl rfl (any_of HT_.out (by kernel_rfl)) (fun _ _ _ h => h) (Or.inl ⟨by rfl, ?_⟩) ?_ ?_
               rotate_left
               ·
                intro w'
                go_simp
                with_reducible rfl
               rotate_left
               ·
                simp only [Act.put, List.setIfInBounds_toArray, List.set_cons_zero, List.set_cons_succ, i64_w, i32_w]
                rfl
               refine pure_ (i := 29) (N := some 137) (v := ?_) (a' := ?_) (onA 34 30) rfl rfl (any_of HT_.out (by kernel_rfl)) (fun _ _ _ h => h) (Or.inl ⟨by rfl, ?_⟩) ?_ ?_
               rotate_left
               ·
                intro w'
                go_simp
                with_reducible rfl
               rotate_left
               ·
                simp only [Act.put, List.setIfInBounds_toArray, List.set_cons_zero, List.set_cons_succ, i64_w, i32_w]
                rfl
               refine pure_ (i := 30) (N := some 138) (v := ?_) (a' := ?_) (onA 34 31) rfl rfl (any_of HT_.out (by kernel_rfl)) (fun _ _ _ h => h) (Or.inl ⟨by rfl, ?_⟩) ?_ ?_
               rotate_left
               ·
                intro w'
                go_simp
                with_reducible rfl
               rotate_left
               ·
                simp only [Act.put, List.setIfInBounds_toArray, List.set_cons_zero, List.set_cons_succ, i64_w, i32_w]
                rfl
               refine pure_ (i := 31) (N := some 139) (v := undef) (a' := ?_) (onA 34 32) rfl rfl (any_of HT_.out (by kernel_rfl)) (fun _ _ _ h => h) (Or.inr ⟨by rfl, rfl⟩) ?_ ?_
               rotate_left
               ·
                simp only [Act.put, List.setIfInBounds_toArray, List.set_cons_zero, List.set_cons_succ, i64_w, i32_w]
                rfl
               refine pure_ (i := 32) (N := some 140) (v := ?_) (a' := ?_) (onA 34 33) rfl rfl (any_of HT_.out (by kernel_rfl)) (fun _ _ _ h => h) (Or.inl ⟨by rfl, ?_⟩) ?_ ?_
               rotate_left
               ·
                intro w'
                go_simp
                with_reducible rfl
               rotate_left
               ·
                simp only [Act.put, List.setIfInBounds_toArray, List.set_cons_zero, List.set_cons_succ, i64_w, i32_w]
                rfl
               refine pure_ (i := 33) (N := some 8) (v := ?_) (a' := ?_) (onA 34 34) rfl rfl (any_of HT_.out (by kernel_rfl)) (fun _ _ _ h => h) (Or.inl ⟨by rfl, ?_⟩) ?_ ?_
               rotate_left
               ·
                intro w'
                go_simp
                with_reducible rfl
               rotate_left
               ·
                simp only [Act.put, List.setIfInBounds_toArray, List.set_cons_zero, List.set_cons_succ, i64_w, i32_w]
                rfl
               refine done_ (done_of HT_.out (by kernel_rfl)) ?_
               try go_wp2
               go_meet
               case rel => (try simp only [← Nbq17.out]); exact ⟨_, (false), (by first | rfl | (simp; done) | (simp [*]; done)), H', ⟨by have := HJ4.out; first | omega | exact Nat.le_refl _⟩, ⟨by (with_reducible repeat (first | refine blk_drewN ?_ _ | refine blk_drew ?_ | refine blk_alloc ?_ _)); exact BK275.out⟩, ⟨by repeat (first | (with_reducible first | exact HB.out | apply below_alloc | apply pw_below_drewN | apply below_drew1 | refine below_set ?_ GE275.out) | exact HB.out)⟩⟩
             ·
              replace c46 := Bool.eq_false_iff.mpr c46
              subst c46
              have H1 : (darninglaw17_MergeBack.j2 kj4 false) = some r := by rw [if_neg (show ¬ (false = true) by decide)] at H; exact H
              clear H
              have H := H1
              clear H1
              have H' := Aside0.mk H
              clear H
              try go_wp2
              have n0_ := Aside0.mk (Kd.R_drew HO270.out)
              have n1_ := Aside0.mk (Kd.R_drew HO278.out)
              have n2_ := Aside0.mk (Kd.R_drew HO281.out)
              have n3_ := Aside0.mk (Kd.R_drew HO284.out)
              have n4_ := Aside0.mk (Kd.R_drew HO288.out)
              have n5_ := Aside0.mk (blk_drew BK275.out)
              have n6_ := Aside0.mk (below_drew1 HB.out)
              clear HO270
              clear HO278
              clear HO281
              clear HO284
              clear HO288
              clear BK275
              clear HB
              have HO270 := n0_
              have HO278 := n1_
              have HO281 := n2_
              have HO284 := n3_
              have HO288 := n4_
              have BK275 := n5_
              have HB := n6_
              clear n0_ n1_ n2_ n3_ n4_ n5_ n6_
              obtain ⟨Ao65, co65, eo65⟩ := Kd.R_slice HO288.out
              (first | subst eo65 | (injection eo65 with f1_ f2_ f3_; have f4_ := f1_.symm; have f5_ := f3_.symm; clear f1_ f2_ f3_; subst f4_; subst f5_))
              obtain ⟨Ao66, co66, eo66⟩ := Kd.R_slice HO270.out
              (first | subst eo66 | (injection eo66 with f1_ f2_ f3_; have f4_ := f1_.symm; have f5_ := f3_.symm; clear f1_ f2_ f3_; subst f4_; subst f5_))
              refine start_ (n := 34) (S := fun w' => True) (ds := []) (onA 34 0) (by kernel_rfl) rfl rfl trivial (fun hHeld => ?_); refine with_tabW darninglaw17_MergeBack.tab13 darninglaw17_MergeBack.bits13 (fun HT_ HW_ => ?_)
              generalize w39.drew = w64 at HO270 HO278 HO281 HO284 HO288 BK275 HB hHeld ⊢
              refine pure_ (i := 0) (N := some 108) (v := ?_) (a' := ?_) (onA 34 1) rfl rfl (any_of HT_.out (by kernel_rfl)) (fun _ _ _ h => h) (Or.inl ⟨by rfl, ?_⟩) ?_ ?_
              rotate_left
              ·
               intro w'
               go_simp
               with_reducible rfl
              rotate_left
              ·
               simp only [Act.put, List.setIfInBounds_toArray, List.set_cons_zero, List.set_cons_succ, i64_w, i32_w]
               rfl
              refine pure_ (i := 1) (N := some 109) (v := ?_) (a' := ?_) (onA 34 2) rfl rfl (any_of HT_.out (by kernel_rfl)) (fun _ _ _ h => h) (Or.inl ⟨by rfl, ?_⟩) ?_ ?_
              rotate_left
              ·
               intro w'
               go_simp
               with_reducible rfl
              rotate_left
              ·
               simp only [Act.put, List.setIfInBounds_toArray, List.set_cons_zero, List.set_cons_succ, i64_w, i32_w]
               rfl
              refine pure_ (i := 2) (N := some 110) (v := ?_) (a' := ?_) (onA 34 3) rfl rfl (any_of HT_.out (by kernel_rfl)) (fun _ _ _ h => h) (Or.inl ⟨by rfl, ?_⟩) ?_ ?_
              rotate_left
              ·
               intro w'
               go_simp
               with_reducible rfl
              rotate_left
              ·
               simp only [Act.put, List.setIfInBounds_toArray, List.set_cons_zero, List.set_cons_succ, i64_w, i32_w]
               rfl
              refine pure_ (i := 3) (N := some 111) (v := ?_) (a' := ?_) (onA 34 4) rfl rfl (any_of HT_.out (by kernel_rfl)) (fun _ _ _ h => h) (Or.inl ⟨by rfl, ?_⟩) ?_ ?_
              rotate_left
              ·
               intro w'
               go_simp
               with_reducible rfl
              rotate_left
              ·
               simp only [Act.put, List.setIfInBounds_toArray, List.set_cons_zero, List.set_cons_succ, i64_w, i32_w]
               rfl
              refine pure_ (i := 4) (N := some 112) (v := ?_) (a' := ?_) (onA 34 5) rfl rfl (any_of HT_.out (by kernel_rfl)) (fun _ _ _ h => h) (Or.inl ⟨by rfl, ?_⟩) ?_ ?_
              rotate_left
              ·
               intro w'
               go_simp
               with_reducible rfl
              rotate_left
              ·
               simp only [Act.put, List.setIfInBounds_toArray, List.set_cons_zero, List.set_cons_succ, i64_w, i32_w]
               rfl
              refine pure_ (i := 5) (N := some 113) (v := ?_) (a' := ?_) (onA 34 6) rfl rfl (any_of HT_.out (by kernel_rfl)) (fun _ _ _ h => h) (Or.inl ⟨by rfl, ?_⟩) ?_ ?_
              rotate_left
              ·
               intro w'
               go_simp
               with_reducible rfl
              rotate_left
              ·
               simp only [Act.put, List.setIfInBounds_toArray, List.set_cons_zero, List.set_cons_succ, i64_w, i32_w]
               rfl
              refine pure_ (i := 6) (N := some 114) (v := ?_) (a' := ?_) (onA 34 7) rfl rfl (any_of HT_.out (by kernel_rfl)) (fun _ _ _ h => h) (Or.inl ⟨by rfl, ?_⟩) ?_ ?_
              rotate_left
              ·
               intro w'
               go_simp
               with_reducible rfl
              rotate_left
              ·
               simp only [Act.put, List.setIfInBounds_toArray, List.set_cons_zero, List.set_cons_succ, i64_w, i32_w]
               rfl
              refine pure_ (i := 7) (N := some 115) (v := ?_) (a' := ?_) (onA 34 8) rfl rfl (any_of HT_.out (by kernel_rfl)) (fun _ _ _ h => h) (Or.inl ⟨by rfl, ?_⟩) ?_ ?_
              rotate_left
              ·
               intro w'
               go_simp
               with_reducible rfl
              rotate_left
              ·
               simp only [Act.put, List.setIfInBounds_toArray, List.set_cons_zero, List.set_cons_succ, i64_w, i32_w]
               rfl
              refine pure_ (i := 8) (N := some 116) (v := ?_) (a' := ?_) (onA 34 9) rfl rfl (any_of HT_.out (by kernel_rfl)) (fun _ _ _ h => h) (Or.inl ⟨by rfl, ?_⟩) ?_ ?_
              rotate_left
              ·
               intro w'
               go_simp
               with_reducible rfl
              rotate_left
              ·
               simp only [Act.put, List.setIfInBounds_toArray, List.set_cons_zero, List.set_cons_succ, i64_w, i32_w]
               rfl
              refine pure_ (i := 9) (N := some 117) (v := ?_) (a' := ?_) (onA 34 10) rfl rfl (any_of HT_.out (by kernel_rfl)) (fun _ _ _ h => h) (Or.inl ⟨by rfl, ?_⟩) ?_ ?_
              rotate_left
              ·
               intro w'
               go_simp
               with_reducible rfl
              rotate_left
              ·
               simp only [Act.put, List.setIfInBounds_toArray, List.set_cons_zero, List.set_cons_succ, i64_w, i32_w]
               rfl
              refine one_ (i := 10) (N := some 118) (onA 34 11) rfl rfl (one_of HT_.out (by kernel_rfl)) (by decide) (fun K hK => ?_)
              refine goes_ Try.func19 (by kernel_rfl) rfl #[.slice Ao65 t285.length co65, .slice Ao66 t268.length co66] (by rfl) rfl rfl (by (try simp only [List.map_toArray, List.map_cons, List.map_nil]); first | done | rfl | (simp only [List.length_drop, List.length_take]; rfl)) ?_
              with_reducible refine (darningref4_SameBlocks.calls kj4 _ _ t285 _ _ t268 true _ ?side1 ?side2 ?side3 ?side4 A43.out).mono ?_
              (case side1 => repeat (first | exact (Kd.R_reads' HO288.out).2.2 | (with_reducible refine Kd.C_alloc ?_ _) | (with_reducible refine Kd.C_drewN ?_ _) | (with_reducible refine Kd.C_drew ?_)))
              (case side2 => exact (Kd.R_reads' HO288.out).2.1)
              (case side3 => repeat (first | exact (Kd.R_reads' HO270.out).2.2 | (with_reducible refine Kd.C_alloc ?_ _) | (with_reducible refine Kd.C_drewN ?_ _) | (with_reducible refine Kd.C_drew ?_)))
              (case side4 => exact (Kd.R_reads' HO270.out).2.1)
              rintro e w' ⟨rfl, ⟨nd, rfl⟩⟩
              refine ⟨_, rfl, ?_⟩
              refine hK.out _ _ trivial (fun hHeld => ?_)
              clear hK K
              refine norm_ (a' := ?_) ?_ ?_
              rotate_left
              ·
               show Act.put _ (some 118) _ = _
               simp only [Act.put, List.setIfInBounds_toArray, List.set_cons_zero, List.set_cons_succ, i64_w, i32_w]
               rfl
              refine pure_ (i := 11) (N := some 119) (v := ?_) (a' := ?_) (onA 34 12) rfl rfl (any_of HT_.out (by kernel_rfl)) (fun _ _ _ h => h) (Or.inl ⟨by rfl, ?_⟩) ?_ ?_
              rotate_left
              ·
               intro w'
               go_simp
               with_reducible rfl
              rotate_left
              ·
               simp only [Act.put, List.setIfInBounds_toArray, List.set_cons_zero, List.set_cons_succ, i64_w, i32_w]
               rfl
              refine pure_ (i := 12) (N := some 120) (v := ?_) (a' := ?_) (onA 34 13) rfl rfl (any_of HT_.out (by kernel_rfl)) (fun _ _ _ h => h) (Or.inl ⟨by rfl, ?_⟩) ?_ ?_
              rotate_left
              ·
               intro w'
               go_simp
               with_reducible rfl
              rotate_left
              ·
               simp only [Act.put, List.setIfInBounds_toArray, List.set_cons_zero, List.set_cons_succ, i64_w, i32_w]
               rfl
              refine pure_ (i := 13) (N := some 121) (v := ?_) (a' := ?_) (onA 34 14) rfl rfl (any_of HT_.out (by kernel_rfl)) (fun _ _ _ h => h) (Or.inl ⟨by rfl, ?_⟩) ?_ ?_
              rotate_left
              ·
               intro w'
               go_simp
               with_reducible rfl
              rotate_left
              ·
               simp only [Act.put, List.setIfInBounds_toArray, List.set_cons_zero, List.set_cons_succ, i64_w, i32_w]
               rfl
              refine pure_ (i := 14) (N := some 122) (v := ?_) (a' := ?_) (onA 34 15) rfl rfl (any_of HT_.out (by kernel_rfl)) (fun _ _ _ h => h) (Or.inl ⟨by rfl, ?_⟩) ?_ ?_
              rotate_left
              ·
               intro w'
               go_simp
               with_reducible rfl
              rotate_left
              ·
               simp only [Act.put, List.setIfInBounds_toArray, List.set_cons_zero, List.set_cons_succ, i64_w, i32_w]
               rfl
              refine one_ (i := 15) (N := some 123) (onA 34 16) rfl rfl (one_of HT_.out (by kernel_rfl)) (by decide) (fun K hK => ?_)
              refine goes_ Try.func36 (by kernel_rfl) rfl #[.slice Ao66 t268.length co66, .int .i64 a1] (by rfl) rfl rfl (by (try simp only [List.map_toArray, List.map_cons, List.map_nil]); first | done | rfl | (simp only [List.length_drop, List.length_take]; rfl)) ?_
              with_reducible refine (chain_May.calls kj4 _ _ t268 a1 false _ ?side1 ?side2 A45.out).mono ?_
              (case side1 => repeat (first | exact (Kd.R_reads' HO270.out).2.2 | (with_reducible refine Kd.C_alloc ?_ _) | (with_reducible refine Kd.C_drewN ?_ _) | (with_reducible refine Kd.C_drew ?_)))
              (case side2 => exact (Kd.R_reads' HO270.out).2.1)
              rintro e w67 ⟨rfl, hb⟩
              refine ⟨_, rfl, ?_⟩
              have n0_ := Aside0.mk (Kd.R_below (by (with_reducible repeat (first | apply Kd.R_alloc | apply Kd.R_drewN | apply Kd.R_drew)); exact HO270.out) hb)
              have n1_ := Aside0.mk (Kd.R_below (by (with_reducible repeat (first | apply Kd.R_alloc | apply Kd.R_drewN | apply Kd.R_drew)); exact HO278.out) hb)
              have n2_ := Aside0.mk (Kd.R_below (by (with_reducible repeat (first | apply Kd.R_alloc | apply Kd.R_drewN | apply Kd.R_drew)); exact HO281.out) hb)
              have n3_ := Aside0.mk (Kd.R_below (by (with_reducible repeat (first | apply Kd.R_alloc | apply Kd.R_drewN | apply Kd.R_drew)); exact HO284.out) hb)
              have n4_ := Aside0.mk (Kd.R_below (by (with_reducible repeat (first | apply Kd.R_alloc | apply Kd.R_drewN | apply Kd.R_drew)); exact HO288.out) hb)
              have n5_ := Aside0.mk (blk_below (g := gb275) (o := .cells #[.int .i64 t272, .int .u64 t273] 30 (0, 0)) (by (with_reducible repeat (first | refine blk_drewN ?_ _ | refine blk_drew ?_ | refine blk_alloc ?_ _)); exact BK275.out) hb)
              have n6_ := Aside0.mk (below_step (by repeat (first | (with_reducible first | exact HB.out | apply below_alloc | apply pw_below_drewN | apply below_drew1 | refine below_set ?_ GE275.out) | exact HB.out)) hb)
              clear HO270
              clear HO278
              clear HO281
              clear HO284
              clear HO288
              clear BK275
              clear HB
              have HO270 := n0_
              have HO278 := n1_
              have HO281 := n2_
              have HO284 := n3_
              have HO288 := n4_
              have BK275 := n5_
              have HB := n6_
              clear n0_ n1_ n2_ n3_ n4_ n5_ n6_
              (try clear hb)
              (try clear hb2)
              (try clear hk)
              (try clear hi)
              refine hK.out _ _ trivial (fun hHeld => ?_)
              clear hK K
              refine norm_ (a' := ?_) ?_ ?_
              rotate_left
              ·
               show Act.put _ (some 123) _ = _
               simp only [Act.put, List.setIfInBounds_toArray, List.set_cons_zero, List.set_cons_succ, i64_w, i32_w]
               rfl
              refine pure_ (i := 16) (N := some 124) (v := ?_) (a' := ?_) (onA 34 17) rfl rfl (any_of HT_.out (by kernel_rfl)) (fun _ _ _ h => h) (Or.inl ⟨by rfl, ?_⟩) ?_ ?_
              rotate_left
              ·
               intro w'
               go_simp
               with_reducible rfl
              rotate_left
              ·
               simp only [Act.put, List.setIfInBounds_toArray, List.set_cons_zero, List.set_cons_succ, i64_w, i32_w]
               rfl
              refine pure_ (i := 17) (N := some 125) (v := ?_) (a' := ?_) (onA 34 18) rfl rfl (any_of HT_.out (by kernel_rfl)) (fun _ _ _ h => h) (Or.inl ⟨by rfl, ?_⟩) ?_ ?_
              rotate_left
              ·
               intro w'
               go_simp
               with_reducible rfl
              rotate_left
              ·
               simp only [Act.put, List.setIfInBounds_toArray, List.set_cons_zero, List.set_cons_succ, i64_w, i32_w]
               rfl
              refine pure_ (i := 18) (N := some 126) (v := undef) (a' := ?_) (onA 34 19) rfl rfl (any_of HT_.out (by kernel_rfl)) (fun _ _ _ h => h) (Or.inr ⟨by rfl, rfl⟩) ?_ ?_
              rotate_left
              ·
               simp only [Act.put, List.setIfInBounds_toArray, List.set_cons_zero, List.set_cons_succ, i64_w, i32_w]
               rfl
              refine pure_ (i := 19) (N := some 127) (v := undef) (a' := ?_) (onA 34 20) rfl rfl (any_of HT_.out (by kernel_rfl)) (fun _ _ _ h => h) (Or.inr ⟨by rfl, rfl⟩) ?_ ?_
              rotate_left
              ·
               simp only [Act.put, List.setIfInBounds_toArray, List.set_cons_zero, List.set_cons_succ, i64_w, i32_w]
               rfl
              refine pure_ (i := 20) (N := some 128) (v := undef) (a' := ?_) (onA 34 21) rfl rfl (any_of HT_.out (by kernel_rfl)) (fun _ _ _ h => h) (Or.inr ⟨by rfl, rfl⟩) ?_ ?_
              rotate_left
              ·
               simp only [Act.put, List.setIfInBounds_toArray, List.set_cons_zero, List.set_cons_succ, i64_w, i32_w]
               rfl
              refine pure_ (i := 21) (N := some 129) (v := undef) (a' := ?_) (onA 34 22) rfl rfl (any_of HT_.out (by kernel_rfl)) (fun _ _ _ h => h) (Or.inr ⟨by rfl, rfl⟩) ?_ ?_
              rotate_left
              ·
               simp only [Act.put, List.setIfInBounds_toArray, List.set_cons_zero, List.set_cons_succ, i64_w, i32_w]
               rfl
              refine pure_ (i := 22) (N := some 130) (v := undef) (a' := ?_) (onA 34 23) rfl rfl (any_of HT_.out (by kernel_rfl)) (fun _ _ _ h => h) (Or.inr ⟨by rfl, rfl⟩) ?_ ?_
              rotate_left
              ·
               simp only [Act.put, List.setIfInBounds_toArray, List.set_cons_zero, List.set_cons_succ, i64_w, i32_w]
               rfl
              refine pure_ (i := 23) (N := some 131) (v := undef) (a' := ?_) (onA 34 24) rfl rfl (any_of HT_.out (by kernel_rfl)) (fun _ _ _ h => h) (Or.inr ⟨by rfl, rfl⟩) ?_ ?_
              rotate_left
              ·
               simp only [Act.put, List.setIfInBounds_toArray, List.set_cons_zero, List.set_cons_succ, i64_w, i32_w]
               rfl
              refine pure_ (i := 24) (N := some 132) (v := undef) (a' := ?_) (onA 34 25) rfl rfl (any_of HT_.out (by kernel_rfl)) (fun _ _ _ h => h) (Or.inr ⟨by rfl, rfl⟩) ?_ ?_
              rotate_left
              ·
               simp only [Act.put, List.setIfInBounds_toArray, List.set_cons_zero, List.set_cons_succ, i64_w, i32_w]
               rfl
              refine pure_ (i := 25) (N := some 133) (v := undef) (a' := ?_) (onA 34 26) rfl rfl (any_of HT_.out (by kernel_rfl)) (fun _ _ _ h => h) (Or.inr ⟨by rfl, rfl⟩) ?_ ?_
              rotate_left
              ·
               simp only [Act.put, List.setIfInBounds_toArray, List.set_cons_zero, List.set_cons_succ, i64_w, i32_w]
               rfl
              refine pure_ (i := 26) (N := some 134) (v := undef) (a' := ?_) (onA 34 27) rfl rfl (any_of HT_.out (by kernel_rfl)) (fun _ _ _ h => h) (Or.inr ⟨by rfl, rfl⟩) ?_ ?_
              rotate_left
              ·
               simp only [Act.put, List.setIfInBounds_toArray, List.set_cons_zero, List.set_cons_succ, i64_w, i32_w]
               rfl
              refine pure_ (i := 27) (N := some 135) (v := undef) (a' := ?_) (onA 34 28) rfl rfl (any_of HT_.out (by kernel_rfl)) (fun _ _ _ h => h) (Or.inr ⟨by rfl, rfl⟩) ?_ ?_
              rotate_left
              ·
               simp only [Act.put, List.setIfInBounds_toArray, List.set_cons_zero, List.set_cons_succ, i64_w, i32_w]
               rfl
              refine pure_ (i := 28) (N := some 136) (v := undef) (a' := ?_) (onA 34 29) rfl rfl (any_of HT_.out (by kernel_rfl)) (fun _ _ _ h => h) (Or.inr ⟨by rfl, rfl⟩) ?_ ?_
              rotate_left
              ·
               simp only [Act.put, List.setIfInBounds_toArray, List.set_cons_zero, List.set_cons_succ, i64_w, i32_w]
               rfl
              refine pure_ (i := 29) (N := some 137) (v := ?_) (a' := ?_) (onA 34 30) rfl rfl (any_of HT_.out (by kernel_rfl)) (fun _ _ _ h => h) (Or.inl ⟨by rfl, ?_⟩) ?_ ?_
              rotate_left
              ·
               intro w'
               go_simp
               with_reducible rfl
              rotate_left
              ·
               simp only [Act.put, List.setIfInBounds_toArray, List.set_cons_zero, List.set_cons_succ, i64_w, i32_w]
               rfl
              refine pure_ (i := 30) (N := some 138) (v := ?_) (a' := ?_) (onA 34 31) rfl rfl (any_of HT_.out (by kernel_rfl)) (fun _ _ _ h => h) (Or.inl ⟨by rfl, ?_⟩) ?_ ?_
              rotate_left
              ·
               intro w'
               go_simp
               with_reducible rfl
              rotate_left
              ·
               simp only [Act.put, List.setIfInBounds_toArray, List.set_cons_zero, List.set_cons_succ, i64_w, i32_w]
               rfl
              refine pure_ (i := 31) (N := some 139) (v := undef) (a' := ?_) (onA 34 32) rfl rfl (any_of HT_.out (by kernel_rfl)) (fun _ _ _ h => h) (Or.inr ⟨by rfl, rfl⟩) ?_ ?_
              rotate_left
              ·
               simp only [Act.put, List.setIfInBounds_toArray, List.set_cons_zero, List.set_cons_succ, i64_w, i32_w]
               rfl
              refine pure_ (i := 32) (N := some 140) (v := ?_) (a' := ?_) (onA 34 33) rfl rfl (any_of HT_.out (by kernel_rfl)) (fun _ _ _ h => h) (Or.inl ⟨by rfl, ?_⟩) ?_ ?_
              rotate_left
              ·
               intro w'
               go_simp
               with_reducible rfl
              rotate_left
              ·
               simp only [Act.put, List.setIfInBounds_toArray, List.set_cons_zero, List.set_cons_succ, i64_w, i32_w]
               rfl
              refine pure_ (i := 33) (N := some 8) (v := ?_) (a' := ?_) (onA 34 34) rfl rfl (any_of HT_.out (by kernel_rfl)) (fun _ _ _ h => h) (Or.inl ⟨by rfl, ?_⟩) ?_ ?_
              rotate_left
              ·
               intro w'
               go_simp
               with_reducible rfl
              rotate_left
              ·
               simp only [Act.put, List.setIfInBounds_toArray, List.set_cons_zero, List.set_cons_succ, i64_w, i32_w]
               rfl
              refine done_ (done_of HT_.out (by kernel_rfl)) ?_
              try go_wp2
              go_meet
              case rel => (try simp only [← Nbq17.out]); exact ⟨_, (false), (by first | rfl | (simp; done) | (simp [*]; done)), H', ⟨by have := HJ4.out; first | omega | exact Nat.le_refl _⟩, ⟨by (with_reducible repeat (first | refine blk_drewN ?_ _ | refine blk_drew ?_ | refine blk_alloc ?_ _)); exact BK275.out⟩, ⟨by repeat (first | (with_reducible first | exact HB.out | apply below_alloc | apply pw_below_drewN | apply below_drew1 | refine below_set ?_ GE275.out) | exact HB.out)⟩⟩
            ·
             replace c44 := Bool.eq_false_iff.mpr c44
             subst c44
             have H1 : (darninglaw17_MergeBack.j2 kj4 false) = some r := by rw [if_neg (show ¬ (false = true) by decide)] at H; exact H
             clear H
             have H := H1
             clear H1
             have H' := Aside0.mk H
             clear H
             try go_wp2
             have n0_ := Aside0.mk (Kd.R_drew HO270.out)
             have n1_ := Aside0.mk (Kd.R_drew HO278.out)
             have n2_ := Aside0.mk (Kd.R_drew HO281.out)
             have n3_ := Aside0.mk (Kd.R_drew HO284.out)
             have n4_ := Aside0.mk (Kd.R_drew HO288.out)
             have n5_ := Aside0.mk (blk_drew BK275.out)
             have n6_ := Aside0.mk (below_drew1 HB.out)
             clear HO270
             clear HO278
             clear HO281
             clear HO284
             clear HO288
             clear BK275
             clear HB
             have HO270 := n0_
             have HO278 := n1_
             have HO281 := n2_
             have HO284 := n3_
             have HO288 := n4_
             have BK275 := n5_
             have HB := n6_
             clear n0_ n1_ n2_ n3_ n4_ n5_ n6_
             obtain ⟨Ao69, co69, eo69⟩ := Kd.R_slice HO288.out
             (first | subst eo69 | (injection eo69 with f1_ f2_ f3_; have f4_ := f1_.symm; have f5_ := f3_.symm; clear f1_ f2_ f3_; subst f4_; subst f5_))
             obtain ⟨Ao70, co70, eo70⟩ := Kd.R_slice HO270.out
             (first | subst eo70 | (injection eo70 with f1_ f2_ f3_; have f4_ := f1_.symm; have f5_ := f3_.symm; clear f1_ f2_ f3_; subst f4_; subst f5_))
             refine start_ (n := 34) (S := fun w' => True) (ds := []) (onA 34 0) (by kernel_rfl) rfl rfl trivial (fun hHeld => ?_); refine with_tabW darninglaw17_MergeBack.tab13 darninglaw17_MergeBack.bits13 (fun HT_ HW_ => ?_)
             generalize w39.drew = w68 at HO270 HO278 HO281 HO284 HO288 BK275 HB hHeld ⊢
             refine pure_ (i := 0) (N := some 108) (v := ?_) (a' := ?_) (onA 34 1) rfl rfl (any_of HT_.out (by kernel_rfl)) (fun _ _ _ h => h) (Or.inl ⟨by rfl, ?_⟩) ?_ ?_
             rotate_left
             ·
              intro w'
              go_simp
              with_reducible rfl
             rotate_left
             ·
              simp only [Act.put, List.setIfInBounds_toArray, List.set_cons_zero, List.set_cons_succ, i64_w, i32_w]
              rfl
             refine pure_ (i := 1) (N := some 109) (v := ?_) (a' := ?_) (onA 34 2) rfl rfl (any_of HT_.out (by kernel_rfl)) (fun _ _ _ h => h) (Or.inl ⟨by rfl, ?_⟩) ?_ ?_
             rotate_left
             ·
              intro w'
              go_simp
              with_reducible rfl
             rotate_left
             ·
              simp only [Act.put, List.setIfInBounds_toArray, List.set_cons_zero, List.set_cons_succ, i64_w, i32_w]
              rfl
             refine pure_ (i := 2) (N := some 110) (v := ?_) (a' := ?_) (onA 34 3) rfl rfl (any_of HT_.out (by kernel_rfl)) (fun _ _ _ h => h) (Or.inl ⟨by rfl, ?_⟩) ?_ ?_
             rotate_left
             ·
              intro w'
              go_simp
              with_reducible rfl
             rotate_left
             ·
              simp only [Act.put, List.setIfInBounds_toArray, List.set_cons_zero, List.set_cons_succ, i64_w, i32_w]
              rfl
             refine pure_ (i := 3) (N := some 111) (v := ?_) (a' := ?_) (onA 34 4) rfl rfl (any_of HT_.out (by kernel_rfl)) (fun _ _ _ h => h) (Or.inl ⟨by rfl, ?_⟩) ?_ ?_
             rotate_left
             ·
              intro w'
              go_simp
              with_reducible rfl
             rotate_left
             ·
              simp only [Act.put, List.setIfInBounds_toArray, List.set_cons_zero, List.set_cons_succ, i64_w, i32_w]
              rfl
             refine pure_ (i := 4) (N := some 112) (v := ?_) (a' := ?_) (onA 34 5) rfl rfl (any_of HT_.out (by kernel_rfl)) (fun _ _ _ h => h) (Or.inl ⟨by rfl, ?_⟩) ?_ ?_
             rotate_left
             ·
              intro w'
              go_simp
              with_reducible rfl
             rotate_left
             ·
              simp only [Act.put, List.setIfInBounds_toArray, List.set_cons_zero, List.set_cons_succ, i64_w, i32_w]
              rfl
             refine pure_ (i := 5) (N := some 113) (v := ?_) (a' := ?_) (onA 34 6) rfl rfl (any_of HT_.out (by kernel_rfl)) (fun _ _ _ h => h) (Or.inl ⟨by rfl, ?_⟩) ?_ ?_
             rotate_left
             ·
              intro w'
              go_simp
              with_reducible rfl
             rotate_left
             ·
              simp only [Act.put, List.setIfInBounds_toArray, List.set_cons_zero, List.set_cons_succ, i64_w, i32_w]
              rfl
             refine pure_ (i := 6) (N := some 114) (v := ?_) (a' := ?_) (onA 34 7) rfl rfl (any_of HT_.out (by kernel_rfl)) (fun _ _ _ h => h) (Or.inl ⟨by rfl, ?_⟩) ?_ ?_
             rotate_left
             ·
              intro w'
              go_simp
              with_reducible rfl
             rotate_left
             ·
              simp only [Act.put, List.setIfInBounds_toArray, List.set_cons_zero, List.set_cons_succ, i64_w, i32_w]
              rfl
             refine pure_ (i := 7) (N := some 115) (v := ?_) (a' := ?_) (onA 34 8) rfl rfl (any_of HT_.out (by kernel_rfl)) (fun _ _ _ h => h) (Or.inl ⟨by rfl, ?_⟩) ?_ ?_
             rotate_left
             ·
              intro w'
              go_simp
              with_reducible rfl
             rotate_left
             ·
              simp only [Act.put, List.setIfInBounds_toArray, List.set_cons_zero, List.set_cons_succ, i64_w, i32_w]
              rfl
             refine pure_ (i := 8) (N := some 116) (v := ?_) (a' := ?_) (onA 34 9) rfl rfl (any_of HT_.out (by kernel_rfl)) (fun _ _ _ h => h) (Or.inl ⟨by rfl, ?_⟩) ?_ ?_
             rotate_left
             ·
              intro w'
              go_simp
              with_reducible rfl
             rotate_left
             ·
              simp only [Act.put, List.setIfInBounds_toArray, List.set_cons_zero, List.set_cons_succ, i64_w, i32_w]
              rfl
             refine pure_ (i := 9) (N := some 117) (v := ?_) (a' := ?_) (onA 34 10) rfl rfl (any_of HT_.out (by kernel_rfl)) (fun _ _ _ h => h) (Or.inl ⟨by rfl, ?_⟩) ?_ ?_
             rotate_left
             ·
              intro w'
              go_simp
              with_reducible rfl
             rotate_left
             ·
              simp only [Act.put, List.setIfInBounds_toArray, List.set_cons_zero, List.set_cons_succ, i64_w, i32_w]
              rfl
             refine one_ (i := 10) (N := some 118) (onA 34 11) rfl rfl (one_of HT_.out (by kernel_rfl)) (by decide) (fun K hK => ?_)
             refine goes_ Try.func19 (by kernel_rfl) rfl #[.slice Ao69 t285.length co69, .slice Ao70 t268.length co70] (by rfl) rfl rfl (by (try simp only [List.map_toArray, List.map_cons, List.map_nil]); first | done | rfl | (simp only [List.length_drop, List.length_take]; rfl)) ?_
             with_reducible refine (darningref4_SameBlocks.calls kj4 _ _ t285 _ _ t268 false _ ?side1 ?side2 ?side3 ?side4 A43.out).mono ?_
             (case side1 => repeat (first | exact (Kd.R_reads' HO288.out).2.2 | (with_reducible refine Kd.C_alloc ?_ _) | (with_reducible refine Kd.C_drewN ?_ _) | (with_reducible refine Kd.C_drew ?_)))
             (case side2 => exact (Kd.R_reads' HO288.out).2.1)
             (case side3 => repeat (first | exact (Kd.R_reads' HO270.out).2.2 | (with_reducible refine Kd.C_alloc ?_ _) | (with_reducible refine Kd.C_drewN ?_ _) | (with_reducible refine Kd.C_drew ?_)))
             (case side4 => exact (Kd.R_reads' HO270.out).2.1)
             rintro e w' ⟨rfl, ⟨nd, rfl⟩⟩
             refine ⟨_, rfl, ?_⟩
             refine hK.out _ _ trivial (fun hHeld => ?_)
             clear hK K
             refine norm_ (a' := ?_) ?_ ?_
             rotate_left
             ·
              show Act.put _ (some 118) _ = _
              simp only [Act.put, List.setIfInBounds_toArray, List.set_cons_zero, List.set_cons_succ, i64_w, i32_w]
              rfl
             refine pure_ (i := 11) (N := some 119) (v := ?_) (a' := ?_) (onA 34 12) rfl rfl (any_of HT_.out (by kernel_rfl)) (fun _ _ _ h => h) (Or.inl ⟨by rfl, ?_⟩) ?_ ?_
             rotate_left
             ·
              intro w'
              go_simp
              with_reducible rfl
             rotate_left
             ·
              simp only [Act.put, List.setIfInBounds_toArray, List.set_cons_zero, List.set_cons_succ, i64_w, i32_w]
              rfl
             refine pure_ (i := 12) (N := some 120) (v := ?_) (a' := ?_) (onA 34 13) rfl rfl (any_of HT_.out (by kernel_rfl)) (fun _ _ _ h => h) (Or.inl ⟨by rfl, ?_⟩) ?_ ?_
             rotate_left
             ·
              intro w'
              go_simp
              with_reducible rfl
             rotate_left
             ·
              simp only [Act.put, List.setIfInBounds_toArray, List.set_cons_zero, List.set_cons_succ, i64_w, i32_w]
              rfl
             refine pure_ (i := 13) (N := some 121) (v := undef) (a' := ?_) (onA 34 14) rfl rfl (any_of HT_.out (by kernel_rfl)) (fun _ _ _ h => h) (Or.inr ⟨by rfl, rfl⟩) ?_ ?_
             rotate_left
             ·
              simp only [Act.put, List.setIfInBounds_toArray, List.set_cons_zero, List.set_cons_succ, i64_w, i32_w]
              rfl
             refine pure_ (i := 14) (N := some 122) (v := undef) (a' := ?_) (onA 34 15) rfl rfl (any_of HT_.out (by kernel_rfl)) (fun _ _ _ h => h) (Or.inr ⟨by rfl, rfl⟩) ?_ ?_
             rotate_left
             ·
              simp only [Act.put, List.setIfInBounds_toArray, List.set_cons_zero, List.set_cons_succ, i64_w, i32_w]
              rfl
             refine pure_ (i := 15) (N := some 123) (v := undef) (a' := ?_) (onA 34 16) rfl rfl (any_of HT_.out (by kernel_rfl)) (fun _ _ _ h => h) (Or.inr ⟨by rfl, rfl⟩) ?_ ?_
             rotate_left
             ·
              simp only [Act.put, List.setIfInBounds_toArray, List.set_cons_zero, List.set_cons_succ, i64_w, i32_w]
              rfl
             refine pure_ (i := 16) (N := some 124) (v := ?_) (a' := ?_) (onA 34 17) rfl rfl (any_of HT_.out (by kernel_rfl)) (fun _ _ _ h => h) (Or.inl ⟨by rfl, ?_⟩) ?_ ?_
             rotate_left
             ·
              intro w'
              go_simp
              with_reducible rfl
             rotate_left
             ·
              simp only [Act.put, List.setIfInBounds_toArray, List.set_cons_zero, List.set_cons_succ, i64_w, i32_w]
              rfl
             refine pure_ (i := 17) (N := some 125) (v := ?_) (a' := ?_) (onA 34 18) rfl rfl (any_of HT_.out (by kernel_rfl)) (fun _ _ _ h => h) (Or.inl ⟨by rfl, ?_⟩) ?_ ?_
             rotate_left
             ·
              intro w'
              go_simp
              with_reducible rfl
             rotate_left
             ·
              simp only [Act.put, List.setIfInBounds_toArray, List.set_cons_zero, List.set_cons_succ, i64_w, i32_w]
              rfl
             refine pure_ (i := 18) (N := some 126) (v := undef) (a' := ?_) (onA 34 19) rfl rfl (any_of HT_.out (by kernel_rfl)) (fun _ _ _ h => h) (Or.inr ⟨by rfl, rfl⟩) ?_ ?_
             rotate_left
             ·
              simp only [Act.put, List.setIfInBounds_toArray, List.set_cons_zero, List.set_cons_succ, i64_w, i32_w]
              rfl
             refine pure_ (i := 19) (N := some 127) (v := undef) (a' := ?_) (onA 34 20) rfl rfl (any_of HT_.out (by kernel_rfl)) (fun _ _ _ h => h) (Or.inr ⟨by rfl, rfl⟩) ?_ ?_
             rotate_left
             ·
              simp only [Act.put, List.setIfInBounds_toArray, List.set_cons_zero, List.set_cons_succ, i64_w, i32_w]
              rfl
             refine pure_ (i := 20) (N := some 128) (v := undef) (a' := ?_) (onA 34 21) rfl rfl (any_of HT_.out (by kernel_rfl)) (fun _ _ _ h => h) (Or.inr ⟨by rfl, rfl⟩) ?_ ?_
             rotate_left
             ·
              simp only [Act.put, List.setIfInBounds_toArray, List.set_cons_zero, List.set_cons_succ, i64_w, i32_w]
              rfl
             refine pure_ (i := 21) (N := some 129) (v := undef) (a' := ?_) (onA 34 22) rfl rfl (any_of HT_.out (by kernel_rfl)) (fun _ _ _ h => h) (Or.inr ⟨by rfl, rfl⟩) ?_ ?_
             rotate_left
             ·
              simp only [Act.put, List.setIfInBounds_toArray, List.set_cons_zero, List.set_cons_succ, i64_w, i32_w]
              rfl
             refine pure_ (i := 22) (N := some 130) (v := undef) (a' := ?_) (onA 34 23) rfl rfl (any_of HT_.out (by kernel_rfl)) (fun _ _ _ h => h) (Or.inr ⟨by rfl, rfl⟩) ?_ ?_
             rotate_left
             ·
              simp only [Act.put, List.setIfInBounds_toArray, List.set_cons_zero, List.set_cons_succ, i64_w, i32_w]
              rfl
             refine pure_ (i := 23) (N := some 131) (v := undef) (a' := ?_) (onA 34 24) rfl rfl (any_of HT_.out (by kernel_rfl)) (fun _ _ _ h => h) (Or.inr ⟨by rfl, rfl⟩) ?_ ?_
             rotate_left
             ·
              simp only [Act.put, List.setIfInBounds_toArray, List.set_cons_zero, List.set_cons_succ, i64_w, i32_w]
              rfl
             refine pure_ (i := 24) (N := some 132) (v := undef) (a' := ?_) (onA 34 25) rfl rfl (any_of HT_.out (by kernel_rfl)) (fun _ _ _ h => h) (Or.inr ⟨by rfl, rfl⟩) ?_ ?_
             rotate_left
             ·
              simp only [Act.put, List.setIfInBounds_toArray, List.set_cons_zero, List.set_cons_succ, i64_w, i32_w]
              rfl
             refine pure_ (i := 25) (N := some 133) (v := undef) (a' := ?_) (onA 34 26) rfl rfl (any_of HT_.out (by kernel_rfl)) (fun _ _ _ h => h) (Or.inr ⟨by rfl, rfl⟩) ?_ ?_
             rotate_left
             ·
              simp only [Act.put, List.setIfInBounds_toArray, List.set_cons_zero, List.set_cons_succ, i64_w, i32_w]
              rfl
             refine pure_ (i := 26) (N := some 134) (v := undef) (a' := ?_) (onA 34 27) rfl rfl (any_of HT_.out (by kernel_rfl)) (fun _ _ _ h => h) (Or.inr ⟨by rfl, rfl⟩) ?_ ?_
             rotate_left
             ·
              simp only [Act.put, List.setIfInBounds_toArray, List.set_cons_zero, List.set_cons_succ, i64_w, i32_w]
              rfl
             refine pure_ (i := 27) (N := some 135) (v := undef) (a' := ?_) (onA 34 28) rfl rfl (any_of HT_.out (by kernel_rfl)) (fun _ _ _ h => h) (Or.inr ⟨by rfl, rfl⟩) ?_ ?_
             rotate_left
             ·
              simp only [Act.put, List.setIfInBounds_toArray, List.set_cons_zero, List.set_cons_succ, i64_w, i32_w]
              rfl
             refine pure_ (i := 28) (N := some 136) (v := undef) (a' := ?_) (onA 34 29) rfl rfl (any_of HT_.out (by kernel_rfl)) (fun _ _ _ h => h) (Or.inr ⟨by rfl, rfl⟩) ?_ ?_
             rotate_left
             ·
              simp only [Act.put, List.setIfInBounds_toArray, List.set_cons_zero, List.set_cons_succ, i64_w, i32_w]
              rfl
             refine pure_ (i := 29) (N := some 137) (v := ?_) (a' := ?_) (onA 34 30) rfl rfl (any_of HT_.out (by kernel_rfl)) (fun _ _ _ h => h) (Or.inl ⟨by rfl, ?_⟩) ?_ ?_
             rotate_left
             ·
              intro w'
              go_simp
              with_reducible rfl
             rotate_left
             ·
              simp only [Act.put, List.setIfInBounds_toArray, List.set_cons_zero, List.set_cons_succ, i64_w, i32_w]
              rfl
             refine pure_ (i := 30) (N := some 138) (v := ?_) (a' := ?_) (onA 34 31) rfl rfl (any_of HT_.out (by kernel_rfl)) (fun _ _ _ h => h) (Or.inl ⟨by rfl, ?_⟩) ?_ ?_
             rotate_left
             ·
              intro w'
              go_simp
              with_reducible rfl
             rotate_left
             ·
              simp only [Act.put, List.setIfInBounds_toArray, List.set_cons_zero, List.set_cons_succ, i64_w, i32_w]
              rfl
             refine pure_ (i := 31) (N := some 139) (v := undef) (a' := ?_) (onA 34 32) rfl rfl (any_of HT_.out (by kernel_rfl)) (fun _ _ _ h => h) (Or.inr ⟨by rfl, rfl⟩) ?_ ?_
             rotate_left
             ·
              simp only [Act.put, List.setIfInBounds_toArray, List.set_cons_zero, List.set_cons_succ, i64_w, i32_w]
              rfl
             refine pure_ (i := 32) (N := some 140) (v := ?_) (a' := ?_) (onA 34 33) rfl rfl (any_of HT_.out (by kernel_rfl)) (fun _ _ _ h => h) (Or.inl ⟨by rfl, ?_⟩) ?_ ?_
             rotate_left
             ·
              intro w'
              go_simp
              with_reducible rfl
             rotate_left
             ·
              simp only [Act.put, List.setIfInBounds_toArray, List.set_cons_zero, List.set_cons_succ, i64_w, i32_w]
              rfl
             refine pure_ (i := 33) (N := some 8) (v := ?_) (a' := ?_) (onA 34 34) rfl rfl (any_of HT_.out (by kernel_rfl)) (fun _ _ _ h => h) (Or.inl ⟨by rfl, ?_⟩) ?_ ?_
             rotate_left
             ·
              intro w'
              go_simp
              with_reducible rfl
             rotate_left
             ·
              simp only [Act.put, List.setIfInBounds_toArray, List.set_cons_zero, List.set_cons_succ, i64_w, i32_w]
              rfl
             refine done_ (done_of HT_.out (by kernel_rfl)) ?_
             try go_wp2
             go_meet
             case rel => (try simp only [← Nbq17.out]); exact ⟨_, (false), (by first | rfl | (simp; done) | (simp [*]; done)), H', ⟨by have := HJ4.out; first | omega | exact Nat.le_refl _⟩, ⟨by (with_reducible repeat (first | refine blk_drewN ?_ _ | refine blk_drew ?_ | refine blk_alloc ?_ _)); exact BK275.out⟩, ⟨by repeat (first | (with_reducible first | exact HB.out | apply below_alloc | apply pw_below_drewN | apply below_drew1 | refine below_set ?_ GE275.out) | exact HB.out)⟩⟩
           ·
            replace c42 := Bool.eq_false_iff.mpr c42
            subst c42
            have H1 : (darninglaw17_MergeBack.j2 kj4 false) = some r := by rw [if_neg (show ¬ (false = true) by decide)] at H; exact H
            clear H
            have H := H1
            clear H1
            have H' := Aside0.mk H
            clear H
            try go_wp2
            have n0_ := Aside0.mk (Kd.R_drew HO270.out)
            have n1_ := Aside0.mk (Kd.R_drew HO278.out)
            have n2_ := Aside0.mk (Kd.R_drew HO281.out)
            have n3_ := Aside0.mk (Kd.R_drew HO284.out)
            have n4_ := Aside0.mk (Kd.R_drew HO288.out)
            have n5_ := Aside0.mk (blk_drew BK275.out)
            have n6_ := Aside0.mk (below_drew1 HB.out)
            clear HO270
            clear HO278
            clear HO281
            clear HO284
            clear HO288
            clear BK275
            clear HB
            have HO270 := n0_
            have HO278 := n1_
            have HO281 := n2_
            have HO284 := n3_
            have HO288 := n4_
            have BK275 := n5_
            have HB := n6_
            clear n0_ n1_ n2_ n3_ n4_ n5_ n6_
            refine start_ (n := 34) (S := fun w' => True) (ds := []) (onA 34 0) (by kernel_rfl) rfl rfl trivial (fun hHeld => ?_); refine with_tabW darninglaw17_MergeBack.tab13 darninglaw17_MergeBack.bits13 (fun HT_ HW_ => ?_)
            generalize w39.drew = w71 at HO270 HO278 HO281 HO284 HO288 BK275 HB hHeld ⊢
            refine pure_ (i := 0) (N := some 108) (v := ?_) (a' := ?_) (onA 34 1) rfl rfl (any_of HT_.out (by kernel_rfl)) (fun _ _ _ h => h) (Or.inl ⟨by rfl, ?_⟩) ?_ ?_
            rotate_left
            ·
             intro w'
             go_simp
             with_reducible rfl
            rotate_left
            ·
             simp only [Act.put, List.setIfInBounds_toArray, List.set_cons_zero, List.set_cons_succ, i64_w, i32_w]
             rfl
            refine pure_ (i := 1) (N := some 109) (v := ?_) (a' := ?_) (onA 34 2) rfl rfl (any_of HT_.out (by kernel_rfl)) (fun _ _ _ h => h) (Or.inl ⟨by rfl, ?_⟩) ?_ ?_
            rotate_left
            ·
             intro w'
             go_simp
             with_reducible rfl
            rotate_left
            ·
             simp only [Act.put, List.setIfInBounds_toArray, List.set_cons_zero, List.set_cons_succ, i64_w, i32_w]
             rfl
            refine pure_ (i := 2) (N := some 110) (v := ?_) (a' := ?_) (onA 34 3) rfl rfl (any_of HT_.out (by kernel_rfl)) (fun _ _ _ h => h) (Or.inl ⟨by rfl, ?_⟩) ?_ ?_
            rotate_left
            ·
             intro w'
             go_simp
             with_reducible rfl
            rotate_left
            ·
             simp only [Act.put, List.setIfInBounds_toArray, List.set_cons_zero, List.set_cons_succ, i64_w, i32_w]
             rfl
            refine pure_ (i := 3) (N := some 111) (v := ?_) (a' := ?_) (onA 34 4) rfl rfl (any_of HT_.out (by kernel_rfl)) (fun _ _ _ h => h) (Or.inl ⟨by rfl, ?_⟩) ?_ ?_
            rotate_left
            ·
             intro w'
             go_simp
             with_reducible rfl
            rotate_left
            ·
             simp only [Act.put, List.setIfInBounds_toArray, List.set_cons_zero, List.set_cons_succ, i64_w, i32_w]
             rfl
            refine pure_ (i := 4) (N := some 112) (v := ?_) (a' := ?_) (onA 34 5) rfl rfl (any_of HT_.out (by kernel_rfl)) (fun _ _ _ h => h) (Or.inl ⟨by rfl, ?_⟩) ?_ ?_
            rotate_left
            ·
             intro w'
             go_simp
             with_reducible rfl
            rotate_left
            ·
             simp only [Act.put, List.setIfInBounds_toArray, List.set_cons_zero, List.set_cons_succ, i64_w, i32_w]
             rfl
            refine pure_ (i := 5) (N := some 113) (v := ?_) (a' := ?_) (onA 34 6) rfl rfl (any_of HT_.out (by kernel_rfl)) (fun _ _ _ h => h) (Or.inl ⟨by rfl, ?_⟩) ?_ ?_
            rotate_left
            ·
             intro w'
             go_simp
             with_reducible rfl
            rotate_left
            ·
             simp only [Act.put, List.setIfInBounds_toArray, List.set_cons_zero, List.set_cons_succ, i64_w, i32_w]
             rfl
            refine pure_ (i := 6) (N := some 114) (v := ?_) (a' := ?_) (onA 34 7) rfl rfl (any_of HT_.out (by kernel_rfl)) (fun _ _ _ h => h) (Or.inl ⟨by rfl, ?_⟩) ?_ ?_
            rotate_left
            ·
             intro w'
             go_simp
             with_reducible rfl
            rotate_left
            ·
             simp only [Act.put, List.setIfInBounds_toArray, List.set_cons_zero, List.set_cons_succ, i64_w, i32_w]
             rfl
            refine pure_ (i := 7) (N := some 115) (v := ?_) (a' := ?_) (onA 34 8) rfl rfl (any_of HT_.out (by kernel_rfl)) (fun _ _ _ h => h) (Or.inl ⟨by rfl, ?_⟩) ?_ ?_
            rotate_left
            ·
             intro w'
             go_simp
             with_reducible rfl
            rotate_left
            ·
             simp only [Act.put, List.setIfInBounds_toArray, List.set_cons_zero, List.set_cons_succ, i64_w, i32_w]
             rfl
            refine pure_ (i := 8) (N := some 116) (v := undef) (a' := ?_) (onA 34 9) rfl rfl (any_of HT_.out (by kernel_rfl)) (fun _ _ _ h => h) (Or.inr ⟨by rfl, rfl⟩) ?_ ?_
            rotate_left
            ·
             simp only [Act.put, List.setIfInBounds_toArray, List.set_cons_zero, List.set_cons_succ, i64_w, i32_w]
             rfl
            refine pure_ (i := 9) (N := some 117) (v := undef) (a' := ?_) (onA 34 10) rfl rfl (any_of HT_.out (by kernel_rfl)) (fun _ _ _ h => h) (Or.inr ⟨by rfl, rfl⟩) ?_ ?_
            rotate_left
            ·
             simp only [Act.put, List.setIfInBounds_toArray, List.set_cons_zero, List.set_cons_succ, i64_w, i32_w]
             rfl
            refine pure_ (i := 10) (N := some 118) (v := undef) (a' := ?_) (onA 34 11) rfl rfl (any_of HT_.out (by kernel_rfl)) (fun _ _ _ h => h) (Or.inr ⟨by rfl, rfl⟩) ?_ ?_
            rotate_left
            ·
             simp only [Act.put, List.setIfInBounds_toArray, List.set_cons_zero, List.set_cons_succ, i64_w, i32_w]
             rfl
            refine pure_ (i := 11) (N := some 119) (v := ?_) (a' := ?_) (onA 34 12) rfl rfl (any_of HT_.out (by kernel_rfl)) (fun _ _ _ h => h) (Or.inl ⟨by rfl, ?_⟩) ?_ ?_
            rotate_left
            ·
             intro w'
             go_simp
             with_reducible rfl
            rotate_left
            ·
             simp only [Act.put, List.setIfInBounds_toArray, List.set_cons_zero, List.set_cons_succ, i64_w, i32_w]
             rfl
            refine pure_ (i := 12) (N := some 120) (v := ?_) (a' := ?_) (onA 34 13) rfl rfl (any_of HT_.out (by kernel_rfl)) (fun _ _ _ h => h) (Or.inl ⟨by rfl, ?_⟩) ?_ ?_
            rotate_left
            ·
             intro w'
             go_simp
             with_reducible rfl
            rotate_left
            ·
             simp only [Act.put, List.setIfInBounds_toArray, List.set_cons_zero, List.set_cons_succ, i64_w, i32_w]
             rfl
            refine pure_ (i := 13) (N := some 121) (v := undef) (a' := ?_) (onA 34 14) rfl rfl (any_of HT_.out (by kernel_rfl)) (fun _ _ _ h => h) (Or.inr ⟨by rfl, rfl⟩) ?_ ?_
            rotate_left
            ·
             simp only [Act.put, List.setIfInBounds_toArray, List.set_cons_zero, List.set_cons_succ, i64_w, i32_w]
             rfl
            refine pure_ (i := 14) (N := some 122) (v := undef) (a' := ?_) (onA 34 15) rfl rfl (any_of HT_.out (by kernel_rfl)) (fun _ _ _ h => h) (Or.inr ⟨by rfl, rfl⟩) ?_ ?_
            rotate_left
            ·
             simp only [Act.put, List.setIfInBounds_toArray, List.set_cons_zero, List.set_cons_succ, i64_w, i32_w]
             rfl
            refine pure_ (i := 15) (N := some 123) (v := undef) (a' := ?_) (onA 34 16) rfl rfl (any_of HT_.out (by kernel_rfl)) (fun _ _ _ h => h) (Or.inr ⟨by rfl, rfl⟩) ?_ ?_
            rotate_left
            ·
             simp only [Act.put, List.setIfInBounds_toArray, List.set_cons_zero, List.set_cons_succ, i64_w, i32_w]
             rfl
            refine pure_ (i := 16) (N := some 124) (v := ?_) (a' := ?_) (onA 34 17) rfl rfl (any_of HT_.out (by kernel_rfl)) (fun _ _ _ h => h) (Or.inl ⟨by rfl, ?_⟩) ?_ ?_
            rotate_left
            ·
             intro w'
             go_simp
             with_reducible rfl
            rotate_left
            ·
             simp only [Act.put, List.setIfInBounds_toArray, List.set_cons_zero, List.set_cons_succ, i64_w, i32_w]
             rfl
            refine pure_ (i := 17) (N := some 125) (v := ?_) (a' := ?_) (onA 34 18) rfl rfl (any_of HT_.out (by kernel_rfl)) (fun _ _ _ h => h) (Or.inl ⟨by rfl, ?_⟩) ?_ ?_
            rotate_left
            ·
             intro w'
             go_simp
             with_reducible rfl
            rotate_left
            ·
             simp only [Act.put, List.setIfInBounds_toArray, List.set_cons_zero, List.set_cons_succ, i64_w, i32_w]
             rfl
            refine pure_ (i := 18) (N := some 126) (v := undef) (a' := ?_) (onA 34 19) rfl rfl (any_of HT_.out (by kernel_rfl)) (fun _ _ _ h => h) (Or.inr ⟨by rfl, rfl⟩) ?_ ?_
            rotate_left
            ·
             simp only [Act.put, List.setIfInBounds_toArray, List.set_cons_zero, List.set_cons_succ, i64_w, i32_w]
             rfl
            refine pure_ (i := 19) (N := some 127) (v := undef) (a' := ?_) (onA 34 20) rfl rfl (any_of HT_.out (by kernel_rfl)) (fun _ _ _ h => h) (Or.inr ⟨by rfl, rfl⟩) ?_ ?_
            rotate_left
            ·
             simp only [Act.put, List.setIfInBounds_toArray, List.set_cons_zero, List.set_cons_succ, i64_w, i32_w]
             rfl
            refine pure_ (i := 20) (N := some 128) (v := undef) (a' := ?_) (onA 34 21) rfl rfl (any_of HT_.out (by kernel_rfl)) (fun _ _ _ h => h) (Or.inr ⟨by rfl, rfl⟩) ?_ ?_
            rotate_left
            ·
             simp only [Act.put, List.setIfInBounds_toArray, List.set_cons_zero, List.set_cons_succ, i64_w, i32_w]
             rfl
            refine pure_ (i := 21) (N := some 129) (v := undef) (a' := ?_) (onA 34 22) rfl rfl (any_of HT_.out (by kernel_rfl)) (fun _ _ _ h => h) (Or.inr ⟨by rfl, rfl⟩) ?_ ?_
            rotate_left
            ·
             simp only [Act.put, List.setIfInBounds_toArray, List.set_cons_zero, List.set_cons_succ, i64_w, i32_w]
             rfl
            refine pure_ (i := 22) (N := some 130) (v := undef) (a' := ?_) (onA 34 23) rfl rfl (any_of HT_.out (by kernel_rfl)) (fun _ _ _ h => h) (Or.inr ⟨by rfl, rfl⟩) ?_ ?_
            rotate_left
            ·
             simp only [Act.put, List.setIfInBounds_toArray, List.set_cons_zero, List.set_cons_succ, i64_w, i32_w]
             rfl
            refine pure_ (i := 23) (N := some 131) (v := undef) (a' := ?_) (onA 34 24) rfl rfl (any_of HT_.out (by kernel_rfl)) (fun _ _ _ h => h) (Or.inr ⟨by rfl, rfl⟩) ?_ ?_
            rotate_left
            ·
             simp only [Act.put, List.setIfInBounds_toArray, List.set_cons_zero, List.set_cons_succ, i64_w, i32_w]
             rfl
            refine pure_ (i := 24) (N := some 132) (v := undef) (a' := ?_) (onA 34 25) rfl rfl (any_of HT_.out (by kernel_rfl)) (fun _ _ _ h => h) (Or.inr ⟨by rfl, rfl⟩) ?_ ?_
            rotate_left
            ·
             simp only [Act.put, List.setIfInBounds_toArray, List.set_cons_zero, List.set_cons_succ, i64_w, i32_w]
             rfl
            refine pure_ (i := 25) (N := some 133) (v := undef) (a' := ?_) (onA 34 26) rfl rfl (any_of HT_.out (by kernel_rfl)) (fun _ _ _ h => h) (Or.inr ⟨by rfl, rfl⟩) ?_ ?_
            rotate_left
            ·
             simp only [Act.put, List.setIfInBounds_toArray, List.set_cons_zero, List.set_cons_succ, i64_w, i32_w]
             rfl
            refine pure_ (i := 26) (N := some 134) (v := undef) (a' := ?_) (onA 34 27) rfl rfl (any_of HT_.out (by kernel_rfl)) (fun _ _ _ h => h) (Or.inr ⟨by rfl, rfl⟩) ?_ ?_
            rotate_left
            ·
             simp only [Act.put, List.setIfInBounds_toArray, List.set_cons_zero, List.set_cons_succ, i64_w, i32_w]
             rfl
            refine pure_ (i := 27) (N := some 135) (v := undef) (a' := ?_) (onA 34 28) rfl rfl (any_of HT_.out (by kernel_rfl)) (fun _ _ _ h => h) (Or.inr ⟨by rfl, rfl⟩) ?_ ?_
            rotate_left
            ·
             simp only [Act.put, List.setIfInBounds_toArray, List.set_cons_zero, List.set_cons_succ, i64_w, i32_w]
             rfl
            refine pure_ (i := 28) (N := some 136) (v := undef) (a' := ?_) (onA 34 29) rfl rfl (any_of HT_.out (by kernel_rfl)) (fun _ _ _ h => h) (Or.inr ⟨by rfl, rfl⟩) ?_ ?_
            rotate_left
            ·
             simp only [Act.put, List.setIfInBounds_toArray, List.set_cons_zero, List.set_cons_succ, i64_w, i32_w]
             rfl
            refine pure_ (i := 29) (N := some 137) (v := ?_) (a' := ?_) (onA 34 30) rfl rfl (any_of HT_.out (by kernel_rfl)) (fun _ _ _ h => h) (Or.inl ⟨by rfl, ?_⟩) ?_ ?_
            rotate_left
            ·
             intro w'
             go_simp
             with_reducible rfl
            rotate_left
            ·
             simp only [Act.put, List.setIfInBounds_toArray, List.set_cons_zero, List.set_cons_succ, i64_w, i32_w]
             rfl
            refine pure_ (i := 30) (N := some 138) (v := ?_) (a' := ?_) (onA 34 31) rfl rfl (any_of HT_.out (by kernel_rfl)) (fun _ _ _ h => h) (Or.inl ⟨by rfl, ?_⟩) ?_ ?_
            rotate_left
            ·
             intro w'
             go_simp
             with_reducible rfl
            rotate_left
            ·
             simp only [Act.put, List.setIfInBounds_toArray, List.set_cons_zero, List.set_cons_succ, i64_w, i32_w]
             rfl
            refine pure_ (i := 31) (N := some 139) (v := undef) (a' := ?_) (onA 34 32) rfl rfl (any_of HT_.out (by kernel_rfl)) (fun _ _ _ h => h) (Or.inr ⟨by rfl, rfl⟩) ?_ ?_
            rotate_left
            ·
             simp only [Act.put, List.setIfInBounds_toArray, List.set_cons_zero, List.set_cons_succ, i64_w, i32_w]
             rfl
            refine pure_ (i := 32) (N := some 140) (v := ?_) (a' := ?_) (onA 34 33) rfl rfl (any_of HT_.out (by kernel_rfl)) (fun _ _ _ h => h) (Or.inl ⟨by rfl, ?_⟩) ?_ ?_
            rotate_left
            ·
             intro w'
             go_simp
             with_reducible rfl
            rotate_left
            ·
             simp only [Act.put, List.setIfInBounds_toArray, List.set_cons_zero, List.set_cons_succ, i64_w, i32_w]
             rfl
            refine pure_ (i := 33) (N := some 8) (v := ?_) (a' := ?_) (onA 34 34) rfl rfl (any_of HT_.out (by kernel_rfl)) (fun _ _ _ h => h) (Or.inl ⟨by rfl, ?_⟩) ?_ ?_
            rotate_left
            ·
             intro w'
             go_simp
             with_reducible rfl
            rotate_left
            ·
             simp only [Act.put, List.setIfInBounds_toArray, List.set_cons_zero, List.set_cons_succ, i64_w, i32_w]
             rfl
            refine done_ (done_of HT_.out (by kernel_rfl)) ?_
            try go_wp2
            go_meet
            case rel => (try simp only [← Nbq17.out]); exact ⟨_, (false), (by first | rfl | (simp; done) | (simp [*]; done)), H', ⟨by have := HJ4.out; first | omega | exact Nat.le_refl _⟩, ⟨by (with_reducible repeat (first | refine blk_drewN ?_ _ | refine blk_drew ?_ | refine blk_alloc ?_ _)); exact BK275.out⟩, ⟨by repeat (first | (with_reducible first | exact HB.out | apply below_alloc | apply pw_below_drewN | apply below_drew1 | refine below_set ?_ GE275.out) | exact HB.out)⟩⟩
          ·
           replace c41 := Bool.eq_false_iff.mpr c41
           subst c41
           have H1 : (darninglaw17_MergeBack.j2 kj4 false) = some r := by rw [if_neg (show ¬ (false = true) by decide)] at H; exact H
           clear H
           have H := H1
           clear H1
           have H' := Aside0.mk H
           clear H
           try go_wp2
           have n0_ := Aside0.mk (Kd.R_drew HO270.out)
           have n1_ := Aside0.mk (Kd.R_drew HO278.out)
           have n2_ := Aside0.mk (Kd.R_drew HO281.out)
           have n3_ := Aside0.mk (Kd.R_drew HO284.out)
           have n4_ := Aside0.mk (Kd.R_drew HO288.out)
           have n5_ := Aside0.mk (blk_drew BK275.out)
           have n6_ := Aside0.mk (below_drew1 HB.out)
           clear HO270
           clear HO278
           clear HO281
           clear HO284
           clear HO288
           clear BK275
           clear HB
           have HO270 := n0_
           have HO278 := n1_
           have HO281 := n2_
           have HO284 := n3_
           have HO288 := n4_
           have BK275 := n5_
           have HB := n6_
           clear n0_ n1_ n2_ n3_ n4_ n5_ n6_
           refine start_ (n := 34) (S := fun w' => True) (ds := []) (onA 34 0) (by kernel_rfl) rfl rfl trivial (fun hHeld => ?_); refine with_tabW darninglaw17_MergeBack.tab13 darninglaw17_MergeBack.bits13 (fun HT_ HW_ => ?_)
           generalize w39.drew = w72 at HO270 HO278 HO281 HO284 HO288 BK275 HB hHeld ⊢
           refine pure_ (i := 0) (N := some 108) (v := ?_) (a' := ?_) (onA 34 1) rfl rfl (any_of HT_.out (by kernel_rfl)) (fun _ _ _ h => h) (Or.inl ⟨by rfl, ?_⟩) ?_ ?_
           rotate_left
           ·
            intro w'
            go_simp
            with_reducible rfl
           rotate_left
           ·
            simp only [Act.put, List.setIfInBounds_toArray, List.set_cons_zero, List.set_cons_succ, i64_w, i32_w]
            rfl
           refine pure_ (i := 1) (N := some 109) (v := ?_) (a' := ?_) (onA 34 2) rfl rfl (any_of HT_.out (by kernel_rfl)) (fun _ _ _ h => h) (Or.inl ⟨by rfl, ?_⟩) ?_ ?_
           rotate_left
           ·
            intro w'
            go_simp
            with_reducible rfl
           rotate_left
           ·
            simp only [Act.put, List.setIfInBounds_toArray, List.set_cons_zero, List.set_cons_succ, i64_w, i32_w]
            rfl
           refine pure_ (i := 2) (N := some 110) (v := ?_) (a' := ?_) (onA 34 3) rfl rfl (any_of HT_.out (by kernel_rfl)) (fun _ _ _ h => h) (Or.inl ⟨by rfl, ?_⟩) ?_ ?_
           rotate_left
           ·
            intro w'
            go_simp
            with_reducible rfl
           rotate_left
           ·
            simp only [Act.put, List.setIfInBounds_toArray, List.set_cons_zero, List.set_cons_succ, i64_w, i32_w]
            rfl
           refine pure_ (i := 3) (N := some 111) (v := ?_) (a' := ?_) (onA 34 4) rfl rfl (any_of HT_.out (by kernel_rfl)) (fun _ _ _ h => h) (Or.inl ⟨by rfl, ?_⟩) ?_ ?_
           rotate_left
           ·
            intro w'
            go_simp
            with_reducible rfl
           rotate_left
           ·
            simp only [Act.put, List.setIfInBounds_toArray, List.set_cons_zero, List.set_cons_succ, i64_w, i32_w]
            rfl
           refine pure_ (i := 4) (N := some 112) (v := ?_) (a' := ?_) (onA 34 5) rfl rfl (any_of HT_.out (by kernel_rfl)) (fun _ _ _ h => h) (Or.inl ⟨by rfl, ?_⟩) ?_ ?_
           rotate_left
           ·
            intro w'
            go_simp
            with_reducible rfl
           rotate_left
           ·
            simp only [Act.put, List.setIfInBounds_toArray, List.set_cons_zero, List.set_cons_succ, i64_w, i32_w]
            rfl
           refine pure_ (i := 5) (N := some 113) (v := undef) (a' := ?_) (onA 34 6) rfl rfl (any_of HT_.out (by kernel_rfl)) (fun _ _ _ h => h) (Or.inr ⟨by rfl, rfl⟩) ?_ ?_
           rotate_left
           ·
            simp only [Act.put, List.setIfInBounds_toArray, List.set_cons_zero, List.set_cons_succ, i64_w, i32_w]
            rfl
           refine pure_ (i := 6) (N := some 114) (v := ?_) (a' := ?_) (onA 34 7) rfl rfl (any_of HT_.out (by kernel_rfl)) (fun _ _ _ h => h) (Or.inl ⟨by rfl, ?_⟩) ?_ ?_
           rotate_left
           ·
            intro w'
            go_simp
            with_reducible rfl
           rotate_left
           ·
            simp only [Act.put, List.setIfInBounds_toArray, List.set_cons_zero, List.set_cons_succ, i64_w, i32_w]
            rfl
           refine pure_ (i := 7) (N := some 115) (v := ?_) (a' := ?_) (onA 34 8) rfl rfl (any_of HT_.out (by kernel_rfl)) (fun _ _ _ h => h) (Or.inl ⟨by rfl, ?_⟩) ?_ ?_
           rotate_left
           ·
            intro w'
            go_simp
            with_reducible rfl
           rotate_left
           ·
            simp only [Act.put, List.setIfInBounds_toArray, List.set_cons_zero, List.set_cons_succ, i64_w, i32_w]
            rfl
           refine pure_ (i := 8) (N := some 116) (v := undef) (a' := ?_) (onA 34 9) rfl rfl (any_of HT_.out (by kernel_rfl)) (fun _ _ _ h => h) (Or.inr ⟨by rfl, rfl⟩) ?_ ?_
           rotate_left
           ·
            simp only [Act.put, List.setIfInBounds_toArray, List.set_cons_zero, List.set_cons_succ, i64_w, i32_w]
            rfl
           refine pure_ (i := 9) (N := some 117) (v := undef) (a' := ?_) (onA 34 10) rfl rfl (any_of HT_.out (by kernel_rfl)) (fun _ _ _ h => h) (Or.inr ⟨by rfl, rfl⟩) ?_ ?_
           rotate_left
           ·
            simp only [Act.put, List.setIfInBounds_toArray, List.set_cons_zero, List.set_cons_succ, i64_w, i32_w]
            rfl
           refine pure_ (i := 10) (N := some 118) (v := undef) (a' := ?_) (onA 34 11) rfl rfl (any_of HT_.out (by kernel_rfl)) (fun _ _ _ h => h) (Or.inr ⟨by rfl, rfl⟩) ?_ ?_
           rotate_left
           ·
            simp only [Act.put, List.setIfInBounds_toArray, List.set_cons_zero, List.set_cons_succ, i64_w, i32_w]
            rfl
           refine pure_ (i := 11) (N := some 119) (v := ?_) (a' := ?_) (onA 34 12) rfl rfl (any_of HT_.out (by kernel_rfl)) (fun _ _ _ h => h) (Or.inl ⟨by rfl, ?_⟩) ?_ ?_
           rotate_left
           ·
            intro w'
            go_simp
            with_reducible rfl
           rotate_left
           ·
            simp only [Act.put, List.setIfInBounds_toArray, List.set_cons_zero, List.set_cons_succ, i64_w, i32_w]
            rfl
           refine pure_ (i := 12) (N := some 120) (v := ?_) (a' := ?_) (onA 34 13) rfl rfl (any_of HT_.out (by kernel_rfl)) (fun _ _ _ h => h) (Or.inl ⟨by rfl, ?_⟩) ?_ ?_
           rotate_left
           ·
            intro w'
            go_simp
            with_reducible rfl
           rotate_left
           ·
            simp only [Act.put, List.setIfInBounds_toArray, List.set_cons_zero, List.set_cons_succ, i64_w, i32_w]
            rfl
           refine pure_ (i := 13) (N := some 121) (v := undef) (a' := ?_) (onA 34 14) rfl rfl (any_of HT_.out (by kernel_rfl)) (fun _ _ _ h => h) (Or.inr ⟨by rfl, rfl⟩) ?_ ?_
           rotate_left
           ·
            simp only [Act.put, List.setIfInBounds_toArray, List.set_cons_zero, List.set_cons_succ, i64_w, i32_w]
            rfl
           refine pure_ (i := 14) (N := some 122) (v := undef) (a' := ?_) (onA 34 15) rfl rfl (any_of HT_.out (by kernel_rfl)) (fun _ _ _ h => h) (Or.inr ⟨by rfl, rfl⟩) ?_ ?_
           rotate_left
           ·
            simp only [Act.put, List.setIfInBounds_toArray, List.set_cons_zero, List.set_cons_succ, i64_w, i32_w]
            rfl
           refine pure_ (i := 15) (N := some 123) (v := undef) (a' := ?_) (onA 34 16) rfl rfl (any_of HT_.out (by kernel_rfl)) (fun _ _ _ h => h) (Or.inr ⟨by rfl, rfl⟩) ?_ ?_
           rotate_left
           ·
            simp only [Act.put, List.setIfInBounds_toArray, List.set_cons_zero, List.set_cons_succ, i64_w, i32_w]
            rfl
           refine pure_ (i := 16) (N := some 124) (v := ?_) (a' := ?_) (onA 34 17) rfl rfl (any_of HT_.out (by kernel_rfl)) (fun _ _ _ h => h) (Or.inl ⟨by rfl, ?_⟩) ?_ ?_
           rotate_left
           ·
            intro w'
            go_simp
            with_reducible rfl
           rotate_left
           ·
            simp only [Act.put, List.setIfInBounds_toArray, List.set_cons_zero, List.set_cons_succ, i64_w, i32_w]
            rfl
           refine pure_ (i := 17) (N := some 125) (v := ?_) (a' := ?_) (onA 34 18) rfl rfl (any_of HT_.out (by kernel_rfl)) (fun _ _ _ h => h) (Or.inl ⟨by rfl, ?_⟩) ?_ ?_
           rotate_left
           ·
            intro w'
            go_simp
            with_reducible rfl
           rotate_left
           ·
            simp only [Act.put, List.setIfInBounds_toArray, List.set_cons_zero, List.set_cons_succ, i64_w, i32_w]
            rfl
           refine pure_ (i := 18) (N := some 126) (v := undef) (a' := ?_) (onA 34 19) rfl rfl (any_of HT_.out (by kernel_rfl)) (fun _ _ _ h => h) (Or.inr ⟨by rfl, rfl⟩) ?_ ?_
           rotate_left
           ·
            simp only [Act.put, List.setIfInBounds_toArray, List.set_cons_zero, List.set_cons_succ, i64_w, i32_w]
            rfl
           refine pure_ (i := 19) (N := some 127) (v := undef) (a' := ?_) (onA 34 20) rfl rfl (any_of HT_.out (by kernel_rfl)) (fun _ _ _ h => h) (Or.inr ⟨by rfl, rfl⟩) ?_ ?_
           rotate_left
           ·
            simp only [Act.put, List.setIfInBounds_toArray, List.set_cons_zero, List.set_cons_succ, i64_w, i32_w]
            rfl
           refine pure_ (i := 20) (N := some 128) (v := undef) (a' := ?_) (onA 34 21) rfl rfl (any_of HT_.out (by kernel_rfl)) (fun _ _ _ h => h) (Or.inr ⟨by rfl, rfl⟩) ?_ ?_
           rotate_left
           ·
            simp only [Act.put, List.setIfInBounds_toArray, List.set_cons_zero, List.set_cons_succ, i64_w, i32_w]
            rfl
           refine pure_ (i := 21) (N := some 129) (v := undef) (a' := ?_) (onA 34 22) rfl rfl (any_of HT_.out (by kernel_rfl)) (fun _ _ _ h => h) (Or.inr ⟨by rfl, rfl⟩) ?_ ?_
           rotate_left
           ·
            simp only [Act.put, List.setIfInBounds_toArray, List.set_cons_zero, List.set_cons_succ, i64_w, i32_w]
            rfl
           refine pure_ (i := 22) (N := some 130) (v := undef) (a' := ?_) (onA 34 23) rfl rfl (any_of HT_.out (by kernel_rfl)) (fun _ _ _ h => h) (Or.inr ⟨by rfl, rfl⟩) ?_ ?_
           rotate_left
           ·
            simp only [Act.put, List.setIfInBounds_toArray, List.set_cons_zero, List.set_cons_succ, i64_w, i32_w]
            rfl
           refine pure_ (i := 23) (N := some 131) (v := undef) (a' := ?_) (onA 34 24) rfl rfl (any_of HT_.out (by kernel_rfl)) (fun _ _ _ h => h) (Or.inr ⟨by rfl, rfl⟩) ?_ ?_
           rotate_left
           ·
            simp only [Act.put, List.setIfInBounds_toArray, List.set_cons_zero, List.set_cons_succ, i64_w, i32_w]
            rfl
           refine pure_ (i := 24) (N := some 132) (v := undef) (a' := ?_) (onA 34 25) rfl rfl (any_of HT_.out (by kernel_rfl)) (fun _ _ _ h => h) (Or.inr ⟨by rfl, rfl⟩) ?_ ?_
           rotate_left
           ·
            simp only [Act.put, List.setIfInBounds_toArray, List.set_cons_zero, List.set_cons_succ, i64_w, i32_w]
            rfl
           refine pure_ (i := 25) (N := some 133) (v := undef) (a' := ?_) (onA 34 26) rfl rfl (any_of HT_.out (by kernel_rfl)) (fun _ _ _ h => h) (Or.inr ⟨by rfl, rfl⟩) ?_ ?_
           rotate_left
           ·
            simp only [Act.put, List.setIfInBounds_toArray, List.set_cons_zero, List.set_cons_succ, i64_w, i32_w]
            rfl
           refine pure_ (i := 26) (N := some 134) (v := undef) (a' := ?_) (onA 34 27) rfl rfl (any_of HT_.out (by kernel_rfl)) (fun _ _ _ h => h) (Or.inr ⟨by rfl, rfl⟩) ?_ ?_
           rotate_left
           ·
            simp only [Act.put, List.setIfInBounds_toArray, List.set_cons_zero, List.set_cons_succ, i64_w, i32_w]
            rfl
           refine pure_ (i := 27) (N := some 135) (v := undef) (a' := ?_) (onA 34 28) rfl rfl (any_of HT_.out (by kernel_rfl)) (fun _ _ _ h => h) (Or.inr ⟨by rfl, rfl⟩) ?_ ?_
           rotate_left
           ·
            simp only [Act.put, List.setIfInBounds_toArray, List.set_cons_zero, List.set_cons_succ, i64_w, i32_w]
            rfl
           refine pure_ (i := 28) (N := some 136) (v := undef) (a' := ?_) (onA 34 29) rfl rfl (any_of HT_.out (by kernel_rfl)) (fun _ _ _ h => h) (Or.inr ⟨by rfl, rfl⟩) ?_ ?_
           rotate_left
           ·
            simp only [Act.put, List.setIfInBounds_toArray, List.set_cons_zero, List.set_cons_succ, i64_w, i32_w]
            rfl
           refine pure_ (i := 29) (N := some 137) (v := ?_) (a' := ?_) (onA 34 30) rfl rfl (any_of HT_.out (by kernel_rfl)) (fun _ _ _ h => h) (Or.inl ⟨by rfl, ?_⟩) ?_ ?_
           rotate_left
           ·
            intro w'
            go_simp
            with_reducible rfl
           rotate_left
           ·
            simp only [Act.put, List.setIfInBounds_toArray, List.set_cons_zero, List.set_cons_succ, i64_w, i32_w]
            rfl
           refine pure_ (i := 30) (N := some 138) (v := ?_) (a' := ?_) (onA 34 31) rfl rfl (any_of HT_.out (by kernel_rfl)) (fun _ _ _ h => h) (Or.inl ⟨by rfl, ?_⟩) ?_ ?_
           rotate_left
           ·
            intro w'
            go_simp
            with_reducible rfl
           rotate_left
           ·
            simp only [Act.put, List.setIfInBounds_toArray, List.set_cons_zero, List.set_cons_succ, i64_w, i32_w]
            rfl
           refine pure_ (i := 31) (N := some 139) (v := undef) (a' := ?_) (onA 34 32) rfl rfl (any_of HT_.out (by kernel_rfl)) (fun _ _ _ h => h) (Or.inr ⟨by rfl, rfl⟩) ?_ ?_
           rotate_left
           ·
            simp only [Act.put, List.setIfInBounds_toArray, List.set_cons_zero, List.set_cons_succ, i64_w, i32_w]
            rfl
           refine pure_ (i := 32) (N := some 140) (v := ?_) (a' := ?_) (onA 34 33) rfl rfl (any_of HT_.out (by kernel_rfl)) (fun _ _ _ h => h) (Or.inl ⟨by rfl, ?_⟩) ?_ ?_
           rotate_left
           ·
            intro w'
            go_simp
            with_reducible rfl
           rotate_left
           ·
            simp only [Act.put, List.setIfInBounds_toArray, List.set_cons_zero, List.set_cons_succ, i64_w, i32_w]
            rfl
           refine pure_ (i := 33) (N := some 8) (v := ?_) (a' := ?_) (onA 34 34) rfl rfl (any_of HT_.out (by kernel_rfl)) (fun _ _ _ h => h) (Or.inl ⟨by rfl, ?_⟩) ?_ ?_
           rotate_left
           ·
            intro w'
            go_simp
            with_reducible rfl
           rotate_left
           ·
            simp only [Act.put, List.setIfInBounds_toArray, List.set_cons_zero, List.set_cons_succ, i64_w, i32_w]
            rfl
           refine done_ (done_of HT_.out (by kernel_rfl)) ?_
           try go_wp2
           go_meet
           case rel => (try simp only [← Nbq17.out]); exact ⟨_, (false), (by first | rfl | (simp; done) | (simp [*]; done)), H', ⟨by have := HJ4.out; first | omega | exact Nat.le_refl _⟩, ⟨by (with_reducible repeat (first | refine blk_drewN ?_ _ | refine blk_drew ?_ | refine blk_alloc ?_ _)); exact BK275.out⟩, ⟨by repeat (first | (with_reducible first | exact HB.out | apply below_alloc | apply pw_below_drewN | apply below_drew1 | refine below_set ?_ GE275.out) | exact HB.out)⟩⟩
         ·
          replace c40 := Bool.eq_false_iff.mpr c40
          subst c40
          have H1 : (darninglaw17_MergeBack.j2 kj4 false) = some r := by rw [if_neg (show ¬ (false = true) by decide)] at H; exact H
          clear H
          have H := H1
          clear H1
          have H' := Aside0.mk H
          clear H
          try go_wp2
          have n0_ := Aside0.mk (Kd.R_drew HO270.out)
          have n1_ := Aside0.mk (Kd.R_drew HO278.out)
          have n2_ := Aside0.mk (Kd.R_drew HO281.out)
          have n3_ := Aside0.mk (Kd.R_drew HO284.out)
          have n4_ := Aside0.mk (Kd.R_drew HO288.out)
          have n5_ := Aside0.mk (blk_drew BK275.out)
          have n6_ := Aside0.mk (below_drew1 HB.out)
          clear HO270
          clear HO278
          clear HO281
          clear HO284
          clear HO288
          clear BK275
          clear HB
          have HO270 := n0_
          have HO278 := n1_
          have HO281 := n2_
          have HO284 := n3_
          have HO288 := n4_
          have BK275 := n5_
          have HB := n6_
          clear n0_ n1_ n2_ n3_ n4_ n5_ n6_
          refine start_ (n := 34) (S := fun w' => True) (ds := []) (onA 34 0) (by kernel_rfl) rfl rfl trivial (fun hHeld => ?_); refine with_tabW darninglaw17_MergeBack.tab13 darninglaw17_MergeBack.bits13 (fun HT_ HW_ => ?_)
          generalize w39.drew = w73 at HO270 HO278 HO281 HO284 HO288 BK275 HB hHeld ⊢
          refine pure_ (i := 0) (N := some 108) (v := ?_) (a' := ?_) (onA 34 1) rfl rfl (any_of HT_.out (by kernel_rfl)) (fun _ _ _ h => h) (Or.inl ⟨by rfl, ?_⟩) ?_ ?_
          rotate_left
          ·
           intro w'
           go_simp
           with_reducible rfl
          rotate_left
          ·
           simp only [Act.put, List.setIfInBounds_toArray, List.set_cons_zero, List.set_cons_succ, i64_w, i32_w]
           rfl
          refine pure_ (i := 1) (N := some 109) (v := ?_) (a' := ?_) (onA 34 2) rfl rfl (any_of HT_.out (by kernel_rfl)) (fun _ _ _ h => h) (Or.inl ⟨by rfl, ?_⟩) ?_ ?_
          rotate_left
          ·
           intro w'
           go_simp
           with_reducible rfl
          rotate_left
          ·
           simp only [Act.put, List.setIfInBounds_toArray, List.set_cons_zero, List.set_cons_succ, i64_w, i32_w]
           rfl
          refine pure_ (i := 2) (N := some 110) (v := undef) (a' := ?_) (onA 34 3) rfl rfl (any_of HT_.out (by kernel_rfl)) (fun _ _ _ h => h) (Or.inr ⟨by rfl, rfl⟩) ?_ ?_
          rotate_left
          ·
           simp only [Act.put, List.setIfInBounds_toArray, List.set_cons_zero, List.set_cons_succ, i64_w, i32_w]
           rfl
          refine pure_ (i := 3) (N := some 111) (v := ?_) (a' := ?_) (onA 34 4) rfl rfl (any_of HT_.out (by kernel_rfl)) (fun _ _ _ h => h) (Or.inl ⟨by rfl, ?_⟩) ?_ ?_
          rotate_left
          ·
           intro w'
           go_simp
           with_reducible rfl
          rotate_left
          ·
           simp only [Act.put, List.setIfInBounds_toArray, List.set_cons_zero, List.set_cons_succ, i64_w, i32_w]
           rfl
          refine pure_ (i := 4) (N := some 112) (v := ?_) (a' := ?_) (onA 34 5) rfl rfl (any_of HT_.out (by kernel_rfl)) (fun _ _ _ h => h) (Or.inl ⟨by rfl, ?_⟩) ?_ ?_
          rotate_left
          ·
           intro w'
           go_simp
           with_reducible rfl
          rotate_left
          ·
           simp only [Act.put, List.setIfInBounds_toArray, List.set_cons_zero, List.set_cons_succ, i64_w, i32_w]
           rfl
          refine pure_ (i := 5) (N := some 113) (v := undef) (a' := ?_) (onA 34 6) rfl rfl (any_of HT_.out (by kernel_rfl)) (fun _ _ _ h => h) (Or.inr ⟨by rfl, rfl⟩) ?_ ?_
          rotate_left
          ·
           simp only [Act.put, List.setIfInBounds_toArray, List.set_cons_zero, List.set_cons_succ, i64_w, i32_w]
           rfl
          refine pure_ (i := 6) (N := some 114) (v := ?_) (a' := ?_) (onA 34 7) rfl rfl (any_of HT_.out (by kernel_rfl)) (fun _ _ _ h => h) (Or.inl ⟨by rfl, ?_⟩) ?_ ?_
          rotate_left
          ·
           intro w'
           go_simp
           with_reducible rfl
          rotate_left
          ·
           simp only [Act.put, List.setIfInBounds_toArray, List.set_cons_zero, List.set_cons_succ, i64_w, i32_w]
           rfl
          refine pure_ (i := 7) (N := some 115) (v := ?_) (a' := ?_) (onA 34 8) rfl rfl (any_of HT_.out (by kernel_rfl)) (fun _ _ _ h => h) (Or.inl ⟨by rfl, ?_⟩) ?_ ?_
          rotate_left
          ·
           intro w'
           go_simp
           with_reducible rfl
          rotate_left
          ·
           simp only [Act.put, List.setIfInBounds_toArray, List.set_cons_zero, List.set_cons_succ, i64_w, i32_w]
           rfl
          refine pure_ (i := 8) (N := some 116) (v := undef) (a' := ?_) (onA 34 9) rfl rfl (any_of HT_.out (by kernel_rfl)) (fun _ _ _ h => h) (Or.inr ⟨by rfl, rfl⟩) ?_ ?_
          rotate_left
          ·
           simp only [Act.put, List.setIfInBounds_toArray, List.set_cons_zero, List.set_cons_succ, i64_w, i32_w]
           rfl
          refine pure_ (i := 9) (N := some 117) (v := undef) (a' := ?_) (onA 34 10) rfl rfl (any_of HT_.out (by kernel_rfl)) (fun _ _ _ h => h) (Or.inr ⟨by rfl, rfl⟩) ?_ ?_
          rotate_left
          ·
           simp only [Act.put, List.setIfInBounds_toArray, List.set_cons_zero, List.set_cons_succ, i64_w, i32_w]
           rfl
          refine pure_ (i := 10) (N := some 118) (v := undef) (a' := ?_) (onA 34 11) rfl rfl (any_of HT_.out (by kernel_rfl)) (fun _ _ _ h => h) (Or.inr ⟨by rfl, rfl⟩) ?_ ?_
          rotate_left
          ·
           simp only [Act.put, List.setIfInBounds_toArray, List.set_cons_zero, List.set_cons_succ, i64_w, i32_w]
           rfl
          refine pure_ (i := 11) (N := some 119) (v := ?_) (a' := ?_) (onA 34 12) rfl rfl (any_of HT_.out (by kernel_rfl)) (fun _ _ _ h => h) (Or.inl ⟨by rfl, ?_⟩) ?_ ?_
          rotate_left
          ·
           intro w'
           go_simp
           with_reducible rfl
          rotate_left
          ·
           simp only [Act.put, List.setIfInBounds_toArray, List.set_cons_zero, List.set_cons_succ, i64_w, i32_w]
           rfl
          refine pure_ (i := 12) (N := some 120) (v := ?_) (a' := ?_) (onA 34 13) rfl rfl (any_of HT_.out (by kernel_rfl)) (fun _ _ _ h => h) (Or.inl ⟨by rfl, ?_⟩) ?_ ?_
          rotate_left
          ·
           intro w'
           go_simp
           with_reducible rfl
          rotate_left
          ·
           simp only [Act.put, List.setIfInBounds_toArray, List.set_cons_zero, List.set_cons_succ, i64_w, i32_w]
           rfl
          refine pure_ (i := 13) (N := some 121) (v := undef) (a' := ?_) (onA 34 14) rfl rfl (any_of HT_.out (by kernel_rfl)) (fun _ _ _ h => h) (Or.inr ⟨by rfl, rfl⟩) ?_ ?_
          rotate_left
          ·
           simp only [Act.put, List.setIfInBounds_toArray, List.set_cons_zero, List.set_cons_succ, i64_w, i32_w]
           rfl
          refine pure_ (i := 14) (N := some 122) (v := undef) (a' := ?_) (onA 34 15) rfl rfl (any_of HT_.out (by kernel_rfl)) (fun _ _ _ h => h) (Or.inr ⟨by rfl, rfl⟩) ?_ ?_
          rotate_left
          ·
           simp only [Act.put, List.setIfInBounds_toArray, List.set_cons_zero, List.set_cons_succ, i64_w, i32_w]
           rfl
          refine pure_ (i := 15) (N := some 123) (v := undef) (a' := ?_) (onA 34 16) rfl rfl (any_of HT_.out (by kernel_rfl)) (fun _ _ _ h => h) (Or.inr ⟨by rfl, rfl⟩) ?_ ?_
          rotate_left
          ·
           simp only [Act.put, List.setIfInBounds_toArray, List.set_cons_zero, List.set_cons_succ, i64_w, i32_w]
           rfl
          refine pure_ (i := 16) (N := some 124) (v := ?_) (a' := ?_) (onA 34 17) rfl rfl (any_of HT_.out (by kernel_rfl)) (fun _ _ _ h => h) (Or.inl ⟨by rfl, ?_⟩) ?_ ?_
          rotate_left
          ·
           intro w'
           go_simp
           with_reducible rfl
          rotate_left
          ·
           simp only [Act.put, List.setIfInBounds_toArray, List.set_cons_zero, List.set_cons_succ, i64_w, i32_w]
           rfl
          refine pure_ (i := 17) (N := some 125) (v := ?_) (a' := ?_) (onA 34 18) rfl rfl (any_of HT_.out (by kernel_rfl)) (fun _ _ _ h => h) (Or.inl ⟨by rfl, ?_⟩) ?_ ?_
          rotate_left
          ·
           intro w'
           go_simp
           with_reducible rfl
          rotate_left
          ·
           simp only [Act.put, List.setIfInBounds_toArray, List.set_cons_zero, List.set_cons_succ, i64_w, i32_w]
           rfl
          refine pure_ (i := 18) (N := some 126) (v := undef) (a' := ?_) (onA 34 19) rfl rfl (any_of HT_.out (by kernel_rfl)) (fun _ _ _ h => h) (Or.inr ⟨by rfl, rfl⟩) ?_ ?_
          rotate_left
          ·
           simp only [Act.put, List.setIfInBounds_toArray, List.set_cons_zero, List.set_cons_succ, i64_w, i32_w]
           rfl
          refine pure_ (i := 19) (N := some 127) (v := undef) (a' := ?_) (onA 34 20) rfl rfl (any_of HT_.out (by kernel_rfl)) (fun _ _ _ h => h) (Or.inr ⟨by rfl, rfl⟩) ?_ ?_
          rotate_left
          ·
           simp only [Act.put, List.setIfInBounds_toArray, List.set_cons_zero, List.set_cons_succ, i64_w, i32_w]
           rfl
          refine pure_ (i := 20) (N := some 128) (v := undef) (a' := ?_) (onA 34 21) rfl rfl (any_of HT_.out (by kernel_rfl)) (fun _ _ _ h => h) (Or.inr ⟨by rfl, rfl⟩) ?_ ?_
          rotate_left
          ·
           simp only [Act.put, List.setIfInBounds_toArray, List.set_cons_zero, List.set_cons_succ, i64_w, i32_w]
           rfl
          refine pure_ (i := 21) (N := some 129) (v := undef) (a' := ?_) (onA 34 22) rfl rfl (any_of HT_.out (by kernel_rfl)) (fun _ _ _ h => h) (Or.inr ⟨by rfl, rfl⟩) ?_ ?_
          rotate_left
          ·
           simp only [Act.put, List.setIfInBounds_toArray, List.set_cons_zero, List.set_cons_succ, i64_w, i32_w]
           rfl
          refine pure_ (i := 22) (N := some 130) (v := undef) (a' := ?_) (onA 34 23) rfl rfl (any_of HT_.out (by kernel_rfl)) (fun _ _ _ h => h) (Or.inr ⟨by rfl, rfl⟩) ?_ ?_
          rotate_left
          ·
           simp only [Act.put, List.setIfInBounds_toArray, List.set_cons_zero, List.set_cons_succ, i64_w, i32_w]
           rfl
          refine pure_ (i := 23) (N := some 131) (v := undef) (a' := ?_) (onA 34 24) rfl rfl (any_of HT_.out (by kernel_rfl)) (fun _ _ _ h => h) (Or.inr ⟨by rfl, rfl⟩) ?_ ?_
          rotate_left
          ·
           simp only [Act.put, List.setIfInBounds_toArray, List.set_cons_zero, List.set_cons_succ, i64_w, i32_w]
           rfl
          refine pure_ (i := 24) (N := some 132) (v := undef) (a' := ?_) (onA 34 25) rfl rfl (any_of HT_.out (by kernel_rfl)) (fun _ _ _ h => h) (Or.inr ⟨by rfl, rfl⟩) ?_ ?_
          rotate_left
          ·
           simp only [Act.put, List.setIfInBounds_toArray, List.set_cons_zero, List.set_cons_succ, i64_w, i32_w]
           rfl
          refine pure_ (i := 25) (N := some 133) (v := undef) (a' := ?_) (onA 34 26) rfl rfl (any_of HT_.out (by kernel_rfl)) (fun _ _ _ h => h) (Or.inr ⟨by rfl, rfl⟩) ?_ ?_
          rotate_left
          ·
           simp only [Act.put, List.setIfInBounds_toArray, List.set_cons_zero, List.set_cons_succ, i64_w, i32_w]
           rfl
          refine pure_ (i := 26) (N := some 134) (v := undef) (a' := ?_) (onA 34 27) rfl rfl (any_of HT_.out (by kernel_rfl)) (fun _ _ _ h => h) (Or.inr ⟨by rfl, rfl⟩) ?_ ?_
          rotate_left
          ·
           simp only [Act.put, List.setIfInBounds_toArray, List.set_cons_zero, List.set_cons_succ, i64_w, i32_w]
           rfl
          refine pure_ (i := 27) (N := some 135) (v := undef) (a' := ?_) (onA 34 28) rfl rfl (any_of HT_.out (by kernel_rfl)) (fun _ _ _ h => h) (Or.inr ⟨by rfl, rfl⟩) ?_ ?_
          rotate_left
          ·
           simp only [Act.put, List.setIfInBounds_toArray, List.set_cons_zero, List.set_cons_succ, i64_w, i32_w]
           rfl
          refine pure_ (i := 28) (N := some 136) (v := undef) (a' := ?_) (onA 34 29) rfl rfl (any_of HT_.out (by kernel_rfl)) (fun _ _ _ h => h) (Or.inr ⟨by rfl, rfl⟩) ?_ ?_
          rotate_left
          ·
           simp only [Act.put, List.setIfInBounds_toArray, List.set_cons_zero, List.set_cons_succ, i64_w, i32_w]
           rfl
          refine pure_ (i := 29) (N := some 137) (v := ?_) (a' := ?_) (onA 34 30) rfl rfl (any_of HT_.out (by kernel_rfl)) (fun _ _ _ h => h) (Or.inl ⟨by rfl, ?_⟩) ?_ ?_
          rotate_left
          ·
           intro w'
           go_simp
           with_reducible rfl
          rotate_left
          ·
           simp only [Act.put, List.setIfInBounds_toArray, List.set_cons_zero, List.set_cons_succ, i64_w, i32_w]
           rfl
          refine pure_ (i := 30) (N := some 138) (v := ?_) (a' := ?_) (onA 34 31) rfl rfl (any_of HT_.out (by kernel_rfl)) (fun _ _ _ h => h) (Or.inl ⟨by rfl, ?_⟩) ?_ ?_
          rotate_left
          ·
           intro w'
           go_simp
           with_reducible rfl
          rotate_left
          ·
           simp only [Act.put, List.setIfInBounds_toArray, List.set_cons_zero, List.set_cons_succ, i64_w, i32_w]
           rfl
          refine pure_ (i := 31) (N := some 139) (v := undef) (a' := ?_) (onA 34 32) rfl rfl (any_of HT_.out (by kernel_rfl)) (fun _ _ _ h => h) (Or.inr ⟨by rfl, rfl⟩) ?_ ?_
          rotate_left
          ·
           simp only [Act.put, List.setIfInBounds_toArray, List.set_cons_zero, List.set_cons_succ, i64_w, i32_w]
           rfl
          refine pure_ (i := 32) (N := some 140) (v := ?_) (a' := ?_) (onA 34 33) rfl rfl (any_of HT_.out (by kernel_rfl)) (fun _ _ _ h => h) (Or.inl ⟨by rfl, ?_⟩) ?_ ?_
          rotate_left
          ·
           intro w'
           go_simp
           with_reducible rfl
          rotate_left
          ·
           simp only [Act.put, List.setIfInBounds_toArray, List.set_cons_zero, List.set_cons_succ, i64_w, i32_w]
           rfl
          refine pure_ (i := 33) (N := some 8) (v := ?_) (a' := ?_) (onA 34 34) rfl rfl (any_of HT_.out (by kernel_rfl)) (fun _ _ _ h => h) (Or.inl ⟨by rfl, ?_⟩) ?_ ?_
          rotate_left
          ·
           intro w'
           go_simp
           with_reducible rfl
          rotate_left
          ·
           simp only [Act.put, List.setIfInBounds_toArray, List.set_cons_zero, List.set_cons_succ, i64_w, i32_w]
           rfl
          refine done_ (done_of HT_.out (by kernel_rfl)) ?_
          try go_wp2
          go_meet
          case rel => (try simp only [← Nbq17.out]); exact ⟨_, (false), (by first | rfl | (simp; done) | (simp [*]; done)), H', ⟨by have := HJ4.out; first | omega | exact Nat.le_refl _⟩, ⟨by (with_reducible repeat (first | refine blk_drewN ?_ _ | refine blk_drew ?_ | refine blk_alloc ?_ _)); exact BK275.out⟩, ⟨by repeat (first | (with_reducible first | exact HB.out | apply below_alloc | apply pw_below_drewN | apply below_drew1 | refine below_set ?_ GE275.out) | exact HB.out)⟩⟩
        case rest =>
         clear HC24
         try clear q1
         try clear p2
         try clear c4
         try clear q17
         try clear c40
         try clear c41
         obtain ⟨kq, x8_23, rfl, HA, HJ23, BK275, HB⟩ := hcut
         cases kq with
         | zero => exact absurd HA.out (by simp [darninglaw17_MergeBack.j2])
         | succ kj23 =>
          have H := HA.out
          clear HA
          simp only [darninglaw17_MergeBack.j2] at H
          obtain rfl := Option.some.inj H
          go_wp2
          go_ret
          exact ⟨by first | rfl | (simp [errW_none, errW_some] <;> rfl) | (simp only [← hji14]; first | rfl | (simp [errW_none, errW_some] <;> rfl)) | (simp [*, errW_none, errW_some] <;> rfl), by repeat (first | (with_reducible first | exact HB.out | apply below_alloc | apply pw_below_drewN | apply below_drew1 | refine below_set ?_ GE275.out) | exact HB.out)⟩
       ·
        replace c18 := Bool.eq_false_iff.mpr c18
        subst c18
        have H1 : ((carve_Blocks.f kj4 l0 (ji14) (wrap64 (2 + (wrap64 (Int.tmod (IntKind.u64.wrap (a3)) 60))))).bind fun bt256 => (if bt256.2 = true then ((merge_Blocks.f kj4 bt256.1 (ji14)).bind fun bt262 => (if bt262.2 = true then ((darningref4_SameBlocks.f kj4 bt262.1 l0).bind fun t266 => (if t266 = true then ((darninglaw17_awake.f kj4).bind fun t267 => (darninglaw17_MergeBack.j1 kj4 t267)) else (darninglaw17_MergeBack.j1 kj4 false))) else (darninglaw17_MergeBack.j1 kj4 false))) else (if ((rd_T35 l0 (ji14)).f1) < (wrap64 (2 + (wrap64 (Int.tmod (IntKind.u64.wrap (a3)) 60)))) then ((darninglaw17_awake.f kj4).bind fun t261 => (some t261)) else (some false)))) = some r := by rw [if_neg (show ¬ (false = true) by decide)] at H; exact H
        clear H
        have H := H1
        clear H1
        replace H := Option.bind_eq_some_iff.mp H
        obtain ⟨⟨t256, t259⟩, A740, H⟩ := H
        replace H : (if t259 = true then ((merge_Blocks.f kj4 t256 (ji14)).bind fun bt262 => (if bt262.2 = true then ((darningref4_SameBlocks.f kj4 bt262.1 l0).bind fun t266 => (if t266 = true then ((darninglaw17_awake.f kj4).bind fun t267 => (darninglaw17_MergeBack.j1 kj4 t267)) else (darninglaw17_MergeBack.j1 kj4 false))) else (darninglaw17_MergeBack.j1 kj4 false))) else (if ((rd_T35 l0 (ji14)).f1) < (wrap64 (2 + (wrap64 (Int.tmod (IntKind.u64.wrap (a3)) 60)))) then ((darninglaw17_awake.f kj4).bind fun t261 => (some t261)) else (some false))) = some r := H
        have A74 := Aside0.mk A740
        clear A740
        by_cases c75 : t259 = true
        ·
         subst c75
         have H1 : ((merge_Blocks.f kj4 t256 (ji14)).bind fun bt262 => (if bt262.2 = true then ((darningref4_SameBlocks.f kj4 bt262.1 l0).bind fun t266 => (if t266 = true then ((darninglaw17_awake.f kj4).bind fun t267 => (darninglaw17_MergeBack.j1 kj4 t267)) else (darninglaw17_MergeBack.j1 kj4 false))) else (darninglaw17_MergeBack.j1 kj4 false))) = some r := by rw [if_pos rfl] at H; exact H
         clear H
         have H := H1
         clear H1
         replace H := Option.bind_eq_some_iff.mp H
         obtain ⟨⟨t262, t265⟩, A760, H⟩ := H
         replace H : (if t265 = true then ((darningref4_SameBlocks.f kj4 t262 l0).bind fun t266 => (if t266 = true then ((darninglaw17_awake.f kj4).bind fun t267 => (darninglaw17_MergeBack.j1 kj4 t267)) else (darninglaw17_MergeBack.j1 kj4 false))) else (darninglaw17_MergeBack.j1 kj4 false)) = some r := H
         have A76 := Aside0.mk A760
         clear A760
         have HC77 := Aside0.mk H
         clear H
         have p255 : 0 ≤ ((ji14) : Int) := of_decide_eq_true (by first | (with_reducible assumption) | assumption)
         have q255 : (ji14) < (l0.length : Int) := of_decide_eq_true (by first | (with_reducible assumption) | assumption)
         obtain ⟨ad255, e255, hx255_0, hx255_1, hx255_2⟩ := at_T35 HR0.out (ji14) p255 q255
         (try rw [← Nbq17.out] at hx255_2)
         cases e255
         replace hx255_0 := (HB.out.cell (World.block_lt_of_cell? w _ hx255_0)).trans hx255_0
         replace hx255_1 := (HB.out.cell (World.block_lt_of_cell? w _ hx255_1)).trans hx255_1
         replace hx255_2 := (HB.out.cell (World.block_lt_of_cell? w _ hx255_2)).trans hx255_2
         replace p255 := eq_true p255
         replace q255 := eq_true q255
         go_upto_region 9 with (first | ((with_reducible refine gate_callee (f := 23) rfl ?_); refine goesL_ (some 56) rfl rfl Try.func23 (by kernel_rfl) rfl #[.slice (some ad255) l0.length c0, .int .i64 ji14, .int .i64 (wrap64 (2 + (wrap64 (Int.tmod (IntKind.u64.wrap (a3)) 60))))] rfl (by (try simp only [List.map_toArray, List.map_cons, List.map_nil]); first | done | (simp only [hji14]; rfl) | rfl | (simp only [List.length_drop, List.length_take]; rfl)) ?_; (with_reducible refine (carve_Blocks.calls kj4 (fun k_ => k_ < w.heap.size) _ _ l0 ji14 (wrap64 (2 + (wrap64 (Int.tmod (IntKind.u64.wrap (a3)) 60)))) t256 true _ ?side1 A74.out).mono ?_); (case side1 => exact Kd.V_mk HC0.out (Kd.F_below (Kd.C_F k35_heap HR0.out) (by repeat (first | (with_reducible first | exact HB.out | apply below_alloc | apply pw_below_drewN | apply below_drew1) | exact HB.out)))); rintro e w78 ⟨v257, rfl, ho0, hb⟩; refine ⟨_, rfl, ?_⟩; have n0_ := Aside0.mk (Kd.R_lower (Kd.R_mono (ok' := fun k_ => True) ho0 (fun _ hk_ => trivial)) (below_size (by repeat (first | (with_reducible first | exact HB.out | apply below_alloc | apply pw_below_drewN | apply below_drew1) | exact HB.out)))); have n1_ := Aside0.mk (below_step (by repeat (first | (with_reducible first | exact HB.out | apply below_alloc | apply pw_below_drewN | apply below_drew1) | exact HB.out)) hb); clear HB; have HO258 := n0_; have HB := n1_; clear n0_ n1_; (try clear hb); (try clear hb2); (try clear hk); (try clear hi); (try clear ho0); obtain ⟨Ao79, co79, eo79⟩ := Kd.R_slice HO258.out; subst eo79) | ((with_reducible refine gate_callee (f := 16) rfl ?_); refine goesL_ (some 74) rfl rfl Try.func16 (by kernel_rfl) rfl #[.slice Ao79 t256.length co79, .int .i64 ji14] rfl (by (try simp only [List.map_toArray, List.map_cons, List.map_nil]); first | done | (simp only [hji14]; rfl) | rfl | (simp only [List.length_drop, List.length_take]; rfl)) ?_; (with_reducible refine (merge_Blocks.calls kj4 (fun k_ => some k_ = (.slice Ao79 t256.length co79 : Value).ownBlock) _ _ t256 ji14 t262 t265 _ ?side1 A76.out).mono ?_); (case side1 => exact Kd.R_V (Kd.R_tight rfl (HO258.out))); rintro e w80 ⟨v263, rfl, ho0, hb⟩; refine ⟨_, rfl, ?_⟩; have n0_ := Aside0.mk (Kd.R_elder' (by (with_reducible repeat (first | apply Kd.R_alloc | apply Kd.R_drewN | apply Kd.R_drew)); exact HO258.out) (Kd.R_base ho0) hb); have n1_ := Aside0.mk (Kd.R_lower (Kd.R_new' (Kd.R_mono (ok' := fun k_ => True) ho0 (fun _ hk_ => trivial)) (Kd.R_lt (by (with_reducible repeat (first | apply Kd.R_alloc | apply Kd.R_drewN | apply Kd.R_drew)); exact HO258.out))) (below_size (by repeat (first | (with_reducible first | exact HB.out | apply below_alloc | apply pw_below_drewN | apply below_drew1) | exact HB.out)))); have n2_ := Aside0.mk (below_step (by repeat (first | (with_reducible first | exact HB.out | apply below_alloc | apply pw_below_drewN | apply below_drew1) | exact HB.out)) hb); clear HO258; clear HB; have HO258 := n0_; have HO264 := n1_; have HB := n2_; clear n0_ n1_ n2_; (try clear hb); (try clear hb2); (try clear hk); (try clear hi); (try clear ho0)))
         (try simp only [Act.put, List.setIfInBounds_toArray, List.set_cons_zero, List.set_cons_succ])
         go_cut [8] (fun v8 wc => ∃ (kq : Nat) (x8_76 : Bool), v8 = .bool x8_76 ∧ Aside0 (darninglaw17_MergeBack.j1 kq x8_76 = some r) ∧ Aside0 (kq ≤ kj4) ∧ Aside0 (Below w.heap.size w wc))
         case first =>
          have H := HC77.out
          clear HC77
          by_cases c81 : t265 = true
          ·
           subst c81
           have H1 : ((darningref4_SameBlocks.f kj4 t262 l0).bind fun t266 => (if t266 = true then ((darninglaw17_awake.f kj4).bind fun t267 => (darninglaw17_MergeBack.j1 kj4 t267)) else (darninglaw17_MergeBack.j1 kj4 false))) = some r := by rw [if_pos rfl] at H; exact H
           clear H
           have H := H1
           clear H1
           replace H := Option.bind_eq_some_iff.mp H
           obtain ⟨t266, A820, H⟩ := H
           replace H : (if t266 = true then ((darninglaw17_awake.f kj4).bind fun t267 => (darninglaw17_MergeBack.j1 kj4 t267)) else (darninglaw17_MergeBack.j1 kj4 false)) = some r := H
           have A82 := Aside0.mk A820
           clear A820
           by_cases c83 : t266 = true
           ·
            subst c83
            have H1 : ((darninglaw17_awake.f kj4).bind fun t267 => (darninglaw17_MergeBack.j1 kj4 t267)) = some r := by rw [if_pos rfl] at H; exact H
            clear H
            have H := H1
            clear H1
            replace H := Option.bind_eq_some_iff.mp H
            obtain ⟨t267, A840, H⟩ := H
            replace H : (darninglaw17_MergeBack.j1 kj4 t267) = some r := H
            have A84 := Aside0.mk A840
            clear A840
            have H' := Aside0.mk H
            clear H
            obtain ⟨Ao85, co85, eo85⟩ := Kd.R_slice HO264.out
            subst eo85
            go_wp2_with (first | (go_at_call 19; (with_reducible refine (darningref4_SameBlocks.calls kj4 _ _ t262 _ _ l0 true _ ?side1 ?side2 ?side3 ?side4 A82.out).mono ?_); (case side1 => repeat (first | exact (Kd.R_reads' HO264.out).2.2 | (with_reducible refine Kd.C_alloc ?_ _) | (with_reducible refine Kd.C_drewN ?_ _) | (with_reducible refine Kd.C_drew ?_))); (case side2 => exact (Kd.R_reads' HO264.out).2.1); (case side3 => repeat (first | exact (Kd.C_below HR0.out HB.out) | (with_reducible refine Kd.C_alloc ?_ _) | (with_reducible refine Kd.C_drewN ?_ _) | (with_reducible refine Kd.C_drew ?_))); (case side4 => exact HC0.out); rintro e w' ⟨rfl, ⟨nd, rfl⟩⟩) | (go_at_call 15; (with_reducible refine (darninglaw17_awake.calls kj4  t267 _ A84.out).mono ?_); rintro e w86 ⟨rfl, hb⟩; have n0_ := Aside0.mk (Kd.R_below (by (with_reducible repeat (first | apply Kd.R_alloc | apply Kd.R_drewN | apply Kd.R_drew)); exact HO258.out) hb); have n1_ := Aside0.mk (Kd.R_below (by (with_reducible repeat (first | apply Kd.R_alloc | apply Kd.R_drewN | apply Kd.R_drew)); exact HO264.out) hb); have n2_ := Aside0.mk (below_step (by repeat (first | (with_reducible first | exact HB.out | apply below_alloc | apply pw_below_drewN | apply below_drew1) | exact HB.out)) hb); clear HO258; clear HO264; clear HB; have HO258 := n0_; have HO264 := n1_; have HB := n2_; clear n0_ n1_ n2_; (try clear hb); (try clear hb2); (try clear hk); (try clear hi)))
            go_meet
            case rel => (try simp only [← Nbq17.out]); exact ⟨_, (t267), (by first | rfl | (simp; done) | (simp [*]; done)), H', ⟨by have := HJ4.out; first | omega | exact Nat.le_refl _⟩, ⟨by repeat (first | (with_reducible first | exact HB.out | apply below_alloc | apply pw_below_drewN | apply below_drew1) | exact HB.out)⟩⟩
           ·
            replace c83 := Bool.eq_false_iff.mpr c83
            subst c83
            have H1 : (darninglaw17_MergeBack.j1 kj4 false) = some r := by rw [if_neg (show ¬ (false = true) by decide)] at H; exact H
            clear H
            have H := H1
            clear H1
            have H' := Aside0.mk H
            clear H
            obtain ⟨Ao87, co87, eo87⟩ := Kd.R_slice HO264.out
            subst eo87
            go_wp2_with (first | (go_at_call 19; (with_reducible refine (darningref4_SameBlocks.calls kj4 _ _ t262 _ _ l0 false _ ?side1 ?side2 ?side3 ?side4 A82.out).mono ?_); (case side1 => repeat (first | exact (Kd.R_reads' HO264.out).2.2 | (with_reducible refine Kd.C_alloc ?_ _) | (with_reducible refine Kd.C_drewN ?_ _) | (with_reducible refine Kd.C_drew ?_))); (case side2 => exact (Kd.R_reads' HO264.out).2.1); (case side3 => repeat (first | exact (Kd.C_below HR0.out HB.out) | (with_reducible refine Kd.C_alloc ?_ _) | (with_reducible refine Kd.C_drewN ?_ _) | (with_reducible refine Kd.C_drew ?_))); (case side4 => exact HC0.out); rintro e w' ⟨rfl, ⟨nd, rfl⟩⟩))
            go_meet
            case rel => (try simp only [← Nbq17.out]); exact ⟨_, (false), (by first | rfl | (simp; done) | (simp [*]; done)), H', ⟨by have := HJ4.out; first | omega | exact Nat.le_refl _⟩, ⟨by repeat (first | (with_reducible first | exact HB.out | apply below_alloc | apply pw_below_drewN | apply below_drew1) | exact HB.out)⟩⟩
          ·
           replace c81 := Bool.eq_false_iff.mpr c81
           subst c81
           have H1 : (darninglaw17_MergeBack.j1 kj4 false) = some r := by rw [if_neg (show ¬ (false = true) by decide)] at H; exact H
           clear H
           have H := H1
           clear H1
           have H' := Aside0.mk H
           clear H
           go_wp2
           go_meet
           case rel => (try simp only [← Nbq17.out]); exact ⟨_, (false), (by first | rfl | (simp; done) | (simp [*]; done)), H', ⟨by have := HJ4.out; first | omega | exact Nat.le_refl _⟩, ⟨by repeat (first | (with_reducible first | exact HB.out | apply below_alloc | apply pw_below_drewN | apply below_drew1) | exact HB.out)⟩⟩
         case rest =>
          clear HC77
          try clear c1
          try clear q1
          try clear c2
          try clear p2
          try clear q2
          try clear hx2
          try clear c4
          try clear p6
          try clear c7
          try clear c8
          try clear c16
          try clear q17
          try clear c18
          try clear c23
          try clear p25
          try clear q25
          try clear hx25
          try clear c40
          try clear c41
          try clear p64
          try clear c75
          try clear c81
          try clear c83
          try clear hx255_0
          try clear hx255_1
          try clear hx255_2
          try clear p2
          try clear p255
          try clear q1
          try clear q17
          try clear q255
          obtain ⟨kq, x8_76, rfl, HA, HJ76, HB⟩ := hcut
          cases kq with
          | zero => exact absurd HA.out (by simp [darninglaw17_MergeBack.j1])
          | succ kj76 =>
           have H := HA.out
           clear HA
           simp only [darninglaw17_MergeBack.j1] at H
           obtain rfl := Option.some.inj H
           go_wp2
           go_ret
           exact ⟨by first | rfl | (simp [errW_none, errW_some] <;> rfl) | (simp only [← hji14]; first | rfl | (simp [errW_none, errW_some] <;> rfl)) | (simp [*, errW_none, errW_some] <;> rfl), by repeat (first | (with_reducible first | exact HB.out | apply below_alloc | apply pw_below_drewN | apply below_drew1) | exact HB.out)⟩
        ·
         replace c75 := Bool.eq_false_iff.mpr c75
         subst c75
         have H1 : (if ((rd_T35 l0 (ji14)).f1) < (wrap64 (2 + (wrap64 (Int.tmod (IntKind.u64.wrap (a3)) 60)))) then ((darninglaw17_awake.f kj4).bind fun t261 => (some t261)) else (some false)) = some r := by rw [if_neg (show ¬ (false = true) by decide)] at H; exact H
         clear H
         have H := H1
         clear H1
         by_cases c88 : ((rd_T35 l0 (ji14)).f1) < (wrap64 (2 + (wrap64 (Int.tmod (IntKind.u64.wrap (a3)) 60))))
         ·
          rw [if_pos c88] at H
          have c88b0 : decide (((rd_T35 l0 (ji14)).f1) < (wrap64 (2 + (wrap64 (Int.tmod (IntKind.u64.wrap (a3)) 60))))) = true := decide_eq_true c88
          clear c88
          replace H := Option.bind_eq_some_iff.mp H
          obtain ⟨t261, A890, H⟩ := H
          replace H : (some t261) = some r := H
          have A89 := Aside0.mk A890
          clear A890
          obtain rfl := Option.some.inj H
          have p255 : 0 ≤ ((ji14) : Int) := of_decide_eq_true (by first | (with_reducible assumption) | assumption)
          have q255 : (ji14) < (l0.length : Int) := of_decide_eq_true (by first | (with_reducible assumption) | assumption)
          obtain ⟨ad255, e255, hx255_0, hx255_1, hx255_2⟩ := at_T35 HR0.out (ji14) p255 q255
          (try rw [← Nbq17.out] at hx255_2)
          cases e255
          replace hx255_0 := (HB.out.cell (World.block_lt_of_cell? w _ hx255_0)).trans hx255_0
          replace hx255_1 := (HB.out.cell (World.block_lt_of_cell? w _ hx255_1)).trans hx255_1
          replace hx255_2 := (HB.out.cell (World.block_lt_of_cell? w _ hx255_2)).trans hx255_2
          replace p255 := eq_true p255
          replace q255 := eq_true q255
          go_wp2_with (first | ((with_reducible refine gate_callee (f := 23) rfl ?_); refine goesL_ (some 56) rfl rfl Try.func23 (by kernel_rfl) rfl #[.slice (some ad255) l0.length c0, .int .i64 ji14, .int .i64 (wrap64 (2 + (wrap64 (Int.tmod (IntKind.u64.wrap (a3)) 60))))] rfl (by (try simp only [List.map_toArray, List.map_cons, List.map_nil]); first | done | (simp only [hji14]; rfl) | rfl | (simp only [List.length_drop, List.length_take]; rfl)) ?_; (with_reducible refine (carve_Blocks.calls kj4 (fun k_ => k_ < w.heap.size) _ _ l0 ji14 (wrap64 (2 + (wrap64 (Int.tmod (IntKind.u64.wrap (a3)) 60)))) t256 false _ ?side1 A74.out).mono ?_); (case side1 => exact Kd.V_mk HC0.out (Kd.F_below (Kd.C_F k35_heap HR0.out) (by repeat (first | (with_reducible first | exact HB.out | apply below_alloc | apply pw_below_drewN | apply below_drew1) | exact HB.out)))); rintro e w90 ⟨v257, rfl, ho0, hb⟩; refine ⟨_, rfl, ?_⟩; have n0_ := Aside0.mk (Kd.R_lower (Kd.R_mono (ok' := fun k_ => True) ho0 (fun _ hk_ => trivial)) (below_size (by repeat (first | (with_reducible first | exact HB.out | apply below_alloc | apply pw_below_drewN | apply below_drew1) | exact HB.out)))); have n1_ := Aside0.mk (below_step (by repeat (first | (with_reducible first | exact HB.out | apply below_alloc | apply pw_below_drewN | apply below_drew1) | exact HB.out)) hb); clear HB; have HO258 := n0_; have HB := n1_; clear n0_ n1_; (try clear hb); (try clear hb2); (try clear hk); (try clear hi); (try clear ho0); have p260 : 0 ≤ ((ji14) : Int) := of_decide_eq_true (by first | (with_reducible assumption) | assumption); have q260 : (ji14) < (l0.length : Int) := of_decide_eq_true (by first | (with_reducible assumption) | assumption); obtain ⟨ad260, e260, hx260_0, hx260_1, hx260_2⟩ := at_T35 HR0.out (ji14) p260 q260; (try rw [← Nbq17.out] at hx260_2); obtain rfl : ad255 = ad260 := (by injection e260); replace hx260_0 := (HB.out.cell (World.block_lt_of_cell? w _ hx260_0)).trans hx260_0; replace hx260_1 := (HB.out.cell (World.block_lt_of_cell? w _ hx260_1)).trans hx260_1; replace hx260_2 := (HB.out.cell (World.block_lt_of_cell? w _ hx260_2)).trans hx260_2; replace p260 := eq_true p260; replace q260 := eq_true q260) | (go_at_call 15; (with_reducible refine (darninglaw17_awake.calls kj4  t261 _ A89.out).mono ?_); rintro e w91 ⟨rfl, hb⟩; have n0_ := Aside0.mk (Kd.R_below (by (with_reducible repeat (first | apply Kd.R_alloc | apply Kd.R_drewN | apply Kd.R_drew)); exact HO258.out) hb); have n1_ := Aside0.mk (below_step (by repeat (first | (with_reducible first | exact HB.out | apply below_alloc | apply pw_below_drewN | apply below_drew1) | exact HB.out)) hb); clear HO258; clear HB; have HO258 := n0_; have HB := n1_; clear n0_ n1_; (try clear hb); (try clear hb2); (try clear hk); (try clear hi)))
          go_ret
          exact ⟨by first | rfl | (simp [errW_none, errW_some] <;> rfl) | (simp only [← hji14]; first | rfl | (simp [errW_none, errW_some] <;> rfl)) | (simp [*, errW_none, errW_some] <;> rfl), by repeat (first | (with_reducible first | exact HB.out | apply below_alloc | apply pw_below_drewN | apply below_drew1) | exact HB.out)⟩
         ·
          rw [if_neg c88] at H
          have c88b0 : decide (((rd_T35 l0 (ji14)).f1) < (wrap64 (2 + (wrap64 (Int.tmod (IntKind.u64.wrap (a3)) 60))))) = false := decide_eq_false c88
          clear c88
          obtain rfl := Option.some.inj H
          have p255 : 0 ≤ ((ji14) : Int) := of_decide_eq_true (by first | (with_reducible assumption) | assumption)
          have q255 : (ji14) < (l0.length : Int) := of_decide_eq_true (by first | (with_reducible assumption) | assumption)
          obtain ⟨ad255, e255, hx255_0, hx255_1, hx255_2⟩ := at_T35 HR0.out (ji14) p255 q255
          (try rw [← Nbq17.out] at hx255_2)
          cases e255
          replace hx255_0 := (HB.out.cell (World.block_lt_of_cell? w _ hx255_0)).trans hx255_0
          replace hx255_1 := (HB.out.cell (World.block_lt_of_cell? w _ hx255_1)).trans hx255_1
          replace hx255_2 := (HB.out.cell (World.block_lt_of_cell? w _ hx255_2)).trans hx255_2
          replace p255 := eq_true p255
          replace q255 := eq_true q255
          go_wp2_with (first | ((with_reducible refine gate_callee (f := 23) rfl ?_); refine goesL_ (some 56) rfl rfl Try.func23 (by kernel_rfl) rfl #[.slice (some ad255) l0.length c0, .int .i64 ji14, .int .i64 (wrap64 (2 + (wrap64 (Int.tmod (IntKind.u64.wrap (a3)) 60))))] rfl (by (try simp only [List.map_toArray, List.map_cons, List.map_nil]); first | done | (simp only [hji14]; rfl) | rfl | (simp only [List.length_drop, List.length_take]; rfl)) ?_; (with_reducible refine (carve_Blocks.calls kj4 (fun k_ => k_ < w.heap.size) _ _ l0 ji14 (wrap64 (2 + (wrap64 (Int.tmod (IntKind.u64.wrap (a3)) 60)))) t256 false _ ?side1 A74.out).mono ?_); (case side1 => exact Kd.V_mk HC0.out (Kd.F_below (Kd.C_F k35_heap HR0.out) (by repeat (first | (with_reducible first | exact HB.out | apply below_alloc | apply pw_below_drewN | apply below_drew1) | exact HB.out)))); rintro e w92 ⟨v257, rfl, ho0, hb⟩; refine ⟨_, rfl, ?_⟩; have n0_ := Aside0.mk (Kd.R_lower (Kd.R_mono (ok' := fun k_ => True) ho0 (fun _ hk_ => trivial)) (below_size (by repeat (first | (with_reducible first | exact HB.out | apply below_alloc | apply pw_below_drewN | apply below_drew1) | exact HB.out)))); have n1_ := Aside0.mk (below_step (by repeat (first | (with_reducible first | exact HB.out | apply below_alloc | apply pw_below_drewN | apply below_drew1) | exact HB.out)) hb); clear HB; have HO258 := n0_; have HB := n1_; clear n0_ n1_; (try clear hb); (try clear hb2); (try clear hk); (try clear hi); (try clear ho0); have p260 : 0 ≤ ((ji14) : Int) := of_decide_eq_true (by first | (with_reducible assumption) | assumption); have q260 : (ji14) < (l0.length : Int) := of_decide_eq_true (by first | (with_reducible assumption) | assumption); obtain ⟨ad260, e260, hx260_0, hx260_1, hx260_2⟩ := at_T35 HR0.out (ji14) p260 q260; (try rw [← Nbq17.out] at hx260_2); obtain rfl : ad255 = ad260 := (by injection e260); replace hx260_0 := (HB.out.cell (World.block_lt_of_cell? w _ hx260_0)).trans hx260_0; replace hx260_1 := (HB.out.cell (World.block_lt_of_cell? w _ hx260_1)).trans hx260_1; replace hx260_2 := (HB.out.cell (World.block_lt_of_cell? w _ hx260_2)).trans hx260_2; replace p260 := eq_true p260; replace q260 := eq_true q260))
          go_ret
          exact ⟨by first | rfl | (simp [errW_none, errW_some] <;> rfl) | (simp only [← hji14]; first | rfl | (simp [errW_none, errW_some] <;> rfl)) | (simp [*, errW_none, errW_some] <;> rfl), by repeat (first | (with_reducible first | exact HB.out | apply below_alloc | apply pw_below_drewN | apply below_drew1) | exact HB.out)⟩
      ·
       rw [if_neg c16] at H
       exact absurd H (by simp)
     ·
      rw [if_neg c15] at H
      exact absurd H (by simp)
/-- What a value of type 35 that is read fits. -/
def wfT35 (x : S35) : Prop := (Lit.int .i64 x.f0).wf = true ∧ (Lit.int .i64 x.f1).wf = true ∧ True

/-- THE ONE PURE STATEMENT of darninglaw17_MergeBack. -/
def darninglaw17_MergeBack.Pure : Prop := ∀ (l0 : List (S35)) (a1 : Int) (a2 : Int) (a3 : Int), l0.length ≤ maxLen → l0.length * 24 ≤ 140737488351232 → (∀ x ∈ l0, wfT35 x) → (Lit.int .i64 a1).wf = true → (Lit.int .i64 a2).wf = true → (Lit.int .i64 a3).wf = true → ∃ k, darninglaw17_MergeBack.f k l0 a1 a2 a3 = some true
theorem darninglaw17_MergeBack.walk (P : darninglaw17_MergeBack.Pure) (A0 : Option Addr) (c0 : Nat) (l0 : List (S35)) (a1 : Int) (a2 : Int) (a3 : Int) (w : World) (hr0 : Kd.C k35 w A0 l0.length l0) (hc0 : l0.length ≤ c0) (hm0 : l0.length ≤ maxLen) (y0 : l0.length * 24 ≤ 140737488351232) (hw0 : (∀ x ∈ l0, wfT35 x)) (w1 : (Lit.int .i64 a1).wf = true) (w2 : (Lit.int .i64 a2).wf = true) (w3 : (Lit.int .i64 a3).wf = true) :
  Calls Try.prog 11 #[.slice A0 l0.length c0, .int .i64 a1, .int .i64 a2, .int .i64 a3] w fun e w' => e = .returned (.bool true) ∧ Below w.heap.size w w' := by
 obtain ⟨k, h⟩ := P l0 a1 a2 a3 hm0 y0 hw0 w1 w2 w3
 refine (darninglaw17_MergeBack.calls k A0 c0 l0 a1 a2 a3 true w hr0 hc0 h).mono ?_
 rintro e w' ⟨rfl, hd⟩
 exact ⟨rfl, hd⟩

end Go.Proofs.Ytglekonhdjploaa.XMergeBack
