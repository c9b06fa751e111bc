-- Laid by this session's own printer (wip/xprint.py): each Go function that the law reaches as a plain Lean function, and that the call comes to it.
import Derived.Test.YtfgggmojdefidaaXChainSpoiltx0
import Derived.Test.YtfgggmojdefidaaXChainSpoiltx1
import Derived.Test.YtfgggmojdefidaaXChainSpoiltx2
import Derived.Test.YtfgggmojdefidaaXChainSpoiltx3
namespace Go.Proofs.Ytfgggmojdefidaa.XChainSpoilt
open Go.RowKit Go.Proofs.YtfgggmojdefidaaW.PrintWords Go.Proofs.YtfgggmojdefidaaW.PrintLast Go.Proofs.YtfgggmojdefidaaW.PrintMore
attribute [local go_sem] max2_int min2_int max_two min_two max_three min_three max_four min_four   -- for this text's walks alone
set_option linter.unusedVariables false
set_option linter.unusedSimpArgs false

/-! ### darninglaw14_ChainSpoilt: function 10 -/
def darninglaw14_ChainSpoilt.j0 : Nat → List (S51) → Int → Int → Int → Bool → Option (Bool)
  | 0, _, _, _, _, _ => none
  | k + 1, x0, x1, x2, x3, x29 => if x29 = true then ((darninglaw14_awake.f k).bind fun t163 => (some t163)) else (if (IntKind.u64.wrap ((x0.length : Int))) = 0 then (none) else ((darninglaw14_Words.f k x0 x1).bind fun t164 => (if 0 ≤ (wrap64 (Int.tmod (IntKind.u64.wrap (x2)) (IntKind.u64.wrap ((x0.length : Int))))) then (if (wrap64 (Int.tmod (IntKind.u64.wrap (x2)) (IntKind.u64.wrap ((x0.length : Int))))) < (x0.length : Int) then (if 0 ≤ ((rd_T51 x0 (wrap64 (Int.tmod (IntKind.u64.wrap (x2)) (IntKind.u64.wrap ((x0.length : Int)))))).f0) then (if ((rd_T51 x0 (wrap64 (Int.tmod (IntKind.u64.wrap (x2)) (IntKind.u64.wrap ((x0.length : Int)))))).f0) < (t164.length : Int) then ((chain_Blocks.f k (t164.set (((rd_T51 x0 (wrap64 (Int.tmod (IntKind.u64.wrap (x2)) (IntKind.u64.wrap ((x0.length : Int)))))).f0) : Int).toNat (Go.bits .and .u64 (IntKind.u64.wrap (x3)) 3))).bind fun bt169 => ((darninglaw14_Words.f k x0 x1).bind fun t173 => (if 0 ≤ (wrap64 ((x0.length : Int) - 1)) then (if (wrap64 ((x0.length : Int) - 1)) < (x0.length : Int) then ((block_Word.f (wrap64 ((wrap64 (((rd_T51 x0 (wrap64 ((x0.length : Int) - 1))).f1) + 1)) + (wrap64 (Int.tmod (IntKind.u64.wrap (x3)) 100)))) ((rd_T51 x0 (wrap64 ((x0.length : Int) - 1))).f2)).bind fun t178 => (if 0 ≤ ((rd_T51 x0 (wrap64 ((x0.length : Int) - 1))).f0) then (if ((rd_T51 x0 (wrap64 ((x0.length : Int) - 1))).f0) < (t173.length : Int) then ((chain_Blocks.f k (t173.set (((rd_T51 x0 (wrap64 ((x0.length : Int) - 1))).f0) : Int).toNat t178)).bind fun bt180 => (if bt169.2 = true then (some false) else (if bt180.2 = true then (some false) else ((darninglaw14_awake.f k).bind fun t184 => (some t184))))) else (none)) else (none))) else (none)) else (none)))) else (none)) else (none)) else (none)) else (none))))
def darninglaw14_ChainSpoilt.f (k : Nat) (l0 : List (S51)) (a1 : Int) (a2 : Int) (a3 : Int) : Option (Bool) := if (l0.length : Int) > 300 then (darninglaw14_ChainSpoilt.j0 k l0 a1 a2 a3 true) else (if (l0.length : Int) = 0 then (darninglaw14_ChainSpoilt.j0 k l0 a1 a2 a3 true) else ((darningref4_MayBlocks.f k l0 a1).bind fun t162 => (darninglaw14_ChainSpoilt.j0 k l0 a1 a2 a3 (!t162))))
theorem darninglaw14_ChainSpoilt.mono_l : ∀ k, (∀ y0 y1 y2 y3 y4, LeO (darninglaw14_ChainSpoilt.j0 k y0 y1 y2 y3 y4) (darninglaw14_ChainSpoilt.j0 (k + 1) y0 y1 y2 y3 y4))
  | 0 => fun _ _ _ _ _ r h => by simp [darninglaw14_ChainSpoilt.j0] at h
  | k + 1 => by
    have ih0 := darninglaw14_ChainSpoilt.mono_l k
    · intro y0 y1 y2 y3 y4
      unfold darninglaw14_ChainSpoilt.j0
      repeat' first
      | (with_reducible exact ih0 _ _ _ _ _)
      | (with_reducible exact chain_Blocks.mono _ _)
      | (with_reducible exact darninglaw14_Words.mono _ _ _)
      | (with_reducible exact darninglaw14_awake.mono _)
      | (with_reducible exact darningref4_MayBlocks.mono _ _ _)
      | (with_reducible exact LeO.refl _)
      | (with_reducible exact LeO.none _)
      | (with_reducible refine LeO.ite ?_ ?_)
      | (with_reducible refine LeO.bind ?_ (fun _ => ?_))
      | exact ih0 _ _ _ _ _
      | exact chain_Blocks.mono _ _
      | exact darninglaw14_Words.mono _ _ _
      | exact darninglaw14_awake.mono _
      | exact darningref4_MayBlocks.mono _ _ _
      | exact LeO.none _
      | refine LeO.ite ?_ ?_
      | refine LeO.bind ?_ (fun _ => ?_)
theorem darninglaw14_ChainSpoilt.mono : ∀ a0 a1 a2 a3 k, LeO (darninglaw14_ChainSpoilt.f k a0 a1 a2 a3) (darninglaw14_ChainSpoilt.f (k + 1) a0 a1 a2 a3) := by
  intro a0 a1 a2 a3 k
  have ih0 := darninglaw14_ChainSpoilt.mono_l k
  unfold darninglaw14_ChainSpoilt.f
  repeat' first
      | (with_reducible exact ih0 _ _ _ _ _)
      | (with_reducible exact chain_Blocks.mono _ _)
      | (with_reducible exact darninglaw14_Words.mono _ _ _)
      | (with_reducible exact darninglaw14_awake.mono _)
      | (with_reducible exact darningref4_MayBlocks.mono _ _ _)
      | (with_reducible exact LeO.refl _)
      | (with_reducible exact LeO.none _)
      | (with_reducible refine LeO.ite ?_ ?_)
      | (with_reducible refine LeO.bind ?_ (fun _ => ?_))
      | exact ih0 _ _ _ _ _
      | exact chain_Blocks.mono _ _
      | exact darninglaw14_Words.mono _ _ _
      | exact darninglaw14_awake.mono _
      | exact darningref4_MayBlocks.mono _ _ _
      | exact LeO.none _
      | refine LeO.ite ?_ ?_
      | refine LeO.bind ?_ (fun _ => ?_)
def darninglaw14_ChainSpoilt.T9 : Bool × List (List Nat × List Nat) := (true, [([], []), ([], []), ([1], [1]), ([], []), ([3], [3]), ([4], [4]), ([], []), ([6], [6]), ([7], [7]), ([8], [8]), ([5, 9], [5, 9]), ([], []), ([11], [11]), ([10, 12], [10, 12]), ([0, 2, 0, 1, 2, 3, 4, 5, 6, 7, 8, 9, 10, 11, 12, 13], [0, 2]), ([14, 13, 13, 0, 1, 2, 3, 4, 5, 6, 7, 8, 9, 10, 11, 12, 13], [13, 14])])
def darninglaw14_ChainSpoilt.B9 : List Nat := [0, 0, 2, 0, 8, 24, 0, 64, 192, 448, 1016, 0, 2048, 8184, 16383, 32767]
theorem darninglaw14_ChainSpoilt.tab9 : rtab .any (opsOf Try.f10 9) = darninglaw14_ChainSpoilt.T9 := by kernel_rfl
theorem darninglaw14_ChainSpoilt.bits9 : waitsOk darninglaw14_ChainSpoilt.T9.2 darninglaw14_ChainSpoilt.B9 = true := by kernel_rfl
set_option maxHeartbeats 8000000 in
set_option maxRecDepth 100000 in
theorem darninglaw14_ChainSpoilt.calls (k : Nat) (A0 : Option Addr) (c0 : Nat) (l0 : List (S51)) (a1 : Int) (a2 : Int) (a3 : Int) (r : Bool) (w : World) (hr0 : Kd.C k51 w A0 l0.length l0) (hc0 : l0.length ≤ c0) (h : darninglaw14_ChainSpoilt.f k l0 a1 a2 a3 = some r) :
    Calls Try.prog 10 #[.slice A0 l0.length c0, .int .i64 a1, .int .i64 a2, .int .i64 a3] w fun e w' => e = .returned (.bool r) ∧ Below w.heap.size w w' := by
  have hu51 := Try.underlying51
  have HR0 := Aside0.mk hr0
  have HC0 := Aside0.mk hc0
  clear hr0 hc0
  have HB := Aside0.mk (Below.refl w.heap.size w)
  have H : (if (l0.length : Int) > 300 then (darninglaw14_ChainSpoilt.j0 k l0 a1 a2 a3 true) else (if (l0.length : Int) = 0 then (darninglaw14_ChainSpoilt.j0 k l0 a1 a2 a3 true) else ((darningref4_MayBlocks.f k l0 a1).bind fun t162 => (darninglaw14_ChainSpoilt.j0 k l0 a1 a2 a3 (!t162))))) = some r := h
  clear h
  have HC5 := Aside0.mk H
  clear H
  go_enter Try.func10, Try.ntmps10
  go_upto_region 1 with (fail)
  go_cut [29] (fun v29 wc => ∃ (kq : Nat) (x29_4 : Bool), v29 = .bool x29_4 ∧ Aside0 (darninglaw14_ChainSpoilt.j0 kq l0 a1 a2 a3 x29_4 = some r) ∧ Aside0 (kq ≤ k) ∧ Aside0 (Below w.heap.size w wc))
  case first =>
    have H := HC5.out
    clear HC5
    by_cases c6 : (l0.length : Int) > 300
    · rw [if_pos c6] at H
      have c6b0 : decide (300 < (l0.length : Int)) = true := decide_eq_true c6
      have c6b1 : decide (300 < l0.length) = true := decide_eq_true (by omega)
      clear c6
      (first | rw [c6b0] | (simp only [i64_w, i32_w]; rw [c6b0]) | skip)
      have H' := Aside0.mk H
      clear H
      go_wp2
      go_meet
      case rel => exact ⟨_, (true), (by first | rfl | (simp; done) | (simp [*]; done)), H', ⟨by first | omega | exact Nat.le_refl _⟩, ⟨by repeat (first | (with_reducible first | exact HB.out | apply below_alloc | apply pw_below_drewN | apply below_drew1) | exact HB.out)⟩⟩
    · rw [if_neg c6] at H
      have c6b0 : decide (300 < (l0.length : Int)) = false := decide_eq_false c6
      have c6b1 : decide (300 < l0.length) = false := decide_eq_false (by omega)
      clear c6
      (first | rw [c6b0] | (simp only [i64_w, i32_w]; rw [c6b0]) | skip)
      by_cases c7 : (l0.length : Int) = 0
      · rw [if_pos c7] at H
        have c7b0 : ((l0.length : Int) == 0) = true := beq_iff_eq.mpr c7
        have c7b1 : ((l0.length : Int) != 0) = false := bne_eq_false_iff_eq.mpr c7
        clear c7
        have H' := Aside0.mk H
        clear H
        go_wp2
        go_meet
        case rel => exact ⟨_, (true), (by first | rfl | (simp; done) | (simp [*]; done)), H', ⟨by first | omega | exact Nat.le_refl _⟩, ⟨by repeat (first | (with_reducible first | exact HB.out | apply below_alloc | apply pw_below_drewN | apply below_drew1) | exact HB.out)⟩⟩
      · rw [if_neg c7] at H
        have c7b0 : ((l0.length : Int) == 0) = false := beq_eq_false_iff_ne.mpr c7
        have c7b1 : ((l0.length : Int) != 0) = true := bne_iff_ne.mpr c7
        have c7b2 : ¬ (l0 = []) := fun h_ => c7 (by rw [h_]; rfl)
        replace H := Option.bind_eq_some_iff.mp H
        obtain ⟨t162, A80, H⟩ := H
        replace H : (darninglaw14_ChainSpoilt.j0 k l0 a1 a2 a3 (!t162)) = some r := H
        have A8 := Aside0.mk A80
        clear A80
        have H' := Aside0.mk H
        clear H
        go_wp2_with (first | (go_at_call 30; (with_reducible refine (darningref4_MayBlocks.calls k _ _ l0 a1 t162 _ ?side1 ?side2 A8.out).mono ?_); (case side1 => repeat (first | exact (Kd.C_below HR0.out HB.out) | (with_reducible refine Kd.C_alloc ?_ _) | (with_reducible refine Kd.C_drewN ?_ _) | (with_reducible refine Kd.C_drew ?_))); (case side2 => exact HC0.out); rintro e w9 ⟨rfl, hb⟩; have n0_ := Aside0.mk (below_step (by repeat (first | (with_reducible first | exact HB.out | apply below_alloc | apply pw_below_drewN | apply below_drew1) | exact HB.out)) hb); clear HB; have HB := n0_; clear n0_; (try clear hb); (try clear hb2); (try clear hk); (try clear hi)))
        go_meet
        case rel => exact ⟨_, (!t162), (by first | rfl | (simp; done) | (simp [*]; done)), H', ⟨by first | omega | exact Nat.le_refl _⟩, ⟨by repeat (first | (with_reducible first | exact HB.out | apply below_alloc | apply pw_below_drewN | apply below_drew1) | exact HB.out)⟩⟩
  case rest =>
    clear HC5
    try clear c1
    try clear p2
    try clear c6
    try clear c6b0
    try clear c6b1
    try clear c7
    try clear c7b0
    try clear c7b1
    try clear c7b2
    obtain ⟨kq, x29_4, rfl, HA, HJ4, HB⟩ := hcut
    cases kq with
    | zero => exact absurd HA.out (by simp [darninglaw14_ChainSpoilt.j0])
    | succ kj4 =>
      have H := HA.out
      clear HA
      simp only [darninglaw14_ChainSpoilt.j0] at H
      by_cases c10 : x29_4 = true
      · subst c10
        have H1 : ((darninglaw14_awake.f kj4).bind fun t163 => (some t163)) = some r := by rw [if_pos rfl] at H; exact H
        clear H
        have H := H1
        clear H1
        replace H := Option.bind_eq_some_iff.mp H
        obtain ⟨t163, A110, H⟩ := H
        replace H : (some t163) = some r := H
        have A11 := Aside0.mk A110
        clear A110
        obtain rfl := Option.some.inj H
        go_wp2_with (first | ((with_reducible refine gate_callee (f := 22) rfl ?_); refine goesL_ (some 30) rfl rfl Try.func22 (by kernel_rfl) rfl #[] rfl (by (try simp only [List.map_toArray, List.map_cons, List.map_nil]); first | done | rfl | (simp only [List.length_drop, List.length_take]; rfl)) ?_; (with_reducible refine (darninglaw14_awake.calls kj4  t163 _ A11.out).mono ?_); rintro e w12 ⟨rfl, hb⟩; refine ⟨_, rfl, ?_⟩; have n0_ := Aside0.mk (below_step (by repeat (first | (with_reducible first | exact HB.out | apply below_alloc | apply pw_below_drewN | apply below_drew1) | exact HB.out)) hb); clear HB; have HB := n0_; clear n0_; (try clear hb); (try clear hb2); (try clear hk); (try clear hi)))
        go_ret
        exact ⟨by first | rfl | (simp [errW_none, errW_some] <;> rfl) | (simp [*, errW_none, errW_some] <;> rfl), by repeat (first | (with_reducible first | exact HB.out | apply below_alloc | apply pw_below_drewN | apply below_drew1) | exact HB.out)⟩
      · replace c10 := Bool.eq_false_iff.mpr c10
        subst c10
        have H1 : (if (IntKind.u64.wrap ((l0.length : Int))) = 0 then (none) else ((darninglaw14_Words.f kj4 l0 a1).bind fun t164 => (if 0 ≤ (wrap64 (Int.tmod (IntKind.u64.wrap (a2)) (IntKind.u64.wrap ((l0.length : Int))))) then (if (wrap64 (Int.tmod (IntKind.u64.wrap (a2)) (IntKind.u64.wrap ((l0.length : Int))))) < (l0.length : Int) then (if 0 ≤ ((rd_T51 l0 (wrap64 (Int.tmod (IntKind.u64.wrap (a2)) (IntKind.u64.wrap ((l0.length : Int)))))).f0) then (if ((rd_T51 l0 (wrap64 (Int.tmod (IntKind.u64.wrap (a2)) (IntKind.u64.wrap ((l0.length : Int)))))).f0) < (t164.length : Int) then ((chain_Blocks.f kj4 (t164.set (((rd_T51 l0 (wrap64 (Int.tmod (IntKind.u64.wrap (a2)) (IntKind.u64.wrap ((l0.length : Int)))))).f0) : Int).toNat (Go.bits .and .u64 (IntKind.u64.wrap (a3)) 3))).bind fun bt169 => ((darninglaw14_Words.f kj4 l0 a1).bind fun t173 => (if 0 ≤ (wrap64 ((l0.length : Int) - 1)) then (if (wrap64 ((l0.length : Int) - 1)) < (l0.length : Int) then ((block_Word.f (wrap64 ((wrap64 (((rd_T51 l0 (wrap64 ((l0.length : Int) - 1))).f1) + 1)) + (wrap64 (Int.tmod (IntKind.u64.wrap (a3)) 100)))) ((rd_T51 l0 (wrap64 ((l0.length : Int) - 1))).f2)).bind fun t178 => (if 0 ≤ ((rd_T51 l0 (wrap64 ((l0.length : Int) - 1))).f0) then (if ((rd_T51 l0 (wrap64 ((l0.length : Int) - 1))).f0) < (t173.length : Int) then ((chain_Blocks.f kj4 (t173.set (((rd_T51 l0 (wrap64 ((l0.length : Int) - 1))).f0) : Int).toNat t178)).bind fun bt180 => (if bt169.2 = true then (some false) else (if bt180.2 = true then (some false) else ((darninglaw14_awake.f kj4).bind fun t184 => (some t184))))) else (none)) else (none))) else (none)) else (none)))) else (none)) else (none)) else (none)) else (none)))) = some r := by rw [if_neg (show ¬ (false = true) by decide)] at H; exact H
        clear H
        have H := H1
        clear H1
        by_cases c13 : (IntKind.u64.wrap ((l0.length : Int))) = 0
        · rw [if_pos c13] at H
          exact absurd H (by simp)
        · rw [if_neg c13] at H
          have c13b0 : ((IntKind.u64.wrap ((l0.length : Int))) == 0) = false := beq_eq_false_iff_ne.mpr c13
          have c13b1 : ((IntKind.u64.wrap ((l0.length : Int))) != 0) = true := bne_iff_ne.mpr c13
          replace H := Option.bind_eq_some_iff.mp H
          obtain ⟨t164, A140, H⟩ := H
          replace H : (if 0 ≤ (wrap64 (Int.tmod (IntKind.u64.wrap (a2)) (IntKind.u64.wrap ((l0.length : Int))))) then (if (wrap64 (Int.tmod (IntKind.u64.wrap (a2)) (IntKind.u64.wrap ((l0.length : Int))))) < (l0.length : Int) then (if 0 ≤ ((rd_T51 l0 (wrap64 (Int.tmod (IntKind.u64.wrap (a2)) (IntKind.u64.wrap ((l0.length : Int)))))).f0) then (if ((rd_T51 l0 (wrap64 (Int.tmod (IntKind.u64.wrap (a2)) (IntKind.u64.wrap ((l0.length : Int)))))).f0) < (t164.length : Int) then ((chain_Blocks.f kj4 (t164.set (((rd_T51 l0 (wrap64 (Int.tmod (IntKind.u64.wrap (a2)) (IntKind.u64.wrap ((l0.length : Int)))))).f0) : Int).toNat (Go.bits .and .u64 (IntKind.u64.wrap (a3)) 3))).bind fun bt169 => ((darninglaw14_Words.f kj4 l0 a1).bind fun t173 => (if 0 ≤ (wrap64 ((l0.length : Int) - 1)) then (if (wrap64 ((l0.length : Int) - 1)) < (l0.length : Int) then ((block_Word.f (wrap64 ((wrap64 (((rd_T51 l0 (wrap64 ((l0.length : Int) - 1))).f1) + 1)) + (wrap64 (Int.tmod (IntKind.u64.wrap (a3)) 100)))) ((rd_T51 l0 (wrap64 ((l0.length : Int) - 1))).f2)).bind fun t178 => (if 0 ≤ ((rd_T51 l0 (wrap64 ((l0.length : Int) - 1))).f0) then (if ((rd_T51 l0 (wrap64 ((l0.length : Int) - 1))).f0) < (t173.length : Int) then ((chain_Blocks.f kj4 (t173.set (((rd_T51 l0 (wrap64 ((l0.length : Int) - 1))).f0) : Int).toNat t178)).bind fun bt180 => (if bt169.2 = true then (some false) else (if bt180.2 = true then (some false) else ((darninglaw14_awake.f kj4).bind fun t184 => (some t184))))) else (none)) else (none))) else (none)) else (none)))) else (none)) else (none)) else (none)) else (none)) = some r := H
          have A14 := Aside0.mk A140
          clear A140
          obtain ⟨ji15, hji15⟩ : ∃ j_ : Int, (wrap64 (Int.tmod (IntKind.u64.wrap (a2)) (IntKind.u64.wrap ((l0.length : Int))))) = j_ := ⟨_, rfl⟩
          replace H : (if 0 ≤ (ji15) then (if (ji15) < (l0.length : Int) then (if 0 ≤ ((rd_T51 l0 (ji15)).f0) then (if ((rd_T51 l0 (ji15)).f0) < (t164.length : Int) then ((chain_Blocks.f kj4 (t164.set (((rd_T51 l0 (ji15)).f0) : Int).toNat (Go.bits .and .u64 (IntKind.u64.wrap (a3)) 3))).bind fun bt169 => ((darninglaw14_Words.f kj4 l0 a1).bind fun t173 => (if 0 ≤ (wrap64 ((l0.length : Int) - 1)) then (if (wrap64 ((l0.length : Int) - 1)) < (l0.length : Int) then ((block_Word.f (wrap64 ((wrap64 (((rd_T51 l0 (wrap64 ((l0.length : Int) - 1))).f1) + 1)) + (wrap64 (Int.tmod (IntKind.u64.wrap (a3)) 100)))) ((rd_T51 l0 (wrap64 ((l0.length : Int) - 1))).f2)).bind fun t178 => (if 0 ≤ ((rd_T51 l0 (wrap64 ((l0.length : Int) - 1))).f0) then (if ((rd_T51 l0 (wrap64 ((l0.length : Int) - 1))).f0) < (t173.length : Int) then ((chain_Blocks.f kj4 (t173.set (((rd_T51 l0 (wrap64 ((l0.length : Int) - 1))).f0) : Int).toNat t178)).bind fun bt180 => (if bt169.2 = true then (some false) else (if bt180.2 = true then (some false) else ((darninglaw14_awake.f kj4).bind fun t184 => (some t184))))) else (none)) else (none))) else (none)) else (none)))) else (none)) else (none)) else (none)) else (none)) = some r := by first | (rw [hji15] at H; exact H) | (simp only [hji15] at H ⊢; exact H)
          (try rw [hji15] at A14)
          have hji15w : (IntKind.i64.wrap (Int.tmod (IntKind.u64.wrap (a2)) (IntKind.u64.wrap ((l0.length : Int))))) = ji15 := (i64_w _).trans hji15
          by_cases c16 : 0 ≤ (ji15)
          · rw [if_pos c16] at H
            have c16b0 : decide (0 ≤ (ji15)) = true := decide_eq_true c16
            clear c16
            by_cases c17 : (ji15) < (l0.length : Int)
            · rw [if_pos c17] at H
              have c17b0 : decide ((ji15) < (l0.length : Int)) = true := decide_eq_true c17
              clear c17
              by_cases c18 : 0 ≤ ((rd_T51 l0 (ji15)).f0)
              · rw [if_pos c18] at H
                have c18b0 : decide (0 ≤ ((rd_T51 l0 (ji15)).f0)) = true := decide_eq_true c18
                clear c18
                by_cases c19 : ((rd_T51 l0 (ji15)).f0) < (t164.length : Int)
                · rw [if_pos c19] at H
                  have c19b0 : decide (((rd_T51 l0 (ji15)).f0) < (t164.length : Int)) = true := decide_eq_true c19
                  clear c19
                  obtain ⟨y168, hy168⟩ : ∃ y_ : List Int, y_ = (t164.set (((rd_T51 l0 (ji15)).f0) : Int).toNat (Go.bits .and .u64 (IntKind.u64.wrap (a3)) 3)) := ⟨_, rfl⟩
                  replace H : ((chain_Blocks.f kj4 y168).bind fun bt169 => ((darninglaw14_Words.f kj4 l0 a1).bind fun t173 => (if 0 ≤ (wrap64 ((l0.length : Int) - 1)) then (if (wrap64 ((l0.length : Int) - 1)) < (l0.length : Int) then ((block_Word.f (wrap64 ((wrap64 (((rd_T51 l0 (wrap64 ((l0.length : Int) - 1))).f1) + 1)) + (wrap64 (Int.tmod (IntKind.u64.wrap (a3)) 100)))) ((rd_T51 l0 (wrap64 ((l0.length : Int) - 1))).f2)).bind fun t178 => (if 0 ≤ ((rd_T51 l0 (wrap64 ((l0.length : Int) - 1))).f0) then (if ((rd_T51 l0 (wrap64 ((l0.length : Int) - 1))).f0) < (t173.length : Int) then ((chain_Blocks.f kj4 (t173.set (((rd_T51 l0 (wrap64 ((l0.length : Int) - 1))).f0) : Int).toNat t178)).bind fun bt180 => (if bt169.2 = true then (some false) else (if bt180.2 = true then (some false) else ((darninglaw14_awake.f kj4).bind fun t184 => (some t184))))) else (none)) else (none))) else (none)) else (none)))) = some r := by first | (rw [hy168]; with_reducible exact H) | (have H2_ := (Option.bind_some _ _).symm.trans H; rw [hy168]; with_reducible exact H2_) | (have H2_ := (Option.bind_some _ _).symm.trans H; with_reducible exact H2_) | with_reducible exact H | (rw [hy168]; exact H) | exact H
                  have Ny168 := Aside0.mk hy168
                  clear hy168
                  replace H := Option.bind_eq_some_iff.mp H
                  obtain ⟨⟨t169, t170⟩, A210, H⟩ := H
                  replace H : ((darninglaw14_Words.f kj4 l0 a1).bind fun t173 => (if 0 ≤ (wrap64 ((l0.length : Int) - 1)) then (if (wrap64 ((l0.length : Int) - 1)) < (l0.length : Int) then ((block_Word.f (wrap64 ((wrap64 (((rd_T51 l0 (wrap64 ((l0.length : Int) - 1))).f1) + 1)) + (wrap64 (Int.tmod (IntKind.u64.wrap (a3)) 100)))) ((rd_T51 l0 (wrap64 ((l0.length : Int) - 1))).f2)).bind fun t178 => (if 0 ≤ ((rd_T51 l0 (wrap64 ((l0.length : Int) - 1))).f0) then (if ((rd_T51 l0 (wrap64 ((l0.length : Int) - 1))).f0) < (t173.length : Int) then ((chain_Blocks.f kj4 (t173.set (((rd_T51 l0 (wrap64 ((l0.length : Int) - 1))).f0) : Int).toNat t178)).bind fun bt180 => (if t170 = true then (some false) else (if bt180.2 = true then (some false) else ((darninglaw14_awake.f kj4).bind fun t184 => (some t184))))) else (none)) else (none))) else (none)) else (none))) = some r := H
                  have A21 := Aside0.mk A210
                  clear A210
                  replace H := Option.bind_eq_some_iff.mp H
                  obtain ⟨t173, A220, H⟩ := H
                  replace H : (if 0 ≤ (wrap64 ((l0.length : Int) - 1)) then (if (wrap64 ((l0.length : Int) - 1)) < (l0.length : Int) then ((block_Word.f (wrap64 ((wrap64 (((rd_T51 l0 (wrap64 ((l0.length : Int) - 1))).f1) + 1)) + (wrap64 (Int.tmod (IntKind.u64.wrap (a3)) 100)))) ((rd_T51 l0 (wrap64 ((l0.length : Int) - 1))).f2)).bind fun t178 => (if 0 ≤ ((rd_T51 l0 (wrap64 ((l0.length : Int) - 1))).f0) then (if ((rd_T51 l0 (wrap64 ((l0.length : Int) - 1))).f0) < (t173.length : Int) then ((chain_Blocks.f kj4 (t173.set (((rd_T51 l0 (wrap64 ((l0.length : Int) - 1))).f0) : Int).toNat t178)).bind fun bt180 => (if t170 = true then (some false) else (if bt180.2 = true then (some false) else ((darninglaw14_awake.f kj4).bind fun t184 => (some t184))))) else (none)) else (none))) else (none)) else (none)) = some r := H
                  have A22 := Aside0.mk A220
                  clear A220
                  obtain ⟨ji23, hji23⟩ : ∃ j_ : Int, (wrap64 ((l0.length : Int) - 1)) = j_ := ⟨_, rfl⟩
                  replace H : (if 0 ≤ (ji23) then (if (ji23) < (l0.length : Int) then ((block_Word.f (wrap64 ((wrap64 (((rd_T51 l0 (ji23)).f1) + 1)) + (wrap64 (Int.tmod (IntKind.u64.wrap (a3)) 100)))) ((rd_T51 l0 (ji23)).f2)).bind fun t178 => (if 0 ≤ ((rd_T51 l0 (ji23)).f0) then (if ((rd_T51 l0 (ji23)).f0) < (t173.length : Int) then ((chain_Blocks.f kj4 (t173.set (((rd_T51 l0 (ji23)).f0) : Int).toNat t178)).bind fun bt180 => (if t170 = true then (some false) else (if bt180.2 = true then (some false) else ((darninglaw14_awake.f kj4).bind fun t184 => (some t184))))) else (none)) else (none))) else (none)) else (none)) = some r := by first | (rw [hji23] at H; exact H) | (simp only [hji23] at H ⊢; exact H)
                  (try rw [hji23] at A14)
                  (try rw [hji23] at A21)
                  (try rw [hji23] at A22)
                  have hji23w : (IntKind.i64.wrap ((l0.length : Int) - 1)) = ji23 := (i64_w _).trans hji23
                  by_cases c24 : 0 ≤ (ji23)
                  · rw [if_pos c24] at H
                    have c24b0 : decide (0 ≤ (ji23)) = true := decide_eq_true c24
                    clear c24
                    by_cases c25 : (ji23) < (l0.length : Int)
                    · rw [if_pos c25] at H
                      have c25b0 : decide ((ji23) < (l0.length : Int)) = true := decide_eq_true c25
                      clear c25
                      replace H := Option.bind_eq_some_iff.mp H
                      obtain ⟨t178, A260, H⟩ := H
                      replace H : (if 0 ≤ ((rd_T51 l0 (ji23)).f0) then (if ((rd_T51 l0 (ji23)).f0) < (t173.length : Int) then ((chain_Blocks.f kj4 (t173.set (((rd_T51 l0 (ji23)).f0) : Int).toNat t178)).bind fun bt180 => (if t170 = true then (some false) else (if bt180.2 = true then (some false) else ((darninglaw14_awake.f kj4).bind fun t184 => (some t184))))) else (none)) else (none)) = some r := H
                      have A26 := Aside0.mk A260
                      clear A260
                      by_cases c27 : 0 ≤ ((rd_T51 l0 (ji23)).f0)
                      · rw [if_pos c27] at H
                        have c27b0 : decide (0 ≤ ((rd_T51 l0 (ji23)).f0)) = true := decide_eq_true c27
                        clear c27
                        by_cases c28 : ((rd_T51 l0 (ji23)).f0) < (t173.length : Int)
                        · rw [if_pos c28] at H
                          have c28b0 : decide (((rd_T51 l0 (ji23)).f0) < (t173.length : Int)) = true := decide_eq_true c28
                          clear c28
                          obtain ⟨y179, hy179⟩ : ∃ y_ : List Int, y_ = (t173.set (((rd_T51 l0 (ji23)).f0) : Int).toNat t178) := ⟨_, rfl⟩
                          replace H : ((chain_Blocks.f kj4 y179).bind fun bt180 => (if t170 = true then (some false) else (if bt180.2 = true then (some false) else ((darninglaw14_awake.f kj4).bind fun t184 => (some t184))))) = some r := by first | (rw [hy179]; with_reducible exact H) | (have H2_ := (Option.bind_some _ _).symm.trans H; rw [hy179]; with_reducible exact H2_) | (have H2_ := (Option.bind_some _ _).symm.trans H; with_reducible exact H2_) | with_reducible exact H | (rw [hy179]; exact H) | exact H
                          have Ny179 := Aside0.mk hy179
                          clear hy179
                          replace H := Option.bind_eq_some_iff.mp H
                          obtain ⟨⟨t180, t181⟩, A300, H⟩ := H
                          replace H : (if t170 = true then (some false) else (if t181 = true then (some false) else ((darninglaw14_awake.f kj4).bind fun t184 => (some t184)))) = some r := H
                          have A30 := Aside0.mk A300
                          clear A300
                          by_cases c31 : t170 = true
                          · subst c31
                            have H1 : (some false) = some r := by rw [if_pos rfl] at H; exact H
                            clear H
                            have H := H1
                            clear H1
                            obtain rfl := Option.some.inj H
                            try go_wp2_with (first | ((with_reducible refine gate_callee (f := 37) rfl ?_); refine goesL_ (some 40) rfl rfl Try.func37 (by kernel_rfl) rfl #[.slice A0 l0.length c0, .int .i64 a1] rfl (by (try simp only [List.map_toArray, List.map_cons, List.map_nil]); first | done | rfl | (simp only [List.length_drop, List.length_take]; rfl)) ?_; (with_reducible refine (darninglaw14_Words.calls kj4 _ _ l0 a1 t164 _ ?side1 ?side2 A14.out).mono ?_); (case side1 => repeat (first | exact (Kd.C_below HR0.out HB.out) | (with_reducible refine Kd.C_alloc ?_ _) | (with_reducible refine Kd.C_drewN ?_ _) | (with_reducible refine Kd.C_drew ?_))); (case side2 => exact HC0.out); rintro e w32 ⟨v165, rfl, ho0, hb⟩; refine ⟨_, rfl, ?_⟩; have n0_ := Aside0.mk (Kd.R_lower ho0 (below_size (by repeat (first | (with_reducible first | exact HB.out | apply below_alloc | apply pw_below_drewN | apply below_drew1) | exact HB.out)))); have n1_ := Aside0.mk (below_step (by repeat (first | (with_reducible first | exact HB.out | apply below_alloc | apply pw_below_drewN | apply below_drew1) | exact HB.out)) hb); clear HB; have HO166 := n0_; have HB := n1_; clear n0_ n1_; (try clear hb); (try clear hb2); (try clear hk); (try clear hi); (try clear ho0); have p167 : 0 ≤ ((ji15) : Int) := of_decide_eq_true (by first | (with_reducible assumption) | assumption); have q167 : (ji15) < (l0.length : Int) := of_decide_eq_true (by first | (with_reducible assumption) | assumption); obtain ⟨ad167, e167, hx167_0, hx167_1, hx167_2⟩ := at_T51 HR0.out (ji15) p167 q167; cases e167; replace hx167_0 := (HB.out.cell (World.block_lt_of_cell? w _ hx167_0)).trans hx167_0; replace hx167_1 := (HB.out.cell (World.block_lt_of_cell? w _ hx167_1)).trans hx167_1; replace hx167_2 := (HB.out.cell (World.block_lt_of_cell? w _ hx167_2)).trans hx167_2; replace p167 := eq_true p167; replace q167 := eq_true q167; have p20 : 0 ≤ (((rd_T51 l0 (ji15)).f0) : Int) := of_decide_eq_true (by first | (with_reducible assumption) | assumption); have q20 : (((rd_T51 l0 (ji15)).f0) : Int) < ((t164.length : Int) : Int) := of_decide_eq_true (by first | (with_reducible assumption) | assumption); obtain ⟨go20, co20, eo20, gb20, gl20, cl20, HG20⟩ := Kd.R_form HO166.out (by omega); (first | cases eo20 | (injection eo20 with ea_ en_ ec_; (first | subst ea_ | (injection ea_ with ea_; subst ea_)); subst ec_; clear en_)); have GB20 := Aside0.mk gb20; have GG20 := Aside0.mk HG20; clear gb20 gl20 HG20; obtain ⟨hx20_0, hf20_0⟩ := Kd.R_celln 0 HO166.out (((rd_T51 l0 (ji15)).f0) : Int) p20 q20; replace p20 := eq_true p20; replace q20 := eq_true q20; obtain ⟨hy33_, hz33_⟩ := Kd.R_celln 0 HO166.out (((rd_T51 l0 (ji15)).f0) : Int) (of_decide_eq_true (by first | (with_reducible assumption) | assumption)) (of_decide_eq_true (by first | (with_reducible assumption) | assumption)); have HP33 := Kd.R_putg HO166.out (((rd_T51 l0 (ji15)).f0) : Int) (Go.bits .and .u64 (IntKind.u64.wrap (a3)) 3)) | ((with_reducible refine gate_store (t := 34) (p := 50) rfl ?_); refine store_event (t := 34) (p := 50) (v := ?vo_w34) (w1 := (w32.setCell ⟨go20, (((rd_T51 l0 (ji15)).f0) : Int).toNat, none⟩ (.int .u64 (Go.bits .and .u64 (IntKind.u64.wrap (a3)) 3)))) ?hg ?ho ?hn ?hr ?_; (case ho => rfl); (case hg => rfl); (case hn => rfl); (case hr => first | (go_simp; done) | (go_simp; rfl)); intro w34 hw; have hg : w32.grownBy w34 (some go20) := (by rw [hw]; exact HP33.2); have hp_ : Kd.R (Kd.int .u64) 34 w34 w.heap.size (fun _ => True) (.slice (some ⟨go20, 0, none⟩) t164.length co20) y168 := (by rw [hw, Ny168.out]; exact HP33.1); clear HP33; have n0_ := Aside0.mk (hp_); have n1_ := Aside0.mk ((by rw [hw]; exact below_set (HB.out) GB20.out : Below w.heap.size w w34)); clear HO166; clear HB; have HO166 := n0_; have HB := n1_; clear n0_ n1_; clear hg hw hp_) | ((with_reducible refine gate_callee (f := 23) rfl ?_); refine goesL_ (some 53) rfl rfl Try.func23 (by kernel_rfl) rfl #[.slice (some ⟨go20, 0, none⟩) y168.length co20] rfl (by (try simp only [List.map_toArray, List.map_cons, List.map_nil]); first | done | (rw [show y168.length = t164.length from (Kd.R_reads' HO166.out).1.symm] <;> rfl) | rfl | (simp only [List.length_drop, List.length_take]; rfl)) ?_; (with_reducible refine (chain_Blocks.calls kj4 _ _ y168 t169 true _ ?side1 ?side2 A21.out).mono ?_); (case side1 => repeat (first | exact (Kd.R_reads' HO166.out).2.2 | (with_reducible refine Kd.C_alloc ?_ _) | (with_reducible refine Kd.C_drewN ?_ _) | (with_reducible refine Kd.C_drew ?_))); (case side2 => rw [show y168.length = t164.length from (Kd.R_reads' HO166.out).1.symm]; exact (Kd.R_reads' HO166.out).2.1); rintro e w35 ⟨v171, rfl, ho0, hb⟩; refine ⟨_, rfl, ?_⟩; have n0_ := Aside0.mk (Kd.R_below (by (with_reducible repeat (first | apply Kd.R_alloc | apply Kd.R_drewN | apply Kd.R_drew)); exact HO166.out) hb); have n1_ := Aside0.mk (Kd.R_lower ho0 (below_size (by repeat (first | (with_reducible first | exact HB.out | apply below_alloc | apply pw_below_drewN | apply below_drew1) | exact HB.out)))); have n2_ := Aside0.mk (below_step (by repeat (first | (with_reducible first | exact HB.out | apply below_alloc | apply pw_below_drewN | apply below_drew1) | exact HB.out)) hb); clear HO166; clear HB; have HO166 := n0_; have HO172 := n1_; have HB := n2_; clear n0_ n1_ n2_; (try clear hb); (try clear hb2); (try clear hk); (try clear hi); (try clear ho0)) | ((with_reducible refine gate_callee (f := 37) rfl ?_); refine goesL_ (some 58) rfl rfl Try.func37 (by kernel_rfl) rfl #[.slice (some ad167) l0.length c0, .int .i64 a1] rfl (by (try simp only [List.map_toArray, List.map_cons, List.map_nil]); first | done | rfl | (simp only [List.length_drop, List.length_take]; rfl)) ?_; (with_reducible refine (darninglaw14_Words.calls kj4 _ _ l0 a1 t173 _ ?side1 ?side2 A22.out).mono ?_); (case side1 => repeat (first | exact (Kd.C_below HR0.out HB.out) | (with_reducible refine Kd.C_alloc ?_ _) | (with_reducible refine Kd.C_drewN ?_ _) | (with_reducible refine Kd.C_drew ?_))); (case side2 => exact HC0.out); rintro e w36 ⟨v174, rfl, ho0, hb⟩; refine ⟨_, rfl, ?_⟩; have n0_ := Aside0.mk (Kd.R_elder' (by (with_reducible repeat (first | apply Kd.R_alloc | apply Kd.R_drewN | apply Kd.R_drew)); exact HO166.out) (Kd.R_base ho0) hb); have n1_ := Aside0.mk (Kd.R_below (by (with_reducible repeat (first | apply Kd.R_alloc | apply Kd.R_drewN | apply Kd.R_drew)); exact HO172.out) hb); have n2_ := Aside0.mk (Kd.R_lower (Kd.R_new' ho0 (Kd.R_lt (by (with_reducible repeat (first | apply Kd.R_alloc | apply Kd.R_drewN | apply Kd.R_drew)); exact HO166.out))) (below_size (by repeat (first | (with_reducible first | exact HB.out | apply below_alloc | apply pw_below_drewN | apply below_drew1) | exact HB.out)))); have n3_ := Aside0.mk (below_step (by repeat (first | (with_reducible first | exact HB.out | apply below_alloc | apply pw_below_drewN | apply below_drew1) | exact HB.out)) hb); clear HO166; clear HO172; clear HB; have HO166 := n0_; have HO172 := n1_; have HO175 := n2_; have HB := n3_; clear n0_ n1_ n2_ n3_; (try clear hb); (try clear hb2); (try clear hk); (try clear hi); (try clear ho0); have p176 : 0 ≤ ((ji23) : Int) := of_decide_eq_true (by first | (with_reducible assumption) | assumption); have q176 : (ji23) < (l0.length : Int) := of_decide_eq_true (by first | (with_reducible assumption) | assumption); obtain ⟨ad176, e176, hx176_0, hx176_1, hx176_2⟩ := at_T51 HR0.out (ji23) p176 q176; obtain rfl : ad167 = ad176 := (by injection e176); replace hx176_0 := (HB.out.cell (World.block_lt_of_cell? w _ hx176_0)).trans hx176_0; replace hx176_1 := (HB.out.cell (World.block_lt_of_cell? w _ hx176_1)).trans hx176_1; replace hx176_2 := (HB.out.cell (World.block_lt_of_cell? w _ hx176_2)).trans hx176_2; replace p176 := eq_true p176; replace q176 := eq_true q176) | ((with_reducible refine gate_dst (N := 13) rfl ?_); (try (refine gate_guard (by rfl) ?_; dsimp only)); refine box_event ?hg (N := 13) ?hd (cs := #[.int .i64 0, .int .i64 0, .bool false]) (t := 51) ?hr ?_; (case hd => rfl); (case hg => rfl); (case hr => first | (go_simp; done) | (go_simp; rfl)); intro gb177 hg w37 hbox hb; have n0_ := Aside0.mk (Kd.R_below (by (with_reducible repeat (first | apply Kd.R_alloc | apply Kd.R_drewN | apply Kd.R_drew)); exact HO166.out) hb); have n1_ := Aside0.mk (Kd.R_below (Kd.R_elderB (by (with_reducible repeat (first | apply Kd.R_alloc | apply Kd.R_drewN | apply Kd.R_drew)); exact HO172.out) gb177 (Nat.le_of_eq hg.symm)) hb); have n2_ := Aside0.mk (Kd.R_below (by (with_reducible repeat (first | apply Kd.R_alloc | apply Kd.R_drewN | apply Kd.R_drew)); exact HO175.out) hb); have n3_ := Aside0.mk (below_step (by repeat (first | (with_reducible first | exact HB.out | apply below_alloc | apply pw_below_drewN | apply below_drew1) | exact HB.out)) hb); have n4_ := Aside0.mk (hbox); have n5_ := Aside0.mk ((by rw [hg]; exact (below_size (by repeat (first | (with_reducible first | exact HB.out | apply below_alloc | apply pw_below_drewN | apply below_drew1) | exact HB.out))) : w.heap.size ≤ gb177)); have n6_ := Aside0.mk ((by rw [hg]; exact (below_size (by repeat (first | (with_reducible first | exact HB.out | apply below_alloc | apply pw_below_drewN | apply below_drew1) | exact HB.out))) : w.heap.size ≤ gb177)); clear HO166; clear HO172; clear HO175; clear HB; have HO166 := n0_; have HO172 := n1_; have HO175 := n2_; have HB := n3_; have BK177 := n4_; have GW177 := n5_; have GE177 := n6_; clear n0_ n1_ n2_ n3_ n4_ n5_ n6_; clear hb hbox hg; have hcz38_0 : w37.cell? ⟨gb177, 0, none⟩ = some (.int .i64 0) := (blk_cell BK177.out 0).trans rfl; have hcz38_1 : w37.cell? ⟨gb177, 1, none⟩ = some (.int .i64 0) := (blk_cell BK177.out 1).trans rfl; have hcz38_2 : w37.cell? ⟨gb177, 2, none⟩ = some (.bool false) := (blk_cell BK177.out 2).trans rfl; have hfz38_0 := blk_frozen BK177.out 0; have hfz38_1 := blk_frozen BK177.out 1; have hfz38_2 := blk_frozen BK177.out 2))
                            have n0_ : Aside0 (Kd.R (Kd.int .u64) 34 (((w37.setCell ⟨gb177, 0, none⟩ (.int .i64 ((rd_T51 l0 (ji23)).f0))).setCell ⟨gb177, 1, none⟩ (.int .i64 ((rd_T51 l0 (ji23)).f1))).setCell ⟨gb177, 2, none⟩ (.bool ((rd_T51 l0 (ji23)).f2))) w.heap.size (fun k_ => some k_ ≠ (v174 : Value).ownBlock) (.slice (some ⟨go20, 0, none⟩) t164.length co20) y168) := ⟨by (with_reducible repeat (first | apply Kd.R_alloc | apply Kd.R_drewN | apply Kd.R_drew)); exact Kd.R_mono (Kd.R_far (p := ⟨gb177, 2, none⟩) (Kd.R_far (p := ⟨gb177, 1, none⟩) (Kd.R_far (p := ⟨gb177, 0, none⟩) (Kd.R_types HO166.out BK177.out (by decide)) (fun _ hk => hk.2) (.int .i64 ((rd_T51 l0 (ji23)).f0))) (fun _ hk => hk.2) (.int .i64 ((rd_T51 l0 (ji23)).f1))) (fun _ hk => hk.2) (.bool ((rd_T51 l0 (ji23)).f2))) (fun _ hk => hk.1.2)⟩
                            have n1_ : Aside0 (Kd.R k51 51 (((w37.setCell ⟨gb177, 0, none⟩ (.int .i64 ((rd_T51 l0 (ji23)).f0))).setCell ⟨gb177, 1, none⟩ (.int .i64 ((rd_T51 l0 (ji23)).f1))).setCell ⟨gb177, 2, none⟩ (.bool ((rd_T51 l0 (ji23)).f2))) w.heap.size (fun k_ => k_ ≠ gb177) v171 t169) := ⟨by (with_reducible repeat (first | apply Kd.R_alloc | apply Kd.R_drewN | apply Kd.R_drew)); exact Kd.R_mono (Kd.R_far (p := ⟨gb177, 2, none⟩) (Kd.R_far (p := ⟨gb177, 1, none⟩) (Kd.R_far (p := ⟨gb177, 0, none⟩) (Kd.R_mono HO172.out (fun k_ hk => (⟨hk, hk.2⟩ : _ ∧ k_ ≠ gb177))) (fun _ hk => hk.2) (.int .i64 ((rd_T51 l0 (ji23)).f0))) (fun _ hk => hk.2) (.int .i64 ((rd_T51 l0 (ji23)).f1))) (fun _ hk => hk.2) (.bool ((rd_T51 l0 (ji23)).f2))) (fun _ hk => hk.1.2)⟩
                            have n2_ : Aside0 (Kd.R (Kd.int .u64) 34 (((w37.setCell ⟨gb177, 0, none⟩ (.int .i64 ((rd_T51 l0 (ji23)).f0))).setCell ⟨gb177, 1, none⟩ (.int .i64 ((rd_T51 l0 (ji23)).f1))).setCell ⟨gb177, 2, none⟩ (.bool ((rd_T51 l0 (ji23)).f2))) w.heap.size (fun k_ => some k_ ≠ (.slice (some ⟨go20, 0, none⟩) t164.length co20 : Value).ownBlock) v174 t173) := ⟨by (with_reducible repeat (first | apply Kd.R_alloc | apply Kd.R_drewN | apply Kd.R_drew)); exact Kd.R_mono (Kd.R_far (p := ⟨gb177, 2, none⟩) (Kd.R_far (p := ⟨gb177, 1, none⟩) (Kd.R_far (p := ⟨gb177, 0, none⟩) (Kd.R_types HO175.out BK177.out (by decide)) (fun _ hk => hk.2) (.int .i64 ((rd_T51 l0 (ji23)).f0))) (fun _ hk => hk.2) (.int .i64 ((rd_T51 l0 (ji23)).f1))) (fun _ hk => hk.2) (.bool ((rd_T51 l0 (ji23)).f2))) (fun _ hk => hk.1.2)⟩
                            have n3_ : Aside0 ((((w37.setCell ⟨gb177, 0, none⟩ (.int .i64 ((rd_T51 l0 (ji23)).f0))).setCell ⟨gb177, 1, none⟩ (.int .i64 ((rd_T51 l0 (ji23)).f1))).setCell ⟨gb177, 2, none⟩ (.bool ((rd_T51 l0 (ji23)).f2))).heap[gb177]? = some (.cells #[.int .i64 ((rd_T51 l0 (ji23)).f0), .int .i64 ((rd_T51 l0 (ji23)).f1), .bool ((rd_T51 l0 (ji23)).f2)] 51 (0, 0))) := ⟨by (with_reducible repeat (first | refine blk_drewN ?_ _ | refine blk_drew ?_ | refine blk_alloc ?_ _)); refine blk_put (cs := #[.int .i64 ((rd_T51 l0 (ji23)).f0), .int .i64 ((rd_T51 l0 (ji23)).f1), .bool false]) ?_ 2 _ rfl; (with_reducible repeat (first | refine blk_drewN ?_ _ | refine blk_drew ?_ | refine blk_alloc ?_ _)); refine blk_put (cs := #[.int .i64 ((rd_T51 l0 (ji23)).f0), .int .i64 0, .bool false]) ?_ 1 _ rfl; (with_reducible repeat (first | refine blk_drewN ?_ _ | refine blk_drew ?_ | refine blk_alloc ?_ _)); refine blk_put (cs := #[.int .i64 0, .int .i64 0, .bool false]) ?_ 0 _ rfl; (with_reducible repeat (first | refine blk_drewN ?_ _ | refine blk_drew ?_ | refine blk_alloc ?_ _)); exact BK177.out⟩
                            have n4_ : Aside0 (Below w.heap.size w (((w37.setCell ⟨gb177, 0, none⟩ (.int .i64 ((rd_T51 l0 (ji23)).f0))).setCell ⟨gb177, 1, none⟩ (.int .i64 ((rd_T51 l0 (ji23)).f1))).setCell ⟨gb177, 2, none⟩ (.bool ((rd_T51 l0 (ji23)).f2)))) := ⟨by repeat (first | (with_reducible first | exact HB.out | apply below_alloc | apply pw_below_drewN | apply below_drew1 | refine below_set ?_ GE177.out) | exact HB.out)⟩
                            (try clear HO166)
                            (try clear HO172)
                            (try clear HO175)
                            (try clear BK177)
                            (try clear HB)
                            generalize (((w37.setCell ⟨gb177, 0, none⟩ (.int .i64 ((rd_T51 l0 (ji23)).f0))).setCell ⟨gb177, 1, none⟩ (.int .i64 ((rd_T51 l0 (ji23)).f1))).setCell ⟨gb177, 2, none⟩ (.bool ((rd_T51 l0 (ji23)).f2))) = w39 at n0_ n1_ n2_ n3_ n4_ ⊢
                            have HO166 := n0_
                            have HO172 := n1_
                            have HO175 := n2_
                            have BK177 := n3_
                            have HB := n4_
                            clear n0_ n1_ n2_ n3_ n4_
                            have n0_ := Aside0.mk (Kd.R_drew HO166.out)
                            have n1_ := Aside0.mk (Kd.R_drew HO172.out)
                            have n2_ := Aside0.mk (Kd.R_drew HO175.out)
                            have n3_ := Aside0.mk (blk_drew BK177.out)
                            have n4_ := Aside0.mk (below_drew1 HB.out)
                            clear HO166
                            clear HO172
                            clear HO175
                            clear BK177
                            clear HB
                            have HO166 := n0_
                            have HO172 := n1_
                            have HO175 := n2_
                            have BK177 := n3_
                            have HB := n4_
                            clear n0_ n1_ n2_ n3_ n4_
                            refine start_ (n := 16) (S := fun w' => w'.cell? ⟨gb177, 0, none⟩ = some (.int .i64 ((rd_T51 l0 (ji23)).f0)) ∧ w'.cell? ⟨gb177, 1, none⟩ = some (.int .i64 ((rd_T51 l0 (ji23)).f1)) ∧ w'.cell? ⟨gb177, 2, none⟩ = some (.bool ((rd_T51 l0 (ji23)).f2))) (ds := [15]) #[false, false, false, false, false, false, false, false, false, false, false, false, false, false, false, false] (by kernel_rfl) rfl rfl ⟨(blk_cell BK177.out 0).trans rfl, (blk_cell BK177.out 1).trans rfl, (blk_cell BK177.out 2).trans rfl⟩ (fun hHeld => ?_); refine with_tabW darninglaw14_ChainSpoilt.tab9 darninglaw14_ChainSpoilt.bits9 (fun HT_ HW_ => ?_)
                            generalize w39.drew = w40 at HO166 HO172 HO175 BK177 HB hHeld ⊢
                            refine pure_ (i := 0) (N := some 65) (v := ?_) (a' := ?_) #[true, false, false, false, false, false, false, false, false, false, false, false, false, false, false, false] rfl rfl (any_of HT_.out (by kernel_rfl)) (fun _ _ _ h => h) (Or.inl ⟨by rfl, ?_⟩) ?_ ?_
                            rotate_left
                            · intro w'
                              go_simp
                              with_reducible rfl
                            rotate_left
                            · simp only [Act.put, List.setIfInBounds_toArray, List.set_cons_zero, List.set_cons_succ, i64_w, i32_w]
                              rfl
                            refine pure_ (i := 1) (N := some 66) (v := ?_) (a' := ?_) #[true, true, false, false, false, false, false, false, false, false, false, false, false, false, false, false] rfl rfl (any_of HT_.out (by kernel_rfl)) (fun _ _ _ h => h) (Or.inl ⟨by rfl, ?_⟩) ?_ ?_
                            rotate_left
                            · intro w'
                              go_simp
                              with_reducible rfl
                            rotate_left
                            · simp only [Act.put, List.setIfInBounds_toArray, List.set_cons_zero, List.set_cons_succ, i64_w, i32_w]
                              rfl
                            refine pure_ (i := 3) (N := some 68) (v := ?_) (a' := ?_) #[true, true, false, true, false, false, false, false, false, false, false, false, false, false, false, false] rfl rfl (any_of HT_.out (by kernel_rfl)) (fun _ _ _ h => h) (Or.inl ⟨by rfl, ?_⟩) ?_ ?_
                            rotate_left
                            · intro w'
                              go_simp
                              with_reducible rfl
                            rotate_left
                            · simp only [Act.put, List.setIfInBounds_toArray, List.set_cons_zero, List.set_cons_succ, i64_w, i32_w]
                              rfl
                            refine pure_ (i := 6) (N := some 71) (v := ?_) (a' := ?_) #[true, true, false, true, false, false, true, false, false, false, false, false, false, false, false, false] rfl rfl (any_of HT_.out (by kernel_rfl)) (fun _ _ _ h => h) (Or.inl ⟨by rfl, ?_⟩) ?_ ?_
                            rotate_left
                            · intro w'
                              go_simp
                              with_reducible rfl
                            rotate_left
                            · simp only [Act.put, List.setIfInBounds_toArray, List.set_cons_zero, List.set_cons_succ, i64_w, i32_w]
                              rfl
                            refine pure_ (i := 7) (N := some 72) (v := ?_) (a' := ?_) #[true, true, false, true, false, false, true, true, false, false, false, false, false, false, false, false] rfl rfl (any_of HT_.out (by kernel_rfl)) (fun _ _ _ h => h) (Or.inl ⟨by rfl, ?_⟩) ?_ ?_
                            rotate_left
                            · intro w'
                              go_simp
                              with_reducible rfl
                            rotate_left
                            · simp only [Act.put, List.setIfInBounds_toArray, List.set_cons_zero, List.set_cons_succ, i64_w, i32_w]
                              rfl
                            refine pure_ (i := 8) (N := some 73) (v := ?_) (a' := ?_) #[true, true, false, true, false, false, true, true, true, false, false, false, false, false, false, false] rfl rfl (any_of HT_.out (by kernel_rfl)) (fun _ _ _ h => h) (Or.inl ⟨by rfl, ?_⟩) ?_ ?_
                            rotate_left
                            · intro w'
                              go_simp
                              with_reducible rfl
                            rotate_left
                            · simp only [Act.put, List.setIfInBounds_toArray, List.set_cons_zero, List.set_cons_succ, i64_w, i32_w]
                              rfl
                            refine pure_ (i := 9) (N := some 74) (v := ?_) (a' := ?_) #[true, true, false, true, false, false, true, true, true, true, false, false, false, false, false, false] rfl rfl (any_of HT_.out (by kernel_rfl)) (fun _ _ _ h => h) (Or.inl ⟨by rfl, ?_⟩) ?_ ?_
                            rotate_left
                            · intro w'
                              go_simp
                              with_reducible rfl
                            rotate_left
                            · simp only [Act.put, List.setIfInBounds_toArray, List.set_cons_zero, List.set_cons_succ, i64_w, i32_w]
                              rfl
                            refine pure_ (i := 11) (N := some 76) (v := ?_) (a' := ?_) #[true, true, false, true, false, false, true, true, true, true, false, true, false, false, false, false] rfl rfl (any_of HT_.out (by kernel_rfl)) (fun _ _ _ h => h) (Or.inl ⟨by rfl, ?_⟩) ?_ ?_
                            rotate_left
                            · intro w'
                              go_simp
                              with_reducible rfl
                            rotate_left
                            · simp only [Act.put, List.setIfInBounds_toArray, List.set_cons_zero, List.set_cons_succ, i64_w, i32_w]
                              rfl
                            refine take_ (i := 2) (N := some 67) (v := ?_) (a' := ?_) #[true, true, true, true, false, false, true, true, true, true, false, true, false, false, false, false] rfl rfl (take_ofW HT_.out HW_.out (by kernel_rfl)) (fun _ _ _ h => h) (Or.inl ⟨by rfl, ?_⟩) hHeld ?_ ?_
                            rotate_left
                            · rintro w' ⟨s0, s1, s2⟩
                              go_simp
                              with_reducible rfl
                            rotate_left
                            · simp only [Act.put, List.setIfInBounds_toArray, List.set_cons_zero, List.set_cons_succ, i64_w, i32_w]
                              rfl
                            refine take_ (i := 4) (N := some 69) (v := ?_) (a' := ?_) #[true, true, true, true, true, false, true, true, true, true, false, true, false, false, false, false] rfl rfl (take_ofW HT_.out HW_.out (by kernel_rfl)) (fun _ _ _ h => h) (Or.inl ⟨by rfl, ?_⟩) hHeld ?_ ?_
                            rotate_left
                            · rintro w' ⟨s0, s1, s2⟩
                              go_simp
                              with_reducible rfl
                            rotate_left
                            · simp only [Act.put, List.setIfInBounds_toArray, List.set_cons_zero, List.set_cons_succ, i64_w, i32_w]
                              rfl
                            refine pure_ (i := 5) (N := some 70) (v := ?_) (a' := ?_) #[true, true, true, true, true, true, true, true, true, true, false, true, false, false, false, false] rfl rfl (any_of HT_.out (by kernel_rfl)) (fun _ _ _ h => h) (Or.inl ⟨by rfl, ?_⟩) ?_ ?_
                            rotate_left
                            · intro w'
                              go_simp
                              with_reducible rfl
                            rotate_left
                            · simp only [Act.put, List.setIfInBounds_toArray, List.set_cons_zero, List.set_cons_succ, i64_w, i32_w]
                              rfl
                            refine pure_ (i := 10) (N := some 75) (v := ?_) (a' := ?_) #[true, true, true, true, true, true, true, true, true, true, true, true, false, false, false, false] rfl rfl (any_of HT_.out (by kernel_rfl)) (fun _ _ _ h => h) (Or.inl ⟨by rfl, ?_⟩) ?_ ?_
                            rotate_left
                            · intro w'
                              go_simp
                              with_reducible rfl
                            rotate_left
                            · simp only [Act.put, List.setIfInBounds_toArray, List.set_cons_zero, List.set_cons_succ, i64_w, i32_w]
                              rfl
                            refine take_ (i := 12) (N := some 77) (v := ?_) (a' := ?_) #[true, true, true, true, true, true, true, true, true, true, true, true, true, false, false, false] rfl rfl (take_ofW HT_.out HW_.out (by kernel_rfl)) (fun _ _ _ h => h) (Or.inl ⟨by rfl, ?_⟩) hHeld ?_ ?_
                            rotate_left
                            · rintro w' ⟨s0, s1, s2⟩
                              go_simp
                              with_reducible rfl
                            rotate_left
                            · simp only [Act.put, List.setIfInBounds_toArray, List.set_cons_zero, List.set_cons_succ, i64_w, i32_w]
                              rfl
                            refine one_ (i := 13) (N := some 78) #[true, true, true, true, true, true, true, true, true, true, true, true, true, true, false, false] rfl rfl (one_of HT_.out (by kernel_rfl)) (by decide) (fun K hK => ?_)
                            refine goes_ Try.func38 (by kernel_rfl) rfl #[.int .i64 (wrap64 ((wrap64 (((rd_T51 l0 (ji23)).f1) + 1)) + (wrap64 (Int.tmod (IntKind.u64.wrap (a3)) 100)))), .bool ((rd_T51 l0 (ji23)).f2)] (by rfl) rfl rfl (by (try simp only [List.map_toArray, List.map_cons, List.map_nil]); first | done | (simp only [hji23]; rfl) | rfl | (simp only [List.length_drop, List.length_take]; rfl)) ?_
                            with_reducible refine (block_Word.calls (wrap64 ((wrap64 (((rd_T51 l0 (ji23)).f1) + 1)) + (wrap64 (Int.tmod (IntKind.u64.wrap (a3)) 100)))) ((rd_T51 l0 (ji23)).f2) t178 _ A26.out).mono ?_
                            rintro e w' ⟨rfl, ⟨nd, rfl⟩⟩
                            refine ⟨_, rfl, ?_⟩
                            have p29 : 0 ≤ (((rd_T51 l0 (ji23)).f0) : Int) := of_decide_eq_true (by first | (with_reducible assumption) | assumption)
                            have q29 : (((rd_T51 l0 (ji23)).f0) : Int) < ((t173.length : Int) : Int) := of_decide_eq_true (by first | (with_reducible assumption) | assumption)
                            obtain ⟨go29, co29, eo29, gb29, gl29, cl29, HG29⟩ := Kd.R_form HO175.out (by omega)
                            (first | cases eo29 | (injection eo29 with ea_ en_ ec_; (first | subst ea_ | (injection ea_ with ea_; subst ea_)); subst ec_; clear en_))
                            have GB29 := Aside0.mk gb29
                            have GG29 := Aside0.mk HG29
                            clear gb29 gl29 HG29
                            obtain ⟨hx29_0, hf29_0⟩ := Kd.R_celln 0 HO175.out (((rd_T51 l0 (ji23)).f0) : Int) p29 q29
                            replace p29 := eq_true p29
                            replace q29 := eq_true q29
                            have HP41 := Kd.R_putn HO175.out (((rd_T51 l0 (ji23)).f0) : Int) t178
                            rw [← Ny179.out] at HP41
                            have HQ41 := Aside0.mk HP41
                            clear HP41
                            refine hK.out _ _ ⟨(blk_cell BK177.out 0).trans rfl, (blk_cell BK177.out 1).trans rfl, (blk_cell BK177.out 2).trans rfl⟩ (fun hHeld => ?_)
                            clear hK K
                            refine norm_ (a' := ?_) ?_ ?_
                            rotate_left
                            · show Act.put _ (some 78) _ = _
                              simp only [Act.put, List.setIfInBounds_toArray, List.set_cons_zero, List.set_cons_succ, i64_w, i32_w]
                              rfl
                            refine pure_ (i := 14) (N := some 79) (v := ?_) (a' := ?_) #[true, true, true, true, true, true, true, true, true, true, true, true, true, true, true, false] rfl rfl (any_of HT_.out (by kernel_rfl)) (fun _ _ _ h => h) (Or.inl ⟨by rfl, ?_⟩) ?_ ?_
                            rotate_left
                            · intro w'
                              go_simp
                              with_reducible rfl
                            rotate_left
                            · simp only [Act.put, List.setIfInBounds_toArray, List.set_cons_zero, List.set_cons_succ, i64_w, i32_w]
                              rfl
                            refine last_ (i := 15) (N := none) #[true, true, true, true, true, true, true, true, true, true, true, true, true, true, true, true] rfl rfl (one_of HT_.out (by kernel_rfl)) (by decide) (fun K hK => ?_)
                            refine skip_ (w1 := ?_) (by rfl) rfl ?_ ?_
                            rotate_left
                            · go_simp
                              rfl
                            refine hK.out _ _ ?_
                            clear hK K
                            refine done_ (done_of HT_.out (by kernel_rfl)) ?_
                            try go_wp2_with (first | ((with_reducible refine gate_callee (f := 23) rfl ?_); refine goesL_ (some 82) rfl rfl Try.func23 (by kernel_rfl) rfl #[.slice (some ⟨go29, 0, none⟩) y179.length co29] rfl (by (try simp only [List.map_toArray, List.map_cons, List.map_nil]); first | done | (rw [show y179.length = t173.length from (Kd.R_reads' HQ41.out).1.symm] <;> rfl) | rfl | (simp only [List.length_drop, List.length_take]; rfl)) ?_; (with_reducible refine (chain_Blocks.calls kj4 _ _ y179 t180 t181 _ ?side1 ?side2 A30.out).mono ?_); (case side1 => refine (Kd.R_reads' (e := 34) (base := w.heap.size) (ok := fun k_ => some k_ ≠ (.slice (some ⟨go20, 0, none⟩) t164.length co20 : Value).ownBlock) (n := t173.length) (c := co29) ?_).2.2; exact (by (with_reducible repeat (first | apply Kd.R_alloc | apply Kd.R_drewN | apply Kd.R_drew)); exact HQ41.out)); (case side2 => rw [show y179.length = t173.length from (Kd.R_reads' HQ41.out).1.symm]; exact (Kd.R_reads' HO175.out).2.1); rintro e w42 ⟨v182, rfl, ho0, hb⟩; refine ⟨_, rfl, ?_⟩; have n0_ := Aside0.mk (Kd.R_below (by (with_reducible repeat (first | apply Kd.R_alloc | apply Kd.R_drewN | apply Kd.R_drew)); exact (Kd.R_mono (Kd.R_far (p := ⟨go29, (((rd_T51 l0 (ji23)).f0) : Int).toNat, none⟩) (Kd.R_mono HO166.out (fun k_ hk => (⟨hk, fun e_ => hk (by rw [e_]; rfl)⟩ : _ ∧ k_ ≠ go29))) (fun _ hk => hk.2) (.int .u64 t178)) (fun _ h_ => h_.1))) hb); have n1_ := Aside0.mk (Kd.R_elder' (by (with_reducible repeat (first | apply Kd.R_alloc | apply Kd.R_drewN | apply Kd.R_drew)); exact (Kd.R_mono (Kd.R_far (p := ⟨go29, (((rd_T51 l0 (ji23)).f0) : Int).toNat, none⟩) (Kd.R_types HO172.out GG29.out (by decide)) (fun _ hk => hk.2) (.int .u64 t178)) (fun _ h_ => h_.1))) (Kd.R_base ho0) hb); have n2_ := Aside0.mk (Kd.R_below (by (with_reducible repeat (first | apply Kd.R_alloc | apply Kd.R_drewN | apply Kd.R_drew)); exact HQ41.out) hb); have n3_ := Aside0.mk (Kd.R_lower (Kd.R_newB (Kd.R_new' ho0 (Kd.R_lt (by (with_reducible repeat (first | apply Kd.R_alloc | apply Kd.R_drewN | apply Kd.R_drew)); exact (Kd.R_mono (Kd.R_far (p := ⟨go29, (((rd_T51 l0 (ji23)).f0) : Int).toNat, none⟩) (Kd.R_types HO172.out GG29.out (by decide)) (fun _ hk => hk.2) (.int .u64 t178)) (fun _ h_ => h_.1))))) (g := gb177) (o := .cells #[.int .i64 ((rd_T51 l0 (ji23)).f0), .int .i64 ((rd_T51 l0 (ji23)).f1), .bool ((rd_T51 l0 (ji23)).f2)] 51 (0, 0)) (by (with_reducible repeat (first | refine blk_drewN ?_ _ | refine blk_drew ?_ | refine blk_alloc ?_ _)); refine blk_far ?_ (by have h_ := Kd.R_ne HO175.out BK177.out (by decide); intro e_; exact h_ (by rw [e_]; rfl)) _; (with_reducible repeat (first | refine blk_drewN ?_ _ | refine blk_drew ?_ | refine blk_alloc ?_ _)); exact BK177.out)) (below_size (by repeat (first | (with_reducible first | exact HB.out | apply below_alloc | apply pw_below_drewN | apply below_drew1 | refine below_set ?_ GB29.out | refine below_set ?_ GE177.out) | exact HB.out)))); have n4_ := Aside0.mk (blk_below (g := gb177) (o := .cells #[.int .i64 ((rd_T51 l0 (ji23)).f0), .int .i64 ((rd_T51 l0 (ji23)).f1), .bool ((rd_T51 l0 (ji23)).f2)] 51 (0, 0)) (by (with_reducible repeat (first | refine blk_drewN ?_ _ | refine blk_drew ?_ | refine blk_alloc ?_ _)); refine blk_far ?_ (by have h_ := Kd.R_ne HO175.out BK177.out (by decide); intro e_; exact h_ (by rw [e_]; rfl)) _; (with_reducible repeat (first | refine blk_drewN ?_ _ | refine blk_drew ?_ | refine blk_alloc ?_ _)); exact BK177.out) hb); have n5_ := Aside0.mk (below_step (by repeat (first | (with_reducible first | exact HB.out | apply below_alloc | apply pw_below_drewN | apply below_drew1 | refine below_set ?_ GB29.out | refine below_set ?_ GE177.out) | exact HB.out)) hb); clear HO166; clear HO172; clear HO175; clear BK177; clear HB; have HO166 := n0_; have HO172 := n1_; have HO175 := n2_; have HO183 := n3_; have BK177 := n4_; have HB := n5_; clear n0_ n1_ n2_ n3_ n4_ n5_; (try clear hb); (try clear hb2); (try clear hk); (try clear hi); (try clear ho0)))
                            go_ret
                            exact ⟨by first | rfl | (simp [errW_none, errW_some] <;> rfl) | (simp only [← hji15, ← hji23]; first | rfl | (simp [errW_none, errW_some] <;> rfl)) | (simp [*, errW_none, errW_some] <;> rfl), by repeat (first | (with_reducible first | exact HB.out | apply below_alloc | apply pw_below_drewN | apply below_drew1 | refine below_set ?_ GE177.out) | exact HB.out)⟩
                          · replace c31 := Bool.eq_false_iff.mpr c31
                            subst c31
                            have H1 : (if t181 = true then (some false) else ((darninglaw14_awake.f kj4).bind fun t184 => (some t184))) = some r := by rw [if_neg (show ¬ (false = true) by decide)] at H; exact H
                            clear H
                            have H := H1
                            clear H1
                            by_cases c43 : t181 = true
                            · subst c43
                              have H1 : (some false) = some r := by rw [if_pos rfl] at H; exact H
                              clear H
                              have H := H1
                              clear H1
                              obtain rfl := Option.some.inj H
                              try go_wp2_with (first | ((with_reducible refine gate_callee (f := 37) rfl ?_); refine goesL_ (some 40) rfl rfl Try.func37 (by kernel_rfl) rfl #[.slice A0 l0.length c0, .int .i64 a1] rfl (by (try simp only [List.map_toArray, List.map_cons, List.map_nil]); first | done | rfl | (simp only [List.length_drop, List.length_take]; rfl)) ?_; (with_reducible refine (darninglaw14_Words.calls kj4 _ _ l0 a1 t164 _ ?side1 ?side2 A14.out).mono ?_); (case side1 => repeat (first | exact (Kd.C_below HR0.out HB.out) | (with_reducible refine Kd.C_alloc ?_ _) | (with_reducible refine Kd.C_drewN ?_ _) | (with_reducible refine Kd.C_drew ?_))); (case side2 => exact HC0.out); rintro e w44 ⟨v165, rfl, ho0, hb⟩; refine ⟨_, rfl, ?_⟩; have n0_ := Aside0.mk (Kd.R_lower ho0 (below_size (by repeat (first | (with_reducible first | exact HB.out | apply below_alloc | apply pw_below_drewN | apply below_drew1) | exact HB.out)))); have n1_ := Aside0.mk (below_step (by repeat (first | (with_reducible first | exact HB.out | apply below_alloc | apply pw_below_drewN | apply below_drew1) | exact HB.out)) hb); clear HB; have HO166 := n0_; have HB := n1_; clear n0_ n1_; (try clear hb); (try clear hb2); (try clear hk); (try clear hi); (try clear ho0); have p167 : 0 ≤ ((ji15) : Int) := of_decide_eq_true (by first | (with_reducible assumption) | assumption); have q167 : (ji15) < (l0.length : Int) := of_decide_eq_true (by first | (with_reducible assumption) | assumption); obtain ⟨ad167, e167, hx167_0, hx167_1, hx167_2⟩ := at_T51 HR0.out (ji15) p167 q167; cases e167; replace hx167_0 := (HB.out.cell (World.block_lt_of_cell? w _ hx167_0)).trans hx167_0; replace hx167_1 := (HB.out.cell (World.block_lt_of_cell? w _ hx167_1)).trans hx167_1; replace hx167_2 := (HB.out.cell (World.block_lt_of_cell? w _ hx167_2)).trans hx167_2; replace p167 := eq_true p167; replace q167 := eq_true q167; have p20 : 0 ≤ (((rd_T51 l0 (ji15)).f0) : Int) := of_decide_eq_true (by first | (with_reducible assumption) | assumption); have q20 : (((rd_T51 l0 (ji15)).f0) : Int) < ((t164.length : Int) : Int) := of_decide_eq_true (by first | (with_reducible assumption) | assumption); obtain ⟨go20, co20, eo20, gb20, gl20, cl20, HG20⟩ := Kd.R_form HO166.out (by omega); (first | cases eo20 | (injection eo20 with ea_ en_ ec_; (first | subst ea_ | (injection ea_ with ea_; subst ea_)); subst ec_; clear en_)); have GB20 := Aside0.mk gb20; have GG20 := Aside0.mk HG20; clear gb20 gl20 HG20; obtain ⟨hx20_0, hf20_0⟩ := Kd.R_celln 0 HO166.out (((rd_T51 l0 (ji15)).f0) : Int) p20 q20; replace p20 := eq_true p20; replace q20 := eq_true q20; obtain ⟨hy45_, hz45_⟩ := Kd.R_celln 0 HO166.out (((rd_T51 l0 (ji15)).f0) : Int) (of_decide_eq_true (by first | (with_reducible assumption) | assumption)) (of_decide_eq_true (by first | (with_reducible assumption) | assumption)); have HP45 := Kd.R_putg HO166.out (((rd_T51 l0 (ji15)).f0) : Int) (Go.bits .and .u64 (IntKind.u64.wrap (a3)) 3)) | ((with_reducible refine gate_store (t := 34) (p := 50) rfl ?_); refine store_event (t := 34) (p := 50) (v := ?vo_w46) (w1 := (w44.setCell ⟨go20, (((rd_T51 l0 (ji15)).f0) : Int).toNat, none⟩ (.int .u64 (Go.bits .and .u64 (IntKind.u64.wrap (a3)) 3)))) ?hg ?ho ?hn ?hr ?_; (case ho => rfl); (case hg => rfl); (case hn => rfl); (case hr => first | (go_simp; done) | (go_simp; rfl)); intro w46 hw; have hg : w44.grownBy w46 (some go20) := (by rw [hw]; exact HP45.2); have hp_ : Kd.R (Kd.int .u64) 34 w46 w.heap.size (fun _ => True) (.slice (some ⟨go20, 0, none⟩) t164.length co20) y168 := (by rw [hw, Ny168.out]; exact HP45.1); clear HP45; have n0_ := Aside0.mk (hp_); have n1_ := Aside0.mk ((by rw [hw]; exact below_set (HB.out) GB20.out : Below w.heap.size w w46)); clear HO166; clear HB; have HO166 := n0_; have HB := n1_; clear n0_ n1_; clear hg hw hp_) | ((with_reducible refine gate_callee (f := 23) rfl ?_); refine goesL_ (some 53) rfl rfl Try.func23 (by kernel_rfl) rfl #[.slice (some ⟨go20, 0, none⟩) y168.length co20] rfl (by (try simp only [List.map_toArray, List.map_cons, List.map_nil]); first | done | (rw [show y168.length = t164.length from (Kd.R_reads' HO166.out).1.symm] <;> rfl) | rfl | (simp only [List.length_drop, List.length_take]; rfl)) ?_; (with_reducible refine (chain_Blocks.calls kj4 _ _ y168 t169 false _ ?side1 ?side2 A21.out).mono ?_); (case side1 => repeat (first | exact (Kd.R_reads' HO166.out).2.2 | (with_reducible refine Kd.C_alloc ?_ _) | (with_reducible refine Kd.C_drewN ?_ _) | (with_reducible refine Kd.C_drew ?_))); (case side2 => rw [show y168.length = t164.length from (Kd.R_reads' HO166.out).1.symm]; exact (Kd.R_reads' HO166.out).2.1); rintro e w47 ⟨v171, rfl, ho0, hb⟩; refine ⟨_, rfl, ?_⟩; have n0_ := Aside0.mk (Kd.R_below (by (with_reducible repeat (first | apply Kd.R_alloc | apply Kd.R_drewN | apply Kd.R_drew)); exact HO166.out) hb); have n1_ := Aside0.mk (Kd.R_lower ho0 (below_size (by repeat (first | (with_reducible first | exact HB.out | apply below_alloc | apply pw_below_drewN | apply below_drew1) | exact HB.out)))); have n2_ := Aside0.mk (below_step (by repeat (first | (with_reducible first | exact HB.out | apply below_alloc | apply pw_below_drewN | apply below_drew1) | exact HB.out)) hb); clear HO166; clear HB; have HO166 := n0_; have HO172 := n1_; have HB := n2_; clear n0_ n1_ n2_; (try clear hb); (try clear hb2); (try clear hk); (try clear hi); (try clear ho0)) | ((with_reducible refine gate_callee (f := 37) rfl ?_); refine goesL_ (some 58) rfl rfl Try.func37 (by kernel_rfl) rfl #[.slice (some ad167) l0.length c0, .int .i64 a1] rfl (by (try simp only [List.map_toArray, List.map_cons, List.map_nil]); first | done | rfl | (simp only [List.length_drop, List.length_take]; rfl)) ?_; (with_reducible refine (darninglaw14_Words.calls kj4 _ _ l0 a1 t173 _ ?side1 ?side2 A22.out).mono ?_); (case side1 => repeat (first | exact (Kd.C_below HR0.out HB.out) | (with_reducible refine Kd.C_alloc ?_ _) | (with_reducible refine Kd.C_drewN ?_ _) | (with_reducible refine Kd.C_drew ?_))); (case side2 => exact HC0.out); rintro e w48 ⟨v174, rfl, ho0, hb⟩; refine ⟨_, rfl, ?_⟩; have n0_ := Aside0.mk (Kd.R_elder' (by (with_reducible repeat (first | apply Kd.R_alloc | apply Kd.R_drewN | apply Kd.R_drew)); exact HO166.out) (Kd.R_base ho0) hb); have n1_ := Aside0.mk (Kd.R_below (by (with_reducible repeat (first | apply Kd.R_alloc | apply Kd.R_drewN | apply Kd.R_drew)); exact HO172.out) hb); have n2_ := Aside0.mk (Kd.R_lower (Kd.R_new' ho0 (Kd.R_lt (by (with_reducible repeat (first | apply Kd.R_alloc | apply Kd.R_drewN | apply Kd.R_drew)); exact HO166.out))) (below_size (by repeat (first | (with_reducible first | exact HB.out | apply below_alloc | apply pw_below_drewN | apply below_drew1) | exact HB.out)))); have n3_ := Aside0.mk (below_step (by repeat (first | (with_reducible first | exact HB.out | apply below_alloc | apply pw_below_drewN | apply below_drew1) | exact HB.out)) hb); clear HO166; clear HO172; clear HB; have HO166 := n0_; have HO172 := n1_; have HO175 := n2_; have HB := n3_; clear n0_ n1_ n2_ n3_; (try clear hb); (try clear hb2); (try clear hk); (try clear hi); (try clear ho0); have p176 : 0 ≤ ((ji23) : Int) := of_decide_eq_true (by first | (with_reducible assumption) | assumption); have q176 : (ji23) < (l0.length : Int) := of_decide_eq_true (by first | (with_reducible assumption) | assumption); obtain ⟨ad176, e176, hx176_0, hx176_1, hx176_2⟩ := at_T51 HR0.out (ji23) p176 q176; obtain rfl : ad167 = ad176 := (by injection e176); replace hx176_0 := (HB.out.cell (World.block_lt_of_cell? w _ hx176_0)).trans hx176_0; replace hx176_1 := (HB.out.cell (World.block_lt_of_cell? w _ hx176_1)).trans hx176_1; replace hx176_2 := (HB.out.cell (World.block_lt_of_cell? w _ hx176_2)).trans hx176_2; replace p176 := eq_true p176; replace q176 := eq_true q176) | ((with_reducible refine gate_dst (N := 13) rfl ?_); (try (refine gate_guard (by rfl) ?_; dsimp only)); refine box_event ?hg (N := 13) ?hd (cs := #[.int .i64 0, .int .i64 0, .bool false]) (t := 51) ?hr ?_; (case hd => rfl); (case hg => rfl); (case hr => first | (go_simp; done) | (go_simp; rfl)); intro gb177 hg w49 hbox hb; have n0_ := Aside0.mk (Kd.R_below (by (with_reducible repeat (first | apply Kd.R_alloc | apply Kd.R_drewN | apply Kd.R_drew)); exact HO166.out) hb); have n1_ := Aside0.mk (Kd.R_below (Kd.R_elderB (by (with_reducible repeat (first | apply Kd.R_alloc | apply Kd.R_drewN | apply Kd.R_drew)); exact HO172.out) gb177 (Nat.le_of_eq hg.symm)) hb); have n2_ := Aside0.mk (Kd.R_below (by (with_reducible repeat (first | apply Kd.R_alloc | apply Kd.R_drewN | apply Kd.R_drew)); exact HO175.out) hb); have n3_ := Aside0.mk (below_step (by repeat (first | (with_reducible first | exact HB.out | apply below_alloc | apply pw_below_drewN | apply below_drew1) | exact HB.out)) hb); have n4_ := Aside0.mk (hbox); have n5_ := Aside0.mk ((by rw [hg]; exact (below_size (by repeat (first | (with_reducible first | exact HB.out | apply below_alloc | apply pw_below_drewN | apply below_drew1) | exact HB.out))) : w.heap.size ≤ gb177)); have n6_ := Aside0.mk ((by rw [hg]; exact (below_size (by repeat (first | (with_reducible first | exact HB.out | apply below_alloc | apply pw_below_drewN | apply below_drew1) | exact HB.out))) : w.heap.size ≤ gb177)); clear HO166; clear HO172; clear HO175; clear HB; have HO166 := n0_; have HO172 := n1_; have HO175 := n2_; have HB := n3_; have BK177 := n4_; have GW177 := n5_; have GE177 := n6_; clear n0_ n1_ n2_ n3_ n4_ n5_ n6_; clear hb hbox hg; have hcz50_0 : w49.cell? ⟨gb177, 0, none⟩ = some (.int .i64 0) := (blk_cell BK177.out 0).trans rfl; have hcz50_1 : w49.cell? ⟨gb177, 1, none⟩ = some (.int .i64 0) := (blk_cell BK177.out 1).trans rfl; have hcz50_2 : w49.cell? ⟨gb177, 2, none⟩ = some (.bool false) := (blk_cell BK177.out 2).trans rfl; have hfz50_0 := blk_frozen BK177.out 0; have hfz50_1 := blk_frozen BK177.out 1; have hfz50_2 := blk_frozen BK177.out 2))
                              have n0_ : Aside0 (Kd.R (Kd.int .u64) 34 (((w49.setCell ⟨gb177, 0, none⟩ (.int .i64 ((rd_T51 l0 (ji23)).f0))).setCell ⟨gb177, 1, none⟩ (.int .i64 ((rd_T51 l0 (ji23)).f1))).setCell ⟨gb177, 2, none⟩ (.bool ((rd_T51 l0 (ji23)).f2))) w.heap.size (fun k_ => some k_ ≠ (v174 : Value).ownBlock) (.slice (some ⟨go20, 0, none⟩) t164.length co20) y168) := ⟨by (with_reducible repeat (first | apply Kd.R_alloc | apply Kd.R_drewN | apply Kd.R_drew)); exact Kd.R_mono (Kd.R_far (p := ⟨gb177, 2, none⟩) (Kd.R_far (p := ⟨gb177, 1, none⟩) (Kd.R_far (p := ⟨gb177, 0, none⟩) (Kd.R_types HO166.out BK177.out (by decide)) (fun _ hk => hk.2) (.int .i64 ((rd_T51 l0 (ji23)).f0))) (fun _ hk => hk.2) (.int .i64 ((rd_T51 l0 (ji23)).f1))) (fun _ hk => hk.2) (.bool ((rd_T51 l0 (ji23)).f2))) (fun _ hk => hk.1.2)⟩
                              have n1_ : Aside0 (Kd.R k51 51 (((w49.setCell ⟨gb177, 0, none⟩ (.int .i64 ((rd_T51 l0 (ji23)).f0))).setCell ⟨gb177, 1, none⟩ (.int .i64 ((rd_T51 l0 (ji23)).f1))).setCell ⟨gb177, 2, none⟩ (.bool ((rd_T51 l0 (ji23)).f2))) w.heap.size (fun k_ => k_ ≠ gb177) v171 t169) := ⟨by (with_reducible repeat (first | apply Kd.R_alloc | apply Kd.R_drewN | apply Kd.R_drew)); exact Kd.R_mono (Kd.R_far (p := ⟨gb177, 2, none⟩) (Kd.R_far (p := ⟨gb177, 1, none⟩) (Kd.R_far (p := ⟨gb177, 0, none⟩) (Kd.R_mono HO172.out (fun k_ hk => (⟨hk, hk.2⟩ : _ ∧ k_ ≠ gb177))) (fun _ hk => hk.2) (.int .i64 ((rd_T51 l0 (ji23)).f0))) (fun _ hk => hk.2) (.int .i64 ((rd_T51 l0 (ji23)).f1))) (fun _ hk => hk.2) (.bool ((rd_T51 l0 (ji23)).f2))) (fun _ hk => hk.1.2)⟩
                              have n2_ : Aside0 (Kd.R (Kd.int .u64) 34 (((w49.setCell ⟨gb177, 0, none⟩ (.int .i64 ((rd_T51 l0 (ji23)).f0))).setCell ⟨gb177, 1, none⟩ (.int .i64 ((rd_T51 l0 (ji23)).f1))).setCell ⟨gb177, 2, none⟩ (.bool ((rd_T51 l0 (ji23)).f2))) w.heap.size (fun k_ => some k_ ≠ (.slice (some ⟨go20, 0, none⟩) t164.length co20 : Value).ownBlock) v174 t173) := ⟨by (with_reducible repeat (first | apply Kd.R_alloc | apply Kd.R_drewN | apply Kd.R_drew)); exact Kd.R_mono (Kd.R_far (p := ⟨gb177, 2, none⟩) (Kd.R_far (p := ⟨gb177, 1, none⟩) (Kd.R_far (p := ⟨gb177, 0, none⟩) (Kd.R_types HO175.out BK177.out (by decide)) (fun _ hk => hk.2) (.int .i64 ((rd_T51 l0 (ji23)).f0))) (fun _ hk => hk.2) (.int .i64 ((rd_T51 l0 (ji23)).f1))) (fun _ hk => hk.2) (.bool ((rd_T51 l0 (ji23)).f2))) (fun _ hk => hk.1.2)⟩
                              have n3_ : Aside0 ((((w49.setCell ⟨gb177, 0, none⟩ (.int .i64 ((rd_T51 l0 (ji23)).f0))).setCell ⟨gb177, 1, none⟩ (.int .i64 ((rd_T51 l0 (ji23)).f1))).setCell ⟨gb177, 2, none⟩ (.bool ((rd_T51 l0 (ji23)).f2))).heap[gb177]? = some (.cells #[.int .i64 ((rd_T51 l0 (ji23)).f0), .int .i64 ((rd_T51 l0 (ji23)).f1), .bool ((rd_T51 l0 (ji23)).f2)] 51 (0, 0))) := ⟨by (with_reducible repeat (first | refine blk_drewN ?_ _ | refine blk_drew ?_ | refine blk_alloc ?_ _)); refine blk_put (cs := #[.int .i64 ((rd_T51 l0 (ji23)).f0), .int .i64 ((rd_T51 l0 (ji23)).f1), .bool false]) ?_ 2 _ rfl; (with_reducible repeat (first | refine blk_drewN ?_ _ | refine blk_drew ?_ | refine blk_alloc ?_ _)); refine blk_put (cs := #[.int .i64 ((rd_T51 l0 (ji23)).f0), .int .i64 0, .bool false]) ?_ 1 _ rfl; (with_reducible repeat (first | refine blk_drewN ?_ _ | refine blk_drew ?_ | refine blk_alloc ?_ _)); refine blk_put (cs := #[.int .i64 0, .int .i64 0, .bool false]) ?_ 0 _ rfl; (with_reducible repeat (first | refine blk_drewN ?_ _ | refine blk_drew ?_ | refine blk_alloc ?_ _)); exact BK177.out⟩
                              have n4_ : Aside0 (Below w.heap.size w (((w49.setCell ⟨gb177, 0, none⟩ (.int .i64 ((rd_T51 l0 (ji23)).f0))).setCell ⟨gb177, 1, none⟩ (.int .i64 ((rd_T51 l0 (ji23)).f1))).setCell ⟨gb177, 2, none⟩ (.bool ((rd_T51 l0 (ji23)).f2)))) := ⟨by repeat (first | (with_reducible first | exact HB.out | apply below_alloc | apply pw_below_drewN | apply below_drew1 | refine below_set ?_ GE177.out) | exact HB.out)⟩
                              (try clear HO166)
                              (try clear HO172)
                              (try clear HO175)
                              (try clear BK177)
                              (try clear HB)
                              generalize (((w49.setCell ⟨gb177, 0, none⟩ (.int .i64 ((rd_T51 l0 (ji23)).f0))).setCell ⟨gb177, 1, none⟩ (.int .i64 ((rd_T51 l0 (ji23)).f1))).setCell ⟨gb177, 2, none⟩ (.bool ((rd_T51 l0 (ji23)).f2))) = w51 at n0_ n1_ n2_ n3_ n4_ ⊢
                              have HO166 := n0_
                              have HO172 := n1_
                              have HO175 := n2_
                              have BK177 := n3_
                              have HB := n4_
                              clear n0_ n1_ n2_ n3_ n4_
                              have n0_ := Aside0.mk (Kd.R_drew HO166.out)
                              have n1_ := Aside0.mk (Kd.R_drew HO172.out)
                              have n2_ := Aside0.mk (Kd.R_drew HO175.out)
                              have n3_ := Aside0.mk (blk_drew BK177.out)
                              have n4_ := Aside0.mk (below_drew1 HB.out)
                              clear HO166
                              clear HO172
                              clear HO175
                              clear BK177
                              clear HB
                              have HO166 := n0_
                              have HO172 := n1_
                              have HO175 := n2_
                              have BK177 := n3_
                              have HB := n4_
                              clear n0_ n1_ n2_ n3_ n4_
                              refine start_ (n := 16) (S := fun w' => w'.cell? ⟨gb177, 0, none⟩ = some (.int .i64 ((rd_T51 l0 (ji23)).f0)) ∧ w'.cell? ⟨gb177, 1, none⟩ = some (.int .i64 ((rd_T51 l0 (ji23)).f1)) ∧ w'.cell? ⟨gb177, 2, none⟩ = some (.bool ((rd_T51 l0 (ji23)).f2))) (ds := [15]) #[false, false, false, false, false, false, false, false, false, false, false, false, false, false, false, false] (by kernel_rfl) rfl rfl ⟨(blk_cell BK177.out 0).trans rfl, (blk_cell BK177.out 1).trans rfl, (blk_cell BK177.out 2).trans rfl⟩ (fun hHeld => ?_); refine with_tabW darninglaw14_ChainSpoilt.tab9 darninglaw14_ChainSpoilt.bits9 (fun HT_ HW_ => ?_)
                              generalize w51.drew = w52 at HO166 HO172 HO175 BK177 HB hHeld ⊢
                              refine pure_ (i := 0) (N := some 65) (v := ?_) (a' := ?_) #[true, false, false, false, false, false, false, false, false, false, false, false, false, false, false, false] rfl rfl (any_of HT_.out (by kernel_rfl)) (fun _ _ _ h => h) (Or.inl ⟨by rfl, ?_⟩) ?_ ?_
                              rotate_left
                              · intro w'
                                go_simp
                                with_reducible rfl
                              rotate_left
                              · simp only [Act.put, List.setIfInBounds_toArray, List.set_cons_zero, List.set_cons_succ, i64_w, i32_w]
                                rfl
                              refine pure_ (i := 1) (N := some 66) (v := ?_) (a' := ?_) #[true, true, false, false, false, false, false, false, false, false, false, false, false, false, false, false] rfl rfl (any_of HT_.out (by kernel_rfl)) (fun _ _ _ h => h) (Or.inl ⟨by rfl, ?_⟩) ?_ ?_
                              rotate_left
                              · intro w'
                                go_simp
                                with_reducible rfl
                              rotate_left
                              · simp only [Act.put, List.setIfInBounds_toArray, List.set_cons_zero, List.set_cons_succ, i64_w, i32_w]
                                rfl
                              refine pure_ (i := 3) (N := some 68) (v := ?_) (a' := ?_) #[true, true, false, true, false, false, false, false, false, false, false, false, false, false, false, false] rfl rfl (any_of HT_.out (by kernel_rfl)) (fun _ _ _ h => h) (Or.inl ⟨by rfl, ?_⟩) ?_ ?_
                              rotate_left
                              · intro w'
                                go_simp
                                with_reducible rfl
                              rotate_left
                              · simp only [Act.put, List.setIfInBounds_toArray, List.set_cons_zero, List.set_cons_succ, i64_w, i32_w]
                                rfl
                              refine pure_ (i := 6) (N := some 71) (v := ?_) (a' := ?_) #[true, true, false, true, false, false, true, false, false, false, false, false, false, false, false, false] rfl rfl (any_of HT_.out (by kernel_rfl)) (fun _ _ _ h => h) (Or.inl ⟨by rfl, ?_⟩) ?_ ?_
                              rotate_left
                              · intro w'
                                go_simp
                                with_reducible rfl
                              rotate_left
                              · simp only [Act.put, List.setIfInBounds_toArray, List.set_cons_zero, List.set_cons_succ, i64_w, i32_w]
                                rfl
                              refine pure_ (i := 7) (N := some 72) (v := ?_) (a' := ?_) #[true, true, false, true, false, false, true, true, false, false, false, false, false, false, false, false] rfl rfl (any_of HT_.out (by kernel_rfl)) (fun _ _ _ h => h) (Or.inl ⟨by rfl, ?_⟩) ?_ ?_
                              rotate_left
                              · intro w'
                                go_simp
                                with_reducible rfl
                              rotate_left
                              · simp only [Act.put, List.setIfInBounds_toArray, List.set_cons_zero, List.set_cons_succ, i64_w, i32_w]
                                rfl
                              refine pure_ (i := 8) (N := some 73) (v := ?_) (a' := ?_) #[true, true, false, true, false, false, true, true, true, false, false, false, false, false, false, false] rfl rfl (any_of HT_.out (by kernel_rfl)) (fun _ _ _ h => h) (Or.inl ⟨by rfl, ?_⟩) ?_ ?_
                              rotate_left
                              · intro w'
                                go_simp
                                with_reducible rfl
                              rotate_left
                              · simp only [Act.put, List.setIfInBounds_toArray, List.set_cons_zero, List.set_cons_succ, i64_w, i32_w]
                                rfl
                              refine pure_ (i := 9) (N := some 74) (v := ?_) (a' := ?_) #[true, true, false, true, false, false, true, true, true, true, false, false, false, false, false, false] rfl rfl (any_of HT_.out (by kernel_rfl)) (fun _ _ _ h => h) (Or.inl ⟨by rfl, ?_⟩) ?_ ?_
                              rotate_left
                              · intro w'
                                go_simp
                                with_reducible rfl
                              rotate_left
                              · simp only [Act.put, List.setIfInBounds_toArray, List.set_cons_zero, List.set_cons_succ, i64_w, i32_w]
                                rfl
                              refine pure_ (i := 11) (N := some 76) (v := ?_) (a' := ?_) #[true, true, false, true, false, false, true, true, true, true, false, true, false, false, false, false] rfl rfl (any_of HT_.out (by kernel_rfl)) (fun _ _ _ h => h) (Or.inl ⟨by rfl, ?_⟩) ?_ ?_
                              rotate_left
                              · intro w'
                                go_simp
                                with_reducible rfl
                              rotate_left
                              · simp only [Act.put, List.setIfInBounds_toArray, List.set_cons_zero, List.set_cons_succ, i64_w, i32_w]
                                rfl
                              refine take_ (i := 2) (N := some 67) (v := ?_) (a' := ?_) #[true, true, true, true, false, false, true, true, true, true, false, true, false, false, false, false] rfl rfl (take_ofW HT_.out HW_.out (by kernel_rfl)) (fun _ _ _ h => h) (Or.inl ⟨by rfl, ?_⟩) hHeld ?_ ?_
                              rotate_left
                              · rintro w' ⟨s0, s1, s2⟩
                                go_simp
                                with_reducible rfl
                              rotate_left
                              · simp only [Act.put, List.setIfInBounds_toArray, List.set_cons_zero, List.set_cons_succ, i64_w, i32_w]
                                rfl
                              refine take_ (i := 4) (N := some 69) (v := ?_) (a' := ?_) #[true, true, true, true, true, false, true, true, true, true, false, true, false, false, false, false] rfl rfl (take_ofW HT_.out HW_.out (by kernel_rfl)) (fun _ _ _ h => h) (Or.inl ⟨by rfl, ?_⟩) hHeld ?_ ?_
                              rotate_left
                              · rintro w' ⟨s0, s1, s2⟩
                                go_simp
                                with_reducible rfl
                              rotate_left
                              · simp only [Act.put, List.setIfInBounds_toArray, List.set_cons_zero, List.set_cons_succ, i64_w, i32_w]
                                rfl
                              refine pure_ (i := 5) (N := some 70) (v := ?_) (a' := ?_) #[true, true, true, true, true, true, true, true, true, true, false, true, false, false, false, false] rfl rfl (any_of HT_.out (by kernel_rfl)) (fun _ _ _ h => h) (Or.inl ⟨by rfl, ?_⟩) ?_ ?_
                              rotate_left
                              · intro w'
                                go_simp
                                with_reducible rfl
                              rotate_left
                              · simp only [Act.put, List.setIfInBounds_toArray, List.set_cons_zero, List.set_cons_succ, i64_w, i32_w]
                                rfl
                              refine pure_ (i := 10) (N := some 75) (v := ?_) (a' := ?_) #[true, true, true, true, true, true, true, true, true, true, true, true, false, false, false, false] rfl rfl (any_of HT_.out (by kernel_rfl)) (fun _ _ _ h => h) (Or.inl ⟨by rfl, ?_⟩) ?_ ?_
                              rotate_left
                              · intro w'
                                go_simp
                                with_reducible rfl
                              rotate_left
                              · simp only [Act.put, List.setIfInBounds_toArray, List.set_cons_zero, List.set_cons_succ, i64_w, i32_w]
                                rfl
                              refine take_ (i := 12) (N := some 77) (v := ?_) (a' := ?_) #[true, true, true, true, true, true, true, true, true, true, true, true, true, false, false, false] rfl rfl (take_ofW HT_.out HW_.out (by kernel_rfl)) (fun _ _ _ h => h) (Or.inl ⟨by rfl, ?_⟩) hHeld ?_ ?_
                              rotate_left
                              · rintro w' ⟨s0, s1, s2⟩
                                go_simp
                                with_reducible rfl
                              rotate_left
                              · simp only [Act.put, List.setIfInBounds_toArray, List.set_cons_zero, List.set_cons_succ, i64_w, i32_w]
                                rfl
                              refine one_ (i := 13) (N := some 78) #[true, true, true, true, true, true, true, true, true, true, true, true, true, true, false, false] rfl rfl (one_of HT_.out (by kernel_rfl)) (by decide) (fun K hK => ?_)
                              refine goes_ Try.func38 (by kernel_rfl) rfl #[.int .i64 (wrap64 ((wrap64 (((rd_T51 l0 (ji23)).f1) + 1)) + (wrap64 (Int.tmod (IntKind.u64.wrap (a3)) 100)))), .bool ((rd_T51 l0 (ji23)).f2)] (by rfl) rfl rfl (by (try simp only [List.map_toArray, List.map_cons, List.map_nil]); first | done | (simp only [hji23]; rfl) | rfl | (simp only [List.length_drop, List.length_take]; rfl)) ?_
                              with_reducible refine (block_Word.calls (wrap64 ((wrap64 (((rd_T51 l0 (ji23)).f1) + 1)) + (wrap64 (Int.tmod (IntKind.u64.wrap (a3)) 100)))) ((rd_T51 l0 (ji23)).f2) t178 _ A26.out).mono ?_
                              rintro e w' ⟨rfl, ⟨nd, rfl⟩⟩
                              refine ⟨_, rfl, ?_⟩
                              have p29 : 0 ≤ (((rd_T51 l0 (ji23)).f0) : Int) := of_decide_eq_true (by first | (with_reducible assumption) | assumption)
                              have q29 : (((rd_T51 l0 (ji23)).f0) : Int) < ((t173.length : Int) : Int) := of_decide_eq_true (by first | (with_reducible assumption) | assumption)
                              obtain ⟨go29, co29, eo29, gb29, gl29, cl29, HG29⟩ := Kd.R_form HO175.out (by omega)
                              (first | cases eo29 | (injection eo29 with ea_ en_ ec_; (first | subst ea_ | (injection ea_ with ea_; subst ea_)); subst ec_; clear en_))
                              have GB29 := Aside0.mk gb29
                              have GG29 := Aside0.mk HG29
                              clear gb29 gl29 HG29
                              obtain ⟨hx29_0, hf29_0⟩ := Kd.R_celln 0 HO175.out (((rd_T51 l0 (ji23)).f0) : Int) p29 q29
                              replace p29 := eq_true p29
                              replace q29 := eq_true q29
                              have HP53 := Kd.R_putn HO175.out (((rd_T51 l0 (ji23)).f0) : Int) t178
                              rw [← Ny179.out] at HP53
                              have HQ53 := Aside0.mk HP53
                              clear HP53
                              refine hK.out _ _ ⟨(blk_cell BK177.out 0).trans rfl, (blk_cell BK177.out 1).trans rfl, (blk_cell BK177.out 2).trans rfl⟩ (fun hHeld => ?_)
                              clear hK K
                              refine norm_ (a' := ?_) ?_ ?_
                              rotate_left
                              · show Act.put _ (some 78) _ = _
                                simp only [Act.put, List.setIfInBounds_toArray, List.set_cons_zero, List.set_cons_succ, i64_w, i32_w]
                                rfl
                              refine pure_ (i := 14) (N := some 79) (v := ?_) (a' := ?_) #[true, true, true, true, true, true, true, true, true, true, true, true, true, true, true, false] rfl rfl (any_of HT_.out (by kernel_rfl)) (fun _ _ _ h => h) (Or.inl ⟨by rfl, ?_⟩) ?_ ?_
                              rotate_left
                              · intro w'
                                go_simp
                                with_reducible rfl
                              rotate_left
                              · simp only [Act.put, List.setIfInBounds_toArray, List.set_cons_zero, List.set_cons_succ, i64_w, i32_w]
                                rfl
                              refine last_ (i := 15) (N := none) #[true, true, true, true, true, true, true, true, true, true, true, true, true, true, true, true] rfl rfl (one_of HT_.out (by kernel_rfl)) (by decide) (fun K hK => ?_)
                              refine skip_ (w1 := ?_) (by rfl) rfl ?_ ?_
                              rotate_left
                              · go_simp
                                rfl
                              refine hK.out _ _ ?_
                              clear hK K
                              refine done_ (done_of HT_.out (by kernel_rfl)) ?_
                              try go_wp2_with (first | ((with_reducible refine gate_callee (f := 23) rfl ?_); refine goesL_ (some 82) rfl rfl Try.func23 (by kernel_rfl) rfl #[.slice (some ⟨go29, 0, none⟩) y179.length co29] rfl (by (try simp only [List.map_toArray, List.map_cons, List.map_nil]); first | done | (rw [show y179.length = t173.length from (Kd.R_reads' HQ53.out).1.symm] <;> rfl) | rfl | (simp only [List.length_drop, List.length_take]; rfl)) ?_; (with_reducible refine (chain_Blocks.calls kj4 _ _ y179 t180 true _ ?side1 ?side2 A30.out).mono ?_); (case side1 => refine (Kd.R_reads' (e := 34) (base := w.heap.size) (ok := fun k_ => some k_ ≠ (.slice (some ⟨go20, 0, none⟩) t164.length co20 : Value).ownBlock) (n := t173.length) (c := co29) ?_).2.2; exact (by (with_reducible repeat (first | apply Kd.R_alloc | apply Kd.R_drewN | apply Kd.R_drew)); exact HQ53.out)); (case side2 => rw [show y179.length = t173.length from (Kd.R_reads' HQ53.out).1.symm]; exact (Kd.R_reads' HO175.out).2.1); rintro e w54 ⟨v182, rfl, ho0, hb⟩; refine ⟨_, rfl, ?_⟩; have n0_ := Aside0.mk (Kd.R_below (by (with_reducible repeat (first | apply Kd.R_alloc | apply Kd.R_drewN | apply Kd.R_drew)); exact (Kd.R_mono (Kd.R_far (p := ⟨go29, (((rd_T51 l0 (ji23)).f0) : Int).toNat, none⟩) (Kd.R_mono HO166.out (fun k_ hk => (⟨hk, fun e_ => hk (by rw [e_]; rfl)⟩ : _ ∧ k_ ≠ go29))) (fun _ hk => hk.2) (.int .u64 t178)) (fun _ h_ => h_.1))) hb); have n1_ := Aside0.mk (Kd.R_elder' (by (with_reducible repeat (first | apply Kd.R_alloc | apply Kd.R_drewN | apply Kd.R_drew)); exact (Kd.R_mono (Kd.R_far (p := ⟨go29, (((rd_T51 l0 (ji23)).f0) : Int).toNat, none⟩) (Kd.R_types HO172.out GG29.out (by decide)) (fun _ hk => hk.2) (.int .u64 t178)) (fun _ h_ => h_.1))) (Kd.R_base ho0) hb); have n2_ := Aside0.mk (Kd.R_below (by (with_reducible repeat (first | apply Kd.R_alloc | apply Kd.R_drewN | apply Kd.R_drew)); exact HQ53.out) hb); have n3_ := Aside0.mk (Kd.R_lower (Kd.R_newB (Kd.R_new' ho0 (Kd.R_lt (by (with_reducible repeat (first | apply Kd.R_alloc | apply Kd.R_drewN | apply Kd.R_drew)); exact (Kd.R_mono (Kd.R_far (p := ⟨go29, (((rd_T51 l0 (ji23)).f0) : Int).toNat, none⟩) (Kd.R_types HO172.out GG29.out (by decide)) (fun _ hk => hk.2) (.int .u64 t178)) (fun _ h_ => h_.1))))) (g := gb177) (o := .cells #[.int .i64 ((rd_T51 l0 (ji23)).f0), .int .i64 ((rd_T51 l0 (ji23)).f1), .bool ((rd_T51 l0 (ji23)).f2)] 51 (0, 0)) (by (with_reducible repeat (first | refine blk_drewN ?_ _ | refine blk_drew ?_ | refine blk_alloc ?_ _)); refine blk_far ?_ (by have h_ := Kd.R_ne HO175.out BK177.out (by decide); intro e_; exact h_ (by rw [e_]; rfl)) _; (with_reducible repeat (first | refine blk_drewN ?_ _ | refine blk_drew ?_ | refine blk_alloc ?_ _)); exact BK177.out)) (below_size (by repeat (first | (with_reducible first | exact HB.out | apply below_alloc | apply pw_below_drewN | apply below_drew1 | refine below_set ?_ GB29.out | refine below_set ?_ GE177.out) | exact HB.out)))); have n4_ := Aside0.mk (blk_below (g := gb177) (o := .cells #[.int .i64 ((rd_T51 l0 (ji23)).f0), .int .i64 ((rd_T51 l0 (ji23)).f1), .bool ((rd_T51 l0 (ji23)).f2)] 51 (0, 0)) (by (with_reducible repeat (first | refine blk_drewN ?_ _ | refine blk_drew ?_ | refine blk_alloc ?_ _)); refine blk_far ?_ (by have h_ := Kd.R_ne HO175.out BK177.out (by decide); intro e_; exact h_ (by rw [e_]; rfl)) _; (with_reducible repeat (first | refine blk_drewN ?_ _ | refine blk_drew ?_ | refine blk_alloc ?_ _)); exact BK177.out) hb); have n5_ := Aside0.mk (below_step (by repeat (first | (with_reducible first | exact HB.out | apply below_alloc | apply pw_below_drewN | apply below_drew1 | refine below_set ?_ GB29.out | refine below_set ?_ GE177.out) | exact HB.out)) hb); clear HO166; clear HO172; clear HO175; clear BK177; clear HB; have HO166 := n0_; have HO172 := n1_; have HO175 := n2_; have HO183 := n3_; have BK177 := n4_; have HB := n5_; clear n0_ n1_ n2_ n3_ n4_ n5_; (try clear hb); (try clear hb2); (try clear hk); (try clear hi); (try clear ho0)))
                              go_ret
                              exact ⟨by first | rfl | (simp [errW_none, errW_some] <;> rfl) | (simp only [← hji15, ← hji23]; first | rfl | (simp [errW_none, errW_some] <;> rfl)) | (simp [*, errW_none, errW_some] <;> rfl), by repeat (first | (with_reducible first | exact HB.out | apply below_alloc | apply pw_below_drewN | apply below_drew1 | refine below_set ?_ GE177.out) | exact HB.out)⟩
                            · replace c43 := Bool.eq_false_iff.mpr c43
                              subst c43
                              have H1 : ((darninglaw14_awake.f kj4).bind fun t184 => (some t184)) = some r := by rw [if_neg (show ¬ (false = true) by decide)] at H; exact H
                              clear H
                              have H := H1
                              clear H1
                              replace H := Option.bind_eq_some_iff.mp H
                              obtain ⟨t184, A550, H⟩ := H
                              replace H : (some t184) = some r := H
                              have A55 := Aside0.mk A550
                              clear A550
                              obtain rfl := Option.some.inj H
                              try go_wp2_with (first | ((with_reducible refine gate_callee (f := 37) rfl ?_); refine goesL_ (some 40) rfl rfl Try.func37 (by kernel_rfl) rfl #[.slice A0 l0.length c0, .int .i64 a1] rfl (by (try simp only [List.map_toArray, List.map_cons, List.map_nil]); first | done | rfl | (simp only [List.length_drop, List.length_take]; rfl)) ?_; (with_reducible refine (darninglaw14_Words.calls kj4 _ _ l0 a1 t164 _ ?side1 ?side2 A14.out).mono ?_); (case side1 => repeat (first | exact (Kd.C_below HR0.out HB.out) | (with_reducible refine Kd.C_alloc ?_ _) | (with_reducible refine Kd.C_drewN ?_ _) | (with_reducible refine Kd.C_drew ?_))); (case side2 => exact HC0.out); rintro e w56 ⟨v165, rfl, ho0, hb⟩; refine ⟨_, rfl, ?_⟩; have n0_ := Aside0.mk (Kd.R_lower ho0 (below_size (by repeat (first | (with_reducible first | exact HB.out | apply below_alloc | apply pw_below_drewN | apply below_drew1) | exact HB.out)))); have n1_ := Aside0.mk (below_step (by repeat (first | (with_reducible first | exact HB.out | apply below_alloc | apply pw_below_drewN | apply below_drew1) | exact HB.out)) hb); clear HB; have HO166 := n0_; have HB := n1_; clear n0_ n1_; (try clear hb); (try clear hb2); (try clear hk); (try clear hi); (try clear ho0); have p167 : 0 ≤ ((ji15) : Int) := of_decide_eq_true (by first | (with_reducible assumption) | assumption); have q167 : (ji15) < (l0.length : Int) := of_decide_eq_true (by first | (with_reducible assumption) | assumption); obtain ⟨ad167, e167, hx167_0, hx167_1, hx167_2⟩ := at_T51 HR0.out (ji15) p167 q167; cases e167; replace hx167_0 := (HB.out.cell (World.block_lt_of_cell? w _ hx167_0)).trans hx167_0; replace hx167_1 := (HB.out.cell (World.block_lt_of_cell? w _ hx167_1)).trans hx167_1; replace hx167_2 := (HB.out.cell (World.block_lt_of_cell? w _ hx167_2)).trans hx167_2; replace p167 := eq_true p167; replace q167 := eq_true q167; have p20 : 0 ≤ (((rd_T51 l0 (ji15)).f0) : Int) := of_decide_eq_true (by first | (with_reducible assumption) | assumption); have q20 : (((rd_T51 l0 (ji15)).f0) : Int) < ((t164.length : Int) : Int) := of_decide_eq_true (by first | (with_reducible assumption) | assumption); obtain ⟨go20, co20, eo20, gb20, gl20, cl20, HG20⟩ := Kd.R_form HO166.out (by omega); (first | cases eo20 | (injection eo20 with ea_ en_ ec_; (first | subst ea_ | (injection ea_ with ea_; subst ea_)); subst ec_; clear en_)); have GB20 := Aside0.mk gb20; have GG20 := Aside0.mk HG20; clear gb20 gl20 HG20; obtain ⟨hx20_0, hf20_0⟩ := Kd.R_celln 0 HO166.out (((rd_T51 l0 (ji15)).f0) : Int) p20 q20; replace p20 := eq_true p20; replace q20 := eq_true q20; obtain ⟨hy57_, hz57_⟩ := Kd.R_celln 0 HO166.out (((rd_T51 l0 (ji15)).f0) : Int) (of_decide_eq_true (by first | (with_reducible assumption) | assumption)) (of_decide_eq_true (by first | (with_reducible assumption) | assumption)); have HP57 := Kd.R_putg HO166.out (((rd_T51 l0 (ji15)).f0) : Int) (Go.bits .and .u64 (IntKind.u64.wrap (a3)) 3)) | ((with_reducible refine gate_store (t := 34) (p := 50) rfl ?_); refine store_event (t := 34) (p := 50) (v := ?vo_w58) (w1 := (w56.setCell ⟨go20, (((rd_T51 l0 (ji15)).f0) : Int).toNat, none⟩ (.int .u64 (Go.bits .and .u64 (IntKind.u64.wrap (a3)) 3)))) ?hg ?ho ?hn ?hr ?_; (case ho => rfl); (case hg => rfl); (case hn => rfl); (case hr => first | (go_simp; done) | (go_simp; rfl)); intro w58 hw; have hg : w56.grownBy w58 (some go20) := (by rw [hw]; exact HP57.2); have hp_ : Kd.R (Kd.int .u64) 34 w58 w.heap.size (fun _ => True) (.slice (some ⟨go20, 0, none⟩) t164.length co20) y168 := (by rw [hw, Ny168.out]; exact HP57.1); clear HP57; have n0_ := Aside0.mk (hp_); have n1_ := Aside0.mk ((by rw [hw]; exact below_set (HB.out) GB20.out : Below w.heap.size w w58)); clear HO166; clear HB; have HO166 := n0_; have HB := n1_; clear n0_ n1_; clear hg hw hp_) | ((with_reducible refine gate_callee (f := 23) rfl ?_); refine goesL_ (some 53) rfl rfl Try.func23 (by kernel_rfl) rfl #[.slice (some ⟨go20, 0, none⟩) y168.length co20] rfl (by (try simp only [List.map_toArray, List.map_cons, List.map_nil]); first | done | (rw [show y168.length = t164.length from (Kd.R_reads' HO166.out).1.symm] <;> rfl) | rfl | (simp only [List.length_drop, List.length_take]; rfl)) ?_; (with_reducible refine (chain_Blocks.calls kj4 _ _ y168 t169 false _ ?side1 ?side2 A21.out).mono ?_); (case side1 => repeat (first | exact (Kd.R_reads' HO166.out).2.2 | (with_reducible refine Kd.C_alloc ?_ _) | (with_reducible refine Kd.C_drewN ?_ _) | (with_reducible refine Kd.C_drew ?_))); (case side2 => rw [show y168.length = t164.length from (Kd.R_reads' HO166.out).1.symm]; exact (Kd.R_reads' HO166.out).2.1); rintro e w59 ⟨v171, rfl, ho0, hb⟩; refine ⟨_, rfl, ?_⟩; have n0_ := Aside0.mk (Kd.R_below (by (with_reducible repeat (first | apply Kd.R_alloc | apply Kd.R_drewN | apply Kd.R_drew)); exact HO166.out) hb); have n1_ := Aside0.mk (Kd.R_lower ho0 (below_size (by repeat (first | (with_reducible first | exact HB.out | apply below_alloc | apply pw_below_drewN | apply below_drew1) | exact HB.out)))); have n2_ := Aside0.mk (below_step (by repeat (first | (with_reducible first | exact HB.out | apply below_alloc | apply pw_below_drewN | apply below_drew1) | exact HB.out)) hb); clear HO166; clear HB; have HO166 := n0_; have HO172 := n1_; have HB := n2_; clear n0_ n1_ n2_; (try clear hb); (try clear hb2); (try clear hk); (try clear hi); (try clear ho0)) | ((with_reducible refine gate_callee (f := 37) rfl ?_); refine goesL_ (some 58) rfl rfl Try.func37 (by kernel_rfl) rfl #[.slice (some ad167) l0.length c0, .int .i64 a1] rfl (by (try simp only [List.map_toArray, List.map_cons, List.map_nil]); first | done | rfl | (simp only [List.length_drop, List.length_take]; rfl)) ?_; (with_reducible refine (darninglaw14_Words.calls kj4 _ _ l0 a1 t173 _ ?side1 ?side2 A22.out).mono ?_); (case side1 => repeat (first | exact (Kd.C_below HR0.out HB.out) | (with_reducible refine Kd.C_alloc ?_ _) | (with_reducible refine Kd.C_drewN ?_ _) | (with_reducible refine Kd.C_drew ?_))); (case side2 => exact HC0.out); rintro e w60 ⟨v174, rfl, ho0, hb⟩; refine ⟨_, rfl, ?_⟩; have n0_ := Aside0.mk (Kd.R_elder' (by (with_reducible repeat (first | apply Kd.R_alloc | apply Kd.R_drewN | apply Kd.R_drew)); exact HO166.out) (Kd.R_base ho0) hb); have n1_ := Aside0.mk (Kd.R_below (by (with_reducible repeat (first | apply Kd.R_alloc | apply Kd.R_drewN | apply Kd.R_drew)); exact HO172.out) hb); have n2_ := Aside0.mk (Kd.R_lower (Kd.R_new' ho0 (Kd.R_lt (by (with_reducible repeat (first | apply Kd.R_alloc | apply Kd.R_drewN | apply Kd.R_drew)); exact HO166.out))) (below_size (by repeat (first | (with_reducible first | exact HB.out | apply below_alloc | apply pw_below_drewN | apply below_drew1) | exact HB.out)))); have n3_ := Aside0.mk (below_step (by repeat (first | (with_reducible first | exact HB.out | apply below_alloc | apply pw_below_drewN | apply below_drew1) | exact HB.out)) hb); clear HO166; clear HO172; clear HB; have HO166 := n0_; have HO172 := n1_; have HO175 := n2_; have HB := n3_; clear n0_ n1_ n2_ n3_; (try clear hb); (try clear hb2); (try clear hk); (try clear hi); (try clear ho0); have p176 : 0 ≤ ((ji23) : Int) := of_decide_eq_true (by first | (with_reducible assumption) | assumption); have q176 : (ji23) < (l0.length : Int) := of_decide_eq_true (by first | (with_reducible assumption) | assumption); obtain ⟨ad176, e176, hx176_0, hx176_1, hx176_2⟩ := at_T51 HR0.out (ji23) p176 q176; obtain rfl : ad167 = ad176 := (by injection e176); replace hx176_0 := (HB.out.cell (World.block_lt_of_cell? w _ hx176_0)).trans hx176_0; replace hx176_1 := (HB.out.cell (World.block_lt_of_cell? w _ hx176_1)).trans hx176_1; replace hx176_2 := (HB.out.cell (World.block_lt_of_cell? w _ hx176_2)).trans hx176_2; replace p176 := eq_true p176; replace q176 := eq_true q176) | ((with_reducible refine gate_dst (N := 13) rfl ?_); (try (refine gate_guard (by rfl) ?_; dsimp only)); refine box_event ?hg (N := 13) ?hd (cs := #[.int .i64 0, .int .i64 0, .bool false]) (t := 51) ?hr ?_; (case hd => rfl); (case hg => rfl); (case hr => first | (go_simp; done) | (go_simp; rfl)); intro gb177 hg w61 hbox hb; have n0_ := Aside0.mk (Kd.R_below (by (with_reducible repeat (first | apply Kd.R_alloc | apply Kd.R_drewN | apply Kd.R_drew)); exact HO166.out) hb); have n1_ := Aside0.mk (Kd.R_below (Kd.R_elderB (by (with_reducible repeat (first | apply Kd.R_alloc | apply Kd.R_drewN | apply Kd.R_drew)); exact HO172.out) gb177 (Nat.le_of_eq hg.symm)) hb); have n2_ := Aside0.mk (Kd.R_below (by (with_reducible repeat (first | apply Kd.R_alloc | apply Kd.R_drewN | apply Kd.R_drew)); exact HO175.out) hb); have n3_ := Aside0.mk (below_step (by repeat (first | (with_reducible first | exact HB.out | apply below_alloc | apply pw_below_drewN | apply below_drew1) | exact HB.out)) hb); have n4_ := Aside0.mk (hbox); have n5_ := Aside0.mk ((by rw [hg]; exact (below_size (by repeat (first | (with_reducible first | exact HB.out | apply below_alloc | apply pw_below_drewN | apply below_drew1) | exact HB.out))) : w.heap.size ≤ gb177)); have n6_ := Aside0.mk ((by rw [hg]; exact (below_size (by repeat (first | (with_reducible first | exact HB.out | apply below_alloc | apply pw_below_drewN | apply below_drew1) | exact HB.out))) : w.heap.size ≤ gb177)); clear HO166; clear HO172; clear HO175; clear HB; have HO166 := n0_; have HO172 := n1_; have HO175 := n2_; have HB := n3_; have BK177 := n4_; have GW177 := n5_; have GE177 := n6_; clear n0_ n1_ n2_ n3_ n4_ n5_ n6_; clear hb hbox hg; have hcz62_0 : w61.cell? ⟨gb177, 0, none⟩ = some (.int .i64 0) := (blk_cell BK177.out 0).trans rfl; have hcz62_1 : w61.cell? ⟨gb177, 1, none⟩ = some (.int .i64 0) := (blk_cell BK177.out 1).trans rfl; have hcz62_2 : w61.cell? ⟨gb177, 2, none⟩ = some (.bool false) := (blk_cell BK177.out 2).trans rfl; have hfz62_0 := blk_frozen BK177.out 0; have hfz62_1 := blk_frozen BK177.out 1; have hfz62_2 := blk_frozen BK177.out 2))
                              have n0_ : Aside0 (Kd.R (Kd.int .u64) 34 (((w61.setCell ⟨gb177, 0, none⟩ (.int .i64 ((rd_T51 l0 (ji23)).f0))).setCell ⟨gb177, 1, none⟩ (.int .i64 ((rd_T51 l0 (ji23)).f1))).setCell ⟨gb177, 2, none⟩ (.bool ((rd_T51 l0 (ji23)).f2))) w.heap.size (fun k_ => some k_ ≠ (v174 : Value).ownBlock) (.slice (some ⟨go20, 0, none⟩) t164.length co20) y168) := ⟨by (with_reducible repeat (first | apply Kd.R_alloc | apply Kd.R_drewN | apply Kd.R_drew)); exact Kd.R_mono (Kd.R_far (p := ⟨gb177, 2, none⟩) (Kd.R_far (p := ⟨gb177, 1, none⟩) (Kd.R_far (p := ⟨gb177, 0, none⟩) (Kd.R_types HO166.out BK177.out (by decide)) (fun _ hk => hk.2) (.int .i64 ((rd_T51 l0 (ji23)).f0))) (fun _ hk => hk.2) (.int .i64 ((rd_T51 l0 (ji23)).f1))) (fun _ hk => hk.2) (.bool ((rd_T51 l0 (ji23)).f2))) (fun _ hk => hk.1.2)⟩
                              have n1_ : Aside0 (Kd.R k51 51 (((w61.setCell ⟨gb177, 0, none⟩ (.int .i64 ((rd_T51 l0 (ji23)).f0))).setCell ⟨gb177, 1, none⟩ (.int .i64 ((rd_T51 l0 (ji23)).f1))).setCell ⟨gb177, 2, none⟩ (.bool ((rd_T51 l0 (ji23)).f2))) w.heap.size (fun k_ => k_ ≠ gb177) v171 t169) := ⟨by (with_reducible repeat (first | apply Kd.R_alloc | apply Kd.R_drewN | apply Kd.R_drew)); exact Kd.R_mono (Kd.R_far (p := ⟨gb177, 2, none⟩) (Kd.R_far (p := ⟨gb177, 1, none⟩) (Kd.R_far (p := ⟨gb177, 0, none⟩) (Kd.R_mono HO172.out (fun k_ hk => (⟨hk, hk.2⟩ : _ ∧ k_ ≠ gb177))) (fun _ hk => hk.2) (.int .i64 ((rd_T51 l0 (ji23)).f0))) (fun _ hk => hk.2) (.int .i64 ((rd_T51 l0 (ji23)).f1))) (fun _ hk => hk.2) (.bool ((rd_T51 l0 (ji23)).f2))) (fun _ hk => hk.1.2)⟩
                              have n2_ : Aside0 (Kd.R (Kd.int .u64) 34 (((w61.setCell ⟨gb177, 0, none⟩ (.int .i64 ((rd_T51 l0 (ji23)).f0))).setCell ⟨gb177, 1, none⟩ (.int .i64 ((rd_T51 l0 (ji23)).f1))).setCell ⟨gb177, 2, none⟩ (.bool ((rd_T51 l0 (ji23)).f2))) w.heap.size (fun k_ => some k_ ≠ (.slice (some ⟨go20, 0, none⟩) t164.length co20 : Value).ownBlock) v174 t173) := ⟨by (with_reducible repeat (first | apply Kd.R_alloc | apply Kd.R_drewN | apply Kd.R_drew)); exact Kd.R_mono (Kd.R_far (p := ⟨gb177, 2, none⟩) (Kd.R_far (p := ⟨gb177, 1, none⟩) (Kd.R_far (p := ⟨gb177, 0, none⟩) (Kd.R_types HO175.out BK177.out (by decide)) (fun _ hk => hk.2) (.int .i64 ((rd_T51 l0 (ji23)).f0))) (fun _ hk => hk.2) (.int .i64 ((rd_T51 l0 (ji23)).f1))) (fun _ hk => hk.2) (.bool ((rd_T51 l0 (ji23)).f2))) (fun _ hk => hk.1.2)⟩
                              have n3_ : Aside0 ((((w61.setCell ⟨gb177, 0, none⟩ (.int .i64 ((rd_T51 l0 (ji23)).f0))).setCell ⟨gb177, 1, none⟩ (.int .i64 ((rd_T51 l0 (ji23)).f1))).setCell ⟨gb177, 2, none⟩ (.bool ((rd_T51 l0 (ji23)).f2))).heap[gb177]? = some (.cells #[.int .i64 ((rd_T51 l0 (ji23)).f0), .int .i64 ((rd_T51 l0 (ji23)).f1), .bool ((rd_T51 l0 (ji23)).f2)] 51 (0, 0))) := ⟨by (with_reducible repeat (first | refine blk_drewN ?_ _ | refine blk_drew ?_ | refine blk_alloc ?_ _)); refine blk_put (cs := #[.int .i64 ((rd_T51 l0 (ji23)).f0), .int .i64 ((rd_T51 l0 (ji23)).f1), .bool false]) ?_ 2 _ rfl; (with_reducible repeat (first | refine blk_drewN ?_ _ | refine blk_drew ?_ | refine blk_alloc ?_ _)); refine blk_put (cs := #[.int .i64 ((rd_T51 l0 (ji23)).f0), .int .i64 0, .bool false]) ?_ 1 _ rfl; (with_reducible repeat (first | refine blk_drewN ?_ _ | refine blk_drew ?_ | refine blk_alloc ?_ _)); refine blk_put (cs := #[.int .i64 0, .int .i64 0, .bool false]) ?_ 0 _ rfl; (with_reducible repeat (first | refine blk_drewN ?_ _ | refine blk_drew ?_ | refine blk_alloc ?_ _)); exact BK177.out⟩
                              have n4_ : Aside0 (Below w.heap.size w (((w61.setCell ⟨gb177, 0, none⟩ (.int .i64 ((rd_T51 l0 (ji23)).f0))).setCell ⟨gb177, 1, none⟩ (.int .i64 ((rd_T51 l0 (ji23)).f1))).setCell ⟨gb177, 2, none⟩ (.bool ((rd_T51 l0 (ji23)).f2)))) := ⟨by repeat (first | (with_reducible first | exact HB.out | apply below_alloc | apply pw_below_drewN | apply below_drew1 | refine below_set ?_ GE177.out) | exact HB.out)⟩
                              (try clear HO166)
                              (try clear HO172)
                              (try clear HO175)
                              (try clear BK177)
                              (try clear HB)
                              generalize (((w61.setCell ⟨gb177, 0, none⟩ (.int .i64 ((rd_T51 l0 (ji23)).f0))).setCell ⟨gb177, 1, none⟩ (.int .i64 ((rd_T51 l0 (ji23)).f1))).setCell ⟨gb177, 2, none⟩ (.bool ((rd_T51 l0 (ji23)).f2))) = w63 at n0_ n1_ n2_ n3_ n4_ ⊢
                              have HO166 := n0_
                              have HO172 := n1_
                              have HO175 := n2_
                              have BK177 := n3_
                              have HB := n4_
                              clear n0_ n1_ n2_ n3_ n4_
                              have n0_ := Aside0.mk (Kd.R_drew HO166.out)
                              have n1_ := Aside0.mk (Kd.R_drew HO172.out)
                              have n2_ := Aside0.mk (Kd.R_drew HO175.out)
                              have n3_ := Aside0.mk (blk_drew BK177.out)
                              have n4_ := Aside0.mk (below_drew1 HB.out)
                              clear HO166
                              clear HO172
                              clear HO175
                              clear BK177
                              clear HB
                              have HO166 := n0_
                              have HO172 := n1_
                              have HO175 := n2_
                              have BK177 := n3_
                              have HB := n4_
                              clear n0_ n1_ n2_ n3_ n4_
                              refine start_ (n := 16) (S := fun w' => w'.cell? ⟨gb177, 0, none⟩ = some (.int .i64 ((rd_T51 l0 (ji23)).f0)) ∧ w'.cell? ⟨gb177, 1, none⟩ = some (.int .i64 ((rd_T51 l0 (ji23)).f1)) ∧ w'.cell? ⟨gb177, 2, none⟩ = some (.bool ((rd_T51 l0 (ji23)).f2))) (ds := [15]) #[false, false, false, false, false, false, false, false, false, false, false, false, false, false, false, false] (by kernel_rfl) rfl rfl ⟨(blk_cell BK177.out 0).trans rfl, (blk_cell BK177.out 1).trans rfl, (blk_cell BK177.out 2).trans rfl⟩ (fun hHeld => ?_); refine with_tabW darninglaw14_ChainSpoilt.tab9 darninglaw14_ChainSpoilt.bits9 (fun HT_ HW_ => ?_)
                              generalize w63.drew = w64 at HO166 HO172 HO175 BK177 HB hHeld ⊢
                              refine pure_ (i := 0) (N := some 65) (v := ?_) (a' := ?_) #[true, false, false, false, false, false, false, false, false, false, false, false, false, false, false, false] rfl rfl (any_of HT_.out (by kernel_rfl)) (fun _ _ _ h => h) (Or.inl ⟨by rfl, ?_⟩) ?_ ?_
                              rotate_left
                              · intro w'
                                go_simp
                                with_reducible rfl
                              rotate_left
                              · simp only [Act.put, List.setIfInBounds_toArray, List.set_cons_zero, List.set_cons_succ, i64_w, i32_w]
                                rfl
                              refine pure_ (i := 1) (N := some 66) (v := ?_) (a' := ?_) #[true, true, false, false, false, false, false, false, false, false, false, false, false, false, false, false] rfl rfl (any_of HT_.out (by kernel_rfl)) (fun _ _ _ h => h) (Or.inl ⟨by rfl, ?_⟩) ?_ ?_
                              rotate_left
                              · intro w'
                                go_simp
                                with_reducible rfl
                              rotate_left
                              · simp only [Act.put, List.setIfInBounds_toArray, List.set_cons_zero, List.set_cons_succ, i64_w, i32_w]
                                rfl
                              refine pure_ (i := 3) (N := some 68) (v := ?_) (a' := ?_) #[true, true, false, true, false, false, false, false, false, false, false, false, false, false, false, false] rfl rfl (any_of HT_.out (by kernel_rfl)) (fun _ _ _ h => h) (Or.inl ⟨by rfl, ?_⟩) ?_ ?_
                              rotate_left
                              · intro w'
                                go_simp
                                with_reducible rfl
                              rotate_left
                              · simp only [Act.put, List.setIfInBounds_toArray, List.set_cons_zero, List.set_cons_succ, i64_w, i32_w]
                                rfl
                              refine pure_ (i := 6) (N := some 71) (v := ?_) (a' := ?_) #[true, true, false, true, false, false, true, false, false, false, false, false, false, false, false, false] rfl rfl (any_of HT_.out (by kernel_rfl)) (fun _ _ _ h => h) (Or.inl ⟨by rfl, ?_⟩) ?_ ?_
                              rotate_left
                              · intro w'
                                go_simp
                                with_reducible rfl
                              rotate_left
                              · simp only [Act.put, List.setIfInBounds_toArray, List.set_cons_zero, List.set_cons_succ, i64_w, i32_w]
                                rfl
                              refine pure_ (i := 7) (N := some 72) (v := ?_) (a' := ?_) #[true, true, false, true, false, false, true, true, false, false, false, false, false, false, false, false] rfl rfl (any_of HT_.out (by kernel_rfl)) (fun _ _ _ h => h) (Or.inl ⟨by rfl, ?_⟩) ?_ ?_
                              rotate_left
                              · intro w'
                                go_simp
                                with_reducible rfl
                              rotate_left
                              · simp only [Act.put, List.setIfInBounds_toArray, List.set_cons_zero, List.set_cons_succ, i64_w, i32_w]
                                rfl
                              refine pure_ (i := 8) (N := some 73) (v := ?_) (a' := ?_) #[true, true, false, true, false, false, true, true, true, false, false, false, false, false, false, false] rfl rfl (any_of HT_.out (by kernel_rfl)) (fun _ _ _ h => h) (Or.inl ⟨by rfl, ?_⟩) ?_ ?_
                              rotate_left
                              · intro w'
                                go_simp
                                with_reducible rfl
                              rotate_left
                              · simp only [Act.put, List.setIfInBounds_toArray, List.set_cons_zero, List.set_cons_succ, i64_w, i32_w]
                                rfl
                              refine pure_ (i := 9) (N := some 74) (v := ?_) (a' := ?_) #[true, true, false, true, false, false, true, true, true, true, false, false, false, false, false, false] rfl rfl (any_of HT_.out (by kernel_rfl)) (fun _ _ _ h => h) (Or.inl ⟨by rfl, ?_⟩) ?_ ?_
                              rotate_left
                              · intro w'
                                go_simp
                                with_reducible rfl
                              rotate_left
                              · simp only [Act.put, List.setIfInBounds_toArray, List.set_cons_zero, List.set_cons_succ, i64_w, i32_w]
                                rfl
                              refine pure_ (i := 11) (N := some 76) (v := ?_) (a' := ?_) #[true, true, false, true, false, false, true, true, true, true, false, true, false, false, false, false] rfl rfl (any_of HT_.out (by kernel_rfl)) (fun _ _ _ h => h) (Or.inl ⟨by rfl, ?_⟩) ?_ ?_
                              rotate_left
                              · intro w'
                                go_simp
                                with_reducible rfl
                              rotate_left
                              · simp only [Act.put, List.setIfInBounds_toArray, List.set_cons_zero, List.set_cons_succ, i64_w, i32_w]
                                rfl
                              refine take_ (i := 2) (N := some 67) (v := ?_) (a' := ?_) #[true, true, true, true, false, false, true, true, true, true, false, true, false, false, false, false] rfl rfl (take_ofW HT_.out HW_.out (by kernel_rfl)) (fun _ _ _ h => h) (Or.inl ⟨by rfl, ?_⟩) hHeld ?_ ?_
                              rotate_left
                              · rintro w' ⟨s0, s1, s2⟩
                                go_simp
                                with_reducible rfl
                              rotate_left
                              · simp only [Act.put, List.setIfInBounds_toArray, List.set_cons_zero, List.set_cons_succ, i64_w, i32_w]
                                rfl
                              refine take_ (i := 4) (N := some 69) (v := ?_) (a' := ?_) #[true, true, true, true, true, false, true, true, true, true, false, true, false, false, false, false] rfl rfl (take_ofW HT_.out HW_.out (by kernel_rfl)) (fun _ _ _ h => h) (Or.inl ⟨by rfl, ?_⟩) hHeld ?_ ?_
                              rotate_left
                              · rintro w' ⟨s0, s1, s2⟩
                                go_simp
                                with_reducible rfl
                              rotate_left
                              · simp only [Act.put, List.setIfInBounds_toArray, List.set_cons_zero, List.set_cons_succ, i64_w, i32_w]
                                rfl
                              refine pure_ (i := 5) (N := some 70) (v := ?_) (a' := ?_) #[true, true, true, true, true, true, true, true, true, true, false, true, false, false, false, false] rfl rfl (any_of HT_.out (by kernel_rfl)) (fun _ _ _ h => h) (Or.inl ⟨by rfl, ?_⟩) ?_ ?_
                              rotate_left
                              · intro w'
                                go_simp
                                with_reducible rfl
                              rotate_left
                              · simp only [Act.put, List.setIfInBounds_toArray, List.set_cons_zero, List.set_cons_succ, i64_w, i32_w]
                                rfl
                              refine pure_ (i := 10) (N := some 75) (v := ?_) (a' := ?_) #[true, true, true, true, true, true, true, true, true, true, true, true, false, false, false, false] rfl rfl (any_of HT_.out (by kernel_rfl)) (fun _ _ _ h => h) (Or.inl ⟨by rfl, ?_⟩) ?_ ?_
                              rotate_left
                              · intro w'
                                go_simp
                                with_reducible rfl
                              rotate_left
                              · simp only [Act.put, List.setIfInBounds_toArray, List.set_cons_zero, List.set_cons_succ, i64_w, i32_w]
                                rfl
                              refine take_ (i := 12) (N := some 77) (v := ?_) (a' := ?_) #[true, true, true, true, true, true, true, true, true, true, true, true, true, false, false, false] rfl rfl (take_ofW HT_.out HW_.out (by kernel_rfl)) (fun _ _ _ h => h) (Or.inl ⟨by rfl, ?_⟩) hHeld ?_ ?_
                              rotate_left
                              · rintro w' ⟨s0, s1, s2⟩
                                go_simp
                                with_reducible rfl
                              rotate_left
                              · simp only [Act.put, List.setIfInBounds_toArray, List.set_cons_zero, List.set_cons_succ, i64_w, i32_w]
                                rfl
                              refine one_ (i := 13) (N := some 78) #[true, true, true, true, true, true, true, true, true, true, true, true, true, true, false, false] rfl rfl (one_of HT_.out (by kernel_rfl)) (by decide) (fun K hK => ?_)
                              refine goes_ Try.func38 (by kernel_rfl) rfl #[.int .i64 (wrap64 ((wrap64 (((rd_T51 l0 (ji23)).f1) + 1)) + (wrap64 (Int.tmod (IntKind.u64.wrap (a3)) 100)))), .bool ((rd_T51 l0 (ji23)).f2)] (by rfl) rfl rfl (by (try simp only [List.map_toArray, List.map_cons, List.map_nil]); first | done | (simp only [hji23]; rfl) | rfl | (simp only [List.length_drop, List.length_take]; rfl)) ?_
                              with_reducible refine (block_Word.calls (wrap64 ((wrap64 (((rd_T51 l0 (ji23)).f1) + 1)) + (wrap64 (Int.tmod (IntKind.u64.wrap (a3)) 100)))) ((rd_T51 l0 (ji23)).f2) t178 _ A26.out).mono ?_
                              rintro e w' ⟨rfl, ⟨nd, rfl⟩⟩
                              refine ⟨_, rfl, ?_⟩
                              have p29 : 0 ≤ (((rd_T51 l0 (ji23)).f0) : Int) := of_decide_eq_true (by first | (with_reducible assumption) | assumption)
                              have q29 : (((rd_T51 l0 (ji23)).f0) : Int) < ((t173.length : Int) : Int) := of_decide_eq_true (by first | (with_reducible assumption) | assumption)
                              obtain ⟨go29, co29, eo29, gb29, gl29, cl29, HG29⟩ := Kd.R_form HO175.out (by omega)
                              (first | cases eo29 | (injection eo29 with ea_ en_ ec_; (first | subst ea_ | (injection ea_ with ea_; subst ea_)); subst ec_; clear en_))
                              have GB29 := Aside0.mk gb29
                              have GG29 := Aside0.mk HG29
                              clear gb29 gl29 HG29
                              obtain ⟨hx29_0, hf29_0⟩ := Kd.R_celln 0 HO175.out (((rd_T51 l0 (ji23)).f0) : Int) p29 q29
                              replace p29 := eq_true p29
                              replace q29 := eq_true q29
                              have HP65 := Kd.R_putn HO175.out (((rd_T51 l0 (ji23)).f0) : Int) t178
                              rw [← Ny179.out] at HP65
                              have HQ65 := Aside0.mk HP65
                              clear HP65
                              refine hK.out _ _ ⟨(blk_cell BK177.out 0).trans rfl, (blk_cell BK177.out 1).trans rfl, (blk_cell BK177.out 2).trans rfl⟩ (fun hHeld => ?_)
                              clear hK K
                              refine norm_ (a' := ?_) ?_ ?_
                              rotate_left
                              · show Act.put _ (some 78) _ = _
                                simp only [Act.put, List.setIfInBounds_toArray, List.set_cons_zero, List.set_cons_succ, i64_w, i32_w]
                                rfl
                              refine pure_ (i := 14) (N := some 79) (v := ?_) (a' := ?_) #[true, true, true, true, true, true, true, true, true, true, true, true, true, true, true, false] rfl rfl (any_of HT_.out (by kernel_rfl)) (fun _ _ _ h => h) (Or.inl ⟨by rfl, ?_⟩) ?_ ?_
                              rotate_left
                              · intro w'
                                go_simp
                                with_reducible rfl
                              rotate_left
                              · simp only [Act.put, List.setIfInBounds_toArray, List.set_cons_zero, List.set_cons_succ, i64_w, i32_w]
                                rfl
                              refine last_ (i := 15) (N := none) #[true, true, true, true, true, true, true, true, true, true, true, true, true, true, true, true] rfl rfl (one_of HT_.out (by kernel_rfl)) (by decide) (fun K hK => ?_)
                              refine skip_ (w1 := ?_) (by rfl) rfl ?_ ?_
                              rotate_left
                              · go_simp
                                rfl
                              refine hK.out _ _ ?_
                              clear hK K
                              refine done_ (done_of HT_.out (by kernel_rfl)) ?_
                              try go_wp2_with (first | ((with_reducible refine gate_callee (f := 23) rfl ?_); refine goesL_ (some 82) rfl rfl Try.func23 (by kernel_rfl) rfl #[.slice (some ⟨go29, 0, none⟩) y179.length co29] rfl (by (try simp only [List.map_toArray, List.map_cons, List.map_nil]); first | done | (rw [show y179.length = t173.length from (Kd.R_reads' HQ65.out).1.symm] <;> rfl) | rfl | (simp only [List.length_drop, List.length_take]; rfl)) ?_; (with_reducible refine (chain_Blocks.calls kj4 _ _ y179 t180 false _ ?side1 ?side2 A30.out).mono ?_); (case side1 => refine (Kd.R_reads' (e := 34) (base := w.heap.size) (ok := fun k_ => some k_ ≠ (.slice (some ⟨go20, 0, none⟩) t164.length co20 : Value).ownBlock) (n := t173.length) (c := co29) ?_).2.2; exact (by (with_reducible repeat (first | apply Kd.R_alloc | apply Kd.R_drewN | apply Kd.R_drew)); exact HQ65.out)); (case side2 => rw [show y179.length = t173.length from (Kd.R_reads' HQ65.out).1.symm]; exact (Kd.R_reads' HO175.out).2.1); rintro e w66 ⟨v182, rfl, ho0, hb⟩; refine ⟨_, rfl, ?_⟩; have n0_ := Aside0.mk (Kd.R_below (by (with_reducible repeat (first | apply Kd.R_alloc | apply Kd.R_drewN | apply Kd.R_drew)); exact (Kd.R_mono (Kd.R_far (p := ⟨go29, (((rd_T51 l0 (ji23)).f0) : Int).toNat, none⟩) (Kd.R_mono HO166.out (fun k_ hk => (⟨hk, fun e_ => hk (by rw [e_]; rfl)⟩ : _ ∧ k_ ≠ go29))) (fun _ hk => hk.2) (.int .u64 t178)) (fun _ h_ => h_.1))) hb); have n1_ := Aside0.mk (Kd.R_elder' (by (with_reducible repeat (first | apply Kd.R_alloc | apply Kd.R_drewN | apply Kd.R_drew)); exact (Kd.R_mono (Kd.R_far (p := ⟨go29, (((rd_T51 l0 (ji23)).f0) : Int).toNat, none⟩) (Kd.R_types HO172.out GG29.out (by decide)) (fun _ hk => hk.2) (.int .u64 t178)) (fun _ h_ => h_.1))) (Kd.R_base ho0) hb); have n2_ := Aside0.mk (Kd.R_below (by (with_reducible repeat (first | apply Kd.R_alloc | apply Kd.R_drewN | apply Kd.R_drew)); exact HQ65.out) hb); have n3_ := Aside0.mk (Kd.R_lower (Kd.R_newB (Kd.R_new' ho0 (Kd.R_lt (by (with_reducible repeat (first | apply Kd.R_alloc | apply Kd.R_drewN | apply Kd.R_drew)); exact (Kd.R_mono (Kd.R_far (p := ⟨go29, (((rd_T51 l0 (ji23)).f0) : Int).toNat, none⟩) (Kd.R_types HO172.out GG29.out (by decide)) (fun _ hk => hk.2) (.int .u64 t178)) (fun _ h_ => h_.1))))) (g := gb177) (o := .cells #[.int .i64 ((rd_T51 l0 (ji23)).f0), .int .i64 ((rd_T51 l0 (ji23)).f1), .bool ((rd_T51 l0 (ji23)).f2)] 51 (0, 0)) (by (with_reducible repeat (first | refine blk_drewN ?_ _ | refine blk_drew ?_ | refine blk_alloc ?_ _)); refine blk_far ?_ (by have h_ := Kd.R_ne HO175.out BK177.out (by decide); intro e_; exact h_ (by rw [e_]; rfl)) _; (with_reducible repeat (first | refine blk_drewN ?_ _ | refine blk_drew ?_ | refine blk_alloc ?_ _)); exact BK177.out)) (below_size (by repeat (first | (with_reducible first | exact HB.out | apply below_alloc | apply pw_below_drewN | apply below_drew1 | refine below_set ?_ GB29.out | refine below_set ?_ GE177.out) | exact HB.out)))); have n4_ := Aside0.mk (blk_below (g := gb177) (o := .cells #[.int .i64 ((rd_T51 l0 (ji23)).f0), .int .i64 ((rd_T51 l0 (ji23)).f1), .bool ((rd_T51 l0 (ji23)).f2)] 51 (0, 0)) (by (with_reducible repeat (first | refine blk_drewN ?_ _ | refine blk_drew ?_ | refine blk_alloc ?_ _)); refine blk_far ?_ (by have h_ := Kd.R_ne HO175.out BK177.out (by decide); intro e_; exact h_ (by rw [e_]; rfl)) _; (with_reducible repeat (first | refine blk_drewN ?_ _ | refine blk_drew ?_ | refine blk_alloc ?_ _)); exact BK177.out) hb); have n5_ := Aside0.mk (below_step (by repeat (first | (with_reducible first | exact HB.out | apply below_alloc | apply pw_below_drewN | apply below_drew1 | refine below_set ?_ GB29.out | refine below_set ?_ GE177.out) | exact HB.out)) hb); clear HO166; clear HO172; clear HO175; clear BK177; clear HB; have HO166 := n0_; have HO172 := n1_; have HO175 := n2_; have HO183 := n3_; have BK177 := n4_; have HB := n5_; clear n0_ n1_ n2_ n3_ n4_ n5_; (try clear hb); (try clear hb2); (try clear hk); (try clear hi); (try clear ho0)) | (go_at_call 22; (with_reducible refine (darninglaw14_awake.calls kj4  t184 _ A55.out).mono ?_); rintro e w67 ⟨rfl, hb⟩; have n0_ := Aside0.mk (Kd.R_below (by (with_reducible repeat (first | apply Kd.R_alloc | apply Kd.R_drewN | apply Kd.R_drew)); exact HO166.out) hb); have n1_ := Aside0.mk (Kd.R_below (by (with_reducible repeat (first | apply Kd.R_alloc | apply Kd.R_drewN | apply Kd.R_drew)); exact HO172.out) hb); have n2_ := Aside0.mk (Kd.R_below (by (with_reducible repeat (first | apply Kd.R_alloc | apply Kd.R_drewN | apply Kd.R_drew)); exact HO175.out) hb); have n3_ := Aside0.mk (Kd.R_below (by (with_reducible repeat (first | apply Kd.R_alloc | apply Kd.R_drewN | apply Kd.R_drew)); exact HO183.out) hb); have n4_ := Aside0.mk (blk_below (g := gb177) (o := .cells #[.int .i64 ((rd_T51 l0 (ji23)).f0), .int .i64 ((rd_T51 l0 (ji23)).f1), .bool ((rd_T51 l0 (ji23)).f2)] 51 (0, 0)) (by (with_reducible repeat (first | refine blk_drewN ?_ _ | refine blk_drew ?_ | refine blk_alloc ?_ _)); exact BK177.out) hb); have n5_ := Aside0.mk (below_step (by repeat (first | (with_reducible first | exact HB.out | apply below_alloc | apply pw_below_drewN | apply below_drew1 | refine below_set ?_ GE177.out) | exact HB.out)) hb); clear HO166; clear HO172; clear HO175; clear HO183; clear BK177; clear HB; have HO166 := n0_; have HO172 := n1_; have HO175 := n2_; have HO183 := n3_; have BK177 := n4_; have HB := n5_; clear n0_ n1_ n2_ n3_ n4_ n5_; (try clear hb); (try clear hb2); (try clear hk); (try clear hi)))
                              go_ret
                              exact ⟨by first | rfl | (simp [errW_none, errW_some] <;> rfl) | (simp only [← hji15, ← hji23]; first | rfl | (simp [errW_none, errW_some] <;> rfl)) | (simp [*, errW_none, errW_some] <;> rfl), by repeat (first | (with_reducible first | exact HB.out | apply below_alloc | apply pw_below_drewN | apply below_drew1 | refine below_set ?_ GE177.out) | exact HB.out)⟩
                        · rw [if_neg c28] at H
                          exact absurd H (by simp)
                      · rw [if_neg c27] at H
                        exact absurd H (by simp)
                    · rw [if_neg c25] at H
                      exact absurd H (by simp)
                  · rw [if_neg c24] at H
                    exact absurd H (by simp)
                · rw [if_neg c19] at H
                  exact absurd H (by simp)
              · rw [if_neg c18] at H
                exact absurd H (by simp)
            · rw [if_neg c17] at H
              exact absurd H (by simp)
          · rw [if_neg c16] at H
            exact absurd H (by simp)
/-- What a value of type 51 that is read fits. -/
def wfT51 (x : S51) : Prop := (Lit.int .i64 x.f0).wf = true ∧ (Lit.int .i64 x.f1).wf = true ∧ True

/-- THE ONE PURE STATEMENT of darninglaw14_ChainSpoilt. -/
def darninglaw14_ChainSpoilt.Pure : Prop := ∀ (l0 : List (S51)) (a1 : Int) (a2 : Int) (a3 : Int), l0.length ≤ maxLen → l0.length * 24 ≤ 140737488351232 → (∀ x ∈ l0, wfT51 x) → (Lit.int .i64 a1).wf = true → (Lit.int .i64 a2).wf = true → (Lit.int .i64 a3).wf = true → ∃ k, darninglaw14_ChainSpoilt.f k l0 a1 a2 a3 = some true
theorem darninglaw14_ChainSpoilt.walk (P : darninglaw14_ChainSpoilt.Pure) (A0 : Option Addr) (c0 : Nat) (l0 : List (S51)) (a1 : Int) (a2 : Int) (a3 : Int) (w : World) (hr0 : Kd.C k51 w A0 l0.length l0) (hc0 : l0.length ≤ c0) (hm0 : l0.length ≤ maxLen) (y0 : l0.length * 24 ≤ 140737488351232) (hw0 : (∀ x ∈ l0, wfT51 x)) (w1 : (Lit.int .i64 a1).wf = true) (w2 : (Lit.int .i64 a2).wf = true) (w3 : (Lit.int .i64 a3).wf = true) :
    Calls Try.prog 10 #[.slice A0 l0.length c0, .int .i64 a1, .int .i64 a2, .int .i64 a3] w fun e w' => e = .returned (.bool true) ∧ Below w.heap.size w w' := by
  obtain ⟨k, h⟩ := P l0 a1 a2 a3 hm0 y0 hw0 w1 w2 w3
  refine (darninglaw14_ChainSpoilt.calls k A0 c0 l0 a1 a2 a3 true w hr0 hc0 h).mono ?_
  rintro e w' ⟨rfl, hd⟩
  exact ⟨rfl, hd⟩

end Go.Proofs.Ytfgggmojdefidaa.XChainSpoilt
