-- Laid by this session's own printer (wip/xprint.py): each Go function that the law reaches as a plain Lean function, and that the call comes to it.
import Derived.Test.YtfgggmojdefidaaXCodeEachx0
namespace Go.Proofs.Ytfgggmojdefidaa.XCodeEach
open Go.RowKit Go.Proofs.YtfgggmojdefidaaW.PrintWords Go.Proofs.YtfgggmojdefidaaW.PrintLast Go.Proofs.YtfgggmojdefidaaW.PrintMore
attribute [local go_sem] max2_int min2_int max_two min_two max_three min_three max_four min_four   -- for this text's walks alone
set_option linter.unusedVariables false
set_option linter.unusedSimpArgs false

/-! ### darningref4_DecodeOps: function 20 -/
mutual
def darningref4_DecodeOps.l0 : Nat → List Int → List (S26) → Option ((List (S26)))
 | 0, _, _ => none
 | k + 1, x0, x3 => if (x0.length : Int) ≥ 4 then (if 0 < (x0.length : Int) then (if 1 < (x0.length : Int) then (if 2 < (x0.length : Int) then (if 3 < (x0.length : Int) then (if 4 ≤ (x0.length : Int) then ((some (x0.drop 4 : List Int)).bind fun y201 => (if (wrap64 (rd x0 0)) = 1 then (if x3.length < 2513169434916 then (darningref4_DecodeOps.l0 k y201 (x3 ++ [(⟨wrap64 (rd x0 0), 0, wrap64 ((wrap64 (rd x0 1)) + (wrap64 (256 * (wrap64 (rd x0 2))))), 0, ([] : List Int)⟩ : S26)])) else (none)) else (if (wrap64 (rd x0 0)) = 2 then (darningref4_DecodeOps.j1 k y201 x3 (wrap64 (rd x0 0)) (wrap64 ((wrap64 (rd x0 1)) + (wrap64 (256 * (wrap64 (rd x0 2)))))) (wrap64 (rd x0 3)) (wrap64 (rd x0 0)) ((wrap64 (rd x0 0)) == 2)) else (darningref4_DecodeOps.j1 k y201 x3 (wrap64 (rd x0 0)) (wrap64 ((wrap64 (rd x0 1)) + (wrap64 (256 * (wrap64 (rd x0 2)))))) (wrap64 (rd x0 3)) (wrap64 (rd x0 0)) ((wrap64 (rd x0 0)) == 5))))) else (none)) else (none)) else (none)) else (none)) else (none)) else (some x3)
def darningref4_DecodeOps.j1 : Nat → List Int → List (S26) → Int → Int → Int → Int → Bool → Option ((List (S26)))
 | 0, _, _, _, _, _, _, _ => none
 | k + 1, x0, x3, x4, x5, x6, x31, x40 => if x40 = true then (if x3.length < 2513169434916 then (darningref4_DecodeOps.l0 k x0 (x3 ++ [(⟨x4, x5, 0, 0, ([] : List Int)⟩ : S26)])) else (none)) else (if x31 = 3 then (if x3.length < 2513169434916 then (darningref4_DecodeOps.l0 k x0 (x3 ++ [(⟨x4, x5, x6, 0, ([] : List Int)⟩ : S26)])) else (none)) else (if x31 = 4 then (if 0 ≤ (mn x6 (x0.length : Int)) then (if (mn x6 (x0.length : Int)) ≤ (x0.length : Int) then ((some (x0.take ((mn x6 (x0.length : Int)) : Int).toNat : List Int)).bind fun y215 => (if ([] : List Int).length + y215.length < 140737488355328 then (if x3.length < 2513169434916 then (darningref4_DecodeOps.l0 k (x0.drop ((mn x6 (x0.length : Int)) : Int).toNat) (x3 ++ [(⟨x4, x5, 0, 0, (([] : List Int) ++ y215)⟩ : S26)])) else (none)) else (none))) else (none)) else (none)) else (if x31 = 6 then (darningref4_DecodeOps.j2 k x0 x3 x4 x5 x6 x31 (x31 == 6)) else (darningref4_DecodeOps.j2 k x0 x3 x4 x5 x6 x31 (x31 == 8)))))
def darningref4_DecodeOps.j2 : Nat → List Int → List (S26) → Int → Int → Int → Int → Bool → Option ((List (S26)))
 | 0, _, _, _, _, _, _, _ => none
 | k + 1, x0, x3, x4, x5, x6, x31, x77 => if x77 = true then (if x3.length < 2513169434916 then (darningref4_DecodeOps.l0 k x0 (x3 ++ [(⟨x4, 0, 0, 0, ([] : List Int)⟩ : S26)])) else (none)) else (if x31 = 7 then (if x3.length < 2513169434916 then (darningref4_DecodeOps.l0 k x0 (x3 ++ [(⟨x4, 0, x5, x6, ([] : List Int)⟩ : S26)])) else (none)) else (darningref4_DecodeOps.l0 k x0 x3))
end
def darningref4_DecodeOps.f (k : Nat) (l0 : List Int) : Option ((List (S26))) := darningref4_DecodeOps.l0 k l0 ([] : List (S26))
theorem darningref4_DecodeOps.mono_l : ∀ k, (∀ y0 y1, LeO (darningref4_DecodeOps.l0 k y0 y1) (darningref4_DecodeOps.l0 (k + 1) y0 y1)) ∧ (∀ y0 y1 y2 y3 y4 y5 y6, LeO (darningref4_DecodeOps.j1 k y0 y1 y2 y3 y4 y5 y6) (darningref4_DecodeOps.j1 (k + 1) y0 y1 y2 y3 y4 y5 y6)) ∧ (∀ y0 y1 y2 y3 y4 y5 y6, LeO (darningref4_DecodeOps.j2 k y0 y1 y2 y3 y4 y5 y6) (darningref4_DecodeOps.j2 (k + 1) y0 y1 y2 y3 y4 y5 y6))
 | 0 => ⟨fun _ _ r h => by simp [darningref4_DecodeOps.l0] at h, fun _ _ _ _ _ _ _ r h => by simp [darningref4_DecodeOps.j1] at h, fun _ _ _ _ _ _ _ r h => by simp [darningref4_DecodeOps.j2] at h⟩
 | k + 1 => by
  obtain ⟨ih0, ih1, ih2⟩ := darningref4_DecodeOps.mono_l k
  refine ⟨?_, ?_, ?_⟩
  ·
   intro y0 y1
   unfold darningref4_DecodeOps.l0
   repeat' first
   | (with_reducible exact ih0 _ _)
   | (with_reducible exact ih1 _ _ _ _ _ _ _)
   | (with_reducible exact ih2 _ _ _ _ _ _ _)
   | (with_reducible exact LeO.refl _)
   | (with_reducible exact LeO.none _)
   | (with_reducible refine LeO.ite ?_ ?_)
   | (with_reducible refine LeO.bind ?_ (fun _ => ?_))
   | exact ih0 _ _
   | exact ih1 _ _ _ _ _ _ _
   | exact ih2 _ _ _ _ _ _ _
   | exact LeO.none _
   | refine LeO.ite ?_ ?_
   | refine LeO.bind ?_ (fun _ => ?_)
  ·
   intro y0 y1 y2 y3 y4 y5 y6
   unfold darningref4_DecodeOps.j1
   repeat' first
   | (with_reducible exact ih0 _ _)
   | (with_reducible exact ih1 _ _ _ _ _ _ _)
   | (with_reducible exact ih2 _ _ _ _ _ _ _)
   | (with_reducible exact LeO.refl _)
   | (with_reducible exact LeO.none _)
   | (with_reducible refine LeO.ite ?_ ?_)
   | (with_reducible refine LeO.bind ?_ (fun _ => ?_))
   | exact ih0 _ _
   | exact ih1 _ _ _ _ _ _ _
   | exact ih2 _ _ _ _ _ _ _
   | exact LeO.none _
   | refine LeO.ite ?_ ?_
   | refine LeO.bind ?_ (fun _ => ?_)
  ·
   intro y0 y1 y2 y3 y4 y5 y6
   unfold darningref4_DecodeOps.j2
   repeat' first
   | (with_reducible exact ih0 _ _)
   | (with_reducible exact ih1 _ _ _ _ _ _ _)
   | (with_reducible exact ih2 _ _ _ _ _ _ _)
   | (with_reducible exact LeO.refl _)
   | (with_reducible exact LeO.none _)
   | (with_reducible refine LeO.ite ?_ ?_)
   | (with_reducible refine LeO.bind ?_ (fun _ => ?_))
   | exact ih0 _ _
   | exact ih1 _ _ _ _ _ _ _
   | exact ih2 _ _ _ _ _ _ _
   | exact LeO.none _
   | refine LeO.ite ?_ ?_
   | refine LeO.bind ?_ (fun _ => ?_)
theorem darningref4_DecodeOps.mono : ∀ a0 k, LeO (darningref4_DecodeOps.f k a0) (darningref4_DecodeOps.f (k + 1) a0) := by
 intro a0 k
 obtain ⟨ih0, ih1, ih2⟩ := darningref4_DecodeOps.mono_l k
 unfold darningref4_DecodeOps.f
 repeat' first
   | (with_reducible exact ih0 _ _)
   | (with_reducible exact ih1 _ _ _ _ _ _ _)
   | (with_reducible exact ih2 _ _ _ _ _ _ _)
   | (with_reducible exact LeO.refl _)
   | (with_reducible exact LeO.none _)
   | (with_reducible refine LeO.ite ?_ ?_)
   | (with_reducible refine LeO.bind ?_ (fun _ => ?_))
   | exact ih0 _ _
   | exact ih1 _ _ _ _ _ _ _
   | exact ih2 _ _ _ _ _ _ _
   | exact LeO.none _
   | refine LeO.ite ?_ ?_
   | refine LeO.bind ?_ (fun _ => ?_)
set_option maxHeartbeats 8000000 in
set_option maxRecDepth 100000 in
theorem darningref4_DecodeOps.calls (k : Nat) (P0_ : Nat → Prop) (A0 : Option Addr) (c0 : Nat) (l0 : List Int) (r : List (S26)) (w : World) (hs0 : Kd.V (Kd.int .u8) 5 w w.heap.size (fun k_ => P0_ k_) (.slice A0 l0.length c0) l0) (h : darningref4_DecodeOps.f k l0 = some r) :
  Calls Try.prog 20 #[.slice A0 l0.length c0] w fun e w' => ∃ v0_ : Value, e = .returned (v0_) ∧ Kd.S k26 26 w' w.heap.size (fun k_ => (w.heap.size ≤ k_)) v0_ r ∧ Below w.heap.size w w' := by
 have hu26 := Try.underlying26
 have HO0 := Aside0.mk (show Kd.V (Kd.int .u8) 5 w w.heap.size (fun k_ => (P0_ k_ ∨ w.heap.size ≤ k_)) (.slice A0 l0.length c0) l0 from Kd.V_mono hs0 (fun k_ hk => .inl hk))
 have HB := Aside0.mk (Below.refl w.heap.size w)
 have H : (darningref4_DecodeOps.l0 k l0 ([] : List (S26))) = some r := h
 clear h
 have H' := Aside0.mk H
 clear H
 go_enter Try.func20, Try.ntmps20
 go_wp2
 repeat (go_quiet (fail); try go_wp2)
 go_loopg [0, 3] k (fun kq v0 v3 w' => ∃ (x0_1 : List Int) (x3_1 : List (S26)), Aside0 (darningref4_DecodeOps.l0 kq x0_1 x3_1 = some r) ∧ Aside0 (kq ≤ k) ∧ Aside0 (Kd.V (Kd.int .u8) 5 w' w.heap.size (fun k_ => (P0_ k_ ∨ w.heap.size ≤ k_) ∧ some k_ ≠ (v3 : Value).ownBlock) v0 x0_1) ∧ Aside0 (Kd.S k26 26 w' w.heap.size (fun k_ => (w.heap.size ≤ k_)) v3 x3_1) ∧ Aside0 (Below w.heap.size w w'))
 case atStart => exact ⟨(l0), (([] : List (S26))), H', ⟨Nat.le_refl _⟩, ⟨by (with_reducible repeat (first | apply Kd.V_alloc | apply Kd.V_drewN | apply Kd.V_drew)); exact Kd.V_mono HO0.out (fun _ hk => ⟨hk, (by simp [Value.ownBlock])⟩)⟩, ⟨by first | exact Kd.S_nil _ _ _ _ _ | exact Kd.N_nil _ _ _ _ _ | exact Kd.V_nil _ _ _ _ _ | exact Kd.Q_nil _ _ _ _ _ | exact Kd.R_nil _ _ _ _ _⟩, ⟨by repeat (first | (with_reducible first | exact HB.out | apply below_alloc | apply pw_below_drewN | apply below_drew1) | exact HB.out)⟩⟩
 case round =>
  clear H'
  obtain ⟨x0_1, x3_1, HA, HK1, HO_0, HO_3, HB⟩ := hrel
  cases gk with
  | zero => exact absurd HA.out (by simp [darningref4_DecodeOps.l0])
  | succ k1 =>
   have H := HA.out
   clear HA
   simp only [darningref4_DecodeOps.l0] at H
   by_cases c2 : (x0_1.length : Int) ≥ 4
   ·
    rw [if_pos c2] at H
    have c2b0 : decide (4 ≤ (x0_1.length : Int)) = true := decide_eq_true c2
    have c2b1 : decide (4 ≤ x0_1.length) = true := decide_eq_true (by omega)
    clear c2
    by_cases c3 : 0 < (x0_1.length : Int)
    ·
     rw [if_pos c3] at H
     have c3b0 : decide (0 < (x0_1.length : Int)) = true := decide_eq_true c3
     have c3b1 : decide (0 < x0_1.length) = true := decide_eq_true (by omega)
     clear c3
     by_cases c4 : 1 < (x0_1.length : Int)
     ·
      rw [if_pos c4] at H
      have c4b0 : decide (1 < (x0_1.length : Int)) = true := decide_eq_true c4
      have c4b1 : decide (1 < x0_1.length) = true := decide_eq_true (by omega)
      clear c4
      by_cases c5 : 2 < (x0_1.length : Int)
      ·
       rw [if_pos c5] at H
       have c5b0 : decide (2 < (x0_1.length : Int)) = true := decide_eq_true c5
       have c5b1 : decide (2 < x0_1.length) = true := decide_eq_true (by omega)
       clear c5
       by_cases c6 : 3 < (x0_1.length : Int)
       ·
        rw [if_pos c6] at H
        have c6b0 : decide (3 < (x0_1.length : Int)) = true := decide_eq_true c6
        have c6b1 : decide (3 < x0_1.length) = true := decide_eq_true (by omega)
        clear c6
        by_cases c7 : 4 ≤ (x0_1.length : Int)
        ·
         rw [if_pos c7] at H
         have c7b0 := eq_true c7
         have c7b1 : decide (4 ≤ (x0_1.length : Int)) = true := decide_eq_true c7
         clear c7
         obtain ⟨y201, hy201⟩ : ∃ y_ : List Int, y_ = (x0_1.drop 4) := ⟨_, rfl⟩
         replace H : (if (wrap64 (rd x0_1 0)) = 1 then (if x3_1.length < 2513169434916 then (darningref4_DecodeOps.l0 k1 y201 (x3_1 ++ [(⟨wrap64 (rd x0_1 0), 0, wrap64 ((wrap64 (rd x0_1 1)) + (wrap64 (256 * (wrap64 (rd x0_1 2))))), 0, ([] : List Int)⟩ : S26)])) else (none)) else (if (wrap64 (rd x0_1 0)) = 2 then (darningref4_DecodeOps.j1 k1 y201 x3_1 (wrap64 (rd x0_1 0)) (wrap64 ((wrap64 (rd x0_1 1)) + (wrap64 (256 * (wrap64 (rd x0_1 2)))))) (wrap64 (rd x0_1 3)) (wrap64 (rd x0_1 0)) ((wrap64 (rd x0_1 0)) == 2)) else (darningref4_DecodeOps.j1 k1 y201 x3_1 (wrap64 (rd x0_1 0)) (wrap64 ((wrap64 (rd x0_1 1)) + (wrap64 (256 * (wrap64 (rd x0_1 2)))))) (wrap64 (rd x0_1 3)) (wrap64 (rd x0_1 0)) ((wrap64 (rd x0_1 0)) == 5)))) = some r := by first | (rw [hy201]; with_reducible exact H) | (have H2_ := (Option.bind_some _ _).symm.trans H; rw [hy201]; with_reducible exact H2_) | (have H2_ := (Option.bind_some _ _).symm.trans H; with_reducible exact H2_) | with_reducible exact H | (rw [hy201]; exact H) | exact H
         have Ny201 := Aside0.mk hy201
         clear hy201
         by_cases c8 : (wrap64 (rd x0_1 0)) = 1
         ·
          rw [if_pos c8] at H
          have c8b0 : ((wrap64 (rd x0_1 0)) == 1) = true := beq_iff_eq.mpr c8
          have c8b1 : ((wrap64 (rd x0_1 0)) != 1) = false := bne_eq_false_iff_eq.mpr c8
          clear c8
          by_cases c9 : x3_1.length < 2513169434916
          ·
           rw [if_pos c9] at H
           have LMc9 := Aside0.mk c9
           clear c9
           obtain ⟨y206, hy206⟩ : ∃ y_ : List (S26), y_ = (x3_1 ++ [(⟨wrap64 (rd x0_1 0), 0, wrap64 ((wrap64 (rd x0_1 1)) + (wrap64 (256 * (wrap64 (rd x0_1 2))))), 0, ([] : List Int)⟩ : S26)]) := ⟨_, rfl⟩
           replace H : (darningref4_DecodeOps.l0 k1 y201 y206) = some r := by first | (rw [hy206]; with_reducible exact H) | (have H2_ := (Option.bind_some _ _).symm.trans H; rw [hy206]; with_reducible exact H2_) | (have H2_ := (Option.bind_some _ _).symm.trans H; with_reducible exact H2_) | with_reducible exact H | (rw [hy206]; exact H) | exact H
           have Ny206 := Aside0.mk hy206
           clear hy206
           have H' := Aside0.mk H
           clear H
           obtain ⟨Ao10, co10, eo10⟩ := Kd.V_slice HO_0.out
           subst eo10
           have p197 : 0 ≤ (0 : Int) := (by omega)
           have q197 : 0 < (x0_1.length : Int) := of_decide_eq_true (by first | (with_reducible assumption) | assumption)
           obtain ⟨ad197, e197, hx197_0⟩ := Kd.at_int (Kd.V_reads' HO_0.out).2.2 0 p197 q197
           cases e197
           have qi197 : (0 < x0_1.length) = True := eq_true (by omega)
           (try rw [show ((0 : Int)).toNat = 0 from rfl] at hx197_0)
           (try rw [Addr.add_zero'] at hx197_0)
           replace p197 := eq_true p197
           replace q197 := eq_true q197
           have p198 : 0 ≤ (1 : Int) := (by omega)
           have q198 : 1 < (x0_1.length : Int) := of_decide_eq_true (by first | (with_reducible assumption) | assumption)
           obtain ⟨ad198, e198, hx198_0⟩ := Kd.at_int (Kd.V_reads' HO_0.out).2.2 1 p198 q198
           obtain rfl : ad197 = ad198 := (by injection e198)
           (try simp only [show (1 : Int).toNat = 1 from rfl, Nat.reduceMul, Nat.reduceEqDiff, Go.Addr.add, ↓reduceIte] at hx198_0)
           have qi198 : (1 < x0_1.length) = True := eq_true (by omega)
           (try rw [show ((1 : Int)).toNat = 1 from rfl] at hx198_0)
           replace p198 := eq_true p198
           replace q198 := eq_true q198
           have p199 : 0 ≤ (2 : Int) := (by omega)
           have q199 : 2 < (x0_1.length : Int) := of_decide_eq_true (by first | (with_reducible assumption) | assumption)
           obtain ⟨ad199, e199, hx199_0⟩ := Kd.at_int (Kd.V_reads' HO_0.out).2.2 2 p199 q199
           obtain rfl : ad197 = ad199 := (by injection e199)
           (try simp only [show (2 : Int).toNat = 2 from rfl, Nat.reduceMul, Nat.reduceEqDiff, Go.Addr.add, ↓reduceIte] at hx199_0)
           have qi199 : (2 < x0_1.length) = True := eq_true (by omega)
           (try rw [show ((2 : Int)).toNat = 2 from rfl] at hx199_0)
           replace p199 := eq_true p199
           replace q199 := eq_true q199
           have p200 : 0 ≤ (3 : Int) := (by omega)
           have q200 : 3 < (x0_1.length : Int) := of_decide_eq_true (by first | (with_reducible assumption) | assumption)
           obtain ⟨ad200, e200, hx200_0⟩ := Kd.at_int (Kd.V_reads' HO_0.out).2.2 3 p200 q200
           obtain rfl : ad197 = ad200 := (by injection e200)
           (try simp only [show (3 : Int).toNat = 3 from rfl, Nat.reduceMul, Nat.reduceEqDiff, Go.Addr.add, ↓reduceIte] at hx200_0)
           have qi200 : (3 < x0_1.length) = True := eq_true (by omega)
           (try rw [show ((3 : Int)).toNat = 3 from rfl] at hx200_0)
           replace p200 := eq_true p200
           replace q200 := eq_true q200
           have q11 : (4 : Int) ≤ ((x0_1.length : Int) : Int) := of_decide_eq_true (by first | (with_reducible assumption) | assumption)
           obtain ⟨i011, hi011, _, hsz11, _⟩ := info_parts info5
           have hroom11 : x0_1.length ≤ co10 := (Kd.V_reads' HO_0.out).2.1
           have hC11 : Kd.F (Kd.int .u8) _ _ (some ad197) x0_1.length x0_1 := (Kd.V_at (base := w.heap.size) HO_0.out).2.2
           have hcut11 := cut_from (P := Try.prog) 22 5 .i64 Try.underlying22 hi011 1 hsz11 (some ad197) x0_1.length co10 4 (by omega) q11
           have hr11 := Kd.F_cut (m := (4 : Int).toNat) (c := co10) hC11 (by omega) hroom11
           obtain ⟨A11, hA11⟩ : ∃ A1, A1 = (if co10 = (4 : Int).toNat then (some ad197) else ((some ad197) : Option Addr).map (·.add ((4 : Int).toNat * 1))) := ⟨_, rfl⟩
           obtain ⟨c11, hc11⟩ : ∃ c1, c1 = co10 - (4 : Int).toNat := ⟨_, rfl⟩
           have hy11 : y201.length = x0_1.length - (4 : Int).toNat := (by rw [Ny201.out, List.length_drop] <;> omega)
           rw [show (x0_1).drop (4 : Int).toNat = y201 from Ny201.out.symm] at hr11
           replace hr11 : Kd.F (Kd.int .u8) _ _ A11 y201.length y201 := (by rw [hA11]; exact hr11)
           rw [← hy11, ← hA11, ← hc11] at hcut11
           have HO205 := Aside0.mk (show Kd.V (Kd.int .u8) 5 _ w.heap.size _ (.slice A11 y201.length c11) y201 from Kd.V_mk (by rw [hy11, hc11]; exact Nat.sub_le_sub_right hroom11 _) hr11)
           have HC205 := Aside0.mk (show y201.length ≤ c11 from by rw [hy11, hc11]; exact Nat.sub_le_sub_right hroom11 _)
           clear hr11 hC11 hroom11 hi011 hsz11 hc11
           have KY11 := Aside0.mk hy11
           have KA11 := Aside0.mk hA11
           clear hy11 hA11
           replace q11 := eq_true q11
           go_wp2_with (first | ((with_reducible refine gate_builtin (b := .append) (xs := #[.tmp 34, .tmp 38]) rfl ?_); at_builtin; refine Kd.S_append k26 (w0 := w) w.heap.size rfl (.tmp 34) (.tmp 38) 23 26 (.agg #[(.int .i64 0), (.int .i64 0), (.int .i64 0), (.int .i64 0), (.slice none 0 0)]) 56 rfl Try.underlying23 info26 rfl (by decide) (by omega) u3 x3_1 (⟨wrap64 (rd x0_1 0), 0, wrap64 ((wrap64 (rd x0_1 1)) + (wrap64 (256 * (wrap64 (rd x0_1 2))))), 0, ([] : List Int)⟩ : S26) [.int .i64 (wrap64 (rd x0_1 0)), .int .i64 0, .int .i64 (wrap64 ((wrap64 (rd x0_1 1)) + (wrap64 (256 * (wrap64 (rd x0_1 2)))))), .int .i64 0, .slice none 0 0] (fun k_ => (w.heap.size ≤ k_)) (fun _ => False) rfl rfl ?aP (fun k_ hk_ => hk_.elim) ?aF ?aO ?aB ?aS ?aL ?_; (case aP => exact k26_mkM _ _ _ (⟨wrap64 (rd x0_1 0), 0, wrap64 ((wrap64 (rd x0_1 1)) + (wrap64 (256 * (wrap64 (rd x0_1 2))))), 0, ([] : List Int)⟩ : S26) (Kd.R_nil _ _ _ _ _)); (case aB => exact (by repeat (first | (with_reducible first | exact HB.out | apply below_alloc | apply pw_below_drewN | apply below_drew1) | exact HB.out))); (case aF => exact (fun k_ hk => (Nat.le_trans (below_size (by repeat (first | (with_reducible first | exact HB.out | apply below_alloc | apply pw_below_drewN | apply below_drew1) | exact HB.out))) hk))); (case aO => exact (by (with_reducible repeat (first | apply Kd.S_alloc | apply Kd.S_drewN | apply Kd.S_drew)); exact Kd.S_mono HO_3.out (fun k_ hk => ⟨hk, fun e_ => e_⟩))); (case aS => exact (below_size (by repeat (first | (with_reducible first | exact HB.out | apply below_alloc | apply pw_below_drewN | apply below_drew1) | exact HB.out)))); (case aL => have := LMc9.out; omega); intro v207 w12 ho hb hg hat; rw [← Ny206.out] at ho; have n0_ := Aside0.mk (Kd.V_afterv (ok := (fun k_ => (P0_ k_ ∨ w.heap.size ≤ k_))) (by (with_reducible repeat (first | apply Kd.V_alloc | apply Kd.V_drewN | apply Kd.V_drew)); exact HO_0.out) hg hat); have n1_ := Aside0.mk (Kd.V_afterv (ok := (fun k_ => (P0_ k_ ∨ w.heap.size ≤ k_))) (by (with_reducible repeat (first | apply Kd.V_alloc | apply Kd.V_drewN | apply Kd.V_drew)); exact HO205.out) hg hat); have n2_ := Aside0.mk (hb); have n3_ := Aside0.mk (ho); clear HO_0; clear HO205; clear HB; clear HO_3; have HO_0 := n0_; have HO205 := n1_; have HB := n2_; have HO208 := n3_; clear n0_ n1_ n2_ n3_; clear ho hb hg hat))
           repeat (go_quiet (first | ((with_reducible refine gate_builtin (b := .append) (xs := #[.tmp 34, .tmp 38]) rfl ?_); at_builtin; refine Kd.S_append k26 (w0 := w) w.heap.size rfl (.tmp 34) (.tmp 38) 23 26 (.agg #[(.int .i64 0), (.int .i64 0), (.int .i64 0), (.int .i64 0), (.slice none 0 0)]) 56 rfl Try.underlying23 info26 rfl (by decide) (by omega) u3 x3_1 (⟨wrap64 (rd x0_1 0), 0, wrap64 ((wrap64 (rd x0_1 1)) + (wrap64 (256 * (wrap64 (rd x0_1 2))))), 0, ([] : List Int)⟩ : S26) [.int .i64 (wrap64 (rd x0_1 0)), .int .i64 0, .int .i64 (wrap64 ((wrap64 (rd x0_1 1)) + (wrap64 (256 * (wrap64 (rd x0_1 2)))))), .int .i64 0, .slice none 0 0] (fun k_ => (w.heap.size ≤ k_)) (fun _ => False) rfl rfl ?aP (fun k_ hk_ => hk_.elim) ?aF ?aO ?aB ?aS ?aL ?_; (case aP => exact k26_mkM _ _ _ (⟨wrap64 (rd x0_1 0), 0, wrap64 ((wrap64 (rd x0_1 1)) + (wrap64 (256 * (wrap64 (rd x0_1 2))))), 0, ([] : List Int)⟩ : S26) (Kd.R_nil _ _ _ _ _)); (case aB => exact (by repeat (first | (with_reducible first | exact HB.out | apply below_alloc | apply pw_below_drewN | apply below_drew1) | exact HB.out))); (case aF => exact (fun k_ hk => (Nat.le_trans (below_size (by repeat (first | (with_reducible first | exact HB.out | apply below_alloc | apply pw_below_drewN | apply below_drew1) | exact HB.out))) hk))); (case aO => exact (by (with_reducible repeat (first | apply Kd.S_alloc | apply Kd.S_drewN | apply Kd.S_drew)); exact Kd.S_mono HO_3.out (fun k_ hk => ⟨hk, fun e_ => e_⟩))); (case aS => exact (below_size (by repeat (first | (with_reducible first | exact HB.out | apply below_alloc | apply pw_below_drewN | apply below_drew1) | exact HB.out)))); (case aL => have := LMc9.out; omega); intro v207 w12 ho hb hg hat; rw [← Ny206.out] at ho; have n0_ := Aside0.mk (Kd.V_afterv (ok := (fun k_ => (P0_ k_ ∨ w.heap.size ≤ k_))) (by (with_reducible repeat (first | apply Kd.V_alloc | apply Kd.V_drewN | apply Kd.V_drew)); exact HO_0.out) hg hat); have n1_ := Aside0.mk (Kd.V_afterv (ok := (fun k_ => (P0_ k_ ∨ w.heap.size ≤ k_))) (by (with_reducible repeat (first | apply Kd.V_alloc | apply Kd.V_drewN | apply Kd.V_drew)); exact HO205.out) hg hat); have n2_ := Aside0.mk (hb); have n3_ := Aside0.mk (ho); clear HO_0; clear HO205; clear HB; clear HO_3; have HO_0 := n0_; have HO205 := n1_; have HB := n2_; have HO208 := n3_; clear n0_ n1_ n2_ n3_; clear ho hb hg hat)); try go_wp2_with (first | ((with_reducible refine gate_builtin (b := .append) (xs := #[.tmp 34, .tmp 38]) rfl ?_); at_builtin; refine Kd.S_append k26 (w0 := w) w.heap.size rfl (.tmp 34) (.tmp 38) 23 26 (.agg #[(.int .i64 0), (.int .i64 0), (.int .i64 0), (.int .i64 0), (.slice none 0 0)]) 56 rfl Try.underlying23 info26 rfl (by decide) (by omega) u3 x3_1 (⟨wrap64 (rd x0_1 0), 0, wrap64 ((wrap64 (rd x0_1 1)) + (wrap64 (256 * (wrap64 (rd x0_1 2))))), 0, ([] : List Int)⟩ : S26) [.int .i64 (wrap64 (rd x0_1 0)), .int .i64 0, .int .i64 (wrap64 ((wrap64 (rd x0_1 1)) + (wrap64 (256 * (wrap64 (rd x0_1 2)))))), .int .i64 0, .slice none 0 0] (fun k_ => (w.heap.size ≤ k_)) (fun _ => False) rfl rfl ?aP (fun k_ hk_ => hk_.elim) ?aF ?aO ?aB ?aS ?aL ?_; (case aP => exact k26_mkM _ _ _ (⟨wrap64 (rd x0_1 0), 0, wrap64 ((wrap64 (rd x0_1 1)) + (wrap64 (256 * (wrap64 (rd x0_1 2))))), 0, ([] : List Int)⟩ : S26) (Kd.R_nil _ _ _ _ _)); (case aB => exact (by repeat (first | (with_reducible first | exact HB.out | apply below_alloc | apply pw_below_drewN | apply below_drew1) | exact HB.out))); (case aF => exact (fun k_ hk => (Nat.le_trans (below_size (by repeat (first | (with_reducible first | exact HB.out | apply below_alloc | apply pw_below_drewN | apply below_drew1) | exact HB.out))) hk))); (case aO => exact (by (with_reducible repeat (first | apply Kd.S_alloc | apply Kd.S_drewN | apply Kd.S_drew)); exact Kd.S_mono HO_3.out (fun k_ hk => ⟨hk, fun e_ => e_⟩))); (case aS => exact (below_size (by repeat (first | (with_reducible first | exact HB.out | apply below_alloc | apply pw_below_drewN | apply below_drew1) | exact HB.out)))); (case aL => have := LMc9.out; omega); intro v207 w12 ho hb hg hat; rw [← Ny206.out] at ho; have n0_ := Aside0.mk (Kd.V_afterv (ok := (fun k_ => (P0_ k_ ∨ w.heap.size ≤ k_))) (by (with_reducible repeat (first | apply Kd.V_alloc | apply Kd.V_drewN | apply Kd.V_drew)); exact HO_0.out) hg hat); have n1_ := Aside0.mk (Kd.V_afterv (ok := (fun k_ => (P0_ k_ ∨ w.heap.size ≤ k_))) (by (with_reducible repeat (first | apply Kd.V_alloc | apply Kd.V_drewN | apply Kd.V_drew)); exact HO205.out) hg hat); have n2_ := Aside0.mk (hb); have n3_ := Aside0.mk (ho); clear HO_0; clear HO205; clear HB; clear HO_3; have HO_0 := n0_; have HO205 := n1_; have HB := n2_; have HO208 := n3_; clear n0_ n1_ n2_ n3_; clear ho hb hg hat)))
           go_roundg k1
           case measure => have := HK1.out; omega
           case rel => exact ⟨(y201), (y206), H', ⟨by have := HK1.out; omega⟩, ⟨by (with_reducible repeat (first | apply Kd.V_alloc | apply Kd.V_drewN | apply Kd.V_drew)); exact HO205.out⟩, ⟨by (with_reducible repeat (first | apply Kd.S_alloc | apply Kd.S_drewN | apply Kd.S_drew)); exact HO208.out⟩, ⟨by repeat (first | (with_reducible first | exact HB.out | apply below_alloc | apply pw_below_drewN | apply below_drew1) | exact HB.out)⟩⟩
          ·
           rw [if_neg c9] at H
           exact absurd H (by simp)
         ·
          rw [if_neg c8] at H
          have c8b0 : ((wrap64 (rd x0_1 0)) == 1) = false := beq_eq_false_iff_ne.mpr c8
          have c8b1 : ((wrap64 (rd x0_1 0)) != 1) = true := bne_iff_ne.mpr c8
          have HC13 := Aside0.mk H
          clear H
          obtain ⟨Ao14, co14, eo14⟩ := Kd.V_slice HO_0.out
          subst eo14
          have p197 : 0 ≤ (0 : Int) := (by omega)
          have q197 : 0 < (x0_1.length : Int) := of_decide_eq_true (by first | (with_reducible assumption) | assumption)
          obtain ⟨ad197, e197, hx197_0⟩ := Kd.at_int (Kd.V_reads' HO_0.out).2.2 0 p197 q197
          cases e197
          have qi197 : (0 < x0_1.length) = True := eq_true (by omega)
          (try rw [show ((0 : Int)).toNat = 0 from rfl] at hx197_0)
          (try rw [Addr.add_zero'] at hx197_0)
          replace p197 := eq_true p197
          replace q197 := eq_true q197
          have p198 : 0 ≤ (1 : Int) := (by omega)
          have q198 : 1 < (x0_1.length : Int) := of_decide_eq_true (by first | (with_reducible assumption) | assumption)
          obtain ⟨ad198, e198, hx198_0⟩ := Kd.at_int (Kd.V_reads' HO_0.out).2.2 1 p198 q198
          obtain rfl : ad197 = ad198 := (by injection e198)
          (try simp only [show (1 : Int).toNat = 1 from rfl, Nat.reduceMul, Nat.reduceEqDiff, Go.Addr.add, ↓reduceIte] at hx198_0)
          have qi198 : (1 < x0_1.length) = True := eq_true (by omega)
          (try rw [show ((1 : Int)).toNat = 1 from rfl] at hx198_0)
          replace p198 := eq_true p198
          replace q198 := eq_true q198
          have p199 : 0 ≤ (2 : Int) := (by omega)
          have q199 : 2 < (x0_1.length : Int) := of_decide_eq_true (by first | (with_reducible assumption) | assumption)
          obtain ⟨ad199, e199, hx199_0⟩ := Kd.at_int (Kd.V_reads' HO_0.out).2.2 2 p199 q199
          obtain rfl : ad197 = ad199 := (by injection e199)
          (try simp only [show (2 : Int).toNat = 2 from rfl, Nat.reduceMul, Nat.reduceEqDiff, Go.Addr.add, ↓reduceIte] at hx199_0)
          have qi199 : (2 < x0_1.length) = True := eq_true (by omega)
          (try rw [show ((2 : Int)).toNat = 2 from rfl] at hx199_0)
          replace p199 := eq_true p199
          replace q199 := eq_true q199
          have p200 : 0 ≤ (3 : Int) := (by omega)
          have q200 : 3 < (x0_1.length : Int) := of_decide_eq_true (by first | (with_reducible assumption) | assumption)
          obtain ⟨ad200, e200, hx200_0⟩ := Kd.at_int (Kd.V_reads' HO_0.out).2.2 3 p200 q200
          obtain rfl : ad197 = ad200 := (by injection e200)
          (try simp only [show (3 : Int).toNat = 3 from rfl, Nat.reduceMul, Nat.reduceEqDiff, Go.Addr.add, ↓reduceIte] at hx200_0)
          have qi200 : (3 < x0_1.length) = True := eq_true (by omega)
          (try rw [show ((3 : Int)).toNat = 3 from rfl] at hx200_0)
          replace p200 := eq_true p200
          replace q200 := eq_true q200
          have q15 : (4 : Int) ≤ ((x0_1.length : Int) : Int) := of_decide_eq_true (by first | (with_reducible assumption) | assumption)
          obtain ⟨i015, hi015, _, hsz15, _⟩ := info_parts info5
          have hroom15 : x0_1.length ≤ co14 := (Kd.V_reads' HO_0.out).2.1
          have hC15 : Kd.F (Kd.int .u8) _ _ (some ad197) x0_1.length x0_1 := (Kd.V_at (base := w.heap.size) HO_0.out).2.2
          have hcut15 := cut_from (P := Try.prog) 22 5 .i64 Try.underlying22 hi015 1 hsz15 (some ad197) x0_1.length co14 4 (by omega) q15
          have hr15 := Kd.F_cut (m := (4 : Int).toNat) (c := co14) hC15 (by omega) hroom15
          obtain ⟨A15, hA15⟩ : ∃ A1, A1 = (if co14 = (4 : Int).toNat then (some ad197) else ((some ad197) : Option Addr).map (·.add ((4 : Int).toNat * 1))) := ⟨_, rfl⟩
          obtain ⟨c15, hc15⟩ : ∃ c1, c1 = co14 - (4 : Int).toNat := ⟨_, rfl⟩
          have hy15 : y201.length = x0_1.length - (4 : Int).toNat := (by rw [Ny201.out, List.length_drop] <;> omega)
          rw [show (x0_1).drop (4 : Int).toNat = y201 from Ny201.out.symm] at hr15
          replace hr15 : Kd.F (Kd.int .u8) _ _ A15 y201.length y201 := (by rw [hA15]; exact hr15)
          rw [← hy15, ← hA15, ← hc15] at hcut15
          have HO205 := Aside0.mk (show Kd.V (Kd.int .u8) 5 _ w.heap.size _ (.slice A15 y201.length c15) y201 from Kd.V_mk (by rw [hy15, hc15]; exact Nat.sub_le_sub_right hroom15 _) hr15)
          have HC205 := Aside0.mk (show y201.length ≤ c15 from by rw [hy15, hc15]; exact Nat.sub_le_sub_right hroom15 _)
          clear hr15 hC15 hroom15 hi015 hsz15 hc15
          have KY15 := Aside0.mk hy15
          have KA15 := Aside0.mk hA15
          clear hy15 hA15
          replace q15 := eq_true q15
          go_upto_if 40 with (fail)
          repeat (go_quiet (fail); go_upto_if 40 with (fail))
          go_cut [40] (fun v40 wc => ∃ (kq : Nat) (x40_12 : Bool), v40 = .bool x40_12 ∧ Aside0 (darningref4_DecodeOps.j1 kq y201 x3_1 (wrap64 (rd x0_1 0)) (wrap64 ((wrap64 (rd x0_1 1)) + (wrap64 (256 * (wrap64 (rd x0_1 2)))))) (wrap64 (rd x0_1 3)) (wrap64 (rd x0_1 0)) x40_12 = some r) ∧ Aside0 (kq ≤ k1) ∧ Aside0 (Kd.V (Kd.int .u8) 5 wc w.heap.size (fun k_ => (P0_ k_ ∨ w.heap.size ≤ k_) ∧ some k_ ≠ (u3 : Value).ownBlock) (.slice A15 y201.length c15) y201) ∧ Aside0 (Kd.S k26 26 wc w.heap.size (fun k_ => (w.heap.size ≤ k_)) u3 x3_1) ∧ Aside0 (Below w.heap.size w wc))
          case first =>
           have H := HC13.out
           clear HC13
           by_cases c16 : (wrap64 (rd x0_1 0)) = 2
           ·
            rw [if_pos c16] at H
            have c16b0 : ((wrap64 (rd x0_1 0)) == 2) = true := beq_iff_eq.mpr c16
            have c16b1 : ((wrap64 (rd x0_1 0)) != 2) = false := bne_eq_false_iff_eq.mpr c16
            clear c16
            (first | rw [c16b0] | (simp only [i64_w, i32_w]; rw [c16b0]) | skip)
            have H' := Aside0.mk H
            clear H
            go_wp2
            repeat (go_quiet (fail); try go_wp2)
            go_meet
            case rel => exact ⟨_, (((wrap64 (rd x0_1 0)) == 2)), (by first | rfl | (simp; done) | (simp [*]; done)), H', ⟨by have := HK1.out; first | omega | exact Nat.le_refl _⟩, ⟨by (with_reducible repeat (first | apply Kd.V_alloc | apply Kd.V_drewN | apply Kd.V_drew)); exact HO205.out⟩, ⟨by (with_reducible repeat (first | apply Kd.S_alloc | apply Kd.S_drewN | apply Kd.S_drew)); exact HO_3.out⟩, ⟨by repeat (first | (with_reducible first | exact HB.out | apply below_alloc | apply pw_below_drewN | apply below_drew1) | exact HB.out)⟩⟩
           ·
            rw [if_neg c16] at H
            have c16b0 : ((wrap64 (rd x0_1 0)) == 2) = false := beq_eq_false_iff_ne.mpr c16
            have c16b1 : ((wrap64 (rd x0_1 0)) != 2) = true := bne_iff_ne.mpr c16
            (first | rw [c16b0] | (simp only [i64_w, i32_w]; rw [c16b0]) | skip)
            have H' := Aside0.mk H
            clear H
            go_wp2
            repeat (go_quiet (fail); try go_wp2)
            go_meet
            case rel => exact ⟨_, (((wrap64 (rd x0_1 0)) == 5)), (by first | rfl | (simp; done) | (simp [*]; done)), H', ⟨by have := HK1.out; first | omega | exact Nat.le_refl _⟩, ⟨by (with_reducible repeat (first | apply Kd.V_alloc | apply Kd.V_drewN | apply Kd.V_drew)); exact HO205.out⟩, ⟨by (with_reducible repeat (first | apply Kd.S_alloc | apply Kd.S_drewN | apply Kd.S_drew)); exact HO_3.out⟩, ⟨by repeat (first | (with_reducible first | exact HB.out | apply below_alloc | apply pw_below_drewN | apply below_drew1) | exact HB.out)⟩⟩
          case rest =>
           clear HC13
           try clear c1
           try clear p1
           try clear q1
           try clear hx1
           try clear qi1
           try clear c2
           try clear c2b0
           try clear c2b1
           try clear p2
           try clear q2
           try clear hx2
           try clear qi2
           try clear c3
           try clear c3b0
           try clear c3b1
           try clear c4
           try clear c4b0
           try clear c4b1
           try clear c5
           try clear c5b0
           try clear c5b1
           try clear c6
           try clear c6b0
           try clear c6b1
           try clear p6
           try clear c7
           try clear c7b0
           try clear c7b1
           try clear c8
           try clear c8b0
           try clear c8b1
           try clear c9
           try clear c11
           try clear q11
           try clear c15
           try clear q15
           try clear c16
           try clear c16b0
           try clear c16b1
           try clear hx197_0
           try clear hx198_0
           try clear hx199_0
           try clear hx200_0
           try clear p197
           try clear p198
           try clear p199
           try clear p200
           try clear q11
           try clear q15
           try clear q197
           try clear q198
           try clear q199
           try clear q200
           obtain ⟨kq, x40_12, rfl, HA, HJ12, HO_0, HO_3, HB⟩ := hcut
           cases kq with
           | zero => exact absurd HA.out (by simp [darningref4_DecodeOps.j1])
           | succ kj12 =>
            have H := HA.out
            clear HA
            simp only [darningref4_DecodeOps.j1] at H
            by_cases c17 : x40_12 = true
            ·
             subst c17
             have H1 : (if x3_1.length < 2513169434916 then (darningref4_DecodeOps.l0 kj12 y201 (x3_1 ++ [(⟨(wrap64 (rd x0_1 0)), (wrap64 ((wrap64 (rd x0_1 1)) + (wrap64 (256 * (wrap64 (rd x0_1 2)))))), 0, 0, ([] : List Int)⟩ : S26)])) else (none)) = some r := by rw [if_pos rfl] at H; exact H
             clear H
             have H := H1
             clear H1
             by_cases c18 : x3_1.length < 2513169434916
             ·
              rw [if_pos c18] at H
              have LMc18 := Aside0.mk c18
              clear c18
              obtain ⟨y209, hy209⟩ : ∃ y_ : List (S26), y_ = (x3_1 ++ [(⟨(wrap64 (rd x0_1 0)), (wrap64 ((wrap64 (rd x0_1 1)) + (wrap64 (256 * (wrap64 (rd x0_1 2)))))), 0, 0, ([] : List Int)⟩ : S26)]) := ⟨_, rfl⟩
              replace H : (darningref4_DecodeOps.l0 kj12 y201 y209) = some r := by first | (rw [hy209]; with_reducible exact H) | (have H2_ := (Option.bind_some _ _).symm.trans H; rw [hy209]; with_reducible exact H2_) | (have H2_ := (Option.bind_some _ _).symm.trans H; with_reducible exact H2_) | with_reducible exact H | (rw [hy209]; exact H) | exact H
              have Ny209 := Aside0.mk hy209
              clear hy209
              have H' := Aside0.mk H
              clear H
              go_wp2_with (first | ((with_reducible refine gate_builtin (b := .append) (xs := #[.tmp 43, .tmp 47]) rfl ?_); at_builtin; refine Kd.S_append k26 (w0 := w) w.heap.size rfl (.tmp 43) (.tmp 47) 23 26 (.agg #[(.int .i64 0), (.int .i64 0), (.int .i64 0), (.int .i64 0), (.slice none 0 0)]) 56 rfl Try.underlying23 info26 rfl (by decide) (by omega) u3 x3_1 (⟨(wrap64 (rd x0_1 0)), (wrap64 ((wrap64 (rd x0_1 1)) + (wrap64 (256 * (wrap64 (rd x0_1 2)))))), 0, 0, ([] : List Int)⟩ : S26) [.int .i64 (wrap64 (rd x0_1 0)), .int .i64 (wrap64 ((wrap64 (rd x0_1 1)) + (wrap64 (256 * (wrap64 (rd x0_1 2)))))), .int .i64 0, .int .i64 0, .slice none 0 0] (fun k_ => (w.heap.size ≤ k_)) (fun _ => False) rfl rfl ?aP (fun k_ hk_ => hk_.elim) ?aF ?aO ?aB ?aS ?aL ?_; (case aP => exact k26_mkM _ _ _ (⟨(wrap64 (rd x0_1 0)), (wrap64 ((wrap64 (rd x0_1 1)) + (wrap64 (256 * (wrap64 (rd x0_1 2)))))), 0, 0, ([] : List Int)⟩ : S26) (Kd.R_nil _ _ _ _ _)); (case aB => exact (by repeat (first | (with_reducible first | exact HB.out | apply below_alloc | apply pw_below_drewN | apply below_drew1) | exact HB.out))); (case aF => exact (fun k_ hk => (Nat.le_trans (below_size (by repeat (first | (with_reducible first | exact HB.out | apply below_alloc | apply pw_below_drewN | apply below_drew1) | exact HB.out))) hk))); (case aO => exact (by (with_reducible repeat (first | apply Kd.S_alloc | apply Kd.S_drewN | apply Kd.S_drew)); exact Kd.S_mono HO_3.out (fun k_ hk => ⟨hk, fun e_ => e_⟩))); (case aS => exact (below_size (by repeat (first | (with_reducible first | exact HB.out | apply below_alloc | apply pw_below_drewN | apply below_drew1) | exact HB.out)))); (case aL => have := LMc18.out; omega); intro v210 w19 ho hb hg hat; rw [← Ny209.out] at ho; have n0_ := Aside0.mk (Kd.V_afterv (ok := (fun k_ => (P0_ k_ ∨ w.heap.size ≤ k_))) (by (with_reducible repeat (first | apply Kd.V_alloc | apply Kd.V_drewN | apply Kd.V_drew)); exact HO_0.out) hg hat); have n1_ := Aside0.mk (hb); have n2_ := Aside0.mk (ho); clear HO_0; clear HB; clear HO_3; have HO_0 := n0_; have HB := n1_; have HO211 := n2_; clear n0_ n1_ n2_; clear ho hb hg hat))
              repeat (go_quiet (first | ((with_reducible refine gate_builtin (b := .append) (xs := #[.tmp 43, .tmp 47]) rfl ?_); at_builtin; refine Kd.S_append k26 (w0 := w) w.heap.size rfl (.tmp 43) (.tmp 47) 23 26 (.agg #[(.int .i64 0), (.int .i64 0), (.int .i64 0), (.int .i64 0), (.slice none 0 0)]) 56 rfl Try.underlying23 info26 rfl (by decide) (by omega) u3 x3_1 (⟨(wrap64 (rd x0_1 0)), (wrap64 ((wrap64 (rd x0_1 1)) + (wrap64 (256 * (wrap64 (rd x0_1 2)))))), 0, 0, ([] : List Int)⟩ : S26) [.int .i64 (wrap64 (rd x0_1 0)), .int .i64 (wrap64 ((wrap64 (rd x0_1 1)) + (wrap64 (256 * (wrap64 (rd x0_1 2)))))), .int .i64 0, .int .i64 0, .slice none 0 0] (fun k_ => (w.heap.size ≤ k_)) (fun _ => False) rfl rfl ?aP (fun k_ hk_ => hk_.elim) ?aF ?aO ?aB ?aS ?aL ?_; (case aP => exact k26_mkM _ _ _ (⟨(wrap64 (rd x0_1 0)), (wrap64 ((wrap64 (rd x0_1 1)) + (wrap64 (256 * (wrap64 (rd x0_1 2)))))), 0, 0, ([] : List Int)⟩ : S26) (Kd.R_nil _ _ _ _ _)); (case aB => exact (by repeat (first | (with_reducible first | exact HB.out | apply below_alloc | apply pw_below_drewN | apply below_drew1) | exact HB.out))); (case aF => exact (fun k_ hk => (Nat.le_trans (below_size (by repeat (first | (with_reducible first | exact HB.out | apply below_alloc | apply pw_below_drewN | apply below_drew1) | exact HB.out))) hk))); (case aO => exact (by (with_reducible repeat (first | apply Kd.S_alloc | apply Kd.S_drewN | apply Kd.S_drew)); exact Kd.S_mono HO_3.out (fun k_ hk => ⟨hk, fun e_ => e_⟩))); (case aS => exact (below_size (by repeat (first | (with_reducible first | exact HB.out | apply below_alloc | apply pw_below_drewN | apply below_drew1) | exact HB.out)))); (case aL => have := LMc18.out; omega); intro v210 w19 ho hb hg hat; rw [← Ny209.out] at ho; have n0_ := Aside0.mk (Kd.V_afterv (ok := (fun k_ => (P0_ k_ ∨ w.heap.size ≤ k_))) (by (with_reducible repeat (first | apply Kd.V_alloc | apply Kd.V_drewN | apply Kd.V_drew)); exact HO_0.out) hg hat); have n1_ := Aside0.mk (hb); have n2_ := Aside0.mk (ho); clear HO_0; clear HB; clear HO_3; have HO_0 := n0_; have HB := n1_; have HO211 := n2_; clear n0_ n1_ n2_; clear ho hb hg hat)); try go_wp2_with (first | ((with_reducible refine gate_builtin (b := .append) (xs := #[.tmp 43, .tmp 47]) rfl ?_); at_builtin; refine Kd.S_append k26 (w0 := w) w.heap.size rfl (.tmp 43) (.tmp 47) 23 26 (.agg #[(.int .i64 0), (.int .i64 0), (.int .i64 0), (.int .i64 0), (.slice none 0 0)]) 56 rfl Try.underlying23 info26 rfl (by decide) (by omega) u3 x3_1 (⟨(wrap64 (rd x0_1 0)), (wrap64 ((wrap64 (rd x0_1 1)) + (wrap64 (256 * (wrap64 (rd x0_1 2)))))), 0, 0, ([] : List Int)⟩ : S26) [.int .i64 (wrap64 (rd x0_1 0)), .int .i64 (wrap64 ((wrap64 (rd x0_1 1)) + (wrap64 (256 * (wrap64 (rd x0_1 2)))))), .int .i64 0, .int .i64 0, .slice none 0 0] (fun k_ => (w.heap.size ≤ k_)) (fun _ => False) rfl rfl ?aP (fun k_ hk_ => hk_.elim) ?aF ?aO ?aB ?aS ?aL ?_; (case aP => exact k26_mkM _ _ _ (⟨(wrap64 (rd x0_1 0)), (wrap64 ((wrap64 (rd x0_1 1)) + (wrap64 (256 * (wrap64 (rd x0_1 2)))))), 0, 0, ([] : List Int)⟩ : S26) (Kd.R_nil _ _ _ _ _)); (case aB => exact (by repeat (first | (with_reducible first | exact HB.out | apply below_alloc | apply pw_below_drewN | apply below_drew1) | exact HB.out))); (case aF => exact (fun k_ hk => (Nat.le_trans (below_size (by repeat (first | (with_reducible first | exact HB.out | apply below_alloc | apply pw_below_drewN | apply below_drew1) | exact HB.out))) hk))); (case aO => exact (by (with_reducible repeat (first | apply Kd.S_alloc | apply Kd.S_drewN | apply Kd.S_drew)); exact Kd.S_mono HO_3.out (fun k_ hk => ⟨hk, fun e_ => e_⟩))); (case aS => exact (below_size (by repeat (first | (with_reducible first | exact HB.out | apply below_alloc | apply pw_below_drewN | apply below_drew1) | exact HB.out)))); (case aL => have := LMc18.out; omega); intro v210 w19 ho hb hg hat; rw [← Ny209.out] at ho; have n0_ := Aside0.mk (Kd.V_afterv (ok := (fun k_ => (P0_ k_ ∨ w.heap.size ≤ k_))) (by (with_reducible repeat (first | apply Kd.V_alloc | apply Kd.V_drewN | apply Kd.V_drew)); exact HO_0.out) hg hat); have n1_ := Aside0.mk (hb); have n2_ := Aside0.mk (ho); clear HO_0; clear HB; clear HO_3; have HO_0 := n0_; have HB := n1_; have HO211 := n2_; clear n0_ n1_ n2_; clear ho hb hg hat)))
              go_roundg kj12
              case measure => have := HK1.out; have := HJ12.out; omega
              case rel => exact ⟨(y201), (y209), H', ⟨by have := HK1.out; have := HJ12.out; omega⟩, ⟨by (with_reducible repeat (first | apply Kd.V_alloc | apply Kd.V_drewN | apply Kd.V_drew)); exact HO_0.out⟩, ⟨by (with_reducible repeat (first | apply Kd.S_alloc | apply Kd.S_drewN | apply Kd.S_drew)); exact HO211.out⟩, ⟨by repeat (first | (with_reducible first | exact HB.out | apply below_alloc | apply pw_below_drewN | apply below_drew1) | exact HB.out)⟩⟩
             ·
              rw [if_neg c18] at H
              exact absurd H (by simp)
            ·
             replace c17 := Bool.eq_false_iff.mpr c17
             subst c17
             have H1 : (if (wrap64 (rd x0_1 0)) = 3 then (if x3_1.length < 2513169434916 then (darningref4_DecodeOps.l0 kj12 y201 (x3_1 ++ [(⟨(wrap64 (rd x0_1 0)), (wrap64 ((wrap64 (rd x0_1 1)) + (wrap64 (256 * (wrap64 (rd x0_1 2)))))), (wrap64 (rd x0_1 3)), 0, ([] : List Int)⟩ : S26)])) else (none)) else (if (wrap64 (rd x0_1 0)) = 4 then (if 0 ≤ (mn (wrap64 (rd x0_1 3)) (y201.length : Int)) then (if (mn (wrap64 (rd x0_1 3)) (y201.length : Int)) ≤ (y201.length : Int) then ((some (y201.take ((mn (wrap64 (rd x0_1 3)) (y201.length : Int)) : Int).toNat : List Int)).bind fun y215 => (if ([] : List Int).length + y215.length < 140737488355328 then (if x3_1.length < 2513169434916 then (darningref4_DecodeOps.l0 kj12 (y201.drop ((mn (wrap64 (rd x0_1 3)) (y201.length : Int)) : Int).toNat) (x3_1 ++ [(⟨(wrap64 (rd x0_1 0)), (wrap64 ((wrap64 (rd x0_1 1)) + (wrap64 (256 * (wrap64 (rd x0_1 2)))))), 0, 0, (([] : List Int) ++ y215)⟩ : S26)])) else (none)) else (none))) else (none)) else (none)) else (if (wrap64 (rd x0_1 0)) = 6 then (darningref4_DecodeOps.j2 kj12 y201 x3_1 (wrap64 (rd x0_1 0)) (wrap64 ((wrap64 (rd x0_1 1)) + (wrap64 (256 * (wrap64 (rd x0_1 2)))))) (wrap64 (rd x0_1 3)) (wrap64 (rd x0_1 0)) ((wrap64 (rd x0_1 0)) == 6)) else (darningref4_DecodeOps.j2 kj12 y201 x3_1 (wrap64 (rd x0_1 0)) (wrap64 ((wrap64 (rd x0_1 1)) + (wrap64 (256 * (wrap64 (rd x0_1 2)))))) (wrap64 (rd x0_1 3)) (wrap64 (rd x0_1 0)) ((wrap64 (rd x0_1 0)) == 8))))) = some r := by rw [if_neg (show ¬ (false = true) by decide)] at H; exact H
             clear H
             have H := H1
             clear H1
             by_cases c20 : (wrap64 (rd x0_1 0)) = 3
             ·
              rw [if_pos c20] at H
              have c20b0 : ((wrap64 (rd x0_1 0)) == 3) = true := beq_iff_eq.mpr c20
              have c20b1 : ((wrap64 (rd x0_1 0)) != 3) = false := bne_eq_false_iff_eq.mpr c20
              clear c20
              by_cases c21 : x3_1.length < 2513169434916
              ·
               rw [if_pos c21] at H
               have LMc21 := Aside0.mk c21
               clear c21
               obtain ⟨y212, hy212⟩ : ∃ y_ : List (S26), y_ = (x3_1 ++ [(⟨(wrap64 (rd x0_1 0)), (wrap64 ((wrap64 (rd x0_1 1)) + (wrap64 (256 * (wrap64 (rd x0_1 2)))))), (wrap64 (rd x0_1 3)), 0, ([] : List Int)⟩ : S26)]) := ⟨_, rfl⟩
               replace H : (darningref4_DecodeOps.l0 kj12 y201 y212) = some r := by first | (rw [hy212]; with_reducible exact H) | (have H2_ := (Option.bind_some _ _).symm.trans H; rw [hy212]; with_reducible exact H2_) | (have H2_ := (Option.bind_some _ _).symm.trans H; with_reducible exact H2_) | with_reducible exact H | (rw [hy212]; exact H) | exact H
               have Ny212 := Aside0.mk hy212
               clear hy212
               have H' := Aside0.mk H
               clear H
               go_wp2_with (first | ((with_reducible refine gate_builtin (b := .append) (xs := #[.tmp 51, .tmp 56]) rfl ?_); at_builtin; refine Kd.S_append k26 (w0 := w) w.heap.size rfl (.tmp 51) (.tmp 56) 23 26 (.agg #[(.int .i64 0), (.int .i64 0), (.int .i64 0), (.int .i64 0), (.slice none 0 0)]) 56 rfl Try.underlying23 info26 rfl (by decide) (by omega) u3 x3_1 (⟨(wrap64 (rd x0_1 0)), (wrap64 ((wrap64 (rd x0_1 1)) + (wrap64 (256 * (wrap64 (rd x0_1 2)))))), (wrap64 (rd x0_1 3)), 0, ([] : List Int)⟩ : S26) [.int .i64 (wrap64 (rd x0_1 0)), .int .i64 (wrap64 ((wrap64 (rd x0_1 1)) + (wrap64 (256 * (wrap64 (rd x0_1 2)))))), .int .i64 (wrap64 (rd x0_1 3)), .int .i64 0, .slice none 0 0] (fun k_ => (w.heap.size ≤ k_)) (fun _ => False) rfl rfl ?aP (fun k_ hk_ => hk_.elim) ?aF ?aO ?aB ?aS ?aL ?_; (case aP => exact k26_mkM _ _ _ (⟨(wrap64 (rd x0_1 0)), (wrap64 ((wrap64 (rd x0_1 1)) + (wrap64 (256 * (wrap64 (rd x0_1 2)))))), (wrap64 (rd x0_1 3)), 0, ([] : List Int)⟩ : S26) (Kd.R_nil _ _ _ _ _)); (case aB => exact (by repeat (first | (with_reducible first | exact HB.out | apply below_alloc | apply pw_below_drewN | apply below_drew1) | exact HB.out))); (case aF => exact (fun k_ hk => (Nat.le_trans (below_size (by repeat (first | (with_reducible first | exact HB.out | apply below_alloc | apply pw_below_drewN | apply below_drew1) | exact HB.out))) hk))); (case aO => exact (by (with_reducible repeat (first | apply Kd.S_alloc | apply Kd.S_drewN | apply Kd.S_drew)); exact Kd.S_mono HO_3.out (fun k_ hk => ⟨hk, fun e_ => e_⟩))); (case aS => exact (below_size (by repeat (first | (with_reducible first | exact HB.out | apply below_alloc | apply pw_below_drewN | apply below_drew1) | exact HB.out)))); (case aL => have := LMc21.out; omega); intro v213 w22 ho hb hg hat; rw [← Ny212.out] at ho; have n0_ := Aside0.mk (Kd.V_afterv (ok := (fun k_ => (P0_ k_ ∨ w.heap.size ≤ k_))) (by (with_reducible repeat (first | apply Kd.V_alloc | apply Kd.V_drewN | apply Kd.V_drew)); exact HO_0.out) hg hat); have n1_ := Aside0.mk (hb); have n2_ := Aside0.mk (ho); clear HO_0; clear HB; clear HO_3; have HO_0 := n0_; have HB := n1_; have HO214 := n2_; clear n0_ n1_ n2_; clear ho hb hg hat))
               repeat (go_quiet (first | ((with_reducible refine gate_builtin (b := .append) (xs := #[.tmp 51, .tmp 56]) rfl ?_); at_builtin; refine Kd.S_append k26 (w0 := w) w.heap.size rfl (.tmp 51) (.tmp 56) 23 26 (.agg #[(.int .i64 0), (.int .i64 0), (.int .i64 0), (.int .i64 0), (.slice none 0 0)]) 56 rfl Try.underlying23 info26 rfl (by decide) (by omega) u3 x3_1 (⟨(wrap64 (rd x0_1 0)), (wrap64 ((wrap64 (rd x0_1 1)) + (wrap64 (256 * (wrap64 (rd x0_1 2)))))), (wrap64 (rd x0_1 3)), 0, ([] : List Int)⟩ : S26) [.int .i64 (wrap64 (rd x0_1 0)), .int .i64 (wrap64 ((wrap64 (rd x0_1 1)) + (wrap64 (256 * (wrap64 (rd x0_1 2)))))), .int .i64 (wrap64 (rd x0_1 3)), .int .i64 0, .slice none 0 0] (fun k_ => (w.heap.size ≤ k_)) (fun _ => False) rfl rfl ?aP (fun k_ hk_ => hk_.elim) ?aF ?aO ?aB ?aS ?aL ?_; (case aP => exact k26_mkM _ _ _ (⟨(wrap64 (rd x0_1 0)), (wrap64 ((wrap64 (rd x0_1 1)) + (wrap64 (256 * (wrap64 (rd x0_1 2)))))), (wrap64 (rd x0_1 3)), 0, ([] : List Int)⟩ : S26) (Kd.R_nil _ _ _ _ _)); (case aB => exact (by repeat (first | (with_reducible first | exact HB.out | apply below_alloc | apply pw_below_drewN | apply below_drew1) | exact HB.out))); (case aF => exact (fun k_ hk => (Nat.le_trans (below_size (by repeat (first | (with_reducible first | exact HB.out | apply below_alloc | apply pw_below_drewN | apply below_drew1) | exact HB.out))) hk))); (case aO => exact (by (with_reducible repeat (first | apply Kd.S_alloc | apply Kd.S_drewN | apply Kd.S_drew)); exact Kd.S_mono HO_3.out (fun k_ hk => ⟨hk, fun e_ => e_⟩))); (case aS => exact (below_size (by repeat (first | (with_reducible first | exact HB.out | apply below_alloc | apply pw_below_drewN | apply below_drew1) | exact HB.out)))); (case aL => have := LMc21.out; omega); intro v213 w22 ho hb hg hat; rw [← Ny212.out] at ho; have n0_ := Aside0.mk (Kd.V_afterv (ok := (fun k_ => (P0_ k_ ∨ w.heap.size ≤ k_))) (by (with_reducible repeat (first | apply Kd.V_alloc | apply Kd.V_drewN | apply Kd.V_drew)); exact HO_0.out) hg hat); have n1_ := Aside0.mk (hb); have n2_ := Aside0.mk (ho); clear HO_0; clear HB; clear HO_3; have HO_0 := n0_; have HB := n1_; have HO214 := n2_; clear n0_ n1_ n2_; clear ho hb hg hat)); try go_wp2_with (first | ((with_reducible refine gate_builtin (b := .append) (xs := #[.tmp 51, .tmp 56]) rfl ?_); at_builtin; refine Kd.S_append k26 (w0 := w) w.heap.size rfl (.tmp 51) (.tmp 56) 23 26 (.agg #[(.int .i64 0), (.int .i64 0), (.int .i64 0), (.int .i64 0), (.slice none 0 0)]) 56 rfl Try.underlying23 info26 rfl (by decide) (by omega) u3 x3_1 (⟨(wrap64 (rd x0_1 0)), (wrap64 ((wrap64 (rd x0_1 1)) + (wrap64 (256 * (wrap64 (rd x0_1 2)))))), (wrap64 (rd x0_1 3)), 0, ([] : List Int)⟩ : S26) [.int .i64 (wrap64 (rd x0_1 0)), .int .i64 (wrap64 ((wrap64 (rd x0_1 1)) + (wrap64 (256 * (wrap64 (rd x0_1 2)))))), .int .i64 (wrap64 (rd x0_1 3)), .int .i64 0, .slice none 0 0] (fun k_ => (w.heap.size ≤ k_)) (fun _ => False) rfl rfl ?aP (fun k_ hk_ => hk_.elim) ?aF ?aO ?aB ?aS ?aL ?_; (case aP => exact k26_mkM _ _ _ (⟨(wrap64 (rd x0_1 0)), (wrap64 ((wrap64 (rd x0_1 1)) + (wrap64 (256 * (wrap64 (rd x0_1 2)))))), (wrap64 (rd x0_1 3)), 0, ([] : List Int)⟩ : S26) (Kd.R_nil _ _ _ _ _)); (case aB => exact (by repeat (first | (with_reducible first | exact HB.out | apply below_alloc | apply pw_below_drewN | apply below_drew1) | exact HB.out))); (case aF => exact (fun k_ hk => (Nat.le_trans (below_size (by repeat (first | (with_reducible first | exact HB.out | apply below_alloc | apply pw_below_drewN | apply below_drew1) | exact HB.out))) hk))); (case aO => exact (by (with_reducible repeat (first | apply Kd.S_alloc | apply Kd.S_drewN | apply Kd.S_drew)); exact Kd.S_mono HO_3.out (fun k_ hk => ⟨hk, fun e_ => e_⟩))); (case aS => exact (below_size (by repeat (first | (with_reducible first | exact HB.out | apply below_alloc | apply pw_below_drewN | apply below_drew1) | exact HB.out)))); (case aL => have := LMc21.out; omega); intro v213 w22 ho hb hg hat; rw [← Ny212.out] at ho; have n0_ := Aside0.mk (Kd.V_afterv (ok := (fun k_ => (P0_ k_ ∨ w.heap.size ≤ k_))) (by (with_reducible repeat (first | apply Kd.V_alloc | apply Kd.V_drewN | apply Kd.V_drew)); exact HO_0.out) hg hat); have n1_ := Aside0.mk (hb); have n2_ := Aside0.mk (ho); clear HO_0; clear HB; clear HO_3; have HO_0 := n0_; have HB := n1_; have HO214 := n2_; clear n0_ n1_ n2_; clear ho hb hg hat)))
               go_roundg kj12
               case measure => have := HK1.out; have := HJ12.out; omega
               case rel => exact ⟨(y201), (y212), H', ⟨by have := HK1.out; have := HJ12.out; omega⟩, ⟨by (with_reducible repeat (first | apply Kd.V_alloc | apply Kd.V_drewN | apply Kd.V_drew)); exact HO_0.out⟩, ⟨by (with_reducible repeat (first | apply Kd.S_alloc | apply Kd.S_drewN | apply Kd.S_drew)); exact HO214.out⟩, ⟨by repeat (first | (with_reducible first | exact HB.out | apply below_alloc | apply pw_below_drewN | apply below_drew1) | exact HB.out)⟩⟩
              ·
               rw [if_neg c21] at H
               exact absurd H (by simp)
             ·
              rw [if_neg c20] at H
              have c20b0 : ((wrap64 (rd x0_1 0)) == 3) = false := beq_eq_false_iff_ne.mpr c20
              have c20b1 : ((wrap64 (rd x0_1 0)) != 3) = true := bne_iff_ne.mpr c20
              by_cases c23 : (wrap64 (rd x0_1 0)) = 4
              ·
               rw [if_pos c23] at H
               have c23b0 : ((wrap64 (rd x0_1 0)) == 4) = true := beq_iff_eq.mpr c23
               have c23b1 : ((wrap64 (rd x0_1 0)) != 4) = false := bne_eq_false_iff_eq.mpr c23
               clear c23
               obtain ⟨ji24, hji24⟩ : ∃ j_ : Int, (mn (wrap64 (rd x0_1 3)) (y201.length : Int)) = j_ := ⟨_, rfl⟩
               replace H : (if 0 ≤ (ji24) then (if (ji24) ≤ (y201.length : Int) then ((some (y201.take ((ji24) : Int).toNat : List Int)).bind fun y215 => (if ([] : List Int).length + y215.length < 140737488355328 then (if x3_1.length < 2513169434916 then (darningref4_DecodeOps.l0 kj12 (y201.drop ((ji24) : Int).toNat) (x3_1 ++ [(⟨(wrap64 (rd x0_1 0)), (wrap64 ((wrap64 (rd x0_1 1)) + (wrap64 (256 * (wrap64 (rd x0_1 2)))))), 0, 0, (([] : List Int) ++ y215)⟩ : S26)])) else (none)) else (none))) else (none)) else (none)) = some r := by first | (rw [hji24] at H; exact H) | (simp only [hji24] at H ⊢; exact H)
               have hji24_ : (if (y201.length : Int) < (wrap64 (rd x0_1 3)) then (y201.length : Int) else (wrap64 (rd x0_1 3))) = ji24 := hji24
               by_cases c25 : 0 ≤ (ji24)
               ·
                rw [if_pos c25] at H
                have c25b0 := eq_true c25
                have c25b1 : decide (0 ≤ (ji24)) = true := decide_eq_true c25
                clear c25
                by_cases c26 : (ji24) ≤ (y201.length : Int)
                ·
                 rw [if_pos c26] at H
                 have c26b0 := eq_true c26
                 have c26b1 : decide ((ji24) ≤ (y201.length : Int)) = true := decide_eq_true c26
                 clear c26
                 obtain ⟨y215, hy215⟩ : ∃ y_ : List Int, y_ = (y201.take ((ji24) : Int).toNat) := ⟨_, rfl⟩
                 replace H : (if ([] : List Int).length + y215.length < 140737488355328 then (if x3_1.length < 2513169434916 then (darningref4_DecodeOps.l0 kj12 (y201.drop ((ji24) : Int).toNat) (x3_1 ++ [(⟨(wrap64 (rd x0_1 0)), (wrap64 ((wrap64 (rd x0_1 1)) + (wrap64 (256 * (wrap64 (rd x0_1 2)))))), 0, 0, (([] : List Int) ++ y215)⟩ : S26)])) else (none)) else (none)) = some r := by first | (rw [hy215]; with_reducible exact H) | (have H2_ := (Option.bind_some _ _).symm.trans H; rw [hy215]; with_reducible exact H2_) | (have H2_ := (Option.bind_some _ _).symm.trans H; with_reducible exact H2_) | with_reducible exact H | (rw [hy215]; exact H) | exact H
                 have Ny215 := Aside0.mk hy215
                 clear hy215
                 by_cases c27 : ([] : List Int).length + y215.length < 140737488355328
                 ·
                  rw [if_pos c27] at H
                  have LMc27 := Aside0.mk c27
                  clear c27
                  obtain ⟨y220, hy220⟩ : ∃ y_ : List Int, y_ = (([] : List Int) ++ y215) := ⟨_, rfl⟩
                  replace H : (if x3_1.length < 2513169434916 then (darningref4_DecodeOps.l0 kj12 (y201.drop ((ji24) : Int).toNat) (x3_1 ++ [(⟨(wrap64 (rd x0_1 0)), (wrap64 ((wrap64 (rd x0_1 1)) + (wrap64 (256 * (wrap64 (rd x0_1 2)))))), 0, 0, y220⟩ : S26)])) else (none)) = some r := by first | (rw [hy220]; with_reducible exact H) | (have H2_ := (Option.bind_some _ _).symm.trans H; rw [hy220]; with_reducible exact H2_) | (have H2_ := (Option.bind_some _ _).symm.trans H; with_reducible exact H2_) | with_reducible exact H | (rw [hy220]; exact H) | exact H
                  have Ny220 := Aside0.mk hy220
                  clear hy220
                  by_cases c28 : x3_1.length < 2513169434916
                  ·
                   rw [if_pos c28] at H
                   have LMc28 := Aside0.mk c28
                   clear c28
                   obtain ⟨y223, hy223⟩ : ∃ y_ : List (S26), y_ = (x3_1 ++ [(⟨(wrap64 (rd x0_1 0)), (wrap64 ((wrap64 (rd x0_1 1)) + (wrap64 (256 * (wrap64 (rd x0_1 2)))))), 0, 0, y220⟩ : S26)]) := ⟨_, rfl⟩
                   replace H : (darningref4_DecodeOps.l0 kj12 (y201.drop ((ji24) : Int).toNat) y223) = some r := by first | (rw [hy223]; with_reducible exact H) | (have H2_ := (Option.bind_some _ _).symm.trans H; rw [hy223]; with_reducible exact H2_) | (have H2_ := (Option.bind_some _ _).symm.trans H; with_reducible exact H2_) | with_reducible exact H | (rw [hy223]; exact H) | exact H
                   have Ny223 := Aside0.mk hy223
                   clear hy223
                   have c29b0 := eq_true (of_decide_eq_true (by first | (with_reducible assumption) | assumption) : 0 ≤ (ji24))
                   have c30b0 := eq_true (of_decide_eq_true (by first | (with_reducible assumption) | assumption) : (ji24) ≤ (y201.length : Int))
                   obtain ⟨y226, hy226⟩ : ∃ y_ : List Int, y_ = (y201.drop ((ji24) : Int).toNat) := ⟨_, rfl⟩
                   replace H : (darningref4_DecodeOps.l0 kj12 y226 y223) = some r := by first | (rw [hy226]; with_reducible exact H) | (have H2_ := (Option.bind_some _ _).symm.trans H; rw [hy226]; with_reducible exact H2_) | (have H2_ := (Option.bind_some _ _).symm.trans H; with_reducible exact H2_) | with_reducible exact H | (rw [hy226]; exact H) | exact H
                   have Ny226 := Aside0.mk hy226
                   clear hy226
                   have H' := Aside0.mk H
                   clear H
                   have q31 : ((ji24) : Int) ≤ ((y201.length : Int) : Int) := of_decide_eq_true (by first | (with_reducible assumption) | assumption)
                   obtain ⟨i031, hi031, _, hsz31, _⟩ := info_parts info5
                   have hroom31 : y201.length ≤ c15 := (Kd.V_reads' HO_0.out).2.1
                   have hC31 : Kd.F (Kd.int .u8) _ _ A15 y201.length y201 := (Kd.V_at (base := w.heap.size) HO_0.out).2.2
                   have hcut31 := cut_to (P := Try.prog) 22 5 .i64 Try.underlying22 hi031 A15 y201.length c15 (ji24) (of_decide_eq_true (by first | (with_reducible assumption) | assumption)) q31 hroom31
                   have hr31 := Kd.F_take (m := ((ji24) : Int).toNat) hC31 (by omega)
                   have hy31 : y215.length = ((ji24) : Int).toNat := (by rw [Ny215.out, List.length_take]; omega)
                   rw [← Ny215.out] at hr31
                   rw [← hy31] at hcut31
                   have HO219 := Aside0.mk (show Kd.V (Kd.int .u8) 5 _ w.heap.size _ (.slice A15 y215.length c15) y215 from Kd.V_mk (by omega) hr31)
                   have HC219 := Aside0.mk (show y215.length ≤ c15 from by omega)
                   clear hr31 hC31 hroom31 hi031 hsz31
                   have KY31 := Aside0.mk hy31
                   clear hy31
                   replace q31 := eq_true q31
                   go_wp2_with (first | ((with_reducible refine gate_builtin (b := .append) (xs := #[.const (.slice none 0 0), .tmp 69]) rfl ?_); at_builtin; refine Kd.R_append_rows (Kd.int .u8) (w0 := w) w.heap.size rfl (.const (.slice none 0 0)) (.tmp 69) 22 5 (.int .u8 0) 1 rfl Try.underlying22 info5 rfl (by decide) (by omega) (.slice none 0 0) ([] : List Int) y215 _ _ _ (fun k_ => (w.heap.size ≤ k_)) (fun _ => False) rfl rfl ?aO ?aR (fun _ _ h => h) (fun _ h => h.elim) ?aF ?aB ?aS ?aL ?_; (case aR => repeat (first | exact (Kd.V_reads' HO219.out).2.2 | (with_reducible refine Kd.C_alloc ?_ _) | (with_reducible refine Kd.C_drewN ?_ _) | (with_reducible refine Kd.C_drew ?_))); (case aB => exact (by repeat (first | (with_reducible first | exact HB.out | apply below_alloc | apply pw_below_drewN | apply below_drew1) | exact HB.out))); (case aF => exact (fun k_ hk => (Nat.le_trans (below_size (by repeat (first | (with_reducible first | exact HB.out | apply below_alloc | apply pw_below_drewN | apply below_drew1) | exact HB.out))) hk))); (case aO => exact ((Kd.R_nil _ _ _ _ (fun k_ => (w.heap.size ≤ k_))))); (case aS => exact (below_size (by repeat (first | (with_reducible first | exact HB.out | apply below_alloc | apply pw_below_drewN | apply below_drew1) | exact HB.out)))); (case aL => have := LMc27.out; omega); intro v221 w32 ho hb hg hat; rw [← Ny220.out] at ho; have n0_ := Aside0.mk (Kd.V_afterv (Kd.V_apart_nil (by (with_reducible repeat (first | apply Kd.V_alloc | apply Kd.V_drewN | apply Kd.V_drew)); exact HO_0.out)) hg hat); have n1_ := Aside0.mk (Kd.S_after (Kd.S_apart_nil (by (with_reducible repeat (first | apply Kd.S_alloc | apply Kd.S_drewN | apply Kd.S_drew)); exact HO_3.out)) hg hat); have n2_ := Aside0.mk (Kd.V_afterv (Kd.V_apart_nil (by (with_reducible repeat (first | apply Kd.V_alloc | apply Kd.V_drewN | apply Kd.V_drew)); exact HO219.out)) hg hat); have n3_ := Aside0.mk (hb); have n4_ := Aside0.mk (ho); clear HO_0; clear HO_3; clear HO219; clear HB; have HO_0 := n0_; have HO_3 := n1_; have HO219 := n2_; have HB := n3_; have HO222 := n4_; clear n0_ n1_ n2_ n3_ n4_; clear ho hb hg hat; obtain ⟨Ao33, co33, eo33⟩ := Kd.R_slice HO222.out; subst eo33) | ((with_reducible refine gate_builtin (b := .append) (xs := #[.tmp 64, .tmp 72]) rfl ?_); at_builtin; refine Kd.S_append k26 (w0 := w) w.heap.size rfl (.tmp 64) (.tmp 72) 23 26 (.agg #[(.int .i64 0), (.int .i64 0), (.int .i64 0), (.int .i64 0), (.slice none 0 0)]) 56 rfl Try.underlying23 info26 rfl (by decide) (by omega) u3 x3_1 (⟨(wrap64 (rd x0_1 0)), (wrap64 ((wrap64 (rd x0_1 1)) + (wrap64 (256 * (wrap64 (rd x0_1 2)))))), 0, 0, y220⟩ : S26) [.int .i64 (wrap64 (rd x0_1 0)), .int .i64 (wrap64 ((wrap64 (rd x0_1 1)) + (wrap64 (256 * (wrap64 (rd x0_1 2)))))), .int .i64 0, .int .i64 0, .slice Ao33 y220.length co33] (fun k_ => (w.heap.size ≤ k_)) (fun k_ => some k_ = (.slice Ao33 y220.length co33 : Value).ownBlock) rfl rfl ?aP (fun k_ hk_ => ((Kd.R_mono (ok' := fun k_ => ((fun k_ => (w.heap.size ≤ k_))) k_ ∧ some k_ ≠ (u3 : Value).ownBlock) (Kd.R_apart' (HO222.out) (Kd.S_typed HO_3.out) (by decide)) (fun k_ hk => ⟨hk.1, hk.2⟩))).1 k_ hk_.symm) ?aF ?aO ?aB ?aS ?aL ?_; (case aP => exact k26_mkM _ _ _ (⟨(wrap64 (rd x0_1 0)), (wrap64 ((wrap64 (rd x0_1 1)) + (wrap64 (256 * (wrap64 (rd x0_1 2)))))), 0, 0, y220⟩ : S26) (Kd.R_mono (Kd.R_tight rfl (Kd.R_mono (ok' := fun k_ => ((fun k_ => (w.heap.size ≤ k_))) k_ ∧ some k_ ≠ (u3 : Value).ownBlock) (Kd.R_apart' (HO222.out) (Kd.S_typed HO_3.out) (by decide)) (fun k_ hk => ⟨hk.1, hk.2⟩))) (fun _ h_ => h_))); (case aB => exact (by repeat (first | (with_reducible first | exact HB.out | apply below_alloc | apply pw_below_drewN | apply below_drew1) | exact HB.out))); (case aF => exact (fun k_ hk => (Nat.le_trans (below_size (by repeat (first | (with_reducible first | exact HB.out | apply below_alloc | apply pw_below_drewN | apply below_drew1) | exact HB.out))) hk))); (case aO => exact (by (with_reducible repeat (first | apply Kd.S_alloc | apply Kd.S_drewN | apply Kd.S_drew)); exact Kd.S_mono HO_3.out (fun k_ hk => ⟨hk.1, fun e_ => hk.2 e_⟩))); (case aS => exact (below_size (by repeat (first | (with_reducible first | exact HB.out | apply below_alloc | apply pw_below_drewN | apply below_drew1) | exact HB.out)))); (case aL => have := LMc28.out; omega); intro v224 w34 ho hb hg hat; rw [← Ny223.out] at ho; have n0_ := Aside0.mk (Kd.V_afterv (ok := (fun k_ => (P0_ k_ ∨ w.heap.size ≤ k_) ∧ some k_ ≠ (.slice Ao33 y220.length co33 : Value).ownBlock)) (by (with_reducible repeat (first | apply Kd.V_alloc | apply Kd.V_drewN | apply Kd.V_drew)); exact Kd.V_mono HO_0.out (fun _ hk => ⟨⟨hk.1.1, hk.2⟩, hk.1.2⟩)) hg hat); have n1_ := Aside0.mk (Kd.V_afterv (ok := (fun k_ => (P0_ k_ ∨ w.heap.size ≤ k_) ∧ some k_ ≠ (.slice Ao33 y220.length co33 : Value).ownBlock)) (by (with_reducible repeat (first | apply Kd.V_alloc | apply Kd.V_drewN | apply Kd.V_drew)); exact Kd.V_mono HO219.out (fun _ hk => ⟨⟨hk.1.1, hk.2⟩, hk.1.2⟩)) hg hat); have n2_ := Aside0.mk (hb); have n3_ := Aside0.mk (ho); clear HO_0; clear HO219; clear HB; clear HO_3; clear HO222; have HO_0 := n0_; have HO219 := n1_; have HB := n2_; have HO225 := n3_; clear n0_ n1_ n2_ n3_; clear ho hb hg hat; have q35 : ((ji24) : Int) ≤ ((y201.length : Int) : Int) := of_decide_eq_true (by first | (with_reducible assumption) | assumption); obtain ⟨i035, hi035, _, hsz35, _⟩ := info_parts info5; have hroom35 : y201.length ≤ c15 := (Kd.V_reads' HO_0.out).2.1; have hC35 : Kd.F (Kd.int .u8) _ _ A15 y201.length y201 := (Kd.V_at (base := w.heap.size) HO_0.out).2.2; have q035 : (0 : Int) ≤ ((ji24) : Int) := of_decide_eq_true (by first | (with_reducible assumption) | assumption); have hcut35 := cut_from (P := Try.prog) 22 5 .i64 Try.underlying22 hi035 1 hsz35 A15 y201.length c15 (ji24) q035 q35; have hr35 := Kd.F_cut (m := ((ji24) : Int).toNat) (c := c15) hC35 (by omega) hroom35; obtain ⟨A35, hA35⟩ : ∃ A1, A1 = (if c15 = ((ji24) : Int).toNat then A15 else (A15 : Option Addr).map (·.add (((ji24) : Int).toNat * 1))) := ⟨_, rfl⟩; obtain ⟨c35, hc35⟩ : ∃ c1, c1 = c15 - ((ji24) : Int).toNat := ⟨_, rfl⟩; have hy35 : y226.length = y201.length - ((ji24) : Int).toNat := (by rw [Ny226.out, List.length_drop] <;> omega); rw [show (y201).drop ((ji24) : Int).toNat = y226 from Ny226.out.symm] at hr35; replace hr35 : Kd.F (Kd.int .u8) _ _ A35 y226.length y226 := (by rw [hA35]; exact hr35); rw [← hy35, ← hA35, ← hc35] at hcut35; have HO230 := Aside0.mk (show Kd.V (Kd.int .u8) 5 _ w.heap.size _ (.slice A35 y226.length c35) y226 from Kd.V_mk (by rw [hy35, hc35]; exact Nat.sub_le_sub_right hroom35 _) hr35); have HC230 := Aside0.mk (show y226.length ≤ c35 from by rw [hy35, hc35]; exact Nat.sub_le_sub_right hroom35 _); clear hr35 hC35 hroom35 hi035 hsz35 hc35; have KY35 := Aside0.mk hy35; have KA35 := Aside0.mk hA35; clear hy35 hA35; replace q35 := eq_true q35))
                   repeat (go_quiet (first | ((with_reducible refine gate_builtin (b := .append) (xs := #[.const (.slice none 0 0), .tmp 69]) rfl ?_); at_builtin; refine Kd.R_append_rows (Kd.int .u8) (w0 := w) w.heap.size rfl (.const (.slice none 0 0)) (.tmp 69) 22 5 (.int .u8 0) 1 rfl Try.underlying22 info5 rfl (by decide) (by omega) (.slice none 0 0) ([] : List Int) y215 _ _ _ (fun k_ => (w.heap.size ≤ k_)) (fun _ => False) rfl rfl ?aO ?aR (fun _ _ h => h) (fun _ h => h.elim) ?aF ?aB ?aS ?aL ?_; (case aR => repeat (first | exact (Kd.V_reads' HO219.out).2.2 | (with_reducible refine Kd.C_alloc ?_ _) | (with_reducible refine Kd.C_drewN ?_ _) | (with_reducible refine Kd.C_drew ?_))); (case aB => exact (by repeat (first | (with_reducible first | exact HB.out | apply below_alloc | apply pw_below_drewN | apply below_drew1) | exact HB.out))); (case aF => exact (fun k_ hk => (Nat.le_trans (below_size (by repeat (first | (with_reducible first | exact HB.out | apply below_alloc | apply pw_below_drewN | apply below_drew1) | exact HB.out))) hk))); (case aO => exact ((Kd.R_nil _ _ _ _ (fun k_ => (w.heap.size ≤ k_))))); (case aS => exact (below_size (by repeat (first | (with_reducible first | exact HB.out | apply below_alloc | apply pw_below_drewN | apply below_drew1) | exact HB.out)))); (case aL => have := LMc27.out; omega); intro v221 w32 ho hb hg hat; rw [← Ny220.out] at ho; have n0_ := Aside0.mk (Kd.V_afterv (Kd.V_apart_nil (by (with_reducible repeat (first | apply Kd.V_alloc | apply Kd.V_drewN | apply Kd.V_drew)); exact HO_0.out)) hg hat); have n1_ := Aside0.mk (Kd.S_after (Kd.S_apart_nil (by (with_reducible repeat (first | apply Kd.S_alloc | apply Kd.S_drewN | apply Kd.S_drew)); exact HO_3.out)) hg hat); have n2_ := Aside0.mk (Kd.V_afterv (Kd.V_apart_nil (by (with_reducible repeat (first | apply Kd.V_alloc | apply Kd.V_drewN | apply Kd.V_drew)); exact HO219.out)) hg hat); have n3_ := Aside0.mk (hb); have n4_ := Aside0.mk (ho); clear HO_0; clear HO_3; clear HO219; clear HB; have HO_0 := n0_; have HO_3 := n1_; have HO219 := n2_; have HB := n3_; have HO222 := n4_; clear n0_ n1_ n2_ n3_ n4_; clear ho hb hg hat; obtain ⟨Ao33, co33, eo33⟩ := Kd.R_slice HO222.out; subst eo33) | ((with_reducible refine gate_builtin (b := .append) (xs := #[.tmp 64, .tmp 72]) rfl ?_); at_builtin; refine Kd.S_append k26 (w0 := w) w.heap.size rfl (.tmp 64) (.tmp 72) 23 26 (.agg #[(.int .i64 0), (.int .i64 0), (.int .i64 0), (.int .i64 0), (.slice none 0 0)]) 56 rfl Try.underlying23 info26 rfl (by decide) (by omega) u3 x3_1 (⟨(wrap64 (rd x0_1 0)), (wrap64 ((wrap64 (rd x0_1 1)) + (wrap64 (256 * (wrap64 (rd x0_1 2)))))), 0, 0, y220⟩ : S26) [.int .i64 (wrap64 (rd x0_1 0)), .int .i64 (wrap64 ((wrap64 (rd x0_1 1)) + (wrap64 (256 * (wrap64 (rd x0_1 2)))))), .int .i64 0, .int .i64 0, .slice Ao33 y220.length co33] (fun k_ => (w.heap.size ≤ k_)) (fun k_ => some k_ = (.slice Ao33 y220.length co33 : Value).ownBlock) rfl rfl ?aP (fun k_ hk_ => ((Kd.R_mono (ok' := fun k_ => ((fun k_ => (w.heap.size ≤ k_))) k_ ∧ some k_ ≠ (u3 : Value).ownBlock) (Kd.R_apart' (HO222.out) (Kd.S_typed HO_3.out) (by decide)) (fun k_ hk => ⟨hk.1, hk.2⟩))).1 k_ hk_.symm) ?aF ?aO ?aB ?aS ?aL ?_; (case aP => exact k26_mkM _ _ _ (⟨(wrap64 (rd x0_1 0)), (wrap64 ((wrap64 (rd x0_1 1)) + (wrap64 (256 * (wrap64 (rd x0_1 2)))))), 0, 0, y220⟩ : S26) (Kd.R_mono (Kd.R_tight rfl (Kd.R_mono (ok' := fun k_ => ((fun k_ => (w.heap.size ≤ k_))) k_ ∧ some k_ ≠ (u3 : Value).ownBlock) (Kd.R_apart' (HO222.out) (Kd.S_typed HO_3.out) (by decide)) (fun k_ hk => ⟨hk.1, hk.2⟩))) (fun _ h_ => h_))); (case aB => exact (by repeat (first | (with_reducible first | exact HB.out | apply below_alloc | apply pw_below_drewN | apply below_drew1) | exact HB.out))); (case aF => exact (fun k_ hk => (Nat.le_trans (below_size (by repeat (first | (with_reducible first | exact HB.out | apply below_alloc | apply pw_below_drewN | apply below_drew1) | exact HB.out))) hk))); (case aO => exact (by (with_reducible repeat (first | apply Kd.S_alloc | apply Kd.S_drewN | apply Kd.S_drew)); exact Kd.S_mono HO_3.out (fun k_ hk => ⟨hk.1, fun e_ => hk.2 e_⟩))); (case aS => exact (below_size (by repeat (first | (with_reducible first | exact HB.out | apply below_alloc | apply pw_below_drewN | apply below_drew1) | exact HB.out)))); (case aL => have := LMc28.out; omega); intro v224 w34 ho hb hg hat; rw [← Ny223.out] at ho; have n0_ := Aside0.mk (Kd.V_afterv (ok := (fun k_ => (P0_ k_ ∨ w.heap.size ≤ k_) ∧ some k_ ≠ (.slice Ao33 y220.length co33 : Value).ownBlock)) (by (with_reducible repeat (first | apply Kd.V_alloc | apply Kd.V_drewN | apply Kd.V_drew)); exact Kd.V_mono HO_0.out (fun _ hk => ⟨⟨hk.1.1, hk.2⟩, hk.1.2⟩)) hg hat); have n1_ := Aside0.mk (Kd.V_afterv (ok := (fun k_ => (P0_ k_ ∨ w.heap.size ≤ k_) ∧ some k_ ≠ (.slice Ao33 y220.length co33 : Value).ownBlock)) (by (with_reducible repeat (first | apply Kd.V_alloc | apply Kd.V_drewN | apply Kd.V_drew)); exact Kd.V_mono HO219.out (fun _ hk => ⟨⟨hk.1.1, hk.2⟩, hk.1.2⟩)) hg hat); have n2_ := Aside0.mk (hb); have n3_ := Aside0.mk (ho); clear HO_0; clear HO219; clear HB; clear HO_3; clear HO222; have HO_0 := n0_; have HO219 := n1_; have HB := n2_; have HO225 := n3_; clear n0_ n1_ n2_ n3_; clear ho hb hg hat; have q35 : ((ji24) : Int) ≤ ((y201.length : Int) : Int) := of_decide_eq_true (by first | (with_reducible assumption) | assumption); obtain ⟨i035, hi035, _, hsz35, _⟩ := info_parts info5; have hroom35 : y201.length ≤ c15 := (Kd.V_reads' HO_0.out).2.1; have hC35 : Kd.F (Kd.int .u8) _ _ A15 y201.length y201 := (Kd.V_at (base := w.heap.size) HO_0.out).2.2; have q035 : (0 : Int) ≤ ((ji24) : Int) := of_decide_eq_true (by first | (with_reducible assumption) | assumption); have hcut35 := cut_from (P := Try.prog) 22 5 .i64 Try.underlying22 hi035 1 hsz35 A15 y201.length c15 (ji24) q035 q35; have hr35 := Kd.F_cut (m := ((ji24) : Int).toNat) (c := c15) hC35 (by omega) hroom35; obtain ⟨A35, hA35⟩ : ∃ A1, A1 = (if c15 = ((ji24) : Int).toNat then A15 else (A15 : Option Addr).map (·.add (((ji24) : Int).toNat * 1))) := ⟨_, rfl⟩; obtain ⟨c35, hc35⟩ : ∃ c1, c1 = c15 - ((ji24) : Int).toNat := ⟨_, rfl⟩; have hy35 : y226.length = y201.length - ((ji24) : Int).toNat := (by rw [Ny226.out, List.length_drop] <;> omega); rw [show (y201).drop ((ji24) : Int).toNat = y226 from Ny226.out.symm] at hr35; replace hr35 : Kd.F (Kd.int .u8) _ _ A35 y226.length y226 := (by rw [hA35]; exact hr35); rw [← hy35, ← hA35, ← hc35] at hcut35; have HO230 := Aside0.mk (show Kd.V (Kd.int .u8) 5 _ w.heap.size _ (.slice A35 y226.length c35) y226 from Kd.V_mk (by rw [hy35, hc35]; exact Nat.sub_le_sub_right hroom35 _) hr35); have HC230 := Aside0.mk (show y226.length ≤ c35 from by rw [hy35, hc35]; exact Nat.sub_le_sub_right hroom35 _); clear hr35 hC35 hroom35 hi035 hsz35 hc35; have KY35 := Aside0.mk hy35; have KA35 := Aside0.mk hA35; clear hy35 hA35; replace q35 := eq_true q35)); try go_wp2_with (first | ((with_reducible refine gate_builtin (b := .append) (xs := #[.const (.slice none 0 0), .tmp 69]) rfl ?_); at_builtin; refine Kd.R_append_rows (Kd.int .u8) (w0 := w) w.heap.size rfl (.const (.slice none 0 0)) (.tmp 69) 22 5 (.int .u8 0) 1 rfl Try.underlying22 info5 rfl (by decide) (by omega) (.slice none 0 0) ([] : List Int) y215 _ _ _ (fun k_ => (w.heap.size ≤ k_)) (fun _ => False) rfl rfl ?aO ?aR (fun _ _ h => h) (fun _ h => h.elim) ?aF ?aB ?aS ?aL ?_; (case aR => repeat (first | exact (Kd.V_reads' HO219.out).2.2 | (with_reducible refine Kd.C_alloc ?_ _) | (with_reducible refine Kd.C_drewN ?_ _) | (with_reducible refine Kd.C_drew ?_))); (case aB => exact (by repeat (first | (with_reducible first | exact HB.out | apply below_alloc | apply pw_below_drewN | apply below_drew1) | exact HB.out))); (case aF => exact (fun k_ hk => (Nat.le_trans (below_size (by repeat (first | (with_reducible first | exact HB.out | apply below_alloc | apply pw_below_drewN | apply below_drew1) | exact HB.out))) hk))); (case aO => exact ((Kd.R_nil _ _ _ _ (fun k_ => (w.heap.size ≤ k_))))); (case aS => exact (below_size (by repeat (first | (with_reducible first | exact HB.out | apply below_alloc | apply pw_below_drewN | apply below_drew1) | exact HB.out)))); (case aL => have := LMc27.out; omega); intro v221 w32 ho hb hg hat; rw [← Ny220.out] at ho; have n0_ := Aside0.mk (Kd.V_afterv (Kd.V_apart_nil (by (with_reducible repeat (first | apply Kd.V_alloc | apply Kd.V_drewN | apply Kd.V_drew)); exact HO_0.out)) hg hat); have n1_ := Aside0.mk (Kd.S_after (Kd.S_apart_nil (by (with_reducible repeat (first | apply Kd.S_alloc | apply Kd.S_drewN | apply Kd.S_drew)); exact HO_3.out)) hg hat); have n2_ := Aside0.mk (Kd.V_afterv (Kd.V_apart_nil (by (with_reducible repeat (first | apply Kd.V_alloc | apply Kd.V_drewN | apply Kd.V_drew)); exact HO219.out)) hg hat); have n3_ := Aside0.mk (hb); have n4_ := Aside0.mk (ho); clear HO_0; clear HO_3; clear HO219; clear HB; have HO_0 := n0_; have HO_3 := n1_; have HO219 := n2_; have HB := n3_; have HO222 := n4_; clear n0_ n1_ n2_ n3_ n4_; clear ho hb hg hat; obtain ⟨Ao33, co33, eo33⟩ := Kd.R_slice HO222.out; subst eo33) | ((with_reducible refine gate_builtin (b := .append) (xs := #[.tmp 64, .tmp 72]) rfl ?_); at_builtin; refine Kd.S_append k26 (w0 := w) w.heap.size rfl (.tmp 64) (.tmp 72) 23 26 (.agg #[(.int .i64 0), (.int .i64 0), (.int .i64 0), (.int .i64 0), (.slice none 0 0)]) 56 rfl Try.underlying23 info26 rfl (by decide) (by omega) u3 x3_1 (⟨(wrap64 (rd x0_1 0)), (wrap64 ((wrap64 (rd x0_1 1)) + (wrap64 (256 * (wrap64 (rd x0_1 2)))))), 0, 0, y220⟩ : S26) [.int .i64 (wrap64 (rd x0_1 0)), .int .i64 (wrap64 ((wrap64 (rd x0_1 1)) + (wrap64 (256 * (wrap64 (rd x0_1 2)))))), .int .i64 0, .int .i64 0, .slice Ao33 y220.length co33] (fun k_ => (w.heap.size ≤ k_)) (fun k_ => some k_ = (.slice Ao33 y220.length co33 : Value).ownBlock) rfl rfl ?aP (fun k_ hk_ => ((Kd.R_mono (ok' := fun k_ => ((fun k_ => (w.heap.size ≤ k_))) k_ ∧ some k_ ≠ (u3 : Value).ownBlock) (Kd.R_apart' (HO222.out) (Kd.S_typed HO_3.out) (by decide)) (fun k_ hk => ⟨hk.1, hk.2⟩))).1 k_ hk_.symm) ?aF ?aO ?aB ?aS ?aL ?_; (case aP => exact k26_mkM _ _ _ (⟨(wrap64 (rd x0_1 0)), (wrap64 ((wrap64 (rd x0_1 1)) + (wrap64 (256 * (wrap64 (rd x0_1 2)))))), 0, 0, y220⟩ : S26) (Kd.R_mono (Kd.R_tight rfl (Kd.R_mono (ok' := fun k_ => ((fun k_ => (w.heap.size ≤ k_))) k_ ∧ some k_ ≠ (u3 : Value).ownBlock) (Kd.R_apart' (HO222.out) (Kd.S_typed HO_3.out) (by decide)) (fun k_ hk => ⟨hk.1, hk.2⟩))) (fun _ h_ => h_))); (case aB => exact (by repeat (first | (with_reducible first | exact HB.out | apply below_alloc | apply pw_below_drewN | apply below_drew1) | exact HB.out))); (case aF => exact (fun k_ hk => (Nat.le_trans (below_size (by repeat (first | (with_reducible first | exact HB.out | apply below_alloc | apply pw_below_drewN | apply below_drew1) | exact HB.out))) hk))); (case aO => exact (by (with_reducible repeat (first | apply Kd.S_alloc | apply Kd.S_drewN | apply Kd.S_drew)); exact Kd.S_mono HO_3.out (fun k_ hk => ⟨hk.1, fun e_ => hk.2 e_⟩))); (case aS => exact (below_size (by repeat (first | (with_reducible first | exact HB.out | apply below_alloc | apply pw_below_drewN | apply below_drew1) | exact HB.out)))); (case aL => have := LMc28.out; omega); intro v224 w34 ho hb hg hat; rw [← Ny223.out] at ho; have n0_ := Aside0.mk (Kd.V_afterv (ok := (fun k_ => (P0_ k_ ∨ w.heap.size ≤ k_) ∧ some k_ ≠ (.slice Ao33 y220.length co33 : Value).ownBlock)) (by (with_reducible repeat (first | apply Kd.V_alloc | apply Kd.V_drewN | apply Kd.V_drew)); exact Kd.V_mono HO_0.out (fun _ hk => ⟨⟨hk.1.1, hk.2⟩, hk.1.2⟩)) hg hat); have n1_ := Aside0.mk (Kd.V_afterv (ok := (fun k_ => (P0_ k_ ∨ w.heap.size ≤ k_) ∧ some k_ ≠ (.slice Ao33 y220.length co33 : Value).ownBlock)) (by (with_reducible repeat (first | apply Kd.V_alloc | apply Kd.V_drewN | apply Kd.V_drew)); exact Kd.V_mono HO219.out (fun _ hk => ⟨⟨hk.1.1, hk.2⟩, hk.1.2⟩)) hg hat); have n2_ := Aside0.mk (hb); have n3_ := Aside0.mk (ho); clear HO_0; clear HO219; clear HB; clear HO_3; clear HO222; have HO_0 := n0_; have HO219 := n1_; have HB := n2_; have HO225 := n3_; clear n0_ n1_ n2_ n3_; clear ho hb hg hat; have q35 : ((ji24) : Int) ≤ ((y201.length : Int) : Int) := of_decide_eq_true (by first | (with_reducible assumption) | assumption); obtain ⟨i035, hi035, _, hsz35, _⟩ := info_parts info5; have hroom35 : y201.length ≤ c15 := (Kd.V_reads' HO_0.out).2.1; have hC35 : Kd.F (Kd.int .u8) _ _ A15 y201.length y201 := (Kd.V_at (base := w.heap.size) HO_0.out).2.2; have q035 : (0 : Int) ≤ ((ji24) : Int) := of_decide_eq_true (by first | (with_reducible assumption) | assumption); have hcut35 := cut_from (P := Try.prog) 22 5 .i64 Try.underlying22 hi035 1 hsz35 A15 y201.length c15 (ji24) q035 q35; have hr35 := Kd.F_cut (m := ((ji24) : Int).toNat) (c := c15) hC35 (by omega) hroom35; obtain ⟨A35, hA35⟩ : ∃ A1, A1 = (if c15 = ((ji24) : Int).toNat then A15 else (A15 : Option Addr).map (·.add (((ji24) : Int).toNat * 1))) := ⟨_, rfl⟩; obtain ⟨c35, hc35⟩ : ∃ c1, c1 = c15 - ((ji24) : Int).toNat := ⟨_, rfl⟩; have hy35 : y226.length = y201.length - ((ji24) : Int).toNat := (by rw [Ny226.out, List.length_drop] <;> omega); rw [show (y201).drop ((ji24) : Int).toNat = y226 from Ny226.out.symm] at hr35; replace hr35 : Kd.F (Kd.int .u8) _ _ A35 y226.length y226 := (by rw [hA35]; exact hr35); rw [← hy35, ← hA35, ← hc35] at hcut35; have HO230 := Aside0.mk (show Kd.V (Kd.int .u8) 5 _ w.heap.size _ (.slice A35 y226.length c35) y226 from Kd.V_mk (by rw [hy35, hc35]; exact Nat.sub_le_sub_right hroom35 _) hr35); have HC230 := Aside0.mk (show y226.length ≤ c35 from by rw [hy35, hc35]; exact Nat.sub_le_sub_right hroom35 _); clear hr35 hC35 hroom35 hi035 hsz35 hc35; have KY35 := Aside0.mk hy35; have KA35 := Aside0.mk hA35; clear hy35 hA35; replace q35 := eq_true q35)))
                   go_roundg kj12
                   case measure => have := HK1.out; have := HJ12.out; omega
                   case rel => exact ⟨(y226), (y223), H', ⟨by have := HK1.out; have := HJ12.out; omega⟩, ⟨by (with_reducible repeat (first | apply Kd.V_alloc | apply Kd.V_drewN | apply Kd.V_drew)); exact Kd.V_mono HO230.out (fun _ hk => ⟨hk.1.1, hk.2⟩)⟩, ⟨by (with_reducible repeat (first | apply Kd.S_alloc | apply Kd.S_drewN | apply Kd.S_drew)); exact HO225.out⟩, ⟨by repeat (first | (with_reducible first | exact HB.out | apply below_alloc | apply pw_below_drewN | apply below_drew1) | exact HB.out)⟩⟩
                  ·
                   rw [if_neg c28] at H
                   exact absurd H (by simp)
                 ·
                  rw [if_neg c27] at H
                  exact absurd H (by simp)
                ·
                 rw [if_neg c26] at H
                 exact absurd H (by simp)
               ·
                rw [if_neg c25] at H
                exact absurd H (by simp)
              ·
               rw [if_neg c23] at H
               have c23b0 : ((wrap64 (rd x0_1 0)) == 4) = false := beq_eq_false_iff_ne.mpr c23
               have c23b1 : ((wrap64 (rd x0_1 0)) != 4) = true := bne_iff_ne.mpr c23
               have HC36 := Aside0.mk H
               clear H
               go_upto_if 77 with (fail)
               repeat (go_quiet (fail); go_upto_if 77 with (fail))
               go_cut [77] (fun v77 wc => ∃ (kq : Nat) (x77_35 : Bool), v77 = .bool x77_35 ∧ Aside0 (darningref4_DecodeOps.j2 kq y201 x3_1 (wrap64 (rd x0_1 0)) (wrap64 ((wrap64 (rd x0_1 1)) + (wrap64 (256 * (wrap64 (rd x0_1 2)))))) (wrap64 (rd x0_1 3)) (wrap64 (rd x0_1 0)) x77_35 = some r) ∧ Aside0 (kq ≤ kj12) ∧ Aside0 (Kd.V (Kd.int .u8) 5 wc w.heap.size (fun k_ => (P0_ k_ ∨ w.heap.size ≤ k_) ∧ some k_ ≠ (u3 : Value).ownBlock) (.slice A15 y201.length c15) y201) ∧ Aside0 (Kd.S k26 26 wc w.heap.size (fun k_ => (w.heap.size ≤ k_)) u3 x3_1) ∧ Aside0 (Below w.heap.size w wc))
               case first =>
                have H := HC36.out
                clear HC36
                by_cases c37 : (wrap64 (rd x0_1 0)) = 6
                ·
                 rw [if_pos c37] at H
                 have c37b0 : ((wrap64 (rd x0_1 0)) == 6) = true := beq_iff_eq.mpr c37
                 have c37b1 : ((wrap64 (rd x0_1 0)) != 6) = false := bne_eq_false_iff_eq.mpr c37
                 clear c37
                 (first | rw [c37b0] | (simp only [i64_w, i32_w]; rw [c37b0]) | skip)
                 have H' := Aside0.mk H
                 clear H
                 go_wp2
                 repeat (go_quiet (fail); try go_wp2)
                 go_meet
                 case rel => exact ⟨_, (((wrap64 (rd x0_1 0)) == 6)), (by first | rfl | (simp; done) | (simp [*]; done)), H', ⟨by have := HK1.out; have := HJ12.out; first | omega | exact Nat.le_refl _⟩, ⟨by (with_reducible repeat (first | apply Kd.V_alloc | apply Kd.V_drewN | apply Kd.V_drew)); exact HO_0.out⟩, ⟨by (with_reducible repeat (first | apply Kd.S_alloc | apply Kd.S_drewN | apply Kd.S_drew)); exact HO_3.out⟩, ⟨by repeat (first | (with_reducible first | exact HB.out | apply below_alloc | apply pw_below_drewN | apply below_drew1) | exact HB.out)⟩⟩
                ·
                 rw [if_neg c37] at H
                 have c37b0 : ((wrap64 (rd x0_1 0)) == 6) = false := beq_eq_false_iff_ne.mpr c37
                 have c37b1 : ((wrap64 (rd x0_1 0)) != 6) = true := bne_iff_ne.mpr c37
                 (first | rw [c37b0] | (simp only [i64_w, i32_w]; rw [c37b0]) | skip)
                 have H' := Aside0.mk H
                 clear H
                 go_wp2
                 repeat (go_quiet (fail); try go_wp2)
                 go_meet
                 case rel => exact ⟨_, (((wrap64 (rd x0_1 0)) == 8)), (by first | rfl | (simp; done) | (simp [*]; done)), H', ⟨by have := HK1.out; have := HJ12.out; first | omega | exact Nat.le_refl _⟩, ⟨by (with_reducible repeat (first | apply Kd.V_alloc | apply Kd.V_drewN | apply Kd.V_drew)); exact HO_0.out⟩, ⟨by (with_reducible repeat (first | apply Kd.S_alloc | apply Kd.S_drewN | apply Kd.S_drew)); exact HO_3.out⟩, ⟨by repeat (first | (with_reducible first | exact HB.out | apply below_alloc | apply pw_below_drewN | apply below_drew1) | exact HB.out)⟩⟩
               case rest =>
                clear HC36
                try clear c1
                try clear p1
                try clear q1
                try clear hx1
                try clear qi1
                try clear c2
                try clear c2b0
                try clear c2b1
                try clear p2
                try clear q2
                try clear hx2
                try clear qi2
                try clear c3
                try clear c3b0
                try clear c3b1
                try clear q3
                try clear c4
                try clear c4b0
                try clear c4b1
                try clear c5
                try clear c5b0
                try clear c5b1
                try clear c6
                try clear c6b0
                try clear c6b1
                try clear p6
                try clear c7
                try clear c7b0
                try clear c7b1
                try clear c8
                try clear c8b0
                try clear c8b1
                try clear c9
                try clear c11
                try clear q11
                try clear c15
                try clear q15
                try clear c16
                try clear c16b0
                try clear c16b1
                try clear c17
                try clear c18
                try clear p19
                try clear q19
                try clear hx19
                try clear qi19
                try clear c20
                try clear c20b0
                try clear c20b1
                try clear p20
                try clear q20
                try clear hx20
                try clear qi20
                try clear c21
                try clear c23
                try clear c23b0
                try clear c23b1
                try clear c25
                try clear c25b0
                try clear c25b1
                try clear c26
                try clear c26b0
                try clear c26b1
                try clear c27
                try clear c28
                try clear c29
                try clear c29b0
                try clear c30
                try clear c30b0
                try clear q31
                try clear c35
                try clear q35
                try clear c37
                try clear c37b0
                try clear c37b1
                try clear hx197_0
                try clear hx198_0
                try clear hx199_0
                try clear hx200_0
                try clear p1
                try clear p197
                try clear p198
                try clear p199
                try clear p2
                try clear p200
                try clear p6
                try clear q035
                try clear q1
                try clear q11
                try clear q15
                try clear q197
                try clear q198
                try clear q199
                try clear q2
                try clear q200
                try clear q31
                try clear q35
                obtain ⟨kq, x77_35, rfl, HA, HJ35, HO_0, HO_3, HB⟩ := hcut
                cases kq with
                | zero => exact absurd HA.out (by simp [darningref4_DecodeOps.j2])
                | succ kj35 =>
                 have H := HA.out
                 clear HA
                 simp only [darningref4_DecodeOps.j2] at H
                 by_cases c38 : x77_35 = true
                 ·
                  subst c38
                  have H1 : (if x3_1.length < 2513169434916 then (darningref4_DecodeOps.l0 kj35 y201 (x3_1 ++ [(⟨(wrap64 (rd x0_1 0)), 0, 0, 0, ([] : List Int)⟩ : S26)])) else (none)) = some r := by rw [if_pos rfl] at H; exact H
                  clear H
                  have H := H1
                  clear H1
                  by_cases c39 : x3_1.length < 2513169434916
                  ·
                   rw [if_pos c39] at H
                   have LMc39 := Aside0.mk c39
                   clear c39
                   obtain ⟨y231, hy231⟩ : ∃ y_ : List (S26), y_ = (x3_1 ++ [(⟨(wrap64 (rd x0_1 0)), 0, 0, 0, ([] : List Int)⟩ : S26)]) := ⟨_, rfl⟩
                   replace H : (darningref4_DecodeOps.l0 kj35 y201 y231) = some r := by first | (rw [hy231]; with_reducible exact H) | (have H2_ := (Option.bind_some _ _).symm.trans H; rw [hy231]; with_reducible exact H2_) | (have H2_ := (Option.bind_some _ _).symm.trans H; with_reducible exact H2_) | with_reducible exact H | (rw [hy231]; exact H) | exact H
                   have Ny231 := Aside0.mk hy231
                   clear hy231
                   have H' := Aside0.mk H
                   clear H
                   go_wp2_with (first | ((with_reducible refine gate_builtin (b := .append) (xs := #[.tmp 80, .tmp 83]) rfl ?_); at_builtin; refine Kd.S_append k26 (w0 := w) w.heap.size rfl (.tmp 80) (.tmp 83) 23 26 (.agg #[(.int .i64 0), (.int .i64 0), (.int .i64 0), (.int .i64 0), (.slice none 0 0)]) 56 rfl Try.underlying23 info26 rfl (by decide) (by omega) u3 x3_1 (⟨(wrap64 (rd x0_1 0)), 0, 0, 0, ([] : List Int)⟩ : S26) [.int .i64 (wrap64 (rd x0_1 0)), .int .i64 0, .int .i64 0, .int .i64 0, .slice none 0 0] (fun k_ => (w.heap.size ≤ k_)) (fun _ => False) rfl rfl ?aP (fun k_ hk_ => hk_.elim) ?aF ?aO ?aB ?aS ?aL ?_; (case aP => exact k26_mkM _ _ _ (⟨(wrap64 (rd x0_1 0)), 0, 0, 0, ([] : List Int)⟩ : S26) (Kd.R_nil _ _ _ _ _)); (case aB => exact (by repeat (first | (with_reducible first | exact HB.out | apply below_alloc | apply pw_below_drewN | apply below_drew1) | exact HB.out))); (case aF => exact (fun k_ hk => (Nat.le_trans (below_size (by repeat (first | (with_reducible first | exact HB.out | apply below_alloc | apply pw_below_drewN | apply below_drew1) | exact HB.out))) hk))); (case aO => exact (by (with_reducible repeat (first | apply Kd.S_alloc | apply Kd.S_drewN | apply Kd.S_drew)); exact Kd.S_mono HO_3.out (fun k_ hk => ⟨hk, fun e_ => e_⟩))); (case aS => exact (below_size (by repeat (first | (with_reducible first | exact HB.out | apply below_alloc | apply pw_below_drewN | apply below_drew1) | exact HB.out)))); (case aL => have := LMc39.out; omega); intro v232 w40 ho hb hg hat; rw [← Ny231.out] at ho; have n0_ := Aside0.mk (Kd.V_afterv (ok := (fun k_ => (P0_ k_ ∨ w.heap.size ≤ k_))) (by (with_reducible repeat (first | apply Kd.V_alloc | apply Kd.V_drewN | apply Kd.V_drew)); exact HO_0.out) hg hat); have n1_ := Aside0.mk (hb); have n2_ := Aside0.mk (ho); clear HO_0; clear HB; clear HO_3; have HO_0 := n0_; have HB := n1_; have HO233 := n2_; clear n0_ n1_ n2_; clear ho hb hg hat))
                   repeat (go_quiet (first | ((with_reducible refine gate_builtin (b := .append) (xs := #[.tmp 80, .tmp 83]) rfl ?_); at_builtin; refine Kd.S_append k26 (w0 := w) w.heap.size rfl (.tmp 80) (.tmp 83) 23 26 (.agg #[(.int .i64 0), (.int .i64 0), (.int .i64 0), (.int .i64 0), (.slice none 0 0)]) 56 rfl Try.underlying23 info26 rfl (by decide) (by omega) u3 x3_1 (⟨(wrap64 (rd x0_1 0)), 0, 0, 0, ([] : List Int)⟩ : S26) [.int .i64 (wrap64 (rd x0_1 0)), .int .i64 0, .int .i64 0, .int .i64 0, .slice none 0 0] (fun k_ => (w.heap.size ≤ k_)) (fun _ => False) rfl rfl ?aP (fun k_ hk_ => hk_.elim) ?aF ?aO ?aB ?aS ?aL ?_; (case aP => exact k26_mkM _ _ _ (⟨(wrap64 (rd x0_1 0)), 0, 0, 0, ([] : List Int)⟩ : S26) (Kd.R_nil _ _ _ _ _)); (case aB => exact (by repeat (first | (with_reducible first | exact HB.out | apply below_alloc | apply pw_below_drewN | apply below_drew1) | exact HB.out))); (case aF => exact (fun k_ hk => (Nat.le_trans (below_size (by repeat (first | (with_reducible first | exact HB.out | apply below_alloc | apply pw_below_drewN | apply below_drew1) | exact HB.out))) hk))); (case aO => exact (by (with_reducible repeat (first | apply Kd.S_alloc | apply Kd.S_drewN | apply Kd.S_drew)); exact Kd.S_mono HO_3.out (fun k_ hk => ⟨hk, fun e_ => e_⟩))); (case aS => exact (below_size (by repeat (first | (with_reducible first | exact HB.out | apply below_alloc | apply pw_below_drewN | apply below_drew1) | exact HB.out)))); (case aL => have := LMc39.out; omega); intro v232 w40 ho hb hg hat; rw [← Ny231.out] at ho; have n0_ := Aside0.mk (Kd.V_afterv (ok := (fun k_ => (P0_ k_ ∨ w.heap.size ≤ k_))) (by (with_reducible repeat (first | apply Kd.V_alloc | apply Kd.V_drewN | apply Kd.V_drew)); exact HO_0.out) hg hat); have n1_ := Aside0.mk (hb); have n2_ := Aside0.mk (ho); clear HO_0; clear HB; clear HO_3; have HO_0 := n0_; have HB := n1_; have HO233 := n2_; clear n0_ n1_ n2_; clear ho hb hg hat)); try go_wp2_with (first | ((with_reducible refine gate_builtin (b := .append) (xs := #[.tmp 80, .tmp 83]) rfl ?_); at_builtin; refine Kd.S_append k26 (w0 := w) w.heap.size rfl (.tmp 80) (.tmp 83) 23 26 (.agg #[(.int .i64 0), (.int .i64 0), (.int .i64 0), (.int .i64 0), (.slice none 0 0)]) 56 rfl Try.underlying23 info26 rfl (by decide) (by omega) u3 x3_1 (⟨(wrap64 (rd x0_1 0)), 0, 0, 0, ([] : List Int)⟩ : S26) [.int .i64 (wrap64 (rd x0_1 0)), .int .i64 0, .int .i64 0, .int .i64 0, .slice none 0 0] (fun k_ => (w.heap.size ≤ k_)) (fun _ => False) rfl rfl ?aP (fun k_ hk_ => hk_.elim) ?aF ?aO ?aB ?aS ?aL ?_; (case aP => exact k26_mkM _ _ _ (⟨(wrap64 (rd x0_1 0)), 0, 0, 0, ([] : List Int)⟩ : S26) (Kd.R_nil _ _ _ _ _)); (case aB => exact (by repeat (first | (with_reducible first | exact HB.out | apply below_alloc | apply pw_below_drewN | apply below_drew1) | exact HB.out))); (case aF => exact (fun k_ hk => (Nat.le_trans (below_size (by repeat (first | (with_reducible first | exact HB.out | apply below_alloc | apply pw_below_drewN | apply below_drew1) | exact HB.out))) hk))); (case aO => exact (by (with_reducible repeat (first | apply Kd.S_alloc | apply Kd.S_drewN | apply Kd.S_drew)); exact Kd.S_mono HO_3.out (fun k_ hk => ⟨hk, fun e_ => e_⟩))); (case aS => exact (below_size (by repeat (first | (with_reducible first | exact HB.out | apply below_alloc | apply pw_below_drewN | apply below_drew1) | exact HB.out)))); (case aL => have := LMc39.out; omega); intro v232 w40 ho hb hg hat; rw [← Ny231.out] at ho; have n0_ := Aside0.mk (Kd.V_afterv (ok := (fun k_ => (P0_ k_ ∨ w.heap.size ≤ k_))) (by (with_reducible repeat (first | apply Kd.V_alloc | apply Kd.V_drewN | apply Kd.V_drew)); exact HO_0.out) hg hat); have n1_ := Aside0.mk (hb); have n2_ := Aside0.mk (ho); clear HO_0; clear HB; clear HO_3; have HO_0 := n0_; have HB := n1_; have HO233 := n2_; clear n0_ n1_ n2_; clear ho hb hg hat)))
                   go_roundg kj35
                   case measure => have := HK1.out; have := HJ12.out; have := HJ35.out; omega
                   case rel => exact ⟨(y201), (y231), H', ⟨by have := HK1.out; have := HJ12.out; have := HJ35.out; omega⟩, ⟨by (with_reducible repeat (first | apply Kd.V_alloc | apply Kd.V_drewN | apply Kd.V_drew)); exact HO_0.out⟩, ⟨by (with_reducible repeat (first | apply Kd.S_alloc | apply Kd.S_drewN | apply Kd.S_drew)); exact HO233.out⟩, ⟨by repeat (first | (with_reducible first | exact HB.out | apply below_alloc | apply pw_below_drewN | apply below_drew1) | exact HB.out)⟩⟩
                  ·
                   rw [if_neg c39] at H
                   exact absurd H (by simp)
                 ·
                  replace c38 := Bool.eq_false_iff.mpr c38
                  subst c38
                  have H1 : (if (wrap64 (rd x0_1 0)) = 7 then (if x3_1.length < 2513169434916 then (darningref4_DecodeOps.l0 kj35 y201 (x3_1 ++ [(⟨(wrap64 (rd x0_1 0)), 0, (wrap64 ((wrap64 (rd x0_1 1)) + (wrap64 (256 * (wrap64 (rd x0_1 2)))))), (wrap64 (rd x0_1 3)), ([] : List Int)⟩ : S26)])) else (none)) else (darningref4_DecodeOps.l0 kj35 y201 x3_1)) = some r := by rw [if_neg (show ¬ (false = true) by decide)] at H; exact H
                  clear H
                  have H := H1
                  clear H1
                  by_cases c41 : (wrap64 (rd x0_1 0)) = 7
                  ·
                   rw [if_pos c41] at H
                   have c41b0 : ((wrap64 (rd x0_1 0)) == 7) = true := beq_iff_eq.mpr c41
                   have c41b1 : ((wrap64 (rd x0_1 0)) != 7) = false := bne_eq_false_iff_eq.mpr c41
                   clear c41
                   by_cases c42 : x3_1.length < 2513169434916
                   ·
                    rw [if_pos c42] at H
                    have LMc42 := Aside0.mk c42
                    clear c42
                    obtain ⟨y234, hy234⟩ : ∃ y_ : List (S26), y_ = (x3_1 ++ [(⟨(wrap64 (rd x0_1 0)), 0, (wrap64 ((wrap64 (rd x0_1 1)) + (wrap64 (256 * (wrap64 (rd x0_1 2)))))), (wrap64 (rd x0_1 3)), ([] : List Int)⟩ : S26)]) := ⟨_, rfl⟩
                    replace H : (darningref4_DecodeOps.l0 kj35 y201 y234) = some r := by first | (rw [hy234]; with_reducible exact H) | (have H2_ := (Option.bind_some _ _).symm.trans H; rw [hy234]; with_reducible exact H2_) | (have H2_ := (Option.bind_some _ _).symm.trans H; with_reducible exact H2_) | with_reducible exact H | (rw [hy234]; exact H) | exact H
                    have Ny234 := Aside0.mk hy234
                    clear hy234
                    have H' := Aside0.mk H
                    clear H
                    go_wp2_with (first | ((with_reducible refine gate_builtin (b := .append) (xs := #[.tmp 87, .tmp 92]) rfl ?_); at_builtin; refine Kd.S_append k26 (w0 := w) w.heap.size rfl (.tmp 87) (.tmp 92) 23 26 (.agg #[(.int .i64 0), (.int .i64 0), (.int .i64 0), (.int .i64 0), (.slice none 0 0)]) 56 rfl Try.underlying23 info26 rfl (by decide) (by omega) u3 x3_1 (⟨(wrap64 (rd x0_1 0)), 0, (wrap64 ((wrap64 (rd x0_1 1)) + (wrap64 (256 * (wrap64 (rd x0_1 2)))))), (wrap64 (rd x0_1 3)), ([] : List Int)⟩ : S26) [.int .i64 (wrap64 (rd x0_1 0)), .int .i64 0, .int .i64 (wrap64 ((wrap64 (rd x0_1 1)) + (wrap64 (256 * (wrap64 (rd x0_1 2)))))), .int .i64 (wrap64 (rd x0_1 3)), .slice none 0 0] (fun k_ => (w.heap.size ≤ k_)) (fun _ => False) rfl rfl ?aP (fun k_ hk_ => hk_.elim) ?aF ?aO ?aB ?aS ?aL ?_; (case aP => exact k26_mkM _ _ _ (⟨(wrap64 (rd x0_1 0)), 0, (wrap64 ((wrap64 (rd x0_1 1)) + (wrap64 (256 * (wrap64 (rd x0_1 2)))))), (wrap64 (rd x0_1 3)), ([] : List Int)⟩ : S26) (Kd.R_nil _ _ _ _ _)); (case aB => exact (by repeat (first | (with_reducible first | exact HB.out | apply below_alloc | apply pw_below_drewN | apply below_drew1) | exact HB.out))); (case aF => exact (fun k_ hk => (Nat.le_trans (below_size (by repeat (first | (with_reducible first | exact HB.out | apply below_alloc | apply pw_below_drewN | apply below_drew1) | exact HB.out))) hk))); (case aO => exact (by (with_reducible repeat (first | apply Kd.S_alloc | apply Kd.S_drewN | apply Kd.S_drew)); exact Kd.S_mono HO_3.out (fun k_ hk => ⟨hk, fun e_ => e_⟩))); (case aS => exact (below_size (by repeat (first | (with_reducible first | exact HB.out | apply below_alloc | apply pw_below_drewN | apply below_drew1) | exact HB.out)))); (case aL => have := LMc42.out; omega); intro v235 w43 ho hb hg hat; rw [← Ny234.out] at ho; have n0_ := Aside0.mk (Kd.V_afterv (ok := (fun k_ => (P0_ k_ ∨ w.heap.size ≤ k_))) (by (with_reducible repeat (first | apply Kd.V_alloc | apply Kd.V_drewN | apply Kd.V_drew)); exact HO_0.out) hg hat); have n1_ := Aside0.mk (hb); have n2_ := Aside0.mk (ho); clear HO_0; clear HB; clear HO_3; have HO_0 := n0_; have HB := n1_; have HO236 := n2_; clear n0_ n1_ n2_; clear ho hb hg hat))
                    repeat (go_quiet (first | ((with_reducible refine gate_builtin (b := .append) (xs := #[.tmp 87, .tmp 92]) rfl ?_); at_builtin; refine Kd.S_append k26 (w0 := w) w.heap.size rfl (.tmp 87) (.tmp 92) 23 26 (.agg #[(.int .i64 0), (.int .i64 0), (.int .i64 0), (.int .i64 0), (.slice none 0 0)]) 56 rfl Try.underlying23 info26 rfl (by decide) (by omega) u3 x3_1 (⟨(wrap64 (rd x0_1 0)), 0, (wrap64 ((wrap64 (rd x0_1 1)) + (wrap64 (256 * (wrap64 (rd x0_1 2)))))), (wrap64 (rd x0_1 3)), ([] : List Int)⟩ : S26) [.int .i64 (wrap64 (rd x0_1 0)), .int .i64 0, .int .i64 (wrap64 ((wrap64 (rd x0_1 1)) + (wrap64 (256 * (wrap64 (rd x0_1 2)))))), .int .i64 (wrap64 (rd x0_1 3)), .slice none 0 0] (fun k_ => (w.heap.size ≤ k_)) (fun _ => False) rfl rfl ?aP (fun k_ hk_ => hk_.elim) ?aF ?aO ?aB ?aS ?aL ?_; (case aP => exact k26_mkM _ _ _ (⟨(wrap64 (rd x0_1 0)), 0, (wrap64 ((wrap64 (rd x0_1 1)) + (wrap64 (256 * (wrap64 (rd x0_1 2)))))), (wrap64 (rd x0_1 3)), ([] : List Int)⟩ : S26) (Kd.R_nil _ _ _ _ _)); (case aB => exact (by repeat (first | (with_reducible first | exact HB.out | apply below_alloc | apply pw_below_drewN | apply below_drew1) | exact HB.out))); (case aF => exact (fun k_ hk => (Nat.le_trans (below_size (by repeat (first | (with_reducible first | exact HB.out | apply below_alloc | apply pw_below_drewN | apply below_drew1) | exact HB.out))) hk))); (case aO => exact (by (with_reducible repeat (first | apply Kd.S_alloc | apply Kd.S_drewN | apply Kd.S_drew)); exact Kd.S_mono HO_3.out (fun k_ hk => ⟨hk, fun e_ => e_⟩))); (case aS => exact (below_size (by repeat (first | (with_reducible first | exact HB.out | apply below_alloc | apply pw_below_drewN | apply below_drew1) | exact HB.out)))); (case aL => have := LMc42.out; omega); intro v235 w43 ho hb hg hat; rw [← Ny234.out] at ho; have n0_ := Aside0.mk (Kd.V_afterv (ok := (fun k_ => (P0_ k_ ∨ w.heap.size ≤ k_))) (by (with_reducible repeat (first | apply Kd.V_alloc | apply Kd.V_drewN | apply Kd.V_drew)); exact HO_0.out) hg hat); have n1_ := Aside0.mk (hb); have n2_ := Aside0.mk (ho); clear HO_0; clear HB; clear HO_3; have HO_0 := n0_; have HB := n1_; have HO236 := n2_; clear n0_ n1_ n2_; clear ho hb hg hat)); try go_wp2_with (first | ((with_reducible refine gate_builtin (b := .append) (xs := #[.tmp 87, .tmp 92]) rfl ?_); at_builtin; refine Kd.S_append k26 (w0 := w) w.heap.size rfl (.tmp 87) (.tmp 92) 23 26 (.agg #[(.int .i64 0), (.int .i64 0), (.int .i64 0), (.int .i64 0), (.slice none 0 0)]) 56 rfl Try.underlying23 info26 rfl (by decide) (by omega) u3 x3_1 (⟨(wrap64 (rd x0_1 0)), 0, (wrap64 ((wrap64 (rd x0_1 1)) + (wrap64 (256 * (wrap64 (rd x0_1 2)))))), (wrap64 (rd x0_1 3)), ([] : List Int)⟩ : S26) [.int .i64 (wrap64 (rd x0_1 0)), .int .i64 0, .int .i64 (wrap64 ((wrap64 (rd x0_1 1)) + (wrap64 (256 * (wrap64 (rd x0_1 2)))))), .int .i64 (wrap64 (rd x0_1 3)), .slice none 0 0] (fun k_ => (w.heap.size ≤ k_)) (fun _ => False) rfl rfl ?aP (fun k_ hk_ => hk_.elim) ?aF ?aO ?aB ?aS ?aL ?_; (case aP => exact k26_mkM _ _ _ (⟨(wrap64 (rd x0_1 0)), 0, (wrap64 ((wrap64 (rd x0_1 1)) + (wrap64 (256 * (wrap64 (rd x0_1 2)))))), (wrap64 (rd x0_1 3)), ([] : List Int)⟩ : S26) (Kd.R_nil _ _ _ _ _)); (case aB => exact (by repeat (first | (with_reducible first | exact HB.out | apply below_alloc | apply pw_below_drewN | apply below_drew1) | exact HB.out))); (case aF => exact (fun k_ hk => (Nat.le_trans (below_size (by repeat (first | (with_reducible first | exact HB.out | apply below_alloc | apply pw_below_drewN | apply below_drew1) | exact HB.out))) hk))); (case aO => exact (by (with_reducible repeat (first | apply Kd.S_alloc | apply Kd.S_drewN | apply Kd.S_drew)); exact Kd.S_mono HO_3.out (fun k_ hk => ⟨hk, fun e_ => e_⟩))); (case aS => exact (below_size (by repeat (first | (with_reducible first | exact HB.out | apply below_alloc | apply pw_below_drewN | apply below_drew1) | exact HB.out)))); (case aL => have := LMc42.out; omega); intro v235 w43 ho hb hg hat; rw [← Ny234.out] at ho; have n0_ := Aside0.mk (Kd.V_afterv (ok := (fun k_ => (P0_ k_ ∨ w.heap.size ≤ k_))) (by (with_reducible repeat (first | apply Kd.V_alloc | apply Kd.V_drewN | apply Kd.V_drew)); exact HO_0.out) hg hat); have n1_ := Aside0.mk (hb); have n2_ := Aside0.mk (ho); clear HO_0; clear HB; clear HO_3; have HO_0 := n0_; have HB := n1_; have HO236 := n2_; clear n0_ n1_ n2_; clear ho hb hg hat)))
                    go_roundg kj35
                    case measure => have := HK1.out; have := HJ12.out; have := HJ35.out; omega
                    case rel => exact ⟨(y201), (y234), H', ⟨by have := HK1.out; have := HJ12.out; have := HJ35.out; omega⟩, ⟨by (with_reducible repeat (first | apply Kd.V_alloc | apply Kd.V_drewN | apply Kd.V_drew)); exact HO_0.out⟩, ⟨by (with_reducible repeat (first | apply Kd.S_alloc | apply Kd.S_drewN | apply Kd.S_drew)); exact HO236.out⟩, ⟨by repeat (first | (with_reducible first | exact HB.out | apply below_alloc | apply pw_below_drewN | apply below_drew1) | exact HB.out)⟩⟩
                   ·
                    rw [if_neg c42] at H
                    exact absurd H (by simp)
                  ·
                   rw [if_neg c41] at H
                   have c41b0 : ((wrap64 (rd x0_1 0)) == 7) = false := beq_eq_false_iff_ne.mpr c41
                   have c41b1 : ((wrap64 (rd x0_1 0)) != 7) = true := bne_iff_ne.mpr c41
                   have H' := Aside0.mk H
                   clear H
                   go_wp2
                   repeat (go_quiet (fail); try go_wp2)
                   go_roundg kj35
                   case measure => have := HK1.out; have := HJ12.out; have := HJ35.out; omega
                   case rel => exact ⟨(y201), (x3_1), H', ⟨by have := HK1.out; have := HJ12.out; have := HJ35.out; omega⟩, ⟨by (with_reducible repeat (first | apply Kd.V_alloc | apply Kd.V_drewN | apply Kd.V_drew)); exact HO_0.out⟩, ⟨by (with_reducible repeat (first | apply Kd.S_alloc | apply Kd.S_drewN | apply Kd.S_drew)); exact HO_3.out⟩, ⟨by repeat (first | (with_reducible first | exact HB.out | apply below_alloc | apply pw_below_drewN | apply below_drew1) | exact HB.out)⟩⟩
        ·
         rw [if_neg c7] at H
         exact absurd H (by simp)
       ·
        rw [if_neg c6] at H
        exact absurd H (by simp)
      ·
       rw [if_neg c5] at H
       exact absurd H (by simp)
     ·
      rw [if_neg c4] at H
      exact absurd H (by simp)
    ·
     rw [if_neg c3] at H
     exact absurd H (by simp)
   ·
    rw [if_neg c2] at H
    have c2b0 : decide (4 ≤ (x0_1.length : Int)) = false := decide_eq_false c2
    have c2b1 : decide (4 ≤ x0_1.length) = false := decide_eq_false (by omega)
    clear c2
    obtain rfl := Option.some.inj H
    obtain ⟨Ao44, co44, eo44⟩ := Kd.V_slice HO_0.out
    subst eo44
    go_wp2
    repeat (go_quiet (fail); try go_wp2)
    go_ret
    exact ⟨_, by first | rfl | (simp [errW_none, errW_some] <;> rfl) | (simp [*, errW_none, errW_some] <;> rfl), by (with_reducible repeat (first | apply Kd.S_alloc | apply Kd.S_drewN | apply Kd.S_drew)); exact HO_3.out, by repeat (first | (with_reducible first | exact HB.out | apply below_alloc | apply pw_below_drewN | apply below_drew1) | exact HB.out)⟩

/-! ### darningref4_SameOp: function 21 -/
def darningref4_SameOp.f (a0_0 : Int) (a0_1 : Int) (a0_2 : Int) (a0_3 : Int) (l0_4 : List Int) (a1_0 : Int) (a1_1 : Int) (a1_2 : Int) (a1_3 : Int) (l1_4 : List Int) : Option (Bool) := if a0_0 = a1_0 then (if a0_1 = a1_1 then (if a0_2 = a1_2 then (if a0_3 = a1_3 then (some ((strOfNums l0_4).toList == (strOfNums l1_4).toList)) else (some false)) else (some false)) else (some false)) else (some false)
set_option maxHeartbeats 8000000 in
set_option maxRecDepth 100000 in
theorem darningref4_SameOp.calls (a0_0 : Int) (a0_1 : Int) (a0_2 : Int) (a0_3 : Int) (A0_4 : Option Addr) (c0_4 : Nat) (l0_4 : List Int) (a1_0 : Int) (a1_1 : Int) (a1_2 : Int) (a1_3 : Int) (A1_4 : Option Addr) (c1_4 : Nat) (l1_4 : List Int) (r : Bool) (w : World) (hr0_4 : Kd.C (Kd.int .u8) w A0_4 l0_4.length l0_4) (hc0_4 : l0_4.length ≤ c0_4) (hr1_4 : Kd.C (Kd.int .u8) w A1_4 l1_4.length l1_4) (hc1_4 : l1_4.length ≤ c1_4) (h : darningref4_SameOp.f a0_0 a0_1 a0_2 a0_3 l0_4 a1_0 a1_1 a1_2 a1_3 l1_4 = some r) :
  Calls Try.prog 21 #[.agg #[.int .i64 a0_0, .int .i64 a0_1, .int .i64 a0_2, .int .i64 a0_3, .slice A0_4 l0_4.length c0_4], .agg #[.int .i64 a1_0, .int .i64 a1_1, .int .i64 a1_2, .int .i64 a1_3, .slice A1_4 l1_4.length c1_4]] w fun e w' => e = .returned (.bool r) ∧ Below w.heap.size w w' := by
 have hu26 := Try.underlying26
 have HR0_4 := Aside0.mk hr0_4
 have HC0_4 := Aside0.mk hc0_4
 clear hr0_4 hc0_4
 have HR1_4 := Aside0.mk hr1_4
 have HC1_4 := Aside0.mk hc1_4
 clear hr1_4 hc1_4
 have HB := Aside0.mk (Below.refl w.heap.size w)
 have H : (if a0_0 = a1_0 then (if a0_1 = a1_1 then (if a0_2 = a1_2 then (if a0_3 = a1_3 then (some ((strOfNums l0_4).toList == (strOfNums l1_4).toList)) else (some false)) else (some false)) else (some false)) else (some false)) = some r := h
 clear h
 by_cases c3 : a0_0 = a1_0
 ·
  rw [if_pos c3] at H
  have c3b0 : (a0_0 == a1_0) = true := beq_iff_eq.mpr c3
  have c3b1 : (a0_0 != a1_0) = false := bne_eq_false_iff_eq.mpr c3
  clear c3
  by_cases c4 : a0_1 = a1_1
  ·
   rw [if_pos c4] at H
   have c4b0 : (a0_1 == a1_1) = true := beq_iff_eq.mpr c4
   have c4b1 : (a0_1 != a1_1) = false := bne_eq_false_iff_eq.mpr c4
   clear c4
   by_cases c5 : a0_2 = a1_2
   ·
    rw [if_pos c5] at H
    have c5b0 : (a0_2 == a1_2) = true := beq_iff_eq.mpr c5
    have c5b1 : (a0_2 != a1_2) = false := bne_eq_false_iff_eq.mpr c5
    clear c5
    by_cases c6 : a0_3 = a1_3
    ·
     rw [if_pos c6] at H
     have c6b0 : (a0_3 == a1_3) = true := beq_iff_eq.mpr c6
     have c6b1 : (a0_3 != a1_3) = false := bne_eq_false_iff_eq.mpr c6
     clear c6
     obtain rfl := Option.some.inj H
     go_enter Try.func21, Try.ntmps21
     go_wp2_with (first | ((with_reducible refine gate_dst (N := 2) rfl ?_); refine box_event ?hg (N := 2) ?hd (cs := #[.int .i64 a0_0, .int .i64 a0_1, .int .i64 a0_2, .int .i64 a0_3, .slice A0_4 l0_4.length c0_4]) (t := 26) ?hr ?_; (case hd => rfl); (case hg => rfl); (case hr => first | (go_simp; done) | (go_simp; rfl)); intro gb237 hg w7 hbox hb; have n0_ := Aside0.mk (below_step (by repeat (first | (with_reducible first | exact HB.out | apply below_alloc | apply pw_below_drewN | apply below_drew1) | exact HB.out)) hb); have n1_ := Aside0.mk (hbox); have n2_ := Aside0.mk ((by rw [hg]; exact (below_size (by repeat (first | (with_reducible first | exact HB.out | apply below_alloc | apply pw_below_drewN | apply below_drew1) | exact HB.out))) : w.heap.size ≤ gb237)); have n3_ := Aside0.mk ((by rw [hg]; exact (below_size (by repeat (first | (with_reducible first | exact HB.out | apply below_alloc | apply pw_below_drewN | apply below_drew1) | exact HB.out))) : w.heap.size ≤ gb237)); clear HB; have HB := n0_; have BK237 := n1_; have GW237 := n2_; have GE237 := n3_; clear n0_ n1_ n2_ n3_; clear hb hbox hg) | ((with_reducible refine gate_dst (N := 3) rfl ?_); refine box_event ?hg (N := 3) ?hd (cs := #[.int .i64 a1_0, .int .i64 a1_1, .int .i64 a1_2, .int .i64 a1_3, .slice A1_4 l1_4.length c1_4]) (t := 26) ?hr ?_; (case hd => rfl); (case hg => rfl); (case hr => first | (go_simp; done) | (go_simp; rfl)); intro gb238 hg w8 hbox hb; have n0_ := Aside0.mk (blk_below (g := gb237) (o := .cells #[.int .i64 a0_0, .int .i64 a0_1, .int .i64 a0_2, .int .i64 a0_3, .slice A0_4 l0_4.length c0_4] 26 (0, 0)) (by (with_reducible repeat (first | refine blk_drewN ?_ _ | refine blk_drew ?_ | refine blk_alloc ?_ _)); exact BK237.out) hb); have n1_ := Aside0.mk (below_step (by repeat (first | (with_reducible first | exact HB.out | apply below_alloc | apply pw_below_drewN | apply below_drew1 | refine below_set ?_ GE237.out) | exact HB.out)) hb); have n2_ := Aside0.mk (hbox); have n3_ := Aside0.mk ((by rw [hg]; exact (below_size (by repeat (first | (with_reducible first | exact HB.out | apply below_alloc | apply pw_below_drewN | apply below_drew1 | refine below_set ?_ GE237.out) | exact HB.out))) : w.heap.size ≤ gb238)); have n4_ := Aside0.mk ((by rw [hg]; exact (below_size (by repeat (first | (with_reducible first | exact HB.out | apply below_alloc | apply pw_below_drewN | apply below_drew1 | refine below_set ?_ GE237.out) | exact HB.out))) : w.heap.size ≤ gb238)); have n5_ := Aside0.mk ((by rw [hg]; exact Nat.ne_of_lt (blk_lt (g := gb237) (o := .cells #[.int .i64 a0_0, .int .i64 a0_1, .int .i64 a0_2, .int .i64 a0_3, .slice A0_4 l0_4.length c0_4] 26 (0, 0)) (by (with_reducible repeat (first | refine blk_drewN ?_ _ | refine blk_drew ?_ | refine blk_alloc ?_ _)); exact BK237.out)) : gb237 ≠ gb238)); have n6_ := Aside0.mk ((by rw [hg]; exact Nat.ne_of_gt (blk_lt (g := gb237) (o := .cells #[.int .i64 a0_0, .int .i64 a0_1, .int .i64 a0_2, .int .i64 a0_3, .slice A0_4 l0_4.length c0_4] 26 (0, 0)) (by (with_reducible repeat (first | refine blk_drewN ?_ _ | refine blk_drew ?_ | refine blk_alloc ?_ _)); exact BK237.out)) : gb238 ≠ gb237)); clear BK237; clear HB; have BK237 := n0_; have HB := n1_; have BK238 := n2_; have GW238 := n3_; have GE238 := n4_; have NB237_238 := n5_; have NB238_237 := n6_; clear n0_ n1_ n2_ n3_ n4_ n5_ n6_; clear hb hbox hg; have hnb9 := NB237_238.out; have hnc9 := NB238_237.out; have hcz10_0 : w8.cell? ⟨gb237, 0, none⟩ = some (.int .i64 a0_0) := (blk_cell BK237.out 0).trans rfl; have hcz10_1 : w8.cell? ⟨gb237, 1, none⟩ = some (.int .i64 a0_1) := (blk_cell BK237.out 1).trans rfl; have hcz10_2 : w8.cell? ⟨gb237, 2, none⟩ = some (.int .i64 a0_2) := (blk_cell BK237.out 2).trans rfl; have hcz10_3 : w8.cell? ⟨gb237, 3, none⟩ = some (.int .i64 a0_3) := (blk_cell BK237.out 3).trans rfl; have hcz10_4 : w8.cell? ⟨gb237, 4, none⟩ = some (.slice A0_4 l0_4.length c0_4) := (blk_cell BK237.out 4).trans rfl; have hfz10_0 := blk_frozen BK237.out 0; have hfz10_1 := blk_frozen BK237.out 1; have hfz10_2 := blk_frozen BK237.out 2; have hfz10_3 := blk_frozen BK237.out 3; have hfz10_4 := blk_frozen BK237.out 4; have hcz11_0 : w8.cell? ⟨gb238, 0, none⟩ = some (.int .i64 a1_0) := (blk_cell BK238.out 0).trans rfl; have hcz11_1 : w8.cell? ⟨gb238, 1, none⟩ = some (.int .i64 a1_1) := (blk_cell BK238.out 1).trans rfl; have hcz11_2 : w8.cell? ⟨gb238, 2, none⟩ = some (.int .i64 a1_2) := (blk_cell BK238.out 2).trans rfl; have hcz11_3 : w8.cell? ⟨gb238, 3, none⟩ = some (.int .i64 a1_3) := (blk_cell BK238.out 3).trans rfl; have hcz11_4 : w8.cell? ⟨gb238, 4, none⟩ = some (.slice A1_4 l1_4.length c1_4) := (blk_cell BK238.out 4).trans rfl; have hfz11_0 := blk_frozen BK238.out 0; have hfz11_1 := blk_frozen BK238.out 1; have hfz11_2 := blk_frozen BK238.out 2; have hfz11_3 := blk_frozen BK238.out 3; have hfz11_4 := blk_frozen BK238.out 4; have hcv12 := Kd.C_string (P := Try.prog) (A := A0_4) (c := c0_4) Try.underlying22 Try.underlying5 Try.underlying9 (Kd.C_below HR0_4.out HB.out); have hcv13 := Kd.C_string (P := Try.prog) (A := A1_4) (c := c1_4) Try.underlying22 Try.underlying5 Try.underlying9 (Kd.C_below HR1_4.out HB.out)))
     go_ret
     exact ⟨by first | rfl | (simp [errW_none, errW_some] <;> rfl) | (simp [*, errW_none, errW_some] <;> rfl), by repeat (first | (with_reducible first | exact HB.out | apply below_alloc | apply pw_below_drewN | apply below_drew1 | refine below_set ?_ GE237.out | refine below_set ?_ GE238.out) | exact HB.out)⟩
    ·
     rw [if_neg c6] at H
     have c6b0 : (a0_3 == a1_3) = false := beq_eq_false_iff_ne.mpr c6
     have c6b1 : (a0_3 != a1_3) = true := bne_iff_ne.mpr c6
     obtain rfl := Option.some.inj H
     go_enter Try.func21, Try.ntmps21
     go_wp2_with (first | ((with_reducible refine gate_dst (N := 2) rfl ?_); refine box_event ?hg (N := 2) ?hd (cs := #[.int .i64 a0_0, .int .i64 a0_1, .int .i64 a0_2, .int .i64 a0_3, .slice A0_4 l0_4.length c0_4]) (t := 26) ?hr ?_; (case hd => rfl); (case hg => rfl); (case hr => first | (go_simp; done) | (go_simp; rfl)); intro gb237 hg w14 hbox hb; have n0_ := Aside0.mk (below_step (by repeat (first | (with_reducible first | exact HB.out | apply below_alloc | apply pw_below_drewN | apply below_drew1) | exact HB.out)) hb); have n1_ := Aside0.mk (hbox); have n2_ := Aside0.mk ((by rw [hg]; exact (below_size (by repeat (first | (with_reducible first | exact HB.out | apply below_alloc | apply pw_below_drewN | apply below_drew1) | exact HB.out))) : w.heap.size ≤ gb237)); have n3_ := Aside0.mk ((by rw [hg]; exact (below_size (by repeat (first | (with_reducible first | exact HB.out | apply below_alloc | apply pw_below_drewN | apply below_drew1) | exact HB.out))) : w.heap.size ≤ gb237)); clear HB; have HB := n0_; have BK237 := n1_; have GW237 := n2_; have GE237 := n3_; clear n0_ n1_ n2_ n3_; clear hb hbox hg) | ((with_reducible refine gate_dst (N := 3) rfl ?_); refine box_event ?hg (N := 3) ?hd (cs := #[.int .i64 a1_0, .int .i64 a1_1, .int .i64 a1_2, .int .i64 a1_3, .slice A1_4 l1_4.length c1_4]) (t := 26) ?hr ?_; (case hd => rfl); (case hg => rfl); (case hr => first | (go_simp; done) | (go_simp; rfl)); intro gb238 hg w15 hbox hb; have n0_ := Aside0.mk (blk_below (g := gb237) (o := .cells #[.int .i64 a0_0, .int .i64 a0_1, .int .i64 a0_2, .int .i64 a0_3, .slice A0_4 l0_4.length c0_4] 26 (0, 0)) (by (with_reducible repeat (first | refine blk_drewN ?_ _ | refine blk_drew ?_ | refine blk_alloc ?_ _)); exact BK237.out) hb); have n1_ := Aside0.mk (below_step (by repeat (first | (with_reducible first | exact HB.out | apply below_alloc | apply pw_below_drewN | apply below_drew1 | refine below_set ?_ GE237.out) | exact HB.out)) hb); have n2_ := Aside0.mk (hbox); have n3_ := Aside0.mk ((by rw [hg]; exact (below_size (by repeat (first | (with_reducible first | exact HB.out | apply below_alloc | apply pw_below_drewN | apply below_drew1 | refine below_set ?_ GE237.out) | exact HB.out))) : w.heap.size ≤ gb238)); have n4_ := Aside0.mk ((by rw [hg]; exact (below_size (by repeat (first | (with_reducible first | exact HB.out | apply below_alloc | apply pw_below_drewN | apply below_drew1 | refine below_set ?_ GE237.out) | exact HB.out))) : w.heap.size ≤ gb238)); have n5_ := Aside0.mk ((by rw [hg]; exact Nat.ne_of_lt (blk_lt (g := gb237) (o := .cells #[.int .i64 a0_0, .int .i64 a0_1, .int .i64 a0_2, .int .i64 a0_3, .slice A0_4 l0_4.length c0_4] 26 (0, 0)) (by (with_reducible repeat (first | refine blk_drewN ?_ _ | refine blk_drew ?_ | refine blk_alloc ?_ _)); exact BK237.out)) : gb237 ≠ gb238)); have n6_ := Aside0.mk ((by rw [hg]; exact Nat.ne_of_gt (blk_lt (g := gb237) (o := .cells #[.int .i64 a0_0, .int .i64 a0_1, .int .i64 a0_2, .int .i64 a0_3, .slice A0_4 l0_4.length c0_4] 26 (0, 0)) (by (with_reducible repeat (first | refine blk_drewN ?_ _ | refine blk_drew ?_ | refine blk_alloc ?_ _)); exact BK237.out)) : gb238 ≠ gb237)); clear BK237; clear HB; have BK237 := n0_; have HB := n1_; have BK238 := n2_; have GW238 := n3_; have GE238 := n4_; have NB237_238 := n5_; have NB238_237 := n6_; clear n0_ n1_ n2_ n3_ n4_ n5_ n6_; clear hb hbox hg; have hnb16 := NB237_238.out; have hnc16 := NB238_237.out; have hcz17_0 : w15.cell? ⟨gb237, 0, none⟩ = some (.int .i64 a0_0) := (blk_cell BK237.out 0).trans rfl; have hcz17_1 : w15.cell? ⟨gb237, 1, none⟩ = some (.int .i64 a0_1) := (blk_cell BK237.out 1).trans rfl; have hcz17_2 : w15.cell? ⟨gb237, 2, none⟩ = some (.int .i64 a0_2) := (blk_cell BK237.out 2).trans rfl; have hcz17_3 : w15.cell? ⟨gb237, 3, none⟩ = some (.int .i64 a0_3) := (blk_cell BK237.out 3).trans rfl; have hcz17_4 : w15.cell? ⟨gb237, 4, none⟩ = some (.slice A0_4 l0_4.length c0_4) := (blk_cell BK237.out 4).trans rfl; have hfz17_0 := blk_frozen BK237.out 0; have hfz17_1 := blk_frozen BK237.out 1; have hfz17_2 := blk_frozen BK237.out 2; have hfz17_3 := blk_frozen BK237.out 3; have hfz17_4 := blk_frozen BK237.out 4; have hcz18_0 : w15.cell? ⟨gb238, 0, none⟩ = some (.int .i64 a1_0) := (blk_cell BK238.out 0).trans rfl; have hcz18_1 : w15.cell? ⟨gb238, 1, none⟩ = some (.int .i64 a1_1) := (blk_cell BK238.out 1).trans rfl; have hcz18_2 : w15.cell? ⟨gb238, 2, none⟩ = some (.int .i64 a1_2) := (blk_cell BK238.out 2).trans rfl; have hcz18_3 : w15.cell? ⟨gb238, 3, none⟩ = some (.int .i64 a1_3) := (blk_cell BK238.out 3).trans rfl; have hcz18_4 : w15.cell? ⟨gb238, 4, none⟩ = some (.slice A1_4 l1_4.length c1_4) := (blk_cell BK238.out 4).trans rfl; have hfz18_0 := blk_frozen BK238.out 0; have hfz18_1 := blk_frozen BK238.out 1; have hfz18_2 := blk_frozen BK238.out 2; have hfz18_3 := blk_frozen BK238.out 3; have hfz18_4 := blk_frozen BK238.out 4))
     go_ret
     exact ⟨by first | rfl | (simp [errW_none, errW_some] <;> rfl) | (simp [*, errW_none, errW_some] <;> rfl), by repeat (first | (with_reducible first | exact HB.out | apply below_alloc | apply pw_below_drewN | apply below_drew1 | refine below_set ?_ GE237.out | refine below_set ?_ GE238.out) | exact HB.out)⟩
   ·
    rw [if_neg c5] at H
    have c5b0 : (a0_2 == a1_2) = false := beq_eq_false_iff_ne.mpr c5
    have c5b1 : (a0_2 != a1_2) = true := bne_iff_ne.mpr c5
    obtain rfl := Option.some.inj H
    go_enter Try.func21, Try.ntmps21
    go_wp2_with (first | ((with_reducible refine gate_dst (N := 2) rfl ?_); refine box_event ?hg (N := 2) ?hd (cs := #[.int .i64 a0_0, .int .i64 a0_1, .int .i64 a0_2, .int .i64 a0_3, .slice A0_4 l0_4.length c0_4]) (t := 26) ?hr ?_; (case hd => rfl); (case hg => rfl); (case hr => first | (go_simp; done) | (go_simp; rfl)); intro gb237 hg w19 hbox hb; have n0_ := Aside0.mk (below_step (by repeat (first | (with_reducible first | exact HB.out | apply below_alloc | apply pw_below_drewN | apply below_drew1) | exact HB.out)) hb); have n1_ := Aside0.mk (hbox); have n2_ := Aside0.mk ((by rw [hg]; exact (below_size (by repeat (first | (with_reducible first | exact HB.out | apply below_alloc | apply pw_below_drewN | apply below_drew1) | exact HB.out))) : w.heap.size ≤ gb237)); have n3_ := Aside0.mk ((by rw [hg]; exact (below_size (by repeat (first | (with_reducible first | exact HB.out | apply below_alloc | apply pw_below_drewN | apply below_drew1) | exact HB.out))) : w.heap.size ≤ gb237)); clear HB; have HB := n0_; have BK237 := n1_; have GW237 := n2_; have GE237 := n3_; clear n0_ n1_ n2_ n3_; clear hb hbox hg) | ((with_reducible refine gate_dst (N := 3) rfl ?_); refine box_event ?hg (N := 3) ?hd (cs := #[.int .i64 a1_0, .int .i64 a1_1, .int .i64 a1_2, .int .i64 a1_3, .slice A1_4 l1_4.length c1_4]) (t := 26) ?hr ?_; (case hd => rfl); (case hg => rfl); (case hr => first | (go_simp; done) | (go_simp; rfl)); intro gb238 hg w20 hbox hb; have n0_ := Aside0.mk (blk_below (g := gb237) (o := .cells #[.int .i64 a0_0, .int .i64 a0_1, .int .i64 a0_2, .int .i64 a0_3, .slice A0_4 l0_4.length c0_4] 26 (0, 0)) (by (with_reducible repeat (first | refine blk_drewN ?_ _ | refine blk_drew ?_ | refine blk_alloc ?_ _)); exact BK237.out) hb); have n1_ := Aside0.mk (below_step (by repeat (first | (with_reducible first | exact HB.out | apply below_alloc | apply pw_below_drewN | apply below_drew1 | refine below_set ?_ GE237.out) | exact HB.out)) hb); have n2_ := Aside0.mk (hbox); have n3_ := Aside0.mk ((by rw [hg]; exact (below_size (by repeat (first | (with_reducible first | exact HB.out | apply below_alloc | apply pw_below_drewN | apply below_drew1 | refine below_set ?_ GE237.out) | exact HB.out))) : w.heap.size ≤ gb238)); have n4_ := Aside0.mk ((by rw [hg]; exact (below_size (by repeat (first | (with_reducible first | exact HB.out | apply below_alloc | apply pw_below_drewN | apply below_drew1 | refine below_set ?_ GE237.out) | exact HB.out))) : w.heap.size ≤ gb238)); have n5_ := Aside0.mk ((by rw [hg]; exact Nat.ne_of_lt (blk_lt (g := gb237) (o := .cells #[.int .i64 a0_0, .int .i64 a0_1, .int .i64 a0_2, .int .i64 a0_3, .slice A0_4 l0_4.length c0_4] 26 (0, 0)) (by (with_reducible repeat (first | refine blk_drewN ?_ _ | refine blk_drew ?_ | refine blk_alloc ?_ _)); exact BK237.out)) : gb237 ≠ gb238)); have n6_ := Aside0.mk ((by rw [hg]; exact Nat.ne_of_gt (blk_lt (g := gb237) (o := .cells #[.int .i64 a0_0, .int .i64 a0_1, .int .i64 a0_2, .int .i64 a0_3, .slice A0_4 l0_4.length c0_4] 26 (0, 0)) (by (with_reducible repeat (first | refine blk_drewN ?_ _ | refine blk_drew ?_ | refine blk_alloc ?_ _)); exact BK237.out)) : gb238 ≠ gb237)); clear BK237; clear HB; have BK237 := n0_; have HB := n1_; have BK238 := n2_; have GW238 := n3_; have GE238 := n4_; have NB237_238 := n5_; have NB238_237 := n6_; clear n0_ n1_ n2_ n3_ n4_ n5_ n6_; clear hb hbox hg; have hnb21 := NB237_238.out; have hnc21 := NB238_237.out; have hcz22_0 : w20.cell? ⟨gb237, 0, none⟩ = some (.int .i64 a0_0) := (blk_cell BK237.out 0).trans rfl; have hcz22_1 : w20.cell? ⟨gb237, 1, none⟩ = some (.int .i64 a0_1) := (blk_cell BK237.out 1).trans rfl; have hcz22_2 : w20.cell? ⟨gb237, 2, none⟩ = some (.int .i64 a0_2) := (blk_cell BK237.out 2).trans rfl; have hcz22_3 : w20.cell? ⟨gb237, 3, none⟩ = some (.int .i64 a0_3) := (blk_cell BK237.out 3).trans rfl; have hcz22_4 : w20.cell? ⟨gb237, 4, none⟩ = some (.slice A0_4 l0_4.length c0_4) := (blk_cell BK237.out 4).trans rfl; have hfz22_0 := blk_frozen BK237.out 0; have hfz22_1 := blk_frozen BK237.out 1; have hfz22_2 := blk_frozen BK237.out 2; have hfz22_3 := blk_frozen BK237.out 3; have hfz22_4 := blk_frozen BK237.out 4; have hcz23_0 : w20.cell? ⟨gb238, 0, none⟩ = some (.int .i64 a1_0) := (blk_cell BK238.out 0).trans rfl; have hcz23_1 : w20.cell? ⟨gb238, 1, none⟩ = some (.int .i64 a1_1) := (blk_cell BK238.out 1).trans rfl; have hcz23_2 : w20.cell? ⟨gb238, 2, none⟩ = some (.int .i64 a1_2) := (blk_cell BK238.out 2).trans rfl; have hcz23_3 : w20.cell? ⟨gb238, 3, none⟩ = some (.int .i64 a1_3) := (blk_cell BK238.out 3).trans rfl; have hcz23_4 : w20.cell? ⟨gb238, 4, none⟩ = some (.slice A1_4 l1_4.length c1_4) := (blk_cell BK238.out 4).trans rfl; have hfz23_0 := blk_frozen BK238.out 0; have hfz23_1 := blk_frozen BK238.out 1; have hfz23_2 := blk_frozen BK238.out 2; have hfz23_3 := blk_frozen BK238.out 3; have hfz23_4 := blk_frozen BK238.out 4))
    go_ret
    exact ⟨by first | rfl | (simp [errW_none, errW_some] <;> rfl) | (simp [*, errW_none, errW_some] <;> rfl), by repeat (first | (with_reducible first | exact HB.out | apply below_alloc | apply pw_below_drewN | apply below_drew1 | refine below_set ?_ GE237.out | refine below_set ?_ GE238.out) | exact HB.out)⟩
  ·
   rw [if_neg c4] at H
   have c4b0 : (a0_1 == a1_1) = false := beq_eq_false_iff_ne.mpr c4
   have c4b1 : (a0_1 != a1_1) = true := bne_iff_ne.mpr c4
   obtain rfl := Option.some.inj H
   go_enter Try.func21, Try.ntmps21
   go_wp2_with (first | ((with_reducible refine gate_dst (N := 2) rfl ?_); refine box_event ?hg (N := 2) ?hd (cs := #[.int .i64 a0_0, .int .i64 a0_1, .int .i64 a0_2, .int .i64 a0_3, .slice A0_4 l0_4.length c0_4]) (t := 26) ?hr ?_; (case hd => rfl); (case hg => rfl); (case hr => first | (go_simp; done) | (go_simp; rfl)); intro gb237 hg w24 hbox hb; have n0_ := Aside0.mk (below_step (by repeat (first | (with_reducible first | exact HB.out | apply below_alloc | apply pw_below_drewN | apply below_drew1) | exact HB.out)) hb); have n1_ := Aside0.mk (hbox); have n2_ := Aside0.mk ((by rw [hg]; exact (below_size (by repeat (first | (with_reducible first | exact HB.out | apply below_alloc | apply pw_below_drewN | apply below_drew1) | exact HB.out))) : w.heap.size ≤ gb237)); have n3_ := Aside0.mk ((by rw [hg]; exact (below_size (by repeat (first | (with_reducible first | exact HB.out | apply below_alloc | apply pw_below_drewN | apply below_drew1) | exact HB.out))) : w.heap.size ≤ gb237)); clear HB; have HB := n0_; have BK237 := n1_; have GW237 := n2_; have GE237 := n3_; clear n0_ n1_ n2_ n3_; clear hb hbox hg) | ((with_reducible refine gate_dst (N := 3) rfl ?_); refine box_event ?hg (N := 3) ?hd (cs := #[.int .i64 a1_0, .int .i64 a1_1, .int .i64 a1_2, .int .i64 a1_3, .slice A1_4 l1_4.length c1_4]) (t := 26) ?hr ?_; (case hd => rfl); (case hg => rfl); (case hr => first | (go_simp; done) | (go_simp; rfl)); intro gb238 hg w25 hbox hb; have n0_ := Aside0.mk (blk_below (g := gb237) (o := .cells #[.int .i64 a0_0, .int .i64 a0_1, .int .i64 a0_2, .int .i64 a0_3, .slice A0_4 l0_4.length c0_4] 26 (0, 0)) (by (with_reducible repeat (first | refine blk_drewN ?_ _ | refine blk_drew ?_ | refine blk_alloc ?_ _)); exact BK237.out) hb); have n1_ := Aside0.mk (below_step (by repeat (first | (with_reducible first | exact HB.out | apply below_alloc | apply pw_below_drewN | apply below_drew1 | refine below_set ?_ GE237.out) | exact HB.out)) hb); have n2_ := Aside0.mk (hbox); have n3_ := Aside0.mk ((by rw [hg]; exact (below_size (by repeat (first | (with_reducible first | exact HB.out | apply below_alloc | apply pw_below_drewN | apply below_drew1 | refine below_set ?_ GE237.out) | exact HB.out))) : w.heap.size ≤ gb238)); have n4_ := Aside0.mk ((by rw [hg]; exact (below_size (by repeat (first | (with_reducible first | exact HB.out | apply below_alloc | apply pw_below_drewN | apply below_drew1 | refine below_set ?_ GE237.out) | exact HB.out))) : w.heap.size ≤ gb238)); have n5_ := Aside0.mk ((by rw [hg]; exact Nat.ne_of_lt (blk_lt (g := gb237) (o := .cells #[.int .i64 a0_0, .int .i64 a0_1, .int .i64 a0_2, .int .i64 a0_3, .slice A0_4 l0_4.length c0_4] 26 (0, 0)) (by (with_reducible repeat (first | refine blk_drewN ?_ _ | refine blk_drew ?_ | refine blk_alloc ?_ _)); exact BK237.out)) : gb237 ≠ gb238)); have n6_ := Aside0.mk ((by rw [hg]; exact Nat.ne_of_gt (blk_lt (g := gb237) (o := .cells #[.int .i64 a0_0, .int .i64 a0_1, .int .i64 a0_2, .int .i64 a0_3, .slice A0_4 l0_4.length c0_4] 26 (0, 0)) (by (with_reducible repeat (first | refine blk_drewN ?_ _ | refine blk_drew ?_ | refine blk_alloc ?_ _)); exact BK237.out)) : gb238 ≠ gb237)); clear BK237; clear HB; have BK237 := n0_; have HB := n1_; have BK238 := n2_; have GW238 := n3_; have GE238 := n4_; have NB237_238 := n5_; have NB238_237 := n6_; clear n0_ n1_ n2_ n3_ n4_ n5_ n6_; clear hb hbox hg; have hnb26 := NB237_238.out; have hnc26 := NB238_237.out; have hcz27_0 : w25.cell? ⟨gb237, 0, none⟩ = some (.int .i64 a0_0) := (blk_cell BK237.out 0).trans rfl; have hcz27_1 : w25.cell? ⟨gb237, 1, none⟩ = some (.int .i64 a0_1) := (blk_cell BK237.out 1).trans rfl; have hcz27_2 : w25.cell? ⟨gb237, 2, none⟩ = some (.int .i64 a0_2) := (blk_cell BK237.out 2).trans rfl; have hcz27_3 : w25.cell? ⟨gb237, 3, none⟩ = some (.int .i64 a0_3) := (blk_cell BK237.out 3).trans rfl; have hcz27_4 : w25.cell? ⟨gb237, 4, none⟩ = some (.slice A0_4 l0_4.length c0_4) := (blk_cell BK237.out 4).trans rfl; have hfz27_0 := blk_frozen BK237.out 0; have hfz27_1 := blk_frozen BK237.out 1; have hfz27_2 := blk_frozen BK237.out 2; have hfz27_3 := blk_frozen BK237.out 3; have hfz27_4 := blk_frozen BK237.out 4; have hcz28_0 : w25.cell? ⟨gb238, 0, none⟩ = some (.int .i64 a1_0) := (blk_cell BK238.out 0).trans rfl; have hcz28_1 : w25.cell? ⟨gb238, 1, none⟩ = some (.int .i64 a1_1) := (blk_cell BK238.out 1).trans rfl; have hcz28_2 : w25.cell? ⟨gb238, 2, none⟩ = some (.int .i64 a1_2) := (blk_cell BK238.out 2).trans rfl; have hcz28_3 : w25.cell? ⟨gb238, 3, none⟩ = some (.int .i64 a1_3) := (blk_cell BK238.out 3).trans rfl; have hcz28_4 : w25.cell? ⟨gb238, 4, none⟩ = some (.slice A1_4 l1_4.length c1_4) := (blk_cell BK238.out 4).trans rfl; have hfz28_0 := blk_frozen BK238.out 0; have hfz28_1 := blk_frozen BK238.out 1; have hfz28_2 := blk_frozen BK238.out 2; have hfz28_3 := blk_frozen BK238.out 3; have hfz28_4 := blk_frozen BK238.out 4))
   go_ret
   exact ⟨by first | rfl | (simp [errW_none, errW_some] <;> rfl) | (simp [*, errW_none, errW_some] <;> rfl), by repeat (first | (with_reducible first | exact HB.out | apply below_alloc | apply pw_below_drewN | apply below_drew1 | refine below_set ?_ GE237.out | refine below_set ?_ GE238.out) | exact HB.out)⟩
 ·
  rw [if_neg c3] at H
  have c3b0 : (a0_0 == a1_0) = false := beq_eq_false_iff_ne.mpr c3
  have c3b1 : (a0_0 != a1_0) = true := bne_iff_ne.mpr c3
  obtain rfl := Option.some.inj H
  go_enter Try.func21, Try.ntmps21
  go_wp2_with (first | ((with_reducible refine gate_dst (N := 2) rfl ?_); refine box_event ?hg (N := 2) ?hd (cs := #[.int .i64 a0_0, .int .i64 a0_1, .int .i64 a0_2, .int .i64 a0_3, .slice A0_4 l0_4.length c0_4]) (t := 26) ?hr ?_; (case hd => rfl); (case hg => rfl); (case hr => first | (go_simp; done) | (go_simp; rfl)); intro gb237 hg w29 hbox hb; have n0_ := Aside0.mk (below_step (by repeat (first | (with_reducible first | exact HB.out | apply below_alloc | apply pw_below_drewN | apply below_drew1) | exact HB.out)) hb); have n1_ := Aside0.mk (hbox); have n2_ := Aside0.mk ((by rw [hg]; exact (below_size (by repeat (first | (with_reducible first | exact HB.out | apply below_alloc | apply pw_below_drewN | apply below_drew1) | exact HB.out))) : w.heap.size ≤ gb237)); have n3_ := Aside0.mk ((by rw [hg]; exact (below_size (by repeat (first | (with_reducible first | exact HB.out | apply below_alloc | apply pw_below_drewN | apply below_drew1) | exact HB.out))) : w.heap.size ≤ gb237)); clear HB; have HB := n0_; have BK237 := n1_; have GW237 := n2_; have GE237 := n3_; clear n0_ n1_ n2_ n3_; clear hb hbox hg) | ((with_reducible refine gate_dst (N := 3) rfl ?_); refine box_event ?hg (N := 3) ?hd (cs := #[.int .i64 a1_0, .int .i64 a1_1, .int .i64 a1_2, .int .i64 a1_3, .slice A1_4 l1_4.length c1_4]) (t := 26) ?hr ?_; (case hd => rfl); (case hg => rfl); (case hr => first | (go_simp; done) | (go_simp; rfl)); intro gb238 hg w30 hbox hb; have n0_ := Aside0.mk (blk_below (g := gb237) (o := .cells #[.int .i64 a0_0, .int .i64 a0_1, .int .i64 a0_2, .int .i64 a0_3, .slice A0_4 l0_4.length c0_4] 26 (0, 0)) (by (with_reducible repeat (first | refine blk_drewN ?_ _ | refine blk_drew ?_ | refine blk_alloc ?_ _)); exact BK237.out) hb); have n1_ := Aside0.mk (below_step (by repeat (first | (with_reducible first | exact HB.out | apply below_alloc | apply pw_below_drewN | apply below_drew1 | refine below_set ?_ GE237.out) | exact HB.out)) hb); have n2_ := Aside0.mk (hbox); have n3_ := Aside0.mk ((by rw [hg]; exact (below_size (by repeat (first | (with_reducible first | exact HB.out | apply below_alloc | apply pw_below_drewN | apply below_drew1 | refine below_set ?_ GE237.out) | exact HB.out))) : w.heap.size ≤ gb238)); have n4_ := Aside0.mk ((by rw [hg]; exact (below_size (by repeat (first | (with_reducible first | exact HB.out | apply below_alloc | apply pw_below_drewN | apply below_drew1 | refine below_set ?_ GE237.out) | exact HB.out))) : w.heap.size ≤ gb238)); have n5_ := Aside0.mk ((by rw [hg]; exact Nat.ne_of_lt (blk_lt (g := gb237) (o := .cells #[.int .i64 a0_0, .int .i64 a0_1, .int .i64 a0_2, .int .i64 a0_3, .slice A0_4 l0_4.length c0_4] 26 (0, 0)) (by (with_reducible repeat (first | refine blk_drewN ?_ _ | refine blk_drew ?_ | refine blk_alloc ?_ _)); exact BK237.out)) : gb237 ≠ gb238)); have n6_ := Aside0.mk ((by rw [hg]; exact Nat.ne_of_gt (blk_lt (g := gb237) (o := .cells #[.int .i64 a0_0, .int .i64 a0_1, .int .i64 a0_2, .int .i64 a0_3, .slice A0_4 l0_4.length c0_4] 26 (0, 0)) (by (with_reducible repeat (first | refine blk_drewN ?_ _ | refine blk_drew ?_ | refine blk_alloc ?_ _)); exact BK237.out)) : gb238 ≠ gb237)); clear BK237; clear HB; have BK237 := n0_; have HB := n1_; have BK238 := n2_; have GW238 := n3_; have GE238 := n4_; have NB237_238 := n5_; have NB238_237 := n6_; clear n0_ n1_ n2_ n3_ n4_ n5_ n6_; clear hb hbox hg; have hnb31 := NB237_238.out; have hnc31 := NB238_237.out; have hcz32_0 : w30.cell? ⟨gb237, 0, none⟩ = some (.int .i64 a0_0) := (blk_cell BK237.out 0).trans rfl; have hcz32_1 : w30.cell? ⟨gb237, 1, none⟩ = some (.int .i64 a0_1) := (blk_cell BK237.out 1).trans rfl; have hcz32_2 : w30.cell? ⟨gb237, 2, none⟩ = some (.int .i64 a0_2) := (blk_cell BK237.out 2).trans rfl; have hcz32_3 : w30.cell? ⟨gb237, 3, none⟩ = some (.int .i64 a0_3) := (blk_cell BK237.out 3).trans rfl; have hcz32_4 : w30.cell? ⟨gb237, 4, none⟩ = some (.slice A0_4 l0_4.length c0_4) := (blk_cell BK237.out 4).trans rfl; have hfz32_0 := blk_frozen BK237.out 0; have hfz32_1 := blk_frozen BK237.out 1; have hfz32_2 := blk_frozen BK237.out 2; have hfz32_3 := blk_frozen BK237.out 3; have hfz32_4 := blk_frozen BK237.out 4; have hcz33_0 : w30.cell? ⟨gb238, 0, none⟩ = some (.int .i64 a1_0) := (blk_cell BK238.out 0).trans rfl; have hcz33_1 : w30.cell? ⟨gb238, 1, none⟩ = some (.int .i64 a1_1) := (blk_cell BK238.out 1).trans rfl; have hcz33_2 : w30.cell? ⟨gb238, 2, none⟩ = some (.int .i64 a1_2) := (blk_cell BK238.out 2).trans rfl; have hcz33_3 : w30.cell? ⟨gb238, 3, none⟩ = some (.int .i64 a1_3) := (blk_cell BK238.out 3).trans rfl; have hcz33_4 : w30.cell? ⟨gb238, 4, none⟩ = some (.slice A1_4 l1_4.length c1_4) := (blk_cell BK238.out 4).trans rfl; have hfz33_0 := blk_frozen BK238.out 0; have hfz33_1 := blk_frozen BK238.out 1; have hfz33_2 := blk_frozen BK238.out 2; have hfz33_3 := blk_frozen BK238.out 3; have hfz33_4 := blk_frozen BK238.out 4))
  go_ret
  exact ⟨by first | rfl | (simp [errW_none, errW_some] <;> rfl) | (simp [*, errW_none, errW_some] <;> rfl), by repeat (first | (with_reducible first | exact HB.out | apply below_alloc | apply pw_below_drewN | apply below_drew1 | refine below_set ?_ GE237.out | refine below_set ?_ GE238.out) | exact HB.out)⟩

end Go.Proofs.Ytfgggmojdefidaa.XCodeEach
