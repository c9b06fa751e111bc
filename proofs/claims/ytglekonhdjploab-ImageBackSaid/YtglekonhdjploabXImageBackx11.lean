-- Laid by this session's own printer (wip/xprint.py): each Go function that the law reaches as a plain Lean function, and that the call comes to it.
import Derived.Test.YtglekonhdjploabXImageBackx0
import Derived.Test.YtglekonhdjploabXImageBackx2
import Derived.Test.YtglekonhdjploabXImageBackx3
import Derived.Test.YtglekonhdjploabXImageBackx7
import Derived.Test.YtglekonhdjploabXImageBackx8
import Derived.Test.YtglekonhdjploabXImageBackx9
import Derived.Test.YtglekonhdjploabXImageBackx10
namespace Go.Proofs.Ytglekonhdjploab.XImageBack
open Go.RowKit Go.Proofs.YtglekonhdjploabW.PrintWords Go.Proofs.YtglekonhdjploabW.PrintLast Go.Proofs.YtglekonhdjploabW.PrintMore
attribute [local go_sem] max2_int min2_int max_two min_two max_three min_three max_four min_four   -- for this text's walks alone
set_option linter.unusedVariables false
set_option linter.unusedSimpArgs false

/-! ### image_Write: function 17 -/
def image_Write.f (k : Nat) (l0 : List Int) (a1 : Int) (l2 : List Int) : Option ((List (S57)) × Int) := (image_holds.f k l0 a1 (l2.length : Int)).bind fun t220 => (if t220 = 0 then ((span_Edits.f k l0 a1 l2).bind fun bt221 => (some (bt221.1, 0))) else (some (([] : List (S57)), t220)))
theorem image_Write.mono : ∀ a0 a1 a2 k, LeO (image_Write.f k a0 a1 a2) (image_Write.f (k + 1) a0 a1 a2) := by
 intro a0 a1 a2 k
 unfold image_Write.f
 repeat' first
   | (with_reducible exact image_holds.mono _ _ _ _)
   | (with_reducible exact span_Edits.mono _ _ _ _)
   | (with_reducible exact LeO.refl _)
   | (with_reducible exact LeO.none _)
   | (with_reducible refine LeO.ite ?_ ?_)
   | (with_reducible refine LeO.bind ?_ (fun _ => ?_))
   | exact image_holds.mono _ _ _ _
   | exact span_Edits.mono _ _ _ _
   | exact LeO.none _
   | refine LeO.ite ?_ ?_
   | refine LeO.bind ?_ (fun _ => ?_)
set_option maxHeartbeats 8000000 in
set_option maxRecDepth 100000 in
theorem image_Write.calls (k : Nat) (A0 : Option Addr) (c0 : Nat) (l0 : List Int) (a1 : Int) (A2 : Option Addr) (c2 : Nat) (l2 : List Int) (r1 : List (S57)) (r2 : Int) (w : World) (hr0 : Kd.C (Kd.int .u64) w A0 l0.length l0) (hc0 : l0.length ≤ c0) (hr2 : Kd.C (Kd.int .u8) w A2 l2.length l2) (hc2 : l2.length ≤ c2) (h : image_Write.f k l0 a1 l2 = some (r1, r2)) :
  Calls Try.prog 17 #[.slice A0 l0.length c0, .int .i64 a1, .slice A2 l2.length c2] w fun e w' => ∃ v0_ : Value, e = .returned (.tuple #[v0_, .int .i64 r2]) ∧ Kd.R k57 57 w' w.heap.size (fun _ => True) v0_ r1 ∧ Below w.heap.size w w' := by
 have HR0 := Aside0.mk hr0
 have HC0 := Aside0.mk hc0
 clear hr0 hc0
 have HR2 := Aside0.mk hr2
 have HC2 := Aside0.mk hc2
 clear hr2 hc2
 have HB := Aside0.mk (Below.refl w.heap.size w)
 have H : ((image_holds.f k l0 a1 (l2.length : Int)).bind fun t220 => (if t220 = 0 then ((span_Edits.f k l0 a1 l2).bind fun bt221 => (some (bt221.1, 0))) else (some (([] : List (S57)), t220)))) = some (r1, r2) := h
 clear h
 replace H := Option.bind_eq_some_iff.mp H
 obtain ⟨t220, A40, H⟩ := H
 replace H : (if t220 = 0 then ((span_Edits.f k l0 a1 l2).bind fun bt221 => (some (bt221.1, 0))) else (some (([] : List (S57)), t220))) = some (r1, r2) := H
 have A4 := Aside0.mk A40
 clear A40
 by_cases c5 : t220 = 0
 ·
  rw [if_pos c5] at H
  have c5b0 : (t220 == 0) = true := beq_iff_eq.mpr c5
  have c5b1 : (t220 != 0) = false := bne_eq_false_iff_eq.mpr c5
  clear c5
  replace H := Option.bind_eq_some_iff.mp H
  obtain ⟨⟨t221, t222⟩, A60, H⟩ := H
  replace H : (some (t221, 0)) = some (r1, r2) := H
  have A6 := Aside0.mk A60
  clear A60
  simp only [Option.some.injEq, Prod.mk.injEq] at H
  obtain ⟨rfl, rfl⟩ := H
  go_enter Try.func17, Try.ntmps17
  go_wp2_with (first | ((with_reducible refine gate_callee (f := 32) rfl ?_); refine goesL_ (some 15) rfl rfl Try.func32 (by kernel_rfl) rfl #[.slice A0 l0.length c0, .int .i64 a1, .int .i64 (l2.length : Int)] rfl (by (try simp only [List.map_toArray, List.map_cons, List.map_nil]); first | done | rfl | (simp only [List.length_drop, List.length_take]; rfl)) ?_; (with_reducible refine (image_holds.calls k _ _ l0 a1 (l2.length : Int) t220 _ ?side1 ?side2 A4.out).mono ?_); (case side1 => repeat (first | exact HR0.out | (with_reducible refine Kd.C_alloc ?_ _) | (with_reducible refine Kd.C_drewN ?_ _) | (with_reducible refine Kd.C_drew ?_))); (case side2 => exact HC0.out); rintro e w7 ⟨rfl, hb⟩; refine ⟨_, rfl, ?_⟩; have n0_ := Aside0.mk (below_step (by repeat (first | (with_reducible first | exact HB.out | apply below_alloc | apply pw_below_drewN | apply below_drew1) | exact HB.out)) hb); clear HB; have HB := n0_; clear n0_; (try clear hb); (try clear hb2); (try clear hk); (try clear hi)) | ((with_reducible refine gate_callee (f := 33) rfl ?_); refine goesL_ (some 23) rfl rfl Try.func33 (by kernel_rfl) rfl #[.slice A0 l0.length c0, .int .i64 a1, .slice A2 l2.length c2] rfl (by (try simp only [List.map_toArray, List.map_cons, List.map_nil]); first | done | rfl | (simp only [List.length_drop, List.length_take]; rfl)) ?_; (with_reducible refine (span_Edits.calls k _ _ l0 a1 _ _ l2 t221 t222 _ ?side1 ?side2 ?side3 ?side4 A6.out).mono ?_); (case side1 => repeat (first | exact (Kd.C_below HR0.out HB.out) | (with_reducible refine Kd.C_alloc ?_ _) | (with_reducible refine Kd.C_drewN ?_ _) | (with_reducible refine Kd.C_drew ?_))); (case side2 => exact HC0.out); (case side3 => repeat (first | exact (Kd.C_below HR2.out HB.out) | (with_reducible refine Kd.C_alloc ?_ _) | (with_reducible refine Kd.C_drewN ?_ _) | (with_reducible refine Kd.C_drew ?_))); (case side4 => exact HC2.out); rintro e w8 ⟨v223, rfl, ho0, hb⟩; refine ⟨_, rfl, ?_⟩; have n0_ := Aside0.mk (Kd.R_lower ho0 (below_size (by repeat (first | (with_reducible first | exact HB.out | apply below_alloc | apply pw_below_drewN | apply below_drew1) | exact HB.out)))); have n1_ := Aside0.mk (below_step (by repeat (first | (with_reducible first | exact HB.out | apply below_alloc | apply pw_below_drewN | apply below_drew1) | exact HB.out)) hb); clear HB; have HO224 := n0_; have HB := n1_; clear n0_ n1_; (try clear hb); (try clear hb2); (try clear hk); (try clear hi); (try clear ho0)))
  go_ret2
  exact ⟨_, by first | rfl | (simp [errW_none, errW_some] <;> rfl) | (simp [*, errW_none, errW_some] <;> rfl), by (with_reducible repeat (first | apply Kd.R_alloc | apply Kd.R_drewN | apply Kd.R_drew)); exact HO224.out, by repeat (first | (with_reducible first | exact HB.out | apply below_alloc | apply pw_below_drewN | apply below_drew1) | exact HB.out)⟩
 ·
  rw [if_neg c5] at H
  have c5b0 : (t220 == 0) = false := beq_eq_false_iff_ne.mpr c5
  have c5b1 : (t220 != 0) = true := bne_iff_ne.mpr c5
  simp only [Option.some.injEq, Prod.mk.injEq] at H
  obtain ⟨rfl, rfl⟩ := H
  go_enter Try.func17, Try.ntmps17
  go_wp2_with (first | ((with_reducible refine gate_callee (f := 32) rfl ?_); refine goesL_ (some 15) rfl rfl Try.func32 (by kernel_rfl) rfl #[.slice A0 l0.length c0, .int .i64 a1, .int .i64 (l2.length : Int)] rfl (by (try simp only [List.map_toArray, List.map_cons, List.map_nil]); first | done | rfl | (simp only [List.length_drop, List.length_take]; rfl)) ?_; (with_reducible refine (image_holds.calls k _ _ l0 a1 (l2.length : Int) t220 _ ?side1 ?side2 A4.out).mono ?_); (case side1 => repeat (first | exact HR0.out | (with_reducible refine Kd.C_alloc ?_ _) | (with_reducible refine Kd.C_drewN ?_ _) | (with_reducible refine Kd.C_drew ?_))); (case side2 => exact HC0.out); rintro e w9 ⟨rfl, hb⟩; refine ⟨_, rfl, ?_⟩; have n0_ := Aside0.mk (below_step (by repeat (first | (with_reducible first | exact HB.out | apply below_alloc | apply pw_below_drewN | apply below_drew1) | exact HB.out)) hb); clear HB; have HB := n0_; clear n0_; (try clear hb); (try clear hb2); (try clear hk); (try clear hi)))
  go_ret2
  exact ⟨_, by first | rfl | (simp [errW_none, errW_some] <;> rfl) | (simp [*, errW_none, errW_some] <;> rfl), by first | exact Kd.R_nil _ _ _ _ _ | exact Kd.N_nil _ _ _ _ _ | exact Kd.V_nil _ _ _ _ _ | exact Kd.Q_nil _ _ _ _ _ | exact Kd.S_nil _ _ _ _ _, by repeat (first | (with_reducible first | exact HB.out | apply below_alloc | apply pw_below_drewN | apply below_drew1) | exact HB.out)⟩

/-! ### span_Read: function 34 -/
def span_Read.l0 : Nat → List Int → Int → Int → List Int → Int → Option (List Int × Bool)
 | 0, _, _, _, _, _ => none
 | k + 1, x0, x1, x2, x8, x9 => if x9 < (wrap64 (x1 + x2)) then (if 0 ≤ (wrap64 (Int.tdiv x9 8)) then (if (wrap64 (Int.tdiv x9 8)) < (x0.length : Int) then (if 0 ≤ (wrap64 ((Int.tmod x9 8) * 8)) then (if x8.length < 140737488355328 then (span_Read.l0 k x0 x1 x2 (x8 ++ [(shr .u64 (rd x0 (wrap64 (Int.tdiv x9 8))) (wrap64 ((Int.tmod x9 8) * 8))) % 256]) (wrap64 (x9 + 1))) else (none)) else (none)) else (none)) else (none)) else (some (x8, true))
def span_Read.f (k : Nat) (l0 : List Int) (a1 : Int) (a2 : Int) : Option (List Int × Bool) := (span_within.f l0 a1 a2).bind fun t225 => (if t225 = true then (span_Read.l0 k l0 a1 a2 ([] : List Int) a1) else (some (([] : List Int), false)))
theorem span_Read.mono_l : ∀ k, (∀ y0 y1 y2 y3 y4, LeO (span_Read.l0 k y0 y1 y2 y3 y4) (span_Read.l0 (k + 1) y0 y1 y2 y3 y4))
 | 0 => fun _ _ _ _ _ r h => by simp [span_Read.l0] at h
 | k + 1 => by
  have ih0 := span_Read.mono_l k
  ·
   intro y0 y1 y2 y3 y4
   unfold span_Read.l0
   repeat' first
   | (with_reducible exact ih0 _ _ _ _ _)
   | (with_reducible exact LeO.refl _)
   | (with_reducible exact LeO.none _)
   | (with_reducible refine LeO.ite ?_ ?_)
   | (with_reducible refine LeO.bind ?_ (fun _ => ?_))
   | exact ih0 _ _ _ _ _
   | exact LeO.none _
   | refine LeO.ite ?_ ?_
   | refine LeO.bind ?_ (fun _ => ?_)
theorem span_Read.mono : ∀ a0 a1 a2 k, LeO (span_Read.f k a0 a1 a2) (span_Read.f (k + 1) a0 a1 a2) := by
 intro a0 a1 a2 k
 have ih0 := span_Read.mono_l k
 unfold span_Read.f
 repeat' first
   | (with_reducible exact ih0 _ _ _ _ _)
   | (with_reducible exact LeO.refl _)
   | (with_reducible exact LeO.none _)
   | (with_reducible refine LeO.ite ?_ ?_)
   | (with_reducible refine LeO.bind ?_ (fun _ => ?_))
   | exact ih0 _ _ _ _ _
   | exact LeO.none _
   | refine LeO.ite ?_ ?_
   | refine LeO.bind ?_ (fun _ => ?_)
set_option maxHeartbeats 8000000 in
set_option maxRecDepth 100000 in
theorem span_Read.calls (k : Nat) (A0 : Option Addr) (c0 : Nat) (l0 : List Int) (a1 : Int) (a2 : Int) (r1 : List Int) (r2 : Bool) (w : World) (hr0 : Kd.C (Kd.int .u64) w A0 l0.length l0) (hc0 : l0.length ≤ c0) (h : span_Read.f k l0 a1 a2 = some (r1, r2)) :
  Calls Try.prog 34 #[.slice A0 l0.length c0, .int .i64 a1, .int .i64 a2] w fun e w' => ∃ v0_ : Value, e = .returned (.tuple #[v0_, .bool r2]) ∧ Kd.R (Kd.int .u8) 5 w' w.heap.size (fun _ => True) v0_ r1 ∧ Below w.heap.size w w' := by
 have HR0 := Aside0.mk hr0
 have HC0 := Aside0.mk hc0
 clear hr0 hc0
 have HB := Aside0.mk (Below.refl w.heap.size w)
 have H : ((span_within.f l0 a1 a2).bind fun t225 => (if t225 = true then (span_Read.l0 k l0 a1 a2 ([] : List Int) a1) else (some (([] : List Int), false)))) = some (r1, r2) := h
 clear h
 replace H := Option.bind_eq_some_iff.mp H
 obtain ⟨t225, A40, H⟩ := H
 replace H : (if t225 = true then (span_Read.l0 k l0 a1 a2 ([] : List Int) a1) else (some (([] : List Int), false))) = some (r1, r2) := H
 have A4 := Aside0.mk A40
 clear A40
 by_cases c5 : t225 = true
 ·
  subst c5
  have H1 : (span_Read.l0 k l0 a1 a2 ([] : List Int) a1) = some (r1, r2) := by rw [if_pos rfl] at H; exact H
  clear H
  have H := H1
  clear H1
  have H' := Aside0.mk H
  clear H
  go_enter Try.func34, Try.ntmps34
  go_wp2_with (first | ((with_reducible refine gate_callee (f := 45) rfl ?_); refine goesL_ (some 13) rfl rfl Try.func45 (by kernel_rfl) rfl #[.slice A0 l0.length c0, .int .i64 a1, .int .i64 a2] rfl (by (try simp only [List.map_toArray, List.map_cons, List.map_nil]); first | done | rfl | (simp only [List.length_drop, List.length_take]; rfl)) ?_; (with_reducible refine (span_within.calls _ _ l0 a1 a2 true _ ?side1 ?side2 A4.out).mono ?_); (case side1 => repeat (first | exact HR0.out | (with_reducible refine Kd.C_alloc ?_ _) | (with_reducible refine Kd.C_drewN ?_ _) | (with_reducible refine Kd.C_drew ?_))); (case side2 => exact HC0.out); rintro e w' ⟨rfl, ⟨nd, rfl⟩⟩; refine ⟨_, rfl, ?_⟩))
  go_loopg [8, 9] k (fun kq v8 v9 w' => ∃ (x8_1 : List Int) (x9_1 : Int), v9 = .int .i64 x9_1 ∧ Aside0 (span_Read.l0 kq l0 a1 a2 x8_1 x9_1 = some (r1, r2)) ∧ Aside0 (kq ≤ k) ∧ Aside0 (Kd.R (Kd.int .u8) 5 w' w.heap.size (fun _ => True) v8 x8_1) ∧ Aside0 (Below w.heap.size w w'))
  case atStart => exact ⟨(([] : List Int)), (a1), (by first | rfl | (simp; done) | (simp [*]; done)), H', ⟨Nat.le_refl _⟩, ⟨by first | exact Kd.R_nil _ _ _ _ _ | exact Kd.N_nil _ _ _ _ _ | exact Kd.V_nil _ _ _ _ _ | exact Kd.Q_nil _ _ _ _ _ | exact Kd.S_nil _ _ _ _ _⟩, ⟨by repeat (first | (with_reducible first | exact HB.out | apply below_alloc | apply pw_below_drewN | apply below_drew1) | exact HB.out)⟩⟩
  case round =>
   clear H'
   try clear p2
   try clear c3
   try clear c4
   try clear c5
   obtain ⟨x8_1, x9_1, rfl, HA, HK1, HO_8, HB⟩ := hrel
   cases gk with
   | zero => exact absurd HA.out (by simp [span_Read.l0])
   | succ k1 =>
    have H := HA.out
    clear HA
    simp only [span_Read.l0] at H
    by_cases c6 : x9_1 < (wrap64 (a1 + a2))
    ·
     rw [if_pos c6] at H
     have c6b0 : decide (x9_1 < (wrap64 (a1 + a2))) = true := decide_eq_true c6
     clear c6
     obtain ⟨ji7, hji7⟩ : ∃ j_ : Int, (wrap64 (Int.tdiv x9_1 8)) = j_ := ⟨_, rfl⟩
     replace H : (if 0 ≤ (ji7) then (if (ji7) < (l0.length : Int) then (if 0 ≤ (wrap64 ((Int.tmod x9_1 8) * 8)) then (if x8_1.length < 140737488355328 then (span_Read.l0 k1 l0 a1 a2 (x8_1 ++ [(shr .u64 (rd l0 (ji7)) (wrap64 ((Int.tmod x9_1 8) * 8))) % 256]) (wrap64 (x9_1 + 1))) else (none)) else (none)) else (none)) else (none)) = some (r1, r2) := by first | (rw [hji7] at H; exact H) | (simp only [hji7] at H ⊢; exact H)
     have hji7w : (IntKind.i64.wrap (Int.tdiv x9_1 8)) = ji7 := (i64_w _).trans hji7
     by_cases c8 : 0 ≤ (ji7)
     ·
      rw [if_pos c8] at H
      have c8b0 : decide (0 ≤ (ji7)) = true := decide_eq_true c8
      clear c8
      by_cases c9 : (ji7) < (l0.length : Int)
      ·
       rw [if_pos c9] at H
       have c9b0 : decide ((ji7) < (l0.length : Int)) = true := decide_eq_true c9
       clear c9
       obtain ⟨ji10, hji10⟩ : ∃ j_ : Int, (wrap64 ((Int.tmod x9_1 8) * 8)) = j_ := ⟨_, rfl⟩
       replace H : (if 0 ≤ (ji10) then (if x8_1.length < 140737488355328 then (span_Read.l0 k1 l0 a1 a2 (x8_1 ++ [(shr .u64 (rd l0 (ji7)) (ji10)) % 256]) (wrap64 (x9_1 + 1))) else (none)) else (none)) = some (r1, r2) := by first | (rw [hji10] at H; exact H) | (simp only [hji10] at H ⊢; exact H)
       have hji10w : (IntKind.i64.wrap ((Int.tmod x9_1 8) * 8)) = ji10 := (i64_w _).trans hji10
       by_cases c11 : 0 ≤ (ji10)
       ·
        rw [if_pos c11] at H
        have c11b0 := eq_true c11
        have c11b1 : decide (0 ≤ (ji10)) = true := decide_eq_true c11
        clear c11
        obtain ⟨ji12, hji12⟩ : ∃ j_ : Int, (shr .u64 (rd l0 (ji7)) (ji10)) = j_ := ⟨_, rfl⟩
        replace H : (if x8_1.length < 140737488355328 then (span_Read.l0 k1 l0 a1 a2 (x8_1 ++ [(ji12) % 256]) (wrap64 (x9_1 + 1))) else (none)) = some (r1, r2) := by first | (rw [hji12] at H; exact H) | (simp only [hji12] at H ⊢; exact H)
        have hji12_ : ((rd l0 (ji7)) / 2 ^ min (ji10).toNat 64) = ji12 := hji12
        have hji12z : (ji10) ≤ 64 → ((rd l0 (ji7)) / 2 ^ (ji10).toNat) = ji12 := shr_small hji12
        by_cases c13 : x8_1.length < 140737488355328
        ·
         rw [if_pos c13] at H
         have LMc13 := Aside0.mk c13
         clear c13
         obtain ⟨y227, hy227⟩ : ∃ y_ : List Int, y_ = (x8_1 ++ [(ji12) % 256]) := ⟨_, rfl⟩
         replace H : (span_Read.l0 k1 l0 a1 a2 y227 (wrap64 (x9_1 + 1))) = some (r1, r2) := by first | (rw [hy227]; with_reducible exact H) | (have H2_ := (Option.bind_some _ _).symm.trans H; rw [hy227]; with_reducible exact H2_) | (have H2_ := (Option.bind_some _ _).symm.trans H; with_reducible exact H2_) | with_reducible exact H | (rw [hy227]; exact H) | exact H
         have Ny227 := Aside0.mk hy227
         clear hy227
         have H' := Aside0.mk H
         clear H
         have p226 : 0 ≤ ((ji7) : Int) := of_decide_eq_true (by first | (with_reducible assumption) | assumption)
         have q226 : (ji7) < (l0.length : Int) := of_decide_eq_true (by first | (with_reducible assumption) | assumption)
         obtain ⟨ad226, e226, hx226_0⟩ := Kd.at_int HR0.out (ji7) p226 q226
         cases e226
         replace hx226_0 := (HB.out.cell (World.block_lt_of_cell? w _ hx226_0)).trans hx226_0
         replace p226 := eq_true p226
         replace q226 := eq_true q226
         go_wp2_with (first | ((with_reducible refine gate_builtin (b := .append) (xs := #[.tmp 23, .tmp 34]) rfl ?_); at_builtin; refine Kd.R_append (Kd.int .u8) (w0 := w) w.heap.size rfl (.tmp 23) (.tmp 34) 47 5 (.int .u8 0) 1 rfl Try.underlying47 info5 rfl (by decide) (by omega) u8 x8_1 ((ji12) % 256) [.int .u8 ((ji12) % 256)] (fun _ => True) (fun _ => False) rfl rfl ?aP (fun _ hk => hk.elim) ?aF ?aO ?aB ?aS ?aL ?_; (case aP => exact rfl); (case aB => exact (by repeat (first | (with_reducible first | exact HB.out | apply below_alloc | apply pw_below_drewN | apply below_drew1) | exact HB.out))); (case aF => exact (fun _ _ => trivial)); (case aO => exact (by (with_reducible repeat (first | apply Kd.R_alloc | apply Kd.R_drewN | apply Kd.R_drew)); exact HO_8.out)); (case aS => exact (below_size (by repeat (first | (with_reducible first | exact HB.out | apply below_alloc | apply pw_below_drewN | apply below_drew1) | exact HB.out)))); (case aL => have := LMc13.out; omega); intro v228 w14 ho hb hg hat; rw [← Ny227.out] at ho; have n0_ := Aside0.mk (hb); have n1_ := Aside0.mk (ho); clear HB; clear HO_8; have HB := n0_; have HO229 := n1_; clear n0_ n1_; clear ho hb hg hat))
         go_roundg k1
         case measure => have := HK1.out; omega
         case rel => exact ⟨(y227), (wrap64 (x9_1 + 1)), (by first | rfl | (simp; done) | (simp [*]; done)), (by first | exact H' | ((try rw [hji7]); (try rw [hji10]); (try rw [hji12]); exact H')), ⟨by have := HK1.out; omega⟩, ⟨by (with_reducible repeat (first | apply Kd.R_alloc | apply Kd.R_drewN | apply Kd.R_drew)); exact HO229.out⟩, ⟨by repeat (first | (with_reducible first | exact HB.out | apply below_alloc | apply pw_below_drewN | apply below_drew1) | exact HB.out)⟩⟩
        ·
         rw [if_neg c13] at H
         exact absurd H (by simp)
       ·
        rw [if_neg c11] at H
        exact absurd H (by simp)
      ·
       rw [if_neg c9] at H
       exact absurd H (by simp)
     ·
      rw [if_neg c8] at H
      exact absurd H (by simp)
    ·
     rw [if_neg c6] at H
     have c6b0 : decide (x9_1 < (wrap64 (a1 + a2))) = false := decide_eq_false c6
     clear c6
     simp only [Option.some.injEq, Prod.mk.injEq] at H
     obtain ⟨rfl, rfl⟩ := H
     go_wp2
     go_ret2
     exact ⟨_, by first | rfl | (simp [errW_none, errW_some] <;> rfl) | (simp [*, errW_none, errW_some] <;> rfl), by (with_reducible repeat (first | apply Kd.R_alloc | apply Kd.R_drewN | apply Kd.R_drew)); exact HO_8.out, by repeat (first | (with_reducible first | exact HB.out | apply below_alloc | apply pw_below_drewN | apply below_drew1) | exact HB.out)⟩
 ·
  replace c5 := Bool.eq_false_iff.mpr c5
  subst c5
  have H1 : (some (([] : List Int), false)) = some (r1, r2) := by rw [if_neg (show ¬ (false = true) by decide)] at H; exact H
  clear H
  have H := H1
  clear H1
  simp only [Option.some.injEq, Prod.mk.injEq] at H
  obtain ⟨rfl, rfl⟩ := H
  go_enter Try.func34, Try.ntmps34
  go_wp2_with (first | ((with_reducible refine gate_callee (f := 45) rfl ?_); refine goesL_ (some 13) rfl rfl Try.func45 (by kernel_rfl) rfl #[.slice A0 l0.length c0, .int .i64 a1, .int .i64 a2] rfl (by (try simp only [List.map_toArray, List.map_cons, List.map_nil]); first | done | rfl | (simp only [List.length_drop, List.length_take]; rfl)) ?_; (with_reducible refine (span_within.calls _ _ l0 a1 a2 false _ ?side1 ?side2 A4.out).mono ?_); (case side1 => repeat (first | exact HR0.out | (with_reducible refine Kd.C_alloc ?_ _) | (with_reducible refine Kd.C_drewN ?_ _) | (with_reducible refine Kd.C_drew ?_))); (case side2 => exact HC0.out); rintro e w' ⟨rfl, ⟨nd, rfl⟩⟩; refine ⟨_, rfl, ?_⟩))
  go_ret2
  exact ⟨_, by first | rfl | (simp [errW_none, errW_some] <;> rfl) | (simp [*, errW_none, errW_some] <;> rfl), by first | exact Kd.R_nil _ _ _ _ _ | exact Kd.N_nil _ _ _ _ _ | exact Kd.V_nil _ _ _ _ _ | exact Kd.Q_nil _ _ _ _ _ | exact Kd.S_nil _ _ _ _ _, by repeat (first | (with_reducible first | exact HB.out | apply below_alloc | apply pw_below_drewN | apply below_drew1) | exact HB.out)⟩

/-! ### image_Read: function 18 -/
def image_Read.f (k : Nat) (l0 : List Int) (a1 : Int) (a2 : Int) : Option (List Int × Int) := (image_holds.f k l0 a1 a2).bind fun t230 => (if t230 = 0 then ((span_Read.f k l0 a1 a2).bind fun bt231 => (some (bt231.1, 0))) else (some (([] : List Int), t230)))
theorem image_Read.mono : ∀ a0 a1 a2 k, LeO (image_Read.f k a0 a1 a2) (image_Read.f (k + 1) a0 a1 a2) := by
 intro a0 a1 a2 k
 unfold image_Read.f
 repeat' first
   | (with_reducible exact image_holds.mono _ _ _ _)
   | (with_reducible exact span_Read.mono _ _ _ _)
   | (with_reducible exact LeO.refl _)
   | (with_reducible exact LeO.none _)
   | (with_reducible refine LeO.ite ?_ ?_)
   | (with_reducible refine LeO.bind ?_ (fun _ => ?_))
   | exact image_holds.mono _ _ _ _
   | exact span_Read.mono _ _ _ _
   | exact LeO.none _
   | refine LeO.ite ?_ ?_
   | refine LeO.bind ?_ (fun _ => ?_)
set_option maxHeartbeats 8000000 in
set_option maxRecDepth 100000 in
theorem image_Read.calls (k : Nat) (A0 : Option Addr) (c0 : Nat) (l0 : List Int) (a1 : Int) (a2 : Int) (r1 : List Int) (r2 : Int) (w : World) (hr0 : Kd.C (Kd.int .u64) w A0 l0.length l0) (hc0 : l0.length ≤ c0) (h : image_Read.f k l0 a1 a2 = some (r1, r2)) :
  Calls Try.prog 18 #[.slice A0 l0.length c0, .int .i64 a1, .int .i64 a2] w fun e w' => ∃ v0_ : Value, e = .returned (.tuple #[v0_, .int .i64 r2]) ∧ Kd.R (Kd.int .u8) 5 w' w.heap.size (fun _ => True) v0_ r1 ∧ Below w.heap.size w w' := by
 have HR0 := Aside0.mk hr0
 have HC0 := Aside0.mk hc0
 clear hr0 hc0
 have HB := Aside0.mk (Below.refl w.heap.size w)
 have H : ((image_holds.f k l0 a1 a2).bind fun t230 => (if t230 = 0 then ((span_Read.f k l0 a1 a2).bind fun bt231 => (some (bt231.1, 0))) else (some (([] : List Int), t230)))) = some (r1, r2) := h
 clear h
 replace H := Option.bind_eq_some_iff.mp H
 obtain ⟨t230, A40, H⟩ := H
 replace H : (if t230 = 0 then ((span_Read.f k l0 a1 a2).bind fun bt231 => (some (bt231.1, 0))) else (some (([] : List Int), t230))) = some (r1, r2) := H
 have A4 := Aside0.mk A40
 clear A40
 by_cases c5 : t230 = 0
 ·
  rw [if_pos c5] at H
  have c5b0 : (t230 == 0) = true := beq_iff_eq.mpr c5
  have c5b1 : (t230 != 0) = false := bne_eq_false_iff_eq.mpr c5
  clear c5
  replace H := Option.bind_eq_some_iff.mp H
  obtain ⟨⟨t231, t232⟩, A60, H⟩ := H
  replace H : (some (t231, 0)) = some (r1, r2) := H
  have A6 := Aside0.mk A60
  clear A60
  simp only [Option.some.injEq, Prod.mk.injEq] at H
  obtain ⟨rfl, rfl⟩ := H
  go_enter Try.func18, Try.ntmps18
  go_wp2_with (first | ((with_reducible refine gate_callee (f := 32) rfl ?_); refine goesL_ (some 14) rfl rfl Try.func32 (by kernel_rfl) rfl #[.slice A0 l0.length c0, .int .i64 a1, .int .i64 a2] rfl (by (try simp only [List.map_toArray, List.map_cons, List.map_nil]); first | done | rfl | (simp only [List.length_drop, List.length_take]; rfl)) ?_; (with_reducible refine (image_holds.calls k _ _ l0 a1 a2 t230 _ ?side1 ?side2 A4.out).mono ?_); (case side1 => repeat (first | exact HR0.out | (with_reducible refine Kd.C_alloc ?_ _) | (with_reducible refine Kd.C_drewN ?_ _) | (with_reducible refine Kd.C_drew ?_))); (case side2 => exact HC0.out); rintro e w7 ⟨rfl, hb⟩; refine ⟨_, rfl, ?_⟩; have n0_ := Aside0.mk (below_step (by repeat (first | (with_reducible first | exact HB.out | apply below_alloc | apply pw_below_drewN | apply below_drew1) | exact HB.out)) hb); clear HB; have HB := n0_; clear n0_; (try clear hb); (try clear hb2); (try clear hk); (try clear hi)) | ((with_reducible refine gate_callee (f := 34) rfl ?_); refine goesL_ (some 22) rfl rfl Try.func34 (by kernel_rfl) rfl #[.slice A0 l0.length c0, .int .i64 a1, .int .i64 a2] rfl (by (try simp only [List.map_toArray, List.map_cons, List.map_nil]); first | done | rfl | (simp only [List.length_drop, List.length_take]; rfl)) ?_; (with_reducible refine (span_Read.calls k _ _ l0 a1 a2 t231 t232 _ ?side1 ?side2 A6.out).mono ?_); (case side1 => repeat (first | exact (Kd.C_below HR0.out HB.out) | (with_reducible refine Kd.C_alloc ?_ _) | (with_reducible refine Kd.C_drewN ?_ _) | (with_reducible refine Kd.C_drew ?_))); (case side2 => exact HC0.out); rintro e w8 ⟨v233, rfl, ho0, hb⟩; refine ⟨_, rfl, ?_⟩; have n0_ := Aside0.mk (Kd.R_lower ho0 (below_size (by repeat (first | (with_reducible first | exact HB.out | apply below_alloc | apply pw_below_drewN | apply below_drew1) | exact HB.out)))); have n1_ := Aside0.mk (below_step (by repeat (first | (with_reducible first | exact HB.out | apply below_alloc | apply pw_below_drewN | apply below_drew1) | exact HB.out)) hb); clear HB; have HO234 := n0_; have HB := n1_; clear n0_ n1_; (try clear hb); (try clear hb2); (try clear hk); (try clear hi); (try clear ho0)))
  go_ret2
  exact ⟨_, by first | rfl | (simp [errW_none, errW_some] <;> rfl) | (simp [*, errW_none, errW_some] <;> rfl), by (with_reducible repeat (first | apply Kd.R_alloc | apply Kd.R_drewN | apply Kd.R_drew)); exact HO234.out, by repeat (first | (with_reducible first | exact HB.out | apply below_alloc | apply pw_below_drewN | apply below_drew1) | exact HB.out)⟩
 ·
  rw [if_neg c5] at H
  have c5b0 : (t230 == 0) = false := beq_eq_false_iff_ne.mpr c5
  have c5b1 : (t230 != 0) = true := bne_iff_ne.mpr c5
  simp only [Option.some.injEq, Prod.mk.injEq] at H
  obtain ⟨rfl, rfl⟩ := H
  go_enter Try.func18, Try.ntmps18
  go_wp2_with (first | ((with_reducible refine gate_callee (f := 32) rfl ?_); refine goesL_ (some 14) rfl rfl Try.func32 (by kernel_rfl) rfl #[.slice A0 l0.length c0, .int .i64 a1, .int .i64 a2] rfl (by (try simp only [List.map_toArray, List.map_cons, List.map_nil]); first | done | rfl | (simp only [List.length_drop, List.length_take]; rfl)) ?_; (with_reducible refine (image_holds.calls k _ _ l0 a1 a2 t230 _ ?side1 ?side2 A4.out).mono ?_); (case side1 => repeat (first | exact HR0.out | (with_reducible refine Kd.C_alloc ?_ _) | (with_reducible refine Kd.C_drewN ?_ _) | (with_reducible refine Kd.C_drew ?_))); (case side2 => exact HC0.out); rintro e w9 ⟨rfl, hb⟩; refine ⟨_, rfl, ?_⟩; have n0_ := Aside0.mk (below_step (by repeat (first | (with_reducible first | exact HB.out | apply below_alloc | apply pw_below_drewN | apply below_drew1) | exact HB.out)) hb); clear HB; have HB := n0_; clear n0_; (try clear hb); (try clear hb2); (try clear hk); (try clear hi)))
  go_ret2
  exact ⟨_, by first | rfl | (simp [errW_none, errW_some] <;> rfl) | (simp [*, errW_none, errW_some] <;> rfl), by first | exact Kd.R_nil _ _ _ _ _ | exact Kd.N_nil _ _ _ _ _ | exact Kd.V_nil _ _ _ _ _ | exact Kd.Q_nil _ _ _ _ _ | exact Kd.S_nil _ _ _ _ _, by repeat (first | (with_reducible first | exact HB.out | apply below_alloc | apply pw_below_drewN | apply below_drew1) | exact HB.out)⟩

/-! ### image_find: function 26, told by hand -/
def image_find.f (k : Nat) (l0 : List Int) (a1 : Int) : Option (List (S45) × Int) := (chain_Blocks.f k l0).bind fun p => (some (p.1, findS a1 p.1 0))
theorem image_find.mono : ∀ a0 a1 k, LeO (image_find.f k a0 a1) (image_find.f (k + 1) a0 a1) := by
  intro a0 a1 k
  unfold image_find.f
  exact LeO.bind (chain_Blocks.mono a0 k) (fun _ => LeO.refl _)
set_option maxHeartbeats 4000000 in
theorem image_find.calls (k : Nat) (A0 : Option Addr) (c0 : Nat) (l0 : List Int) (a1 : Int) (r1 : List (S45)) (r2 : Int) (w : World) (hr0 : Kd.C (Kd.int .u64) w A0 l0.length l0) (hc0 : l0.length ≤ c0) (h : image_find.f k l0 a1 = some (r1, r2)) :
    Calls Try.prog 26 #[.slice A0 l0.length c0, .int .i64 a1] w fun e w' => ∃ v0_ : Value, e = .returned (.tuple #[v0_, .int .i64 r2]) ∧ Kd.R k45 45 w' w.heap.size (fun _ => True) v0_ r1 ∧ Below w.heap.size w w' := by
  have hmf : ∀ (fn : Fn) (first cap : Array Value) (w : World), (Instr.makeFunc fn first cap).run Try.prog w = .ok (.func fn first cap) w := fun _ _ _ _ => rfl
  have HR := Lib.hid hr0
  have HC := Lib.hid hc0
  clear hr0 hc0
  unfold image_find.f at h
  obtain ⟨⟨m, ok⟩, hb, hm⟩ := Option.bind_eq_some_iff.1 h
  simp only [Option.some.injEq, Prod.mk.injEq] at hm
  obtain ⟨rfl, rfl⟩ := hm
  have hb := Lib.hid hb
  clear h
  have hW : Below w.heap.size w (w.alloc (.cells #[.int .i64 a1] 3)) := below_alloc (Below.refl _ _) _
  have hB0 : (w.alloc (.cells #[.int .i64 a1] 3)).cell? ⟨w.heap.size, 0, none⟩ = some (.int .i64 a1) := by
    have hh : (w.alloc (.cells #[.int .i64 a1] 3)).heap[w.heap.size]? = some (.cells #[.int .i64 a1] 3 (0, 0)) := heap_alloc_new w _
    rw [blk_cell hh]; rfl
  replace hB0 := Lib.hid hB0
  go_enter Try.func26, Try.ntmps26
  go_wp2_with (first
    | (go_at_call 11; (with_reducible refine (chain_Blocks.calls k _ _ l0 m ok _ ?s1 ?s2 hb.out).mono ?_); (case s1 => exact Kd.C_below HR.out hW); (case s2 => exact HC.out); rintro e w1 ⟨v, rfl, ho, hb1⟩; have hB1 := Lib.hid (pw_cell_below hb1 hB0.out); have hB' := Lib.hid (World.block_lt_of_cell? w1 _ hB1.out); have ho := Lib.hid ho)
    | (go_at_call 40; (with_reducible refine (index86 a1 w.heap.size _ v m _ ho.out hB'.out hB1.out).mono ?_); rintro e w2 ⟨rfl, hb2⟩))
  go_ret2
  exact ⟨v, rfl, Kd.R_lower (Kd.R_below ho.out hb2) (by simp), below_step (below_step hW hb1) hb2⟩

/-! ### image_Is: function 19 -/
def image_Is.f (k : Nat) (l0 : List Int) (a1 : Int) : Option (Bool) := (image_find.f k l0 a1).bind fun bt235 => (some (decide (bt235.2 ≥ 0)))
theorem image_Is.mono : ∀ a0 a1 k, LeO (image_Is.f k a0 a1) (image_Is.f (k + 1) a0 a1) := by
 intro a0 a1 k
 unfold image_Is.f
 repeat' first
   | (with_reducible exact image_find.mono _ _ _)
   | (with_reducible exact LeO.refl _)
   | (with_reducible exact LeO.none _)
   | (with_reducible refine LeO.ite ?_ ?_)
   | (with_reducible refine LeO.bind ?_ (fun _ => ?_))
   | exact image_find.mono _ _ _
   | exact LeO.none _
   | refine LeO.ite ?_ ?_
   | refine LeO.bind ?_ (fun _ => ?_)
set_option maxHeartbeats 8000000 in
set_option maxRecDepth 100000 in
theorem image_Is.calls (k : Nat) (A0 : Option Addr) (c0 : Nat) (l0 : List Int) (a1 : Int) (r : Bool) (w : World) (hr0 : Kd.C (Kd.int .u64) w A0 l0.length l0) (hc0 : l0.length ≤ c0) (h : image_Is.f k l0 a1 = some r) :
  Calls Try.prog 19 #[.slice A0 l0.length c0, .int .i64 a1] w fun e w' => e = .returned (.bool r) ∧ Below w.heap.size w w' := by
 have HR0 := Aside0.mk hr0
 have HC0 := Aside0.mk hc0
 clear hr0 hc0
 have HB := Aside0.mk (Below.refl w.heap.size w)
 have H : ((image_find.f k l0 a1).bind fun bt235 => (some (decide (bt235.2 ≥ 0)))) = some r := h
 clear h
 replace H := Option.bind_eq_some_iff.mp H
 obtain ⟨⟨t235, t236⟩, A30, H⟩ := H
 replace H : (some (decide (t236 ≥ 0))) = some r := H
 have A3 := Aside0.mk A30
 clear A30
 obtain rfl := Option.some.inj H
 go_enter Try.func19, Try.ntmps19
 go_wp2_with (first | ((with_reducible refine gate_callee (f := 26) rfl ?_); refine goesL_ (some 10) rfl rfl Try.func26 (by kernel_rfl) rfl #[.slice A0 l0.length c0, .int .i64 a1] rfl (by (try simp only [List.map_toArray, List.map_cons, List.map_nil]); first | done | rfl | (simp only [List.length_drop, List.length_take]; rfl)) ?_; (with_reducible refine (image_find.calls k _ _ l0 a1 t235 t236 _ ?side1 ?side2 A3.out).mono ?_); (case side1 => repeat (first | exact HR0.out | (with_reducible refine Kd.C_alloc ?_ _) | (with_reducible refine Kd.C_drewN ?_ _) | (with_reducible refine Kd.C_drew ?_))); (case side2 => exact HC0.out); rintro e w4 ⟨v237, rfl, ho0, hb⟩; refine ⟨_, rfl, ?_⟩; have n0_ := Aside0.mk (Kd.R_lower ho0 (below_size (by repeat (first | (with_reducible first | exact HB.out | apply below_alloc | apply pw_below_drewN | apply below_drew1) | exact HB.out)))); have n1_ := Aside0.mk (below_step (by repeat (first | (with_reducible first | exact HB.out | apply below_alloc | apply pw_below_drewN | apply below_drew1) | exact HB.out)) hb); clear HB; have HO238 := n0_; have HB := n1_; clear n0_ n1_; (try clear hb); (try clear hb2); (try clear hk); (try clear hi); (try clear ho0)))
 go_ret
 exact ⟨by first | rfl | (simp [errW_none, errW_some] <;> rfl) | (simp [*, errW_none, errW_some] <;> rfl), by repeat (first | (with_reducible first | exact HB.out | apply below_alloc | apply pw_below_drewN | apply below_drew1) | exact HB.out)⟩

/-! ### darninglaw19_awake: function 6 -/
def darninglaw19_awake.f (k : Nat)  : Option (Bool) := (chain_First.f 16).bind fun t239 => ((image_Alloc.f k t239 8 ([] : List Int)).bind fun bt242 => ((darningref4_Apply.f k t239 bt242.1).bind fun t247 => ((image_Write.f k t247 bt242.2.1 (([7] : List Int))).bind fun bt253 => ((darningref4_Apply.f k t247 bt253.1).bind fun t257 => ((image_Read.f k t257 bt242.2.1 2).bind fun bt260 => (if bt242.2.2 = 0 then (if bt242.2.1 = 8 then (if bt253.2 = 0 then (if bt260.2 = 0 then (if (strOfNums bt260.1).toList = ([7, 0] : List UInt8) then ((image_Is.f k t257 8).bind fun t264 => (if t264 = true then ((image_Holds.f k t257 8 8).bind fun t265 => (if t265 = true then ((image_Holds.f k t257 8 9).bind fun t266 => (some (!t266))) else (some false))) else (some false))) else (some false)) else (some false)) else (some false)) else (some false)) else (some false)))))))
theorem darninglaw19_awake.mono : ∀ k, LeO (darninglaw19_awake.f k ) (darninglaw19_awake.f (k + 1) ) := by
 intro  k
 unfold darninglaw19_awake.f
 repeat' first
   | (with_reducible exact darningref4_Apply.mono _ _ _)
   | (with_reducible exact image_Alloc.mono _ _ _ _)
   | (with_reducible exact image_Holds.mono _ _ _ _)
   | (with_reducible exact image_Is.mono _ _ _)
   | (with_reducible exact image_Read.mono _ _ _ _)
   | (with_reducible exact image_Write.mono _ _ _ _)
   | (with_reducible exact LeO.refl _)
   | (with_reducible exact LeO.none _)
   | (with_reducible refine LeO.ite ?_ ?_)
   | (with_reducible refine LeO.bind ?_ (fun _ => ?_))
   | exact darningref4_Apply.mono _ _ _
   | exact image_Alloc.mono _ _ _ _
   | exact image_Holds.mono _ _ _ _
   | exact image_Is.mono _ _ _
   | exact image_Read.mono _ _ _ _
   | exact image_Write.mono _ _ _ _
   | exact LeO.none _
   | refine LeO.ite ?_ ?_
   | refine LeO.bind ?_ (fun _ => ?_)
set_option maxHeartbeats 8000000 in
set_option maxRecDepth 100000 in
theorem darninglaw19_awake.calls (k : Nat)  (w : World) (h : darninglaw19_awake.f k  = some true) :
  Calls Try.prog 6 #[] w fun e w' => e = .returned (.bool true) ∧ Below w.heap.size w w' := by
 have HB := Aside0.mk (Below.refl w.heap.size w)
 have H : ((chain_First.f 16).bind fun t239 => ((image_Alloc.f k t239 8 ([] : List Int)).bind fun bt242 => ((darningref4_Apply.f k t239 bt242.1).bind fun t247 => ((image_Write.f k t247 bt242.2.1 (([7] : List Int))).bind fun bt253 => ((darningref4_Apply.f k t247 bt253.1).bind fun t257 => ((image_Read.f k t257 bt242.2.1 2).bind fun bt260 => (if bt242.2.2 = 0 then (if bt242.2.1 = 8 then (if bt253.2 = 0 then (if bt260.2 = 0 then (if (strOfNums bt260.1).toList = ([7, 0] : List UInt8) then ((image_Is.f k t257 8).bind fun t264 => (if t264 = true then ((image_Holds.f k t257 8 8).bind fun t265 => (if t265 = true then ((image_Holds.f k t257 8 9).bind fun t266 => (some (!t266))) else (some false))) else (some false))) else (some false)) else (some false)) else (some false)) else (some false)) else (some false)))))))) = some true := h
 clear h
 replace H := Option.bind_eq_some_iff.mp H
 obtain ⟨t239, A10, H⟩ := H
 replace H : ((image_Alloc.f k t239 8 ([] : List Int)).bind fun bt242 => ((darningref4_Apply.f k t239 bt242.1).bind fun t247 => ((image_Write.f k t247 bt242.2.1 (([7] : List Int))).bind fun bt253 => ((darningref4_Apply.f k t247 bt253.1).bind fun t257 => ((image_Read.f k t257 bt242.2.1 2).bind fun bt260 => (if bt242.2.2 = 0 then (if bt242.2.1 = 8 then (if bt253.2 = 0 then (if bt260.2 = 0 then (if (strOfNums bt260.1).toList = ([7, 0] : List UInt8) then ((image_Is.f k t257 8).bind fun t264 => (if t264 = true then ((image_Holds.f k t257 8 8).bind fun t265 => (if t265 = true then ((image_Holds.f k t257 8 9).bind fun t266 => (some (!t266))) else (some false))) else (some false))) else (some false)) else (some false)) else (some false)) else (some false)) else (some false))))))) = some true := H
 have A1 := Aside0.mk A10
 clear A10
 replace H := Option.bind_eq_some_iff.mp H
 obtain ⟨⟨t242, t243, t244⟩, A20, H⟩ := H
 replace H : ((darningref4_Apply.f k t239 t242).bind fun t247 => ((image_Write.f k t247 t243 (([7] : List Int))).bind fun bt253 => ((darningref4_Apply.f k t247 bt253.1).bind fun t257 => ((image_Read.f k t257 t243 2).bind fun bt260 => (if t244 = 0 then (if t243 = 8 then (if bt253.2 = 0 then (if bt260.2 = 0 then (if (strOfNums bt260.1).toList = ([7, 0] : List UInt8) then ((image_Is.f k t257 8).bind fun t264 => (if t264 = true then ((image_Holds.f k t257 8 8).bind fun t265 => (if t265 = true then ((image_Holds.f k t257 8 9).bind fun t266 => (some (!t266))) else (some false))) else (some false))) else (some false)) else (some false)) else (some false)) else (some false)) else (some false)))))) = some true := H
 have A2 := Aside0.mk A20
 clear A20
 replace H := Option.bind_eq_some_iff.mp H
 obtain ⟨t247, A30, H⟩ := H
 replace H : ((image_Write.f k t247 t243 (([7] : List Int))).bind fun bt253 => ((darningref4_Apply.f k t247 bt253.1).bind fun t257 => ((image_Read.f k t257 t243 2).bind fun bt260 => (if t244 = 0 then (if t243 = 8 then (if bt253.2 = 0 then (if bt260.2 = 0 then (if (strOfNums bt260.1).toList = ([7, 0] : List UInt8) then ((image_Is.f k t257 8).bind fun t264 => (if t264 = true then ((image_Holds.f k t257 8 8).bind fun t265 => (if t265 = true then ((image_Holds.f k t257 8 9).bind fun t266 => (some (!t266))) else (some false))) else (some false))) else (some false)) else (some false)) else (some false)) else (some false)) else (some false))))) = some true := H
 have A3 := Aside0.mk A30
 clear A30
 obtain ⟨y250, hy250⟩ : ∃ y_ : List Int, y_ = (([7] : List Int)) := ⟨_, rfl⟩
 replace H : ((image_Write.f k t247 t243 y250).bind fun bt253 => ((darningref4_Apply.f k t247 bt253.1).bind fun t257 => ((image_Read.f k t257 t243 2).bind fun bt260 => (if t244 = 0 then (if t243 = 8 then (if bt253.2 = 0 then (if bt260.2 = 0 then (if (strOfNums bt260.1).toList = ([7, 0] : List UInt8) then ((image_Is.f k t257 8).bind fun t264 => (if t264 = true then ((image_Holds.f k t257 8 8).bind fun t265 => (if t265 = true then ((image_Holds.f k t257 8 9).bind fun t266 => (some (!t266))) else (some false))) else (some false))) else (some false)) else (some false)) else (some false)) else (some false)) else (some false))))) = some true := by first | (rw [hy250]; with_reducible exact H) | (have H2_ := (Option.bind_some _ _).symm.trans H; rw [hy250]; with_reducible exact H2_) | (have H2_ := (Option.bind_some _ _).symm.trans H; with_reducible exact H2_) | with_reducible exact H | (rw [hy250]; exact H) | exact H
 have Ny250 := Aside0.mk hy250
 clear hy250
 replace H := Option.bind_eq_some_iff.mp H
 obtain ⟨⟨t253, t254⟩, A40, H⟩ := H
 replace H : ((darningref4_Apply.f k t247 t253).bind fun t257 => ((image_Read.f k t257 t243 2).bind fun bt260 => (if t244 = 0 then (if t243 = 8 then (if t254 = 0 then (if bt260.2 = 0 then (if (strOfNums bt260.1).toList = ([7, 0] : List UInt8) then ((image_Is.f k t257 8).bind fun t264 => (if t264 = true then ((image_Holds.f k t257 8 8).bind fun t265 => (if t265 = true then ((image_Holds.f k t257 8 9).bind fun t266 => (some (!t266))) else (some false))) else (some false))) else (some false)) else (some false)) else (some false)) else (some false)) else (some false)))) = some true := H
 have A4 := Aside0.mk A40
 clear A40
 replace H := Option.bind_eq_some_iff.mp H
 obtain ⟨t257, A50, H⟩ := H
 replace H : ((image_Read.f k t257 t243 2).bind fun bt260 => (if t244 = 0 then (if t243 = 8 then (if t254 = 0 then (if bt260.2 = 0 then (if (strOfNums bt260.1).toList = ([7, 0] : List UInt8) then ((image_Is.f k t257 8).bind fun t264 => (if t264 = true then ((image_Holds.f k t257 8 8).bind fun t265 => (if t265 = true then ((image_Holds.f k t257 8 9).bind fun t266 => (some (!t266))) else (some false))) else (some false))) else (some false)) else (some false)) else (some false)) else (some false)) else (some false))) = some true := H
 have A5 := Aside0.mk A50
 clear A50
 replace H := Option.bind_eq_some_iff.mp H
 obtain ⟨⟨t260, t261⟩, A60, H⟩ := H
 replace H : (if t244 = 0 then (if t243 = 8 then (if t254 = 0 then (if t261 = 0 then (if (strOfNums t260).toList = ([7, 0] : List UInt8) then ((image_Is.f k t257 8).bind fun t264 => (if t264 = true then ((image_Holds.f k t257 8 8).bind fun t265 => (if t265 = true then ((image_Holds.f k t257 8 9).bind fun t266 => (some (!t266))) else (some false))) else (some false))) else (some false)) else (some false)) else (some false)) else (some false)) else (some false)) = some true := H
 have A6 := Aside0.mk A60
 clear A60
 by_cases c7 : t244 = 0
 ·
  rw [if_pos c7] at H
  have c7b0 : (t244 == 0) = true := beq_iff_eq.mpr c7
  have c7b1 : (t244 != 0) = false := bne_eq_false_iff_eq.mpr c7
  clear c7
  by_cases c8 : t243 = 8
  ·
   rw [if_pos c8] at H
   have c8b0 : (t243 == 8) = true := beq_iff_eq.mpr c8
   have c8b1 : (t243 != 8) = false := bne_eq_false_iff_eq.mpr c8
   clear c8
   by_cases c9 : t254 = 0
   ·
    rw [if_pos c9] at H
    have c9b0 : (t254 == 0) = true := beq_iff_eq.mpr c9
    have c9b1 : (t254 != 0) = false := bne_eq_false_iff_eq.mpr c9
    clear c9
    by_cases c10 : t261 = 0
    ·
     rw [if_pos c10] at H
     have c10b0 : (t261 == 0) = true := beq_iff_eq.mpr c10
     have c10b1 : (t261 != 0) = false := bne_eq_false_iff_eq.mpr c10
     clear c10
     by_cases c11 : (strOfNums t260).toList = ([7, 0] : List UInt8)
     ·
      rw [if_pos c11] at H
      have c11b0 : ((strOfNums t260).toList == ([7, 0] : List UInt8)) = true := beq_iff_eq.mpr c11
      have c11b1 : ((strOfNums t260).toList != ([7, 0] : List UInt8)) = false := bne_eq_false_iff_eq.mpr c11
      clear c11
      replace H := Option.bind_eq_some_iff.mp H
      obtain ⟨t264, A120, H⟩ := H
      replace H : (if t264 = true then ((image_Holds.f k t257 8 8).bind fun t265 => (if t265 = true then ((image_Holds.f k t257 8 9).bind fun t266 => (some (!t266))) else (some false))) else (some false)) = some true := H
      have A12 := Aside0.mk A120
      clear A120
      by_cases c13 : t264 = true
      ·
       subst c13
       have H1 : ((image_Holds.f k t257 8 8).bind fun t265 => (if t265 = true then ((image_Holds.f k t257 8 9).bind fun t266 => (some (!t266))) else (some false))) = some true := by rw [if_pos rfl] at H; exact H
       clear H
       have H := H1
       clear H1
       replace H := Option.bind_eq_some_iff.mp H
       obtain ⟨t265, A140, H⟩ := H
       replace H : (if t265 = true then ((image_Holds.f k t257 8 9).bind fun t266 => (some (!t266))) else (some false)) = some true := H
       have A14 := Aside0.mk A140
       clear A140
       by_cases c15 : t265 = true
       ·
        subst c15
        have H1 : ((image_Holds.f k t257 8 9).bind fun t266 => (some (!t266))) = some true := by rw [if_pos rfl] at H; exact H
        clear H
        have H := H1
        clear H1
        replace H := Option.bind_eq_some_iff.mp H
        obtain ⟨t266, A160, H⟩ := H
        replace H : (some (!t266)) = some true := H
        have A16 := Aside0.mk A160
        clear A160
        obtain rfl : t266 = false := by simpa using Option.some.inj H
        go_enter Try.func6, Try.ntmps6
        go_wp2_with (first | ((with_reducible refine gate_callee (f := 13) rfl ?_); refine goesL_ (some 9) rfl rfl Try.func13 (by kernel_rfl) rfl #[.int .i64 16] rfl (by (try simp only [List.map_toArray, List.map_cons, List.map_nil]); first | done | rfl | (simp only [List.length_drop, List.length_take]; rfl)) ?_; (with_reducible refine (chain_First.calls 16 t239 _ A1.out).mono ?_); rintro e w17 ⟨v240, rfl, ho0, hb⟩; refine ⟨_, rfl, ?_⟩; have n0_ := Aside0.mk (Kd.R_lower ho0 (below_size (by repeat (first | (with_reducible first | exact HB.out | apply below_alloc | apply pw_below_drewN | apply below_drew1) | exact HB.out)))); have n1_ := Aside0.mk (below_step (by repeat (first | (with_reducible first | exact HB.out | apply below_alloc | apply pw_below_drewN | apply below_drew1) | exact HB.out)) hb); clear HB; have HO241 := n0_; have HB := n1_; clear n0_ n1_; (try clear hb); (try clear hb2); (try clear hk); (try clear hi); (try clear ho0); obtain ⟨Ao18, co18, eo18⟩ := Kd.R_slice HO241.out; subst eo18) | ((with_reducible refine gate_callee (f := 8) rfl ?_); refine goesL_ (some 12) rfl rfl Try.func8 (by kernel_rfl) rfl #[.slice Ao18 t239.length co18, .int .i64 8, .slice none 0 0] rfl (by (try simp only [List.map_toArray, List.map_cons, List.map_nil]); first | done | rfl | (simp only [List.length_drop, List.length_take]; rfl)) ?_; (refine (image_Alloc.calls k _ _ t239 8 _ _ ([] : List Int) t242 t243 t244 _ ?side1 ?side2 ?side3 ?side4 A2.out).mono ?_); (case side1 => repeat (first | exact (Kd.R_reads' HO241.out).2.2 | (with_reducible refine Kd.C_alloc ?_ _) | (with_reducible refine Kd.C_drewN ?_ _) | (with_reducible refine Kd.C_drew ?_))); (case side2 => exact (Kd.R_reads' HO241.out).2.1); (case side3 => exact Kd.C_nil _ _); (case side4 => exact Nat.le_refl _); rintro e w19 ⟨v245, rfl, ho0, hb⟩; refine ⟨_, rfl, ?_⟩; have n0_ := Aside0.mk (Kd.R_below (by (with_reducible repeat (first | apply Kd.R_alloc | apply Kd.R_drewN | apply Kd.R_drew)); exact HO241.out) hb); have n1_ := Aside0.mk (Kd.R_lower ho0 (below_size (by repeat (first | (with_reducible first | exact HB.out | apply below_alloc | apply pw_below_drewN | apply below_drew1) | exact HB.out)))); have n2_ := Aside0.mk (below_step (by repeat (first | (with_reducible first | exact HB.out | apply below_alloc | apply pw_below_drewN | apply below_drew1) | exact HB.out)) hb); clear HO241; clear HB; have HO241 := n0_; have HO246 := n1_; have HB := n2_; clear n0_ n1_ n2_; (try clear hb); (try clear hb2); (try clear hk); (try clear hi); (try clear ho0); obtain ⟨Ao20, co20, eo20⟩ := Kd.R_slice HO246.out; subst eo20) | ((with_reducible refine gate_callee (f := 9) rfl ?_); refine goesL_ (some 18) rfl rfl Try.func9 (by kernel_rfl) rfl #[.slice Ao18 t239.length co18, .slice Ao20 t242.length co20] rfl (by (try simp only [List.map_toArray, List.map_cons, List.map_nil]); first | done | rfl | (simp only [List.length_drop, List.length_take]; rfl)) ?_; (with_reducible refine (darningref4_Apply.calls k _ _ t239 _ _ t242 t247 _ ?side1 ?side2 ?side3 ?side4 A3.out).mono ?_); (case side1 => repeat (first | exact (Kd.R_reads' HO241.out).2.2 | (with_reducible refine Kd.C_alloc ?_ _) | (with_reducible refine Kd.C_drewN ?_ _) | (with_reducible refine Kd.C_drew ?_))); (case side2 => exact (Kd.R_reads' HO241.out).2.1); (case side3 => repeat (first | exact (Kd.R_reads' HO246.out).2.2 | (with_reducible refine Kd.C_alloc ?_ _) | (with_reducible refine Kd.C_drewN ?_ _) | (with_reducible refine Kd.C_drew ?_))); (case side4 => exact (Kd.R_reads' HO246.out).2.1); rintro e w21 ⟨v248, rfl, ho0, hb⟩; refine ⟨_, rfl, ?_⟩; have n0_ := Aside0.mk (Kd.R_elder' (by (with_reducible repeat (first | apply Kd.R_alloc | apply Kd.R_drewN | apply Kd.R_drew)); exact HO241.out) (Kd.R_base ho0) hb); have n1_ := Aside0.mk (Kd.R_below (by (with_reducible repeat (first | apply Kd.R_alloc | apply Kd.R_drewN | apply Kd.R_drew)); exact HO246.out) hb); have n2_ := Aside0.mk (Kd.R_lower (Kd.R_new' ho0 (Kd.R_lt (by (with_reducible repeat (first | apply Kd.R_alloc | apply Kd.R_drewN | apply Kd.R_drew)); exact HO241.out))) (below_size (by repeat (first | (with_reducible first | exact HB.out | apply below_alloc | apply pw_below_drewN | apply below_drew1) | exact HB.out)))); have n3_ := Aside0.mk (below_step (by repeat (first | (with_reducible first | exact HB.out | apply below_alloc | apply pw_below_drewN | apply below_drew1) | exact HB.out)) hb); clear HO241; clear HO246; clear HB; have HO241 := n0_; have HO246 := n1_; have HO249 := n2_; have HB := n3_; clear n0_ n1_ n2_ n3_; (try clear hb); (try clear hb2); (try clear hk); (try clear hi); (try clear ho0)) | ((with_reducible refine gate_dst (N := 22) rfl ?_); refine Kd.R_lit (Kd.int .u8) _ 5 ?hg (N := 22) ?hd (xs := ([7] : List Int)) (inner := [.int .u8 7]) (ok := fun _ => True) (okp := fun _ => True) ?hr ?hp (fun _ hk => hk) trivial (Below.refl _ _) (Nat.le_refl _) (by simp) ?_; (case hd => rfl); (case hg => rfl); (case hr => first | (go_simp; done) | (go_simp; rfl)); (case hp => exact (Reps.one (show Kd.M (Kd.int .u8) _ _ _ 7 [.int .u8 7] from rfl) (Reps.none _ _))); intro v251 w22 ho23 hb hg_ hnew_; clear hg_ hnew_; (first | rw [← Ny250.out] at ho23 | (simp only [Int.reduceToNat] at ho23; rw [← Ny250.out] at ho23)); have n0_ := Aside0.mk (Kd.R_below (by (with_reducible repeat (first | apply Kd.R_alloc | apply Kd.R_drewN | apply Kd.R_drew)); exact HO241.out) hb); have n1_ := Aside0.mk (Kd.R_below (by (with_reducible repeat (first | apply Kd.R_alloc | apply Kd.R_drewN | apply Kd.R_drew)); exact HO246.out) hb); have n2_ := Aside0.mk (Kd.R_below (by (with_reducible repeat (first | apply Kd.R_alloc | apply Kd.R_drewN | apply Kd.R_drew)); exact HO249.out) hb); have n3_ := Aside0.mk (Kd.R_lower ho23 (below_size (by repeat (first | (with_reducible first | exact HB.out | apply below_alloc | apply pw_below_drewN | apply below_drew1) | exact HB.out)))); have n4_ := Aside0.mk (below_step (by repeat (first | (with_reducible first | exact HB.out | apply below_alloc | apply pw_below_drewN | apply below_drew1) | exact HB.out)) hb); clear HO241; clear HO246; clear HO249; clear HB; have HO241 := n0_; have HO246 := n1_; have HO249 := n2_; have HO252 := n3_; have HB := n4_; clear n0_ n1_ n2_ n3_ n4_; clear hb ho23; obtain ⟨Ao24, co24, eo24⟩ := Kd.R_slice HO249.out; subst eo24; obtain ⟨Ao25, co25, eo25⟩ := Kd.R_slice HO252.out; subst eo25) | ((with_reducible refine gate_callee (f := 17) rfl ?_); refine goesL_ (some 23) rfl rfl Try.func17 (by kernel_rfl) rfl #[.slice Ao24 t247.length co24, .int .i64 t243, .slice Ao25 y250.length co25] rfl (by (try simp only [List.map_toArray, List.map_cons, List.map_nil]); first | done | rfl | (simp only [List.length_drop, List.length_take]; rfl)) ?_; (with_reducible refine (image_Write.calls k _ _ t247 t243 _ _ y250 t253 t254 _ ?side1 ?side2 ?side3 ?side4 A4.out).mono ?_); (case side1 => repeat (first | exact (Kd.R_reads' HO249.out).2.2 | (with_reducible refine Kd.C_alloc ?_ _) | (with_reducible refine Kd.C_drewN ?_ _) | (with_reducible refine Kd.C_drew ?_))); (case side2 => exact (Kd.R_reads' HO249.out).2.1); (case side3 => repeat (first | exact (Kd.R_reads' HO252.out).2.2 | (with_reducible refine Kd.C_alloc ?_ _) | (with_reducible refine Kd.C_drewN ?_ _) | (with_reducible refine Kd.C_drew ?_))); (case side4 => exact (Kd.R_reads' HO252.out).2.1); rintro e w26 ⟨v255, rfl, ho0, hb⟩; refine ⟨_, rfl, ?_⟩; have n0_ := Aside0.mk (Kd.R_below (by (with_reducible repeat (first | apply Kd.R_alloc | apply Kd.R_drewN | apply Kd.R_drew)); exact HO241.out) hb); have n1_ := Aside0.mk (Kd.R_elder' (by (with_reducible repeat (first | apply Kd.R_alloc | apply Kd.R_drewN | apply Kd.R_drew)); exact HO246.out) (Kd.R_base ho0) hb); have n2_ := Aside0.mk (Kd.R_below (by (with_reducible repeat (first | apply Kd.R_alloc | apply Kd.R_drewN | apply Kd.R_drew)); exact HO249.out) hb); have n3_ := Aside0.mk (Kd.R_below (by (with_reducible repeat (first | apply Kd.R_alloc | apply Kd.R_drewN | apply Kd.R_drew)); exact HO252.out) hb); have n4_ := Aside0.mk (Kd.R_lower (Kd.R_new' ho0 (Kd.R_lt (by (with_reducible repeat (first | apply Kd.R_alloc | apply Kd.R_drewN | apply Kd.R_drew)); exact HO246.out))) (below_size (by repeat (first | (with_reducible first | exact HB.out | apply below_alloc | apply pw_below_drewN | apply below_drew1) | exact HB.out)))); have n5_ := Aside0.mk (below_step (by repeat (first | (with_reducible first | exact HB.out | apply below_alloc | apply pw_below_drewN | apply below_drew1) | exact HB.out)) hb); clear HO241; clear HO246; clear HO249; clear HO252; clear HB; have HO241 := n0_; have HO246 := n1_; have HO249 := n2_; have HO252 := n3_; have HO256 := n4_; have HB := n5_; clear n0_ n1_ n2_ n3_ n4_ n5_; (try clear hb); (try clear hb2); (try clear hk); (try clear hi); (try clear ho0); obtain ⟨Ao27, co27, eo27⟩ := Kd.R_slice HO256.out; subst eo27) | ((with_reducible refine gate_callee (f := 9) rfl ?_); refine goesL_ (some 28) rfl rfl Try.func9 (by kernel_rfl) rfl #[.slice Ao24 t247.length co24, .slice Ao27 t253.length co27] rfl (by (try simp only [List.map_toArray, List.map_cons, List.map_nil]); first | done | rfl | (simp only [List.length_drop, List.length_take]; rfl)) ?_; (with_reducible refine (darningref4_Apply.calls k _ _ t247 _ _ t253 t257 _ ?side1 ?side2 ?side3 ?side4 A5.out).mono ?_); (case side1 => repeat (first | exact (Kd.R_reads' HO249.out).2.2 | (with_reducible refine Kd.C_alloc ?_ _) | (with_reducible refine Kd.C_drewN ?_ _) | (with_reducible refine Kd.C_drew ?_))); (case side2 => exact (Kd.R_reads' HO249.out).2.1); (case side3 => repeat (first | exact (Kd.R_reads' HO256.out).2.2 | (with_reducible refine Kd.C_alloc ?_ _) | (with_reducible refine Kd.C_drewN ?_ _) | (with_reducible refine Kd.C_drew ?_))); (case side4 => exact (Kd.R_reads' HO256.out).2.1); rintro e w28 ⟨v258, rfl, ho0, hb⟩; refine ⟨_, rfl, ?_⟩; have n0_ := Aside0.mk (Kd.R_elder' (by (with_reducible repeat (first | apply Kd.R_alloc | apply Kd.R_drewN | apply Kd.R_drew)); exact HO241.out) (Kd.R_base ho0) hb); have n1_ := Aside0.mk (Kd.R_below (by (with_reducible repeat (first | apply Kd.R_alloc | apply Kd.R_drewN | apply Kd.R_drew)); exact HO246.out) hb); have n2_ := Aside0.mk (Kd.R_elder' (by (with_reducible repeat (first | apply Kd.R_alloc | apply Kd.R_drewN | apply Kd.R_drew)); exact HO249.out) (Kd.R_base ho0) hb); have n3_ := Aside0.mk (Kd.R_below (by (with_reducible repeat (first | apply Kd.R_alloc | apply Kd.R_drewN | apply Kd.R_drew)); exact HO252.out) hb); have n4_ := Aside0.mk (Kd.R_below (by (with_reducible repeat (first | apply Kd.R_alloc | apply Kd.R_drewN | apply Kd.R_drew)); exact HO256.out) hb); have n5_ := Aside0.mk (Kd.R_lower (Kd.R_new' (Kd.R_new' ho0 (Kd.R_lt (by (with_reducible repeat (first | apply Kd.R_alloc | apply Kd.R_drewN | apply Kd.R_drew)); exact HO241.out))) (Kd.R_lt (by (with_reducible repeat (first | apply Kd.R_alloc | apply Kd.R_drewN | apply Kd.R_drew)); exact HO249.out))) (below_size (by repeat (first | (with_reducible first | exact HB.out | apply below_alloc | apply pw_below_drewN | apply below_drew1) | exact HB.out)))); have n6_ := Aside0.mk (below_step (by repeat (first | (with_reducible first | exact HB.out | apply below_alloc | apply pw_below_drewN | apply below_drew1) | exact HB.out)) hb); clear HO241; clear HO246; clear HO249; clear HO252; clear HO256; clear HB; have HO241 := n0_; have HO246 := n1_; have HO249 := n2_; have HO252 := n3_; have HO256 := n4_; have HO259 := n5_; have HB := n6_; clear n0_ n1_ n2_ n3_ n4_ n5_ n6_; (try clear hb); (try clear hb2); (try clear hk); (try clear hi); (try clear ho0); obtain ⟨Ao29, co29, eo29⟩ := Kd.R_slice HO259.out; subst eo29) | ((with_reducible refine gate_callee (f := 18) rfl ?_); refine goesL_ (some 32) rfl rfl Try.func18 (by kernel_rfl) rfl #[.slice Ao29 t257.length co29, .int .i64 t243, .int .i64 2] rfl (by (try simp only [List.map_toArray, List.map_cons, List.map_nil]); first | done | rfl | (simp only [List.length_drop, List.length_take]; rfl)) ?_; (with_reducible refine (image_Read.calls k _ _ t257 t243 2 t260 t261 _ ?side1 ?side2 A6.out).mono ?_); (case side1 => repeat (first | exact (Kd.R_reads' HO259.out).2.2 | (with_reducible refine Kd.C_alloc ?_ _) | (with_reducible refine Kd.C_drewN ?_ _) | (with_reducible refine Kd.C_drew ?_))); (case side2 => exact (Kd.R_reads' HO259.out).2.1); rintro e w30 ⟨v262, rfl, ho0, hb⟩; refine ⟨_, rfl, ?_⟩; have n0_ := Aside0.mk (Kd.R_below (by (with_reducible repeat (first | apply Kd.R_alloc | apply Kd.R_drewN | apply Kd.R_drew)); exact HO241.out) hb); have n1_ := Aside0.mk (Kd.R_below (by (with_reducible repeat (first | apply Kd.R_alloc | apply Kd.R_drewN | apply Kd.R_drew)); exact HO246.out) hb); have n2_ := Aside0.mk (Kd.R_below (by (with_reducible repeat (first | apply Kd.R_alloc | apply Kd.R_drewN | apply Kd.R_drew)); exact HO249.out) hb); have n3_ := Aside0.mk (Kd.R_elder' (by (with_reducible repeat (first | apply Kd.R_alloc | apply Kd.R_drewN | apply Kd.R_drew)); exact HO252.out) (Kd.R_base ho0) hb); have n4_ := Aside0.mk (Kd.R_below (by (with_reducible repeat (first | apply Kd.R_alloc | apply Kd.R_drewN | apply Kd.R_drew)); exact HO256.out) hb); have n5_ := Aside0.mk (Kd.R_below (by (with_reducible repeat (first | apply Kd.R_alloc | apply Kd.R_drewN | apply Kd.R_drew)); exact HO259.out) hb); have n6_ := Aside0.mk (Kd.R_lower (Kd.R_new' ho0 (Kd.R_lt (by (with_reducible repeat (first | apply Kd.R_alloc | apply Kd.R_drewN | apply Kd.R_drew)); exact HO252.out))) (below_size (by repeat (first | (with_reducible first | exact HB.out | apply below_alloc | apply pw_below_drewN | apply below_drew1) | exact HB.out)))); have n7_ := Aside0.mk (below_step (by repeat (first | (with_reducible first | exact HB.out | apply below_alloc | apply pw_below_drewN | apply below_drew1) | exact HB.out)) hb); clear HO241; clear HO246; clear HO249; clear HO252; clear HO256; clear HO259; clear HB; have HO241 := n0_; have HO246 := n1_; have HO249 := n2_; have HO252 := n3_; have HO256 := n4_; have HO259 := n5_; have HO263 := n6_; have HB := n7_; clear n0_ n1_ n2_ n3_ n4_ n5_ n6_ n7_; (try clear hb); (try clear hb2); (try clear hk); (try clear hi); (try clear ho0); have hcv31 := own_string (P := Try.prog) Try.underlying47 Try.underlying5 Try.underlying9 (Kd.own_of_R HO263.out)) | (go_at_call 19; (with_reducible refine (image_Is.calls k _ _ t257 8 true _ ?side1 ?side2 A12.out).mono ?_); (case side1 => repeat (first | exact (Kd.R_reads' HO259.out).2.2 | (with_reducible refine Kd.C_alloc ?_ _) | (with_reducible refine Kd.C_drewN ?_ _) | (with_reducible refine Kd.C_drew ?_))); (case side2 => exact (Kd.R_reads' HO259.out).2.1); rintro e w32 ⟨rfl, hb⟩; have n0_ := Aside0.mk (Kd.R_below (by (with_reducible repeat (first | apply Kd.R_alloc | apply Kd.R_drewN | apply Kd.R_drew)); exact HO241.out) hb); have n1_ := Aside0.mk (Kd.R_below (by (with_reducible repeat (first | apply Kd.R_alloc | apply Kd.R_drewN | apply Kd.R_drew)); exact HO246.out) hb); have n2_ := Aside0.mk (Kd.R_below (by (with_reducible repeat (first | apply Kd.R_alloc | apply Kd.R_drewN | apply Kd.R_drew)); exact HO249.out) hb); have n3_ := Aside0.mk (Kd.R_below (by (with_reducible repeat (first | apply Kd.R_alloc | apply Kd.R_drewN | apply Kd.R_drew)); exact HO252.out) hb); have n4_ := Aside0.mk (Kd.R_below (by (with_reducible repeat (first | apply Kd.R_alloc | apply Kd.R_drewN | apply Kd.R_drew)); exact HO256.out) hb); have n5_ := Aside0.mk (Kd.R_below (by (with_reducible repeat (first | apply Kd.R_alloc | apply Kd.R_drewN | apply Kd.R_drew)); exact HO259.out) hb); have n6_ := Aside0.mk (Kd.R_below (by (with_reducible repeat (first | apply Kd.R_alloc | apply Kd.R_drewN | apply Kd.R_drew)); exact HO263.out) hb); have n7_ := Aside0.mk (below_step (by repeat (first | (with_reducible first | exact HB.out | apply below_alloc | apply pw_below_drewN | apply below_drew1) | exact HB.out)) hb); clear HO241; clear HO246; clear HO249; clear HO252; clear HO256; clear HO259; clear HO263; clear HB; have HO241 := n0_; have HO246 := n1_; have HO249 := n2_; have HO252 := n3_; have HO256 := n4_; have HO259 := n5_; have HO263 := n6_; have HB := n7_; clear n0_ n1_ n2_ n3_ n4_ n5_ n6_ n7_; (try clear hb); (try clear hb2); (try clear hk); (try clear hi)) | (go_at_call 20; (with_reducible refine (image_Holds.calls k _ _ t257 8 8 true _ ?side1 ?side2 A14.out).mono ?_); (case side1 => repeat (first | exact (Kd.R_reads' HO259.out).2.2 | (with_reducible refine Kd.C_alloc ?_ _) | (with_reducible refine Kd.C_drewN ?_ _) | (with_reducible refine Kd.C_drew ?_))); (case side2 => exact (Kd.R_reads' HO259.out).2.1); rintro e w33 ⟨rfl, hb⟩; have n0_ := Aside0.mk (Kd.R_below (by (with_reducible repeat (first | apply Kd.R_alloc | apply Kd.R_drewN | apply Kd.R_drew)); exact HO241.out) hb); have n1_ := Aside0.mk (Kd.R_below (by (with_reducible repeat (first | apply Kd.R_alloc | apply Kd.R_drewN | apply Kd.R_drew)); exact HO246.out) hb); have n2_ := Aside0.mk (Kd.R_below (by (with_reducible repeat (first | apply Kd.R_alloc | apply Kd.R_drewN | apply Kd.R_drew)); exact HO249.out) hb); have n3_ := Aside0.mk (Kd.R_below (by (with_reducible repeat (first | apply Kd.R_alloc | apply Kd.R_drewN | apply Kd.R_drew)); exact HO252.out) hb); have n4_ := Aside0.mk (Kd.R_below (by (with_reducible repeat (first | apply Kd.R_alloc | apply Kd.R_drewN | apply Kd.R_drew)); exact HO256.out) hb); have n5_ := Aside0.mk (Kd.R_below (by (with_reducible repeat (first | apply Kd.R_alloc | apply Kd.R_drewN | apply Kd.R_drew)); exact HO259.out) hb); have n6_ := Aside0.mk (Kd.R_below (by (with_reducible repeat (first | apply Kd.R_alloc | apply Kd.R_drewN | apply Kd.R_drew)); exact HO263.out) hb); have n7_ := Aside0.mk (below_step (by repeat (first | (with_reducible first | exact HB.out | apply below_alloc | apply pw_below_drewN | apply below_drew1) | exact HB.out)) hb); clear HO241; clear HO246; clear HO249; clear HO252; clear HO256; clear HO259; clear HO263; clear HB; have HO241 := n0_; have HO246 := n1_; have HO249 := n2_; have HO252 := n3_; have HO256 := n4_; have HO259 := n5_; have HO263 := n6_; have HB := n7_; clear n0_ n1_ n2_ n3_ n4_ n5_ n6_ n7_; (try clear hb); (try clear hb2); (try clear hk); (try clear hi)) | (go_at_call 20; (with_reducible refine (image_Holds.calls k _ _ t257 8 9 false _ ?side1 ?side2 A16.out).mono ?_); (case side1 => repeat (first | exact (Kd.R_reads' HO259.out).2.2 | (with_reducible refine Kd.C_alloc ?_ _) | (with_reducible refine Kd.C_drewN ?_ _) | (with_reducible refine Kd.C_drew ?_))); (case side2 => exact (Kd.R_reads' HO259.out).2.1); rintro e w34 ⟨rfl, hb⟩; have n0_ := Aside0.mk (Kd.R_below (by (with_reducible repeat (first | apply Kd.R_alloc | apply Kd.R_drewN | apply Kd.R_drew)); exact HO241.out) hb); have n1_ := Aside0.mk (Kd.R_below (by (with_reducible repeat (first | apply Kd.R_alloc | apply Kd.R_drewN | apply Kd.R_drew)); exact HO246.out) hb); have n2_ := Aside0.mk (Kd.R_below (by (with_reducible repeat (first | apply Kd.R_alloc | apply Kd.R_drewN | apply Kd.R_drew)); exact HO249.out) hb); have n3_ := Aside0.mk (Kd.R_below (by (with_reducible repeat (first | apply Kd.R_alloc | apply Kd.R_drewN | apply Kd.R_drew)); exact HO252.out) hb); have n4_ := Aside0.mk (Kd.R_below (by (with_reducible repeat (first | apply Kd.R_alloc | apply Kd.R_drewN | apply Kd.R_drew)); exact HO256.out) hb); have n5_ := Aside0.mk (Kd.R_below (by (with_reducible repeat (first | apply Kd.R_alloc | apply Kd.R_drewN | apply Kd.R_drew)); exact HO259.out) hb); have n6_ := Aside0.mk (Kd.R_below (by (with_reducible repeat (first | apply Kd.R_alloc | apply Kd.R_drewN | apply Kd.R_drew)); exact HO263.out) hb); have n7_ := Aside0.mk (below_step (by repeat (first | (with_reducible first | exact HB.out | apply below_alloc | apply pw_below_drewN | apply below_drew1) | exact HB.out)) hb); clear HO241; clear HO246; clear HO249; clear HO252; clear HO256; clear HO259; clear HO263; clear HB; have HO241 := n0_; have HO246 := n1_; have HO249 := n2_; have HO252 := n3_; have HO256 := n4_; have HO259 := n5_; have HO263 := n6_; have HB := n7_; clear n0_ n1_ n2_ n3_ n4_ n5_ n6_ n7_; (try clear hb); (try clear hb2); (try clear hk); (try clear hi)))
        go_ret
        exact ⟨by first | rfl | (rw [HRA_.out]) | (simp only [HRA_.out]; done) | (simp only [← HRA_.out]; done) | (have HR_ := HRA_.out; simp_all) | (simp [errW_none, errW_some] <;> rfl) | (simp [*, errW_none, errW_some] <;> rfl), by repeat (first | (with_reducible first | exact HB.out | apply below_alloc | apply pw_below_drewN | apply below_drew1) | exact HB.out)⟩
       ·
        replace c15 := Bool.eq_false_iff.mpr c15
        subst c15
        have H1 : (some false) = some true := by rw [if_neg (show ¬ (false = true) by decide)] at H; exact H
        clear H
        have H := H1
        clear H1
        exact absurd H (by simp)
      ·
       replace c13 := Bool.eq_false_iff.mpr c13
       subst c13
       have H1 : (some false) = some true := by rw [if_neg (show ¬ (false = true) by decide)] at H; exact H
       clear H
       have H := H1
       clear H1
       exact absurd H (by simp)
     ·
      rw [if_neg c11] at H
      have c11b0 : ((strOfNums t260).toList == ([7, 0] : List UInt8)) = false := beq_eq_false_iff_ne.mpr c11
      have c11b1 : ((strOfNums t260).toList != ([7, 0] : List UInt8)) = true := bne_iff_ne.mpr c11
      exact absurd H (by simp)
    ·
     rw [if_neg c10] at H
     have c10b0 : (t261 == 0) = false := beq_eq_false_iff_ne.mpr c10
     have c10b1 : (t261 != 0) = true := bne_iff_ne.mpr c10
     exact absurd H (by simp)
   ·
    rw [if_neg c9] at H
    have c9b0 : (t254 == 0) = false := beq_eq_false_iff_ne.mpr c9
    have c9b1 : (t254 != 0) = true := bne_iff_ne.mpr c9
    exact absurd H (by simp)
  ·
   rw [if_neg c8] at H
   have c8b0 : (t243 == 8) = false := beq_eq_false_iff_ne.mpr c8
   have c8b1 : (t243 != 8) = true := bne_iff_ne.mpr c8
   exact absurd H (by simp)
 ·
  rw [if_neg c7] at H
  have c7b0 : (t244 == 0) = false := beq_eq_false_iff_ne.mpr c7
  have c7b1 : (t244 != 0) = true := bne_iff_ne.mpr c7
  exact absurd H (by simp)

/-! ### darningref4_Word: function 21 -/
def darningref4_Word.f (a0 : Int) (a1 : Bool) : Option (Int) := (darningref4_MaySize.f a0).bind fun t267 => (if t267 = true then (if a1 = true then (some (Go.bits .or .u64 (IntKind.u64.wrap ((IntKind.u64.wrap (a0)) * 2)) 1)) else (some (IntKind.u64.wrap ((IntKind.u64.wrap (a0)) * 2)))) else (some 0))
set_option maxHeartbeats 8000000 in
set_option maxRecDepth 100000 in
theorem darningref4_Word.calls (a0 : Int) (a1 : Bool) (r : Int) (w : World) (h : darningref4_Word.f a0 a1 = some r) :
  Calls Try.prog 21 #[.int .i64 a0, .bool a1] w fun e w' => e = .returned (.int .u64 r) ∧ Drawn0 w w' := by
 have H : ((darningref4_MaySize.f a0).bind fun t267 => (if t267 = true then (if a1 = true then (some (Go.bits .or .u64 (IntKind.u64.wrap ((IntKind.u64.wrap (a0)) * 2)) 1)) else (some (IntKind.u64.wrap ((IntKind.u64.wrap (a0)) * 2)))) else (some 0))) = some r := h
 clear h
 replace H := Option.bind_eq_some_iff.mp H
 obtain ⟨t267, A30, H⟩ := H
 replace H : (if t267 = true then (if a1 = true then (some (Go.bits .or .u64 (IntKind.u64.wrap ((IntKind.u64.wrap (a0)) * 2)) 1)) else (some (IntKind.u64.wrap ((IntKind.u64.wrap (a0)) * 2)))) else (some 0)) = some r := H
 have A3 := Aside0.mk A30
 clear A30
 by_cases c4 : t267 = true
 ·
  subst c4
  have H1 : (if a1 = true then (some (Go.bits .or .u64 (IntKind.u64.wrap ((IntKind.u64.wrap (a0)) * 2)) 1)) else (some (IntKind.u64.wrap ((IntKind.u64.wrap (a0)) * 2)))) = some r := by rw [if_pos rfl] at H; exact H
  clear H
  have H := H1
  clear H1
  by_cases c5 : a1 = true
  ·
   subst c5
   have H1 : (some (Go.bits .or .u64 (IntKind.u64.wrap ((IntKind.u64.wrap (a0)) * 2)) 1)) = some r := by rw [if_pos rfl] at H; exact H
   clear H
   have H := H1
   clear H1
   obtain rfl := Option.some.inj H
   go_enter Try.func21, Try.ntmps21
   go_wp2_with (first | ((with_reducible refine gate_callee (f := 16) rfl ?_); refine goesL_ (some 7) rfl rfl Try.func16 (by kernel_rfl) rfl #[.int .i64 a0] rfl (by (try simp only [List.map_toArray, List.map_cons, List.map_nil]); first | done | rfl | (simp only [List.length_drop, List.length_take]; rfl)) ?_; (with_reducible refine (darningref4_MaySize.calls a0 true _ A3.out).mono ?_); rintro e w' ⟨rfl, ⟨nd, rfl⟩⟩; refine ⟨_, rfl, ?_⟩))
   go_ret
   exact ⟨by first | rfl | (simp; done) | (simp [*]; done), by repeat (first | exact Drawn0.refl _ | apply Drawn0.step)⟩
  ·
   replace c5 := Bool.eq_false_iff.mpr c5
   subst c5
   have H1 : (some (IntKind.u64.wrap ((IntKind.u64.wrap (a0)) * 2))) = some r := by rw [if_neg (show ¬ (false = true) by decide)] at H; exact H
   clear H
   have H := H1
   clear H1
   obtain rfl := Option.some.inj H
   go_enter Try.func21, Try.ntmps21
   go_wp2_with (first | ((with_reducible refine gate_callee (f := 16) rfl ?_); refine goesL_ (some 7) rfl rfl Try.func16 (by kernel_rfl) rfl #[.int .i64 a0] rfl (by (try simp only [List.map_toArray, List.map_cons, List.map_nil]); first | done | rfl | (simp only [List.length_drop, List.length_take]; rfl)) ?_; (with_reducible refine (darningref4_MaySize.calls a0 true _ A3.out).mono ?_); rintro e w' ⟨rfl, ⟨nd, rfl⟩⟩; refine ⟨_, rfl, ?_⟩))
   go_ret
   exact ⟨by first | rfl | (simp; done) | (simp [*]; done), by repeat (first | exact Drawn0.refl _ | apply Drawn0.step)⟩
 ·
  replace c4 := Bool.eq_false_iff.mpr c4
  subst c4
  have H1 : (some 0) = some r := by rw [if_neg (show ¬ (false = true) by decide)] at H; exact H
  clear H
  have H := H1
  clear H1
  obtain rfl := Option.some.inj H
  go_enter Try.func21, Try.ntmps21
  go_wp2_with (first | ((with_reducible refine gate_callee (f := 16) rfl ?_); refine goesL_ (some 7) rfl rfl Try.func16 (by kernel_rfl) rfl #[.int .i64 a0] rfl (by (try simp only [List.map_toArray, List.map_cons, List.map_nil]); first | done | rfl | (simp only [List.length_drop, List.length_take]; rfl)) ?_; (with_reducible refine (darningref4_MaySize.calls a0 false _ A3.out).mono ?_); rintro e w' ⟨rfl, ⟨nd, rfl⟩⟩; refine ⟨_, rfl, ?_⟩))
  go_ret
  exact ⟨by first | rfl | (simp; done) | (simp [*]; done), by repeat (first | exact Drawn0.refl _ | apply Drawn0.step)⟩

end Go.Proofs.Ytglekonhdjploab.XImageBack
