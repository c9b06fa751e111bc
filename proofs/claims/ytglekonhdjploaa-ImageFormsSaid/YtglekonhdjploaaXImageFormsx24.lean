-- printed by wip/xprint.py
import Derived.Test.YtglekonhdjploaaXImageFormsx0
import Derived.Test.YtglekonhdjploaaXImageFormsx16
import Derived.Test.YtglekonhdjploaaXImageFormsx23
namespace Go.Proofs.Ytglekonhdjploaa.XImageForms
open Go.RowKit Go.Proofs.YtglekonhdjploaaW.PrintWords Go.Proofs.YtglekonhdjploaaW.PrintLast Go.Proofs.YtglekonhdjploaaW.PrintMore
attribute [local go_sem] max2_int min2_int max_two min_two max_three min_three max_four min_four
set_option linter.unusedVariables false
set_option linter.unusedSimpArgs false

/-! ### darningref4_inside: function 91 -/
def darningref4_inside.f (a0 : Int) (a1 : Int) (a2 : Int) : Option (Bool) := if a1 ≥ 0 then (if a2 ≥ 0 then (if a2 ≤ 448 then (if a1 ≤ (wrap64 (8 * a0)) then (some (decide (a2 ≤ (wrap64 ((wrap64 (8 * a0)) - a1))))) else (some false)) else (some false)) else (some false)) else (some false)
set_option maxHeartbeats 8000000 in
set_option maxRecDepth 100000 in
theorem darningref4_inside.calls (a0 : Int) (a1 : Int) (a2 : Int) (r : Bool) (w : World) (h : darningref4_inside.f a0 a1 a2 = some r) :
  Calls Try.prog 91 #[.int .i64 a0, .int .i64 a1, .int .i64 a2] w fun e w' => e = .returned (.bool r) ∧ Drawn0 w w' := by
 have H : (if a1 ≥ 0 then (if a2 ≥ 0 then (if a2 ≤ 448 then (if a1 ≤ (wrap64 (8 * a0)) then (some (decide (a2 ≤ (wrap64 ((wrap64 (8 * a0)) - a1))))) else (some false)) else (some false)) else (some false)) else (some false)) = some r := h
 clear h
 by_cases c4 : a1 ≥ 0
 rotate_left
 ·
  rw [if_neg c4] at H
  have c4b0 : decide (0 ≤ a1) = false := decide_eq_false c4
  clear c4
  obtain rfl := Option.some.inj H
  go_enter Try.func91, Try.ntmps91
  go_wp2
  go_ret
  exact ⟨by first | rfl | (simp; done) | (simp [*]; done), by repeat (first | exact Drawn0.refl _ | apply Drawn0.step)⟩
 rw [if_pos c4] at H
 have c4b0 : decide (0 ≤ a1) = true := decide_eq_true c4
 clear c4
 by_cases c5 : a2 ≥ 0
 rotate_left
 ·
  rw [if_neg c5] at H
  have c5b0 : decide (0 ≤ a2) = false := decide_eq_false c5
  clear c5
  obtain rfl := Option.some.inj H
  go_enter Try.func91, Try.ntmps91
  go_wp2
  go_ret
  exact ⟨by first | rfl | (simp; done) | (simp [*]; done), by repeat (first | exact Drawn0.refl _ | apply Drawn0.step)⟩
 rw [if_pos c5] at H
 have c5b0 : decide (0 ≤ a2) = true := decide_eq_true c5
 clear c5
 by_cases c6 : a2 ≤ 448
 rotate_left
 ·
  rw [if_neg c6] at H
  have c6b0 : decide (a2 ≤ 448) = false := decide_eq_false c6
  clear c6
  obtain rfl := Option.some.inj H
  go_enter Try.func91, Try.ntmps91
  go_wp2
  go_ret
  exact ⟨by first | rfl | (simp; done) | (simp [*]; done), by repeat (first | exact Drawn0.refl _ | apply Drawn0.step)⟩
 rw [if_pos c6] at H
 have c6b0 : decide (a2 ≤ 448) = true := decide_eq_true c6
 clear c6
 by_cases c7 : a1 ≤ (wrap64 (8 * a0))
 ·
  rw [if_pos c7] at H
  have c7b0 : decide (a1 ≤ (wrap64 (8 * a0))) = true := decide_eq_true c7
  clear c7
  obtain rfl := Option.some.inj H
  go_enter Try.func91, Try.ntmps91
  go_wp2
  go_ret
  exact ⟨by first | rfl | (simp; done) | (simp [*]; done), by repeat (first | exact Drawn0.refl _ | apply Drawn0.step)⟩
 rw [if_neg c7] at H
 have c7b0 : decide (a1 ≤ (wrap64 (8 * a0))) = false := decide_eq_false c7
 clear c7
 obtain rfl := Option.some.inj H
 go_enter Try.func91, Try.ntmps91
 go_wp2
 go_ret
 exact ⟨by first | rfl | (simp; done) | (simp [*]; done), by repeat (first | exact Drawn0.refl _ | apply Drawn0.step)⟩

/-! ### darningref4_ReadBytes: function 77 -/
def darningref4_ReadBytes.l0 : Nat → List Int → Int → Int → List Int → Int → Option (List Int × Bool)
 | 0, _, _, _, _, _ => none
 | k + 1, x0, x1, x2, x8, x9 => if x9 < (wrap64 (x1 + x2)) then (if 0 ≤ (wrap64 (Int.tdiv x9 8)) then (if (wrap64 (Int.tdiv x9 8)) < (x0.length : Int) then (if 0 ≤ (IntKind.u64.wrap (wrap64 ((Int.tmod x9 8) * 8))) then (if x8.length < 140737488355328 then (darningref4_ReadBytes.l0 k x0 x1 x2 (x8 ++ [(shr .u64 (rd x0 (wrap64 (Int.tdiv x9 8))) (IntKind.u64.wrap (wrap64 ((Int.tmod x9 8) * 8)))) % 256]) (wrap64 (x9 + 1))) else (none)) else (none)) else (none)) else (none)) else (some (x8, true))
def darningref4_ReadBytes.f (k : Nat) (l0 : List Int) (a1 : Int) (a2 : Int) : Option (List Int × Bool) := (darningref4_inside.f (l0.length : Int) a1 a2).bind fun t457 => (if t457 = true then (darningref4_ReadBytes.l0 k l0 a1 a2 ([] : List Int) a1) else (some (([] : List Int), false)))
theorem darningref4_ReadBytes.mono_l : ∀ k, (∀ y0 y1 y2 y3 y4, LeO (darningref4_ReadBytes.l0 k y0 y1 y2 y3 y4) (darningref4_ReadBytes.l0 (k + 1) y0 y1 y2 y3 y4))
 | 0 => fun _ _ _ _ _ r h => by simp [darningref4_ReadBytes.l0] at h
 | k + 1 => by
  have ih0 := darningref4_ReadBytes.mono_l k
  ·
   intro y0 y1 y2 y3 y4
   unfold darningref4_ReadBytes.l0
   repeat' first
   | (with_reducible exact ih0 _ _ _ _ _)
   | (with_reducible exact LeO.refl _)
   | (with_reducible exact LeO.none _)
   | (with_reducible refine LeO.ite ?_ ?_)
   | (with_reducible refine LeO.bind ?_ (fun _ => ?_))
   | exact ih0 _ _ _ _ _
   | exact LeO.none _
   | refine LeO.ite ?_ ?_
   | refine LeO.bind ?_ (fun _ => ?_)
theorem darningref4_ReadBytes.mono : ∀ a0 a1 a2 k, LeO (darningref4_ReadBytes.f k a0 a1 a2) (darningref4_ReadBytes.f (k + 1) a0 a1 a2) := by
 intro a0 a1 a2 k
 have ih0 := darningref4_ReadBytes.mono_l k
 unfold darningref4_ReadBytes.f
 repeat' first
   | (with_reducible exact ih0 _ _ _ _ _)
   | (with_reducible exact LeO.refl _)
   | (with_reducible exact LeO.none _)
   | (with_reducible refine LeO.ite ?_ ?_)
   | (with_reducible refine LeO.bind ?_ (fun _ => ?_))
   | exact ih0 _ _ _ _ _
   | exact LeO.none _
   | refine LeO.ite ?_ ?_
   | refine LeO.bind ?_ (fun _ => ?_)
set_option maxHeartbeats 8000000 in
set_option maxRecDepth 100000 in
theorem darningref4_ReadBytes.calls (k : Nat) (A0 : Option Addr) (c0 : Nat) (l0 : List Int) (a1 : Int) (a2 : Int) (r1 : List Int) (r2 : Bool) (w : World) (hr0 : Kd.C (Kd.int .u64) w A0 l0.length l0) (hc0 : l0.length ≤ c0) (h : darningref4_ReadBytes.f k l0 a1 a2 = some (r1, r2)) :
  Calls Try.prog 77 #[.slice A0 l0.length c0, .int .i64 a1, .int .i64 a2] w fun e w' => ∃ v0_ : Value, e = .returned (.tuple #[v0_, .bool r2]) ∧ Kd.R (Kd.int .u8) 5 w' w.heap.size (fun _ => True) v0_ r1 ∧ Below w.heap.size w w' := by
 have HR0 := Aside0.mk hr0
 have HC0 := Aside0.mk hc0
 clear hr0 hc0
 have HB := Aside0.mk (Below.refl w.heap.size w)
 have H : ((darningref4_inside.f (l0.length : Int) a1 a2).bind fun t457 => (if t457 = true then (darningref4_ReadBytes.l0 k l0 a1 a2 ([] : List Int) a1) else (some (([] : List Int), false)))) = some (r1, r2) := h
 clear h
 replace H := Option.bind_eq_some_iff.mp H
 obtain ⟨t457, A40, H⟩ := H
 replace H : (if t457 = true then (darningref4_ReadBytes.l0 k l0 a1 a2 ([] : List Int) a1) else (some (([] : List Int), false))) = some (r1, r2) := H
 have A4 := Aside0.mk A40
 clear A40
 by_cases c5 : t457 = true
 rotate_left
 ·
  replace c5 := Bool.eq_false_iff.mpr c5
  subst c5
  have H1 : (some (([] : List Int), false)) = some (r1, r2) := by rw [if_neg (show ¬ (false = true) by decide)] at H; exact H
  clear H
  have H := H1
  clear H1
  simp only [Option.some.injEq, Prod.mk.injEq] at H
  obtain ⟨rfl, rfl⟩ := H
  go_enter Try.func77, Try.ntmps77
  go_wp2_with (first | ((with_reducible refine gate_callee (f := 91) rfl ?_); refine goesL_ (some 14) rfl rfl Try.func91 (by kernel_rfl) rfl #[.int .i64 (l0.length : Int), .int .i64 a1, .int .i64 a2] rfl (by (try simp only [qj, qk, ql]); first | done | rfl | (simp only [qm, qn]; rfl)) ?_; (with_reducible refine (darningref4_inside.calls (l0.length : Int) a1 a2 false _ A4.out).mono ?_); rintro e w' ⟨rfl, ⟨nd, rfl⟩⟩; refine ⟨_, rfl, ?_⟩))
  go_ret2
  exact ⟨_, by first | rfl | (simp [errW_none, errW_some] <;> rfl) | (simp [*, errW_none, errW_some] <;> rfl), by first | exact Kd.R_nil _ _ _ _ _ | exact Kd.N_nil _ _ _ _ _ | exact Kd.V_nil _ _ _ _ _ | exact Kd.Q_nil _ _ _ _ _ | exact Kd.S_nil _ _ _ _ _, zB HB⟩
 subst c5
 have H1 : (darningref4_ReadBytes.l0 k l0 a1 a2 ([] : List Int) a1) = some (r1, r2) := by rw [if_pos rfl] at H; exact H
 clear H
 have H := H1
 clear H1
 have H' := Aside0.mk H
 clear H
 go_enter Try.func77, Try.ntmps77
 go_wp2_with (first | ((with_reducible refine gate_callee (f := 91) rfl ?_); refine goesL_ (some 14) rfl rfl Try.func91 (by kernel_rfl) rfl #[.int .i64 (l0.length : Int), .int .i64 a1, .int .i64 a2] rfl (by (try simp only [qj, qk, ql]); first | done | rfl | (simp only [qm, qn]; rfl)) ?_; (with_reducible refine (darningref4_inside.calls (l0.length : Int) a1 a2 true _ A4.out).mono ?_); rintro e w' ⟨rfl, ⟨nd, rfl⟩⟩; refine ⟨_, rfl, ?_⟩))
 go_loopg [8, 9] k (fun kq v8 v9 w' => ∃ (x8_1 : List Int) (x9_1 : Int), v9 = .int .i64 x9_1 ∧ Aside0 (darningref4_ReadBytes.l0 kq l0 a1 a2 x8_1 x9_1 = some (r1, r2)) ∧ Aside0 (kq ≤ k) ∧ Aside0 (Kd.R (Kd.int .u8) 5 w' w.heap.size (fun _ => True) v8 x8_1) ∧ Aside0 (Below w.heap.size w w'))
 case atStart => exact ⟨(([] : List Int)), (a1), (by first | rfl | (simp; done) | (simp [*]; done)), H', ⟨Nat.le_refl _⟩, ⟨by first | exact Kd.R_nil _ _ _ _ _ | exact Kd.N_nil _ _ _ _ _ | exact Kd.V_nil _ _ _ _ _ | exact Kd.Q_nil _ _ _ _ _ | exact Kd.S_nil _ _ _ _ _⟩, ⟨zB HB⟩⟩
 case round =>
  clear H'
  try clear p2
  try clear c5
  obtain ⟨x8_1, x9_1, rfl, HA, HK1, HO_8, HB⟩ := hrel
  cases gk with
  | zero => exact absurd HA.out (by simp [darningref4_ReadBytes.l0])
  | succ k1 =>
   have H := HA.out
   clear HA
   simp only [darningref4_ReadBytes.l0] at H
   by_cases c6 : x9_1 < (wrap64 (a1 + a2))
   rotate_left
   ·
    rw [if_neg c6] at H
    have c6b0 : decide (x9_1 < (wrap64 (a1 + a2))) = false := decide_eq_false c6
    clear c6
    simp only [Option.some.injEq, Prod.mk.injEq] at H
    obtain ⟨rfl, rfl⟩ := H
    go_wp2
    go_ret2
    exact ⟨_, by first | rfl | (simp [errW_none, errW_some] <;> rfl) | (simp [*, errW_none, errW_some] <;> rfl), by (with_reducible repeat (first | apply qa | apply qb | apply qc)); exact HO_8.out, zB HB⟩
   rw [if_pos c6] at H
   have c6b0 : decide (x9_1 < (wrap64 (a1 + a2))) = true := decide_eq_true c6
   clear c6
   obtain ⟨ji7, hji7⟩ : ∃ j_ : Int, (wrap64 (Int.tdiv x9_1 8)) = j_ := ⟨_, rfl⟩
   replace H : (if 0 ≤ (ji7) then (if (ji7) < (l0.length : Int) then (if 0 ≤ (IntKind.u64.wrap (wrap64 ((Int.tmod x9_1 8) * 8))) then (if x8_1.length < 140737488355328 then (darningref4_ReadBytes.l0 k1 l0 a1 a2 (x8_1 ++ [(shr .u64 (rd l0 (ji7)) (IntKind.u64.wrap (wrap64 ((Int.tmod x9_1 8) * 8)))) % 256]) (wrap64 (x9_1 + 1))) else (none)) else (none)) else (none)) else (none)) = some (r1, r2) := by first | (rw [hji7] at H; exact H) | (simp only [hji7] at H ⊢; exact H)
   have hji7w : (IntKind.i64.wrap (Int.tdiv x9_1 8)) = ji7 := (i64_w _).trans hji7
   by_cases c8 : 0 ≤ (ji7)
   rotate_left
   ·
    rw [if_neg c8] at H
    exact absurd H (by simp)
   rw [if_pos c8] at H
   have c8b0 : decide (0 ≤ (ji7)) = true := decide_eq_true c8
   clear c8
   by_cases c9 : (ji7) < (l0.length : Int)
   rotate_left
   ·
    rw [if_neg c9] at H
    exact absurd H (by simp)
   rw [if_pos c9] at H
   have c9b0 : decide ((ji7) < (l0.length : Int)) = true := decide_eq_true c9
   clear c9
   obtain ⟨ji10, hji10⟩ : ∃ j_ : Int, (IntKind.u64.wrap (wrap64 ((Int.tmod x9_1 8) * 8))) = j_ := ⟨_, rfl⟩
   replace H : (if 0 ≤ (ji10) then (if x8_1.length < 140737488355328 then (darningref4_ReadBytes.l0 k1 l0 a1 a2 (x8_1 ++ [(shr .u64 (rd l0 (ji7)) (ji10)) % 256]) (wrap64 (x9_1 + 1))) else (none)) else (none)) = some (r1, r2) := by first | (rw [hji10] at H; exact H) | (simp only [hji10] at H ⊢; exact H)
   by_cases c11 : 0 ≤ (ji10)
   rotate_left
   ·
    rw [if_neg c11] at H
    exact absurd H (by simp)
   rw [if_pos c11] at H
   have c11b0 := eq_true c11
   have c11b1 : decide (0 ≤ (ji10)) = true := decide_eq_true c11
   clear c11
   obtain ⟨ji12, hji12⟩ : ∃ j_ : Int, (shr .u64 (rd l0 (ji7)) (ji10)) = j_ := ⟨_, rfl⟩
   replace H : (if x8_1.length < 140737488355328 then (darningref4_ReadBytes.l0 k1 l0 a1 a2 (x8_1 ++ [(ji12) % 256]) (wrap64 (x9_1 + 1))) else (none)) = some (r1, r2) := by first | (rw [hji12] at H; exact H) | (simp only [hji12] at H ⊢; exact H)
   have hji12_ : ((rd l0 (ji7)) / 2 ^ min (ji10).toNat 64) = ji12 := hji12
   have hji12z : (ji10) ≤ 64 → ((rd l0 (ji7)) / 2 ^ (ji10).toNat) = ji12 := shr_small hji12
   by_cases c13 : x8_1.length < 140737488355328
   rotate_left
   ·
    rw [if_neg c13] at H
    exact absurd H (by simp)
   rw [if_pos c13] at H
   have LMc13 := Aside0.mk c13
   clear c13
   obtain ⟨y459, hy459⟩ : ∃ y_ : List Int, y_ = (x8_1 ++ [(ji12) % 256]) := ⟨_, rfl⟩
   replace H : (darningref4_ReadBytes.l0 k1 l0 a1 a2 y459 (wrap64 (x9_1 + 1))) = some (r1, r2) := by first | (rw [hy459]; with_reducible exact H) | (have H2_ := (Option.bind_some _ _).symm.trans H; rw [hy459]; with_reducible exact H2_) | (have H2_ := (Option.bind_some _ _).symm.trans H; with_reducible exact H2_) | with_reducible exact H | (rw [hy459]; exact H) | exact H
   have Ny459 := Aside0.mk hy459
   clear hy459
   have H' := Aside0.mk H
   clear H
   have p458 : 0 ≤ ((ji7) : Int) := zu
   have q458 : (ji7) < (l0.length : Int) := zu
   obtain ⟨ad458, e458, hx458_0⟩ := Kd.at_int HR0.out (ji7) p458 q458
   cases e458
   replace hx458_0 := zw HB hx458_0
   replace p458 := eq_true p458
   replace q458 := eq_true q458
   go_wp2_with (first | ((with_reducible refine gate_builtin (b := .append) (xs := #[.tmp 24, .tmp 36]) rfl ?_); at_builtin; refine Kd.R_append (Kd.int .u8) (w0 := w) w.heap.size rfl (.tmp 24) (.tmp 36) 63 5 (.int .u8 0) 1 rfl Try.underlying63 info5 rfl (by decide) (by omega) u8 x8_1 ((ji12) % 256) [.int .u8 ((ji12) % 256)] (fun _ => True) (fun _ => False) rfl rfl ?aP (fun _ hk => hk.elim) ?aF ?aO ?aB ?aS ?aL ?_; (case aP => exact rfl); (case aB => exact (zB HB)); (case aF => exact (fun _ _ => trivial)); (case aO => exact (zr HO_8)); (case aS => exact (below_size (zB HB))); (case aL => have := LMc13.out; omega); intro v460 w14 ho hb hg hat; rw [← Ny459.out] at ho; have n0_ := Aside0.mk (hb); have n1_ := Aside0.mk (ho); clear HB; clear HO_8; have HB := n0_; have HO461 := n1_; clear n0_ n1_; clear ho hb hg hat))
   go_roundg k1
   case measure => have := HK1.out; omega
   case rel => exact ⟨(y459), (wrap64 (x9_1 + 1)), (by first | rfl | (simp; done) | (simp [*]; done)), (by first | exact H' | ((try rw [hji7]); (try rw [hji10]); (try rw [hji12]); exact H')), ⟨by have := HK1.out; omega⟩, ⟨zr HO461⟩, ⟨zB HB⟩⟩

/-! ### darningref4_ImageRead: function 49 -/
def darningref4_ImageRead.f (k : Nat) (l0 : List Int) (a1 : Int) (a2 : Int) : Option (List Int × Int) := (darningref4_Blocks.f k l0).bind fun bt462 => (if bt462.2 = true then ((darningref4_Within.f k bt462.1 a1 a2).bind fun t466 => (if t466 = true then ((darningref4_ReadBytes.f k l0 a1 a2).bind fun bt467 => (some (bt467.1, 0))) else (some (([] : List Int), 1)))) else (some (([] : List Int), 6)))
theorem darningref4_ImageRead.mono : ∀ a0 a1 a2 k, LeO (darningref4_ImageRead.f k a0 a1 a2) (darningref4_ImageRead.f (k + 1) a0 a1 a2) := by
 intro a0 a1 a2 k
 unfold darningref4_ImageRead.f
 repeat' first
   | (with_reducible exact darningref4_Blocks.mono _ _)
   | (with_reducible exact darningref4_ReadBytes.mono _ _ _ _)
   | (with_reducible exact darningref4_Within.mono _ _ _ _)
   | (with_reducible exact LeO.refl _)
   | (with_reducible exact LeO.none _)
   | (with_reducible refine LeO.ite ?_ ?_)
   | (with_reducible refine LeO.bind ?_ (fun _ => ?_))
   | exact darningref4_Blocks.mono _ _
   | exact darningref4_ReadBytes.mono _ _ _ _
   | exact darningref4_Within.mono _ _ _ _
   | exact LeO.none _
   | refine LeO.ite ?_ ?_
   | refine LeO.bind ?_ (fun _ => ?_)
set_option maxHeartbeats 8000000 in
set_option maxRecDepth 100000 in
theorem darningref4_ImageRead.calls (k : Nat) (A0 : Option Addr) (c0 : Nat) (l0 : List Int) (a1 : Int) (a2 : Int) (r1 : List Int) (r2 : Int) (w : World) (hr0 : Kd.C (Kd.int .u64) w A0 l0.length l0) (hc0 : l0.length ≤ c0) (h : darningref4_ImageRead.f k l0 a1 a2 = some (r1, r2)) :
  Calls Try.prog 49 #[.slice A0 l0.length c0, .int .i64 a1, .int .i64 a2] w fun e w' => ∃ v0_ : Value, e = .returned (.tuple #[v0_, .int .i64 r2]) ∧ Kd.R (Kd.int .u8) 5 w' w.heap.size (fun _ => True) v0_ r1 ∧ Below w.heap.size w w' := by
 have HR0 := Aside0.mk hr0
 have HC0 := Aside0.mk hc0
 clear hr0 hc0
 have HB := Aside0.mk (Below.refl w.heap.size w)
 have H : ((darningref4_Blocks.f k l0).bind fun bt462 => (if bt462.2 = true then ((darningref4_Within.f k bt462.1 a1 a2).bind fun t466 => (if t466 = true then ((darningref4_ReadBytes.f k l0 a1 a2).bind fun bt467 => (some (bt467.1, 0))) else (some (([] : List Int), 1)))) else (some (([] : List Int), 6)))) = some (r1, r2) := h
 clear h
 replace H := Option.bind_eq_some_iff.mp H
 obtain ⟨⟨t462, t463⟩, A40, H⟩ := H
 replace H : (if t463 = true then ((darningref4_Within.f k t462 a1 a2).bind fun t466 => (if t466 = true then ((darningref4_ReadBytes.f k l0 a1 a2).bind fun bt467 => (some (bt467.1, 0))) else (some (([] : List Int), 1)))) else (some (([] : List Int), 6))) = some (r1, r2) := H
 have A4 := Aside0.mk A40
 clear A40
 by_cases c5 : t463 = true
 rotate_left
 ·
  replace c5 := Bool.eq_false_iff.mpr c5
  subst c5
  have H1 : (some (([] : List Int), 6)) = some (r1, r2) := by rw [if_neg (show ¬ (false = true) by decide)] at H; exact H
  clear H
  have H := H1
  clear H1
  simp only [Option.some.injEq, Prod.mk.injEq] at H
  obtain ⟨rfl, rfl⟩ := H
  go_enter Try.func49, Try.ntmps49
  go_wp2_with (first | ((with_reducible refine gate_callee (f := 52) rfl ?_); refine goesL_ (some 14) rfl rfl Try.func52 (by kernel_rfl) rfl #[.slice A0 l0.length c0] rfl (by (try simp only [qj, qk, ql]); first | done | rfl | (simp only [qm, qn]; rfl)) ?_; (with_reducible refine (darningref4_Blocks.calls k _ _ l0 t462 false _ ?side1 ?side2 A4.out).mono ?_); (case side1 => exact zc HR0.out); (case side2 => exact HC0.out); rintro e w16 ⟨v464, rfl, ho0, hb⟩; refine ⟨_, rfl, ?_⟩; have n0_ := Aside0.mk (Kd.R_lower ho0 (below_size (zB HB))); have n1_ := zb HB hb; clear HB; have HO465 := n0_; have HB := n1_; clear n0_ n1_; (try clear hb); (try clear ho0)))
  go_ret2
  exact ⟨_, by first | rfl | (simp [errW_none, errW_some] <;> rfl) | (simp [*, errW_none, errW_some] <;> rfl), by first | exact Kd.R_nil _ _ _ _ _ | exact Kd.N_nil _ _ _ _ _ | exact Kd.V_nil _ _ _ _ _ | exact Kd.Q_nil _ _ _ _ _ | exact Kd.S_nil _ _ _ _ _, zB HB⟩
 subst c5
 have H1 : ((darningref4_Within.f k t462 a1 a2).bind fun t466 => (if t466 = true then ((darningref4_ReadBytes.f k l0 a1 a2).bind fun bt467 => (some (bt467.1, 0))) else (some (([] : List Int), 1)))) = some (r1, r2) := by rw [if_pos rfl] at H; exact H
 clear H
 have H := H1
 clear H1
 replace H := Option.bind_eq_some_iff.mp H
 obtain ⟨t466, A60, H⟩ := H
 replace H : (if t466 = true then ((darningref4_ReadBytes.f k l0 a1 a2).bind fun bt467 => (some (bt467.1, 0))) else (some (([] : List Int), 1))) = some (r1, r2) := H
 have A6 := Aside0.mk A60
 clear A60
 by_cases c7 : t466 = true
 rotate_left
 ·
  replace c7 := Bool.eq_false_iff.mpr c7
  subst c7
  have H1 : (some (([] : List Int), 1)) = some (r1, r2) := by rw [if_neg (show ¬ (false = true) by decide)] at H; exact H
  clear H
  have H := H1
  clear H1
  simp only [Option.some.injEq, Prod.mk.injEq] at H
  obtain ⟨rfl, rfl⟩ := H
  go_enter Try.func49, Try.ntmps49
  go_wp2_with (first | ((with_reducible refine gate_callee (f := 52) rfl ?_); refine goesL_ (some 14) rfl rfl Try.func52 (by kernel_rfl) rfl #[.slice A0 l0.length c0] rfl (by (try simp only [qj, qk, ql]); first | done | rfl | (simp only [qm, qn]; rfl)) ?_; (with_reducible refine (darningref4_Blocks.calls k _ _ l0 t462 true _ ?side1 ?side2 A4.out).mono ?_); (case side1 => exact zc HR0.out); (case side2 => exact HC0.out); rintro e w13 ⟨v464, rfl, ho0, hb⟩; refine ⟨_, rfl, ?_⟩; have n0_ := Aside0.mk (Kd.R_lower ho0 (below_size (zB HB))); have n1_ := zb HB hb; clear HB; have HO465 := n0_; have HB := n1_; clear n0_ n1_; (try clear hb); (try clear ho0); obtain ⟨Ao14, co14, eo14⟩ := Kd.R_slice HO465.out; subst eo14) | ((with_reducible refine gate_callee (f := 54) rfl ?_); refine goesL_ (some 22) rfl rfl Try.func54 (by kernel_rfl) rfl #[.slice Ao14 t462.length co14, .int .i64 a1, .int .i64 a2] rfl (by (try simp only [qj, qk, ql]); first | done | rfl | (simp only [qm, qn]; rfl)) ?_; (with_reducible refine (darningref4_Within.calls k _ _ t462 a1 a2 false _ ?side1 ?side2 A6.out).mono ?_); (case side1 => exact zc (Kd.R_reads' HO465.out).2.2); (case side2 => exact (Kd.R_reads' HO465.out).2.1); rintro e w15 ⟨rfl, hb⟩; refine ⟨_, rfl, ?_⟩; have n0_ := za HO465 hb; have n1_ := zb HB hb; replace HO465 := n0_; replace HB := n1_; clear n0_ n1_; (try clear hb)))
  go_ret2
  exact ⟨_, by first | rfl | (simp [errW_none, errW_some] <;> rfl) | (simp [*, errW_none, errW_some] <;> rfl), by first | exact Kd.R_nil _ _ _ _ _ | exact Kd.N_nil _ _ _ _ _ | exact Kd.V_nil _ _ _ _ _ | exact Kd.Q_nil _ _ _ _ _ | exact Kd.S_nil _ _ _ _ _, zB HB⟩
 subst c7
 have H1 : ((darningref4_ReadBytes.f k l0 a1 a2).bind fun bt467 => (some (bt467.1, 0))) = some (r1, r2) := by rw [if_pos rfl] at H; exact H
 clear H
 have H := H1
 clear H1
 replace H := Option.bind_eq_some_iff.mp H
 obtain ⟨⟨t467, t468⟩, A80, H⟩ := H
 replace H : (some (t467, 0)) = some (r1, r2) := H
 have A8 := Aside0.mk A80
 clear A80
 simp only [Option.some.injEq, Prod.mk.injEq] at H
 obtain ⟨rfl, rfl⟩ := H
 go_enter Try.func49, Try.ntmps49
 go_wp2_with (first | ((with_reducible refine gate_callee (f := 52) rfl ?_); refine goesL_ (some 14) rfl rfl Try.func52 (by kernel_rfl) rfl #[.slice A0 l0.length c0] rfl (by (try simp only [qj, qk, ql]); first | done | rfl | (simp only [qm, qn]; rfl)) ?_; (with_reducible refine (darningref4_Blocks.calls k _ _ l0 t462 true _ ?side1 ?side2 A4.out).mono ?_); (case side1 => exact zc HR0.out); (case side2 => exact HC0.out); rintro e w9 ⟨v464, rfl, ho0, hb⟩; refine ⟨_, rfl, ?_⟩; have n0_ := Aside0.mk (Kd.R_lower ho0 (below_size (zB HB))); have n1_ := zb HB hb; clear HB; have HO465 := n0_; have HB := n1_; clear n0_ n1_; (try clear hb); (try clear ho0); obtain ⟨Ao10, co10, eo10⟩ := Kd.R_slice HO465.out; subst eo10) | ((with_reducible refine gate_callee (f := 54) rfl ?_); refine goesL_ (some 22) rfl rfl Try.func54 (by kernel_rfl) rfl #[.slice Ao10 t462.length co10, .int .i64 a1, .int .i64 a2] rfl (by (try simp only [qj, qk, ql]); first | done | rfl | (simp only [qm, qn]; rfl)) ?_; (with_reducible refine (darningref4_Within.calls k _ _ t462 a1 a2 true _ ?side1 ?side2 A6.out).mono ?_); (case side1 => exact zc (Kd.R_reads' HO465.out).2.2); (case side2 => exact (Kd.R_reads' HO465.out).2.1); rintro e w11 ⟨rfl, hb⟩; refine ⟨_, rfl, ?_⟩; have n0_ := za HO465 hb; have n1_ := zb HB hb; replace HO465 := n0_; replace HB := n1_; clear n0_ n1_; (try clear hb)) | ((with_reducible refine gate_callee (f := 77) rfl ?_); refine goesL_ (some 28) rfl rfl Try.func77 (by kernel_rfl) rfl #[.slice A0 l0.length c0, .int .i64 a1, .int .i64 a2] rfl (by (try simp only [qj, qk, ql]); first | done | rfl | (simp only [qm, qn]; rfl)) ?_; (with_reducible refine (darningref4_ReadBytes.calls k _ _ l0 a1 a2 t467 t468 _ ?side1 ?side2 A8.out).mono ?_); (case side1 => exact zc (Kd.C_below HR0.out HB.out)); (case side2 => exact HC0.out); rintro e w12 ⟨v469, rfl, ho0, hb⟩; refine ⟨_, rfl, ?_⟩; have n0_ := za HO465 hb; have n1_ := Aside0.mk (Kd.R_lower ho0 (below_size (zB HB))); have n2_ := zb HB hb; clear HO465; clear HB; have HO465 := n0_; have HO470 := n1_; have HB := n2_; clear n0_ n1_ n2_; (try clear hb); (try clear ho0)))
 go_ret2
 exact ⟨_, by first | rfl | (simp [errW_none, errW_some] <;> rfl) | (simp [*, errW_none, errW_some] <;> rfl), by (with_reducible repeat (first | apply qa | apply qb | apply qc)); exact HO470.out, zB HB⟩

end Go.Proofs.Ytglekonhdjploaa.XImageForms
