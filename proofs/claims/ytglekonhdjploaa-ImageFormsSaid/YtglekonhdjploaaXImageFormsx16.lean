-- printed by wip/xprint.py
import Derived.Test.YtglekonhdjploaaXImageFormsx0
import Derived.Test.YtglekonhdjploaaXImageFormsx12
import Derived.Test.YtglekonhdjploaaXImageFormsx15
namespace Go.Proofs.Ytglekonhdjploaa.XImageForms
open Go.RowKit Go.Proofs.YtglekonhdjploaaW.PrintWords Go.Proofs.YtglekonhdjploaaW.PrintLast Go.Proofs.YtglekonhdjploaaW.PrintMore
attribute [local go_sem] max2_int min2_int max_two min_two max_three min_three max_four min_four
set_option linter.unusedVariables false
set_option linter.unusedSimpArgs false

/-! ### darningref4_Blocks: function 52 -/
def darningref4_Blocks.l0 : Nat → List Int → List (S35) → Int → Option ((List (S35)) × Bool)
 | 0, _, _, _ => none
 | k + 1, x0, x4, x5 => if x5 < (x0.length : Int) then (if 0 ≤ x5 then ((darningref4_ParseWord.f (rd x0 x5)).bind fun bt328 => (if bt328.2.2 = true then (if x4.length < 5864062014805 then (darningref4_Blocks.l0 k x0 (x4 ++ [(⟨x5, bt328.1, bt328.2.1⟩ : S35)]) (wrap64 (x5 + bt328.1))) else (none)) else (some (([] : List (S35)), false)))) else (none)) else ((darningref4_MayBlocks.f k x4 (x0.length : Int)).bind fun t334 => (if t334 = true then (some (x4, true)) else (some (([] : List (S35)), false))))
def darningref4_Blocks.f (k : Nat) (l0 : List Int) : Option ((List (S35)) × Bool) := darningref4_Blocks.l0 k l0 ([] : List (S35)) 0
theorem darningref4_Blocks.mono_l : ∀ k, (∀ y0 y1 y2, LeO (darningref4_Blocks.l0 k y0 y1 y2) (darningref4_Blocks.l0 (k + 1) y0 y1 y2))
 | 0 => fun _ _ _ r h => by simp [darningref4_Blocks.l0] at h
 | k + 1 => by
  have ih0 := darningref4_Blocks.mono_l k
  ·
   intro y0 y1 y2
   unfold darningref4_Blocks.l0
   repeat' first
   | (with_reducible exact ih0 _ _ _)
   | (with_reducible exact darningref4_MayBlocks.mono _ _ _)
   | (with_reducible exact LeO.refl _)
   | (with_reducible exact LeO.none _)
   | (with_reducible refine LeO.ite ?_ ?_)
   | (with_reducible refine LeO.bind ?_ (fun _ => ?_))
   | exact ih0 _ _ _
   | exact darningref4_MayBlocks.mono _ _ _
   | exact LeO.none _
   | refine LeO.ite ?_ ?_
   | refine LeO.bind ?_ (fun _ => ?_)
theorem darningref4_Blocks.mono : ∀ a0 k, LeO (darningref4_Blocks.f k a0) (darningref4_Blocks.f (k + 1) a0) := by
 intro a0 k
 have ih0 := darningref4_Blocks.mono_l k
 unfold darningref4_Blocks.f
 repeat' first
   | (with_reducible exact ih0 _ _ _)
   | (with_reducible exact darningref4_MayBlocks.mono _ _ _)
   | (with_reducible exact LeO.refl _)
   | (with_reducible exact LeO.none _)
   | (with_reducible refine LeO.ite ?_ ?_)
   | (with_reducible refine LeO.bind ?_ (fun _ => ?_))
   | exact ih0 _ _ _
   | exact darningref4_MayBlocks.mono _ _ _
   | exact LeO.none _
   | refine LeO.ite ?_ ?_
   | refine LeO.bind ?_ (fun _ => ?_)
set_option maxHeartbeats 8000000 in
set_option maxRecDepth 100000 in
theorem darningref4_Blocks.calls (k : Nat) (A0 : Option Addr) (c0 : Nat) (l0 : List Int) (r1 : List (S35)) (r2 : Bool) (w : World) (hr0 : Kd.C (Kd.int .u64) w A0 l0.length l0) (hc0 : l0.length ≤ c0) (h : darningref4_Blocks.f k l0 = some (r1, r2)) :
  Calls Try.prog 52 #[.slice A0 l0.length c0] w fun e w' => ∃ v0_ : Value, e = .returned (.tuple #[v0_, .bool r2]) ∧ Kd.R k35 35 w' w.heap.size (fun _ => True) v0_ r1 ∧ Below w.heap.size w w' := by
 have hu35 := Try.underlying35
 have HR0 := Aside0.mk hr0
 have HC0 := Aside0.mk hc0
 clear hr0 hc0
 have HB := Aside0.mk (Below.refl w.heap.size w)
 have H : (darningref4_Blocks.l0 k l0 ([] : List (S35)) 0) = some (r1, r2) := h
 clear h
 have H' := Aside0.mk H
 clear H
 go_enter Try.func52, Try.ntmps52
 go_wp2
 go_loopg [4, 5] k (fun kq v4 v5 w' => ∃ (x4_1 : List (S35)) (x5_1 : Int), v5 = .int .i64 x5_1 ∧ Aside0 (darningref4_Blocks.l0 kq l0 x4_1 x5_1 = some (r1, r2)) ∧ Aside0 (kq ≤ k) ∧ Aside0 (Kd.R k35 35 w' w.heap.size (fun _ => True) v4 x4_1) ∧ Aside0 (Below w.heap.size w w'))
 case atStart => exact ⟨(([] : List (S35))), (0), (by first | rfl | (simp; done) | (simp [*]; done)), H', ⟨Nat.le_refl _⟩, ⟨by first | exact Kd.R_nil _ _ _ _ _ | exact Kd.N_nil _ _ _ _ _ | exact Kd.V_nil _ _ _ _ _ | exact Kd.Q_nil _ _ _ _ _ | exact Kd.S_nil _ _ _ _ _⟩, ⟨zB HB⟩⟩
 case round =>
  clear H'
  obtain ⟨x4_1, x5_1, rfl, HA, HK1, HO_4, HB⟩ := hrel
  cases gk with
  | zero => exact absurd HA.out (by simp [darningref4_Blocks.l0])
  | succ k1 =>
   have H := HA.out
   clear HA
   simp only [darningref4_Blocks.l0] at H
   by_cases c2 : x5_1 < (l0.length : Int)
   rotate_left
   ·
    rw [if_neg c2] at H
    have c2b0 : decide (x5_1 < (l0.length : Int)) = false := decide_eq_false c2
    clear c2
    replace H := Option.bind_eq_some_iff.mp H
    obtain ⟨t334, A80, H⟩ := H
    replace H : (if t334 = true then (some (x4_1, true)) else (some (([] : List (S35)), false))) = some (r1, r2) := H
    have A8 := Aside0.mk A80
    clear A80
    by_cases c9 : t334 = true
    ·
     subst c9
     have H1 : (some (x4_1, true)) = some (r1, r2) := by rw [if_pos rfl] at H; exact H
     clear H
     have H := H1
     clear H1
     simp only [Option.some.injEq, Prod.mk.injEq] at H
     obtain ⟨rfl, rfl⟩ := H
     obtain ⟨Ao10, co10, eo10⟩ := Kd.R_slice HO_4.out
     subst eo10
     go_wp2_with (first | ((with_reducible refine gate_callee (f := 21) rfl ?_); refine goesL_ (some 37) rfl rfl Try.func21 (by kernel_rfl) rfl #[.slice Ao10 x4_1.length co10, .int .i64 (l0.length : Int)] rfl (by (try simp only [qj, qk, ql]); first | done | rfl | (simp only [qm, qn]; rfl)) ?_; (with_reducible refine (darningref4_MayBlocks.calls k1 _ _ x4_1 (l0.length : Int) true _ ?side1 ?side2 A8.out).mono ?_); (case side1 => exact zc (Kd.R_reads' HO_4.out).2.2); (case side2 => exact (Kd.R_reads' HO_4.out).2.1); rintro e w11 ⟨rfl, hb⟩; refine ⟨_, rfl, ?_⟩; have n0_ := za HO_4 hb; have n1_ := zb HB hb; replace HO_4 := n0_; replace HB := n1_; clear n0_ n1_; (try clear hb)))
     go_ret2
     exact ⟨_, by first | rfl | (simp [errW_none, errW_some] <;> rfl) | (simp [*, errW_none, errW_some] <;> rfl), by (with_reducible repeat (first | apply qa | apply qb | apply qc)); exact HO_4.out, zB HB⟩
    replace c9 := Bool.eq_false_iff.mpr c9
    subst c9
    have H1 : (some (([] : List (S35)), false)) = some (r1, r2) := by rw [if_neg (show ¬ (false = true) by decide)] at H; exact H
    clear H
    have H := H1
    clear H1
    simp only [Option.some.injEq, Prod.mk.injEq] at H
    obtain ⟨rfl, rfl⟩ := H
    obtain ⟨Ao12, co12, eo12⟩ := Kd.R_slice HO_4.out
    subst eo12
    go_wp2_with (first | ((with_reducible refine gate_callee (f := 21) rfl ?_); refine goesL_ (some 37) rfl rfl Try.func21 (by kernel_rfl) rfl #[.slice Ao12 x4_1.length co12, .int .i64 (l0.length : Int)] rfl (by (try simp only [qj, qk, ql]); first | done | rfl | (simp only [qm, qn]; rfl)) ?_; (with_reducible refine (darningref4_MayBlocks.calls k1 _ _ x4_1 (l0.length : Int) false _ ?side1 ?side2 A8.out).mono ?_); (case side1 => exact zc (Kd.R_reads' HO_4.out).2.2); (case side2 => exact (Kd.R_reads' HO_4.out).2.1); rintro e w13 ⟨rfl, hb⟩; refine ⟨_, rfl, ?_⟩; have n0_ := za HO_4 hb; have n1_ := zb HB hb; replace HO_4 := n0_; replace HB := n1_; clear n0_ n1_; (try clear hb)))
    go_ret2
    exact ⟨_, by first | rfl | (simp [errW_none, errW_some] <;> rfl) | (simp [*, errW_none, errW_some] <;> rfl), by first | exact Kd.R_nil _ _ _ _ _ | exact Kd.N_nil _ _ _ _ _ | exact Kd.V_nil _ _ _ _ _ | exact Kd.Q_nil _ _ _ _ _ | exact Kd.S_nil _ _ _ _ _, zB HB⟩
   rw [if_pos c2] at H
   have c2b0 : decide (x5_1 < (l0.length : Int)) = true := decide_eq_true c2
   clear c2
   by_cases c3 : 0 ≤ x5_1
   rotate_left
   ·
    rw [if_neg c3] at H
    exact absurd H (by simp)
   rw [if_pos c3] at H
   have c3b0 : decide (0 ≤ x5_1) = true := decide_eq_true c3
   clear c3
   replace H := Option.bind_eq_some_iff.mp H
   obtain ⟨⟨t328, t329, t330⟩, A40, H⟩ := H
   replace H : (if t330 = true then (if x4_1.length < 5864062014805 then (darningref4_Blocks.l0 k1 l0 (x4_1 ++ [(⟨x5_1, t328, t329⟩ : S35)]) (wrap64 (x5_1 + t328))) else (none)) else (some (([] : List (S35)), false))) = some (r1, r2) := H
   have A4 := Aside0.mk A40
   clear A40
   by_cases c5 : t330 = true
   rotate_left
   ·
    replace c5 := Bool.eq_false_iff.mpr c5
    subst c5
    have H1 : (some (([] : List (S35)), false)) = some (r1, r2) := by rw [if_neg (show ¬ (false = true) by decide)] at H; exact H
    clear H
    have H := H1
    clear H1
    simp only [Option.some.injEq, Prod.mk.injEq] at H
    obtain ⟨rfl, rfl⟩ := H
    have p327 : 0 ≤ (x5_1 : Int) := zu
    have q327 : x5_1 < (l0.length : Int) := zu
    obtain ⟨ad327, e327, hx327_0⟩ := Kd.at_int HR0.out x5_1 p327 q327
    cases e327
    replace hx327_0 := zw HB hx327_0
    replace p327 := eq_true p327
    replace q327 := eq_true q327
    go_wp2_with (first | ((with_reducible refine gate_callee (f := 80) rfl ?_); refine goesL_ (some 18) rfl rfl Try.func80 (by kernel_rfl) rfl #[.int .u64 (rd l0 x5_1)] rfl (by (try simp only [qj, qk, ql]); first | done | rfl | (simp only [qm, qn]; rfl)) ?_; (with_reducible refine (darningref4_ParseWord.calls (rd l0 x5_1) t328 t329 false _ A4.out).mono ?_); rintro e w' ⟨rfl, ⟨nd, rfl⟩⟩; refine ⟨_, rfl, ?_⟩))
    go_ret2
    exact ⟨_, by first | rfl | (simp [errW_none, errW_some] <;> rfl) | (simp [*, errW_none, errW_some] <;> rfl), by first | exact Kd.R_nil _ _ _ _ _ | exact Kd.N_nil _ _ _ _ _ | exact Kd.V_nil _ _ _ _ _ | exact Kd.Q_nil _ _ _ _ _ | exact Kd.S_nil _ _ _ _ _, zB HB⟩
   subst c5
   have H1 : (if x4_1.length < 5864062014805 then (darningref4_Blocks.l0 k1 l0 (x4_1 ++ [(⟨x5_1, t328, t329⟩ : S35)]) (wrap64 (x5_1 + t328))) else (none)) = some (r1, r2) := by rw [if_pos rfl] at H; exact H
   clear H
   have H := H1
   clear H1
   by_cases c6 : x4_1.length < 5864062014805
   rotate_left
   ·
    rw [if_neg c6] at H
    exact absurd H (by simp)
   rw [if_pos c6] at H
   have LMc6 := Aside0.mk c6
   clear c6
   obtain ⟨y331, hy331⟩ : ∃ y_ : List (S35), y_ = (x4_1 ++ [(⟨x5_1, t328, t329⟩ : S35)]) := ⟨_, rfl⟩
   replace H : (darningref4_Blocks.l0 k1 l0 y331 (wrap64 (x5_1 + t328))) = some (r1, r2) := by first | (rw [hy331]; with_reducible exact H) | (have H2_ := (Option.bind_some _ _).symm.trans H; rw [hy331]; with_reducible exact H2_) | (have H2_ := (Option.bind_some _ _).symm.trans H; with_reducible exact H2_) | with_reducible exact H | (rw [hy331]; exact H) | exact H
   have Ny331 := Aside0.mk hy331
   clear hy331
   have H' := Aside0.mk H
   clear H
   have p327 : 0 ≤ (x5_1 : Int) := zu
   have q327 : x5_1 < (l0.length : Int) := zu
   obtain ⟨ad327, e327, hx327_0⟩ := Kd.at_int HR0.out x5_1 p327 q327
   cases e327
   replace hx327_0 := zw HB hx327_0
   replace p327 := eq_true p327
   replace q327 := eq_true q327
   go_wp2_with (first | ((with_reducible refine gate_callee (f := 80) rfl ?_); refine goesL_ (some 18) rfl rfl Try.func80 (by kernel_rfl) rfl #[.int .u64 (rd l0 x5_1)] rfl (by (try simp only [qj, qk, ql]); first | done | rfl | (simp only [qm, qn]; rfl)) ?_; (with_reducible refine (darningref4_ParseWord.calls (rd l0 x5_1) t328 t329 true _ A4.out).mono ?_); rintro e w' ⟨rfl, ⟨nd, rfl⟩⟩; refine ⟨_, rfl, ?_⟩) | ((with_reducible refine gate_builtin (b := .append) (xs := #[.tmp 24, .tmp 29]) rfl ?_); at_builtin; refine Kd.R_append k35 (w0 := w) w.heap.size rfl (.tmp 24) (.tmp 29) 22 35 (.agg #[(.int .i64 0), (.int .i64 0), (.bool false)]) 24 rfl Try.underlying22 info35 rfl (by decide) (by omega) u4 x4_1 (⟨x5_1, t328, t329⟩ : S35) [.int .i64 x5_1, .int .i64 t328, .bool t329] (fun _ => True) (fun _ => False) rfl rfl ?aP (fun _ hk => hk.elim) ?aF ?aO ?aB ?aS ?aL ?_; (case aP => exact k35_mkM _ _ _ (⟨x5_1, t328, t329⟩ : S35)); (case aB => exact (zB HB)); (case aF => exact (fun _ _ => trivial)); (case aO => exact (zr HO_4)); (case aS => exact (below_size (zB HB))); (case aL => have := LMc6.out; omega); intro v332 w7 ho hb hg hat; rw [← Ny331.out] at ho; have n0_ := Aside0.mk (hb); have n1_ := Aside0.mk (ho); clear HB; clear HO_4; have HB := n0_; have HO333 := n1_; clear n0_ n1_; clear ho hb hg hat))
   go_roundg k1
   case measure => have := HK1.out; omega
   case rel => exact ⟨(y331), (wrap64 (x5_1 + t328)), (by first | rfl | (simp; done) | (simp [*]; done)), H', ⟨by have := HK1.out; omega⟩, ⟨zr HO333⟩, ⟨zB HB⟩⟩

end Go.Proofs.Ytglekonhdjploaa.XImageForms
