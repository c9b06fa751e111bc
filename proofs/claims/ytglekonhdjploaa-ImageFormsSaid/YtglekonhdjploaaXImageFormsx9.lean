-- printed by wip/xprint.py
import Derived.Test.YtglekonhdjploaaXImageFormsx0
import Derived.Test.YtglekonhdjploaaXImageFormsx3
import Derived.Test.YtglekonhdjploaaXImageFormsx4
namespace Go.Proofs.Ytglekonhdjploaa.XImageForms
open Go.RowKit Go.Proofs.YtglekonhdjploaaW.PrintWords Go.Proofs.YtglekonhdjploaaW.PrintLast Go.Proofs.YtglekonhdjploaaW.PrintMore
attribute [local go_sem] max2_int min2_int max_two min_two max_three min_three max_four min_four
set_option linter.unusedVariables false
set_option linter.unusedSimpArgs false

/-! ### image_Holds: function 42, told by hand -/
section
open Go.Shelf Go.Lib Go.Proofs
def ren86 : Ren := { f := fun x => match x with | 8 => 71 | 6 => 86 | n => n, t := fun x => match x with | 22 => 22 | 23 => 35 | 25 => 90 | n => n, g := fun n => n }
theorem lay86 : SlLaysH0.n6 Try.prog ren86 :=
  { mixed := by kernel_rfl, f6 := ⟨"slices.IndexFunc[[]darning/api.Block,darning/api.Block]", qu (by kernel_rfl), Try.func86.trans (congrArg some (by kernel_rfl))⟩,
    t0 := Try.underlying0, a0 := Try.isAgg0, z0 := Try.sizeOf0, v0 := Try.zeroValue0, t3 := Try.underlying3, a3 := Try.isAgg3, z3 := Try.sizeOf3, v3 := Try.zeroValue3, t4 := Try.underlying4, a4 := Try.isAgg4, z4 := Try.sizeOf4, v4 := Try.zeroValue4,
    t22 := Try.underlying22, a22 := Try.isAgg22, z22 := Try.sizeOf22, v22 := Try.zeroValue22, t25 := Try.underlying90, a25 := Try.isAgg90, z25 := Try.sizeOf90, v25 := Try.zeroValue90 }
theorem lay71 : SlLaysH0.n8 Try.prog ren86 :=
  { mixed := by kernel_rfl, f6 := lay86.f6, f8 := ⟨"slices.ContainsFunc[[]darning/api.Block,darning/api.Block]", qu (by kernel_rfl), Try.func71.trans (congrArg some (by kernel_rfl))⟩,
    t0 := Try.underlying0, a0 := Try.isAgg0, z0 := Try.sizeOf0, v0 := Try.zeroValue0, t3 := Try.underlying3, a3 := Try.isAgg3, z3 := Try.sizeOf3, v3 := Try.zeroValue3, t4 := Try.underlying4, a4 := Try.isAgg4, z4 := Try.sizeOf4, v4 := Try.zeroValue4,
    t22 := Try.underlying22, a22 := Try.isAgg22, z22 := Try.sizeOf22, v22 := Try.zeroValue22, t25 := Try.underlying90, a25 := Try.isAgg90, z25 := Try.sizeOf90, v25 := Try.zeroValue90 }
def offV (a : Int) : Int := if a < 0 then 0 else if a > 512 then 0 else wrap64 ((wrap64 (a + 1)) * 8)
theorem off_v (a b : Int) (c : Bool) : carve_Off.f a b c = some (offV a) := by
  unfold carve_Off.f offV
  split
  · rfl
  · split <;> rfl
def enc35 (x : S35) : List Value := [.int .i64 x.f0, .int .i64 x.f1, .bool x.f2]
/-- What stands while a predicate looks. -/
def Hold (B C : Nat) (off n x0 x1 : Int) (w W w' : World) : Prop :=
  w'.cell? ⟨B, 0, none⟩ = some (.int .i64 off) ∧ w'.cell? ⟨C, 0, none⟩ = some (.int .i64 n) ∧ w'.cell? ⟨W.heap.size, 0, none⟩ = some (.int .i64 x0) ∧ w'.cell? ⟨W.heap.size, 1, none⟩ = some (.int .i64 x1) ∧ w'.cell? ⟨W.heap.size, 2, none⟩ = some (.bool true) ∧ Below w.heap.size w w' ∧ W.heap.size < w'.heap.size
theorem Hold.below {B C : Nat} {off n x0 x1 : Int} {w W w' w1 : World} (h : Hold B C off n x0 x1 w W w') (hb : Below w'.heap.size w' w1) : Hold B C off n x0 x1 w W w1 := by
  obtain ⟨h1, h2, h3, h4, h5, h6, h7⟩ := h
  exact ⟨pw_cell_below hb h1, pw_cell_below hb h2, pw_cell_below hb h3, pw_cell_below hb h4, pw_cell_below hb h5, qw h6 hb, Nat.lt_of_lt_of_le h7 hb.size⟩
def holdsB (off n : Int) (x : S35) : Bool := x.f2 && (decide (offV x.f0 ≤ off) && decide (off ≤ wrap64 (wrap64 (wrap64 (x.f0 + x.f1) * 8) - n)))
set_option maxHeartbeats 2000000 in
theorem pred72 (off n : Int) (B C : Nat) (w : World) (hB : B < w.heap.size) (hC : C < w.heap.size) (hcell : w.cell? ⟨B, 0, none⟩ = some (.int .i64 off)) (hcell2 : w.cell? ⟨C, 0, none⟩ = some (.int .i64 n)) :
    PredBelow Try.prog 72 #[.pointer (some ⟨B, 0, none⟩), .pointer (some ⟨C, 0, none⟩)] (fun x : S35 => .agg (enc35 x).toArray) (holdsB off n) w := fun W x hb => by
  have hc : W.cell? ⟨B, 0, none⟩ = some (.int .i64 off) := (hb.cell (p := ⟨B, 0, none⟩) hB).trans hcell
  have hd : W.cell? ⟨C, 0, none⟩ = some (.int .i64 n) := (hb.cell (p := ⟨C, 0, none⟩) hC).trans hcell2
  have hBW : B < W.heap.size := Nat.lt_of_lt_of_le hB hb.size
  have hCW : C < W.heap.size := Nat.lt_of_lt_of_le hC hb.size
  obtain ⟨x0, x1, x2⟩ := x
  have ho := off_v x0 x1 x2
  obtain ⟨v, hv⟩ : ∃ v, offV x0 = v := ⟨_, rfl⟩
  rw [hv] at ho
  replace ho := Lib.hid ho
  show Calls Try.prog 72 #[.agg #[.int .i64 x0, .int .i64 x1, .bool x2], .pointer (some ⟨B, 0, none⟩), .pointer (some ⟨C, 0, none⟩)] W _
  cases x2
  · go_enter Try.func72, Try.ntmps72
    go_wp2
    go_quiet (fail)
    go_wp2
    go_ret
    exact ⟨by simp [holdsB], by repeat (first | exact hb.alloc hb.size _ | apply qd | apply qe | apply qf)⟩
  have hS0 : Hold B C off n x0 x1 w W (W.alloc (.cells #[.int .i64 x0, .int .i64 x1, .bool true] 35)).drew := by
    have hblk : (W.alloc (.cells #[.int .i64 x0, .int .i64 x1, .bool true] 35)).heap[W.heap.size]? = some (.cells #[.int .i64 x0, .int .i64 x1, .bool true] 35 (0, 0)) := heap_alloc_new W _
    refine ⟨pw_cell_below (qd (Below.refl _ _) _) hc, pw_cell_below (qd (Below.refl _ _) _) hd, (blk_cell hblk 0).trans rfl, (blk_cell hblk 1).trans rfl, (blk_cell hblk 2).trans rfl, qf (hb.alloc hb.size _), by simp⟩
  replace hS0 := Lib.hid hS0
  by_cases cv : v ≤ off
  · have cvb : decide (v ≤ off) = true := decide_eq_true cv
    clear cv
    have hfin : Hid (holdsB off n ⟨x0, x1, true⟩ = decide (off ≤ wrap64 (wrap64 (wrap64 (x0 + x1) * 8) - n))) := Lib.hid (by simp only [holdsB]; rw [hv, cvb]; simp)
    replace hv := Lib.hid hv
    go_enter Try.func72, Try.ntmps72
    go_wp2
    refine start_ (n := 21) (S := Hold B C off n x0 x1 w W) (ds := []) #[false, false, false, false, false, false, false, false, false, false, false, false, false, false, false, false, false, false, false, false, false] (by kernel_rfl) rfl rfl hS0.out (fun hS => ?_)
    refine pure_ (i := 0) (N := some 5) (v := .pointer (some ⟨W.heap.size, 2, none⟩)) (a' := ?a1_) #[true, false, false, false, false, false, false, false, false, false, false, false, false, false, false, false, false, false, false, false, false] rfl rfl (by kernel_rfl) (fun _ _ _ h => h) (.inl ⟨by rfl, ?hy1_⟩) ?ha1_ ?h1_
    case hy1_ =>
      intro w'
      go_simp
      try first | rfl | exact i64_w _ | (simp only [i64_w]; done)
    case ha1_ =>
      simp only [Act.put, qg, qh, qi]
      rfl
    refine take_ (i := 1) (N := some 6) (v := .bool true) (a' := ?a2_) #[true, true, false, false, false, false, false, false, false, false, false, false, false, false, false, false, false, false, false, false, false] rfl rfl (by kernel_rfl) (fun _ _ _ h => h) (.inl ⟨by rfl, ?hy2_⟩) hS ?ha2_ ?h2_
    case hy2_ =>
      rintro w' ⟨q1, q2, q3, q4, q5, q6, q7⟩
      go_simp
      try first | rfl | exact i64_w _ | (simp only [i64_w]; done)
    case ha2_ =>
      simp only [Act.put, qg, qh, qi]
      rfl
    refine pure_ (i := 2) (N := some 7) (v := .bool true) (a' := ?a3_) #[true, true, true, false, false, false, false, false, false, false, false, false, false, false, false, false, false, false, false, false, false] rfl rfl (by kernel_rfl) (fun _ _ _ h => h) (.inl ⟨by rfl, ?hy3_⟩) ?ha3_ ?h3_
    case hy3_ =>
      intro w'
      go_simp
      try first | rfl | exact i64_w _ | (simp only [i64_w]; done)
    case ha3_ =>
      simp only [Act.put, qg, qh, qi]
      rfl
    refine take_ (i := 3) (N := some 8) (v := .int .i64 off) (a' := ?a4_) #[true, true, true, true, false, false, false, false, false, false, false, false, false, false, false, false, false, false, false, false, false] rfl rfl (by kernel_rfl) (fun _ _ _ h => h) (.inl ⟨by rfl, ?hy4_⟩) hS ?ha4_ ?h4_
    case hy4_ =>
      rintro w' ⟨q1, q2, q3, q4, q5, q6, q7⟩
      go_simp
      try first | rfl | exact i64_w _ | (simp only [i64_w]; done)
    case ha4_ =>
      simp only [Act.put, qg, qh, qi]
      rfl
    refine take_ (i := 4) (N := some 9) (v := .agg #[.int .i64 x0, .int .i64 x1, .bool true]) (a' := ?a5_) #[true, true, true, true, true, false, false, false, false, false, false, false, false, false, false, false, false, false, false, false, false] rfl rfl (by kernel_rfl) (fun _ _ _ h => h) (.inl ⟨by rfl, ?hy5_⟩) hS ?ha5_ ?h5_
    case hy5_ =>
      rintro w' ⟨q1, q2, q3, q4, q5, q6, q7⟩
      go_simp
      try first | rfl | exact i64_w _ | (simp only [i64_w]; done)
    case ha5_ =>
      simp only [Act.put, qg, qh, qi]
      rfl
    refine one_ (i := 5) (N := some 10) #[true, true, true, true, true, true, false, false, false, false, false, false, false, false, false, false, false, false, false, false, false] rfl rfl (by kernel_rfl) (by decide) (fun K hK => ?_)
    refine goes_ Try.func28 (by kernel_rfl) rfl #[.agg #[.int .i64 x0, .int .i64 x1, .bool true]] (by rfl) rfl rfl (by simp [Act.eval]) ?_
    with_reducible refine (carve_Off.calls x0 x1 true v _ ho.out).mono ?_
    rintro e w1 ⟨rfl, hb1⟩
    refine ⟨_, rfl, ?_⟩
    have hS1 := Hold.below hS hb1
    refine hK.out _ _ hS1 (fun hS => ?_)
    clear hK K
    refine norm_ (a' := ?a6_) ?ha6_ ?h6_
    case ha6_ =>
      simp only [Act.put, qg, qh, qi]
      rfl
    refine pure_ (i := 6) (N := some 11) (v := .bool true) (a' := ?a7_) #[true, true, true, true, true, true, true, false, false, false, false, false, false, false, false, false, false, false, false, false, false] rfl rfl (by kernel_rfl) (fun _ _ _ h => h) (.inl ⟨by rfl, ?hy7_⟩) ?ha7_ ?h7_
    case hy7_ =>
      intro w'
      go_simp
      try first | rfl | exact i64_w _ | (simp only [i64_w]; done)
    case ha7_ =>
      simp only [Act.put, qg, qh, qi]
      rfl
    refine pure_ (i := 7) (N := some 12) (v := .bool true) (a' := ?a8_) #[true, true, true, true, true, true, true, true, false, false, false, false, false, false, false, false, false, false, false, false, false] rfl rfl (by kernel_rfl) (fun _ _ _ h => h) (.inl ⟨by rfl, ?hy8_⟩) ?ha8_ ?h8_
    case hy8_ =>
      intro w'
      go_simp
      try first | rfl | exact i64_w _ | (simp only [i64_w]; done)
    case ha8_ =>
      simp only [Act.put, qg, qh, qi]
      rfl
    refine pure_ (i := 8) (N := some 13) (v := .bool true) (a' := ?a9_) #[true, true, true, true, true, true, true, true, true, false, false, false, false, false, false, false, false, false, false, false, false] rfl rfl (by kernel_rfl) (fun _ _ _ h => h) (.inl ⟨by rfl, ?hy9_⟩) ?ha9_ ?h9_
    case hy9_ =>
      intro w'
      go_simp
      try first | rfl | exact i64_w _ | (simp only [i64_w]; done)
    case ha9_ =>
      simp only [Act.put, qg, qh, qi]
      rfl
    refine take_ (i := 9) (N := some 14) (v := .int .i64 off) (a' := ?a10_) #[true, true, true, true, true, true, true, true, true, true, false, false, false, false, false, false, false, false, false, false, false] rfl rfl (by kernel_rfl) (fun _ _ _ h => h) (.inl ⟨by rfl, ?hy10_⟩) hS ?ha10_ ?h10_
    case hy10_ =>
      rintro w' ⟨q1, q2, q3, q4, q5, q6, q7⟩
      go_simp
      try first | rfl | exact i64_w _ | (simp only [i64_w]; done)
    case ha10_ =>
      simp only [Act.put, qg, qh, qi]
      rfl
    refine pure_ (i := 10) (N := some 15) (v := .pointer (some ⟨W.heap.size, 0, none⟩)) (a' := ?a11_) #[true, true, true, true, true, true, true, true, true, true, true, false, false, false, false, false, false, false, false, false, false] rfl rfl (by kernel_rfl) (fun _ _ _ h => h) (.inl ⟨by rfl, ?hy11_⟩) ?ha11_ ?h11_
    case hy11_ =>
      intro w'
      go_simp
      try first | rfl | exact i64_w _ | (simp only [i64_w]; done)
    case ha11_ =>
      simp only [Act.put, qg, qh, qi]
      rfl
    refine take_ (i := 11) (N := some 16) (v := .int .i64 x0) (a' := ?a12_) #[true, true, true, true, true, true, true, true, true, true, true, true, false, false, false, false, false, false, false, false, false] rfl rfl (by kernel_rfl) (fun _ _ _ h => h) (.inl ⟨by rfl, ?hy12_⟩) hS ?ha12_ ?h12_
    case hy12_ =>
      rintro w' ⟨q1, q2, q3, q4, q5, q6, q7⟩
      go_simp
      try first | rfl | exact i64_w _ | (simp only [i64_w]; done)
    case ha12_ =>
      simp only [Act.put, qg, qh, qi]
      rfl
    refine pure_ (i := 12) (N := some 17) (v := .pointer (some ⟨W.heap.size, 1, none⟩)) (a' := ?a13_) #[true, true, true, true, true, true, true, true, true, true, true, true, true, false, false, false, false, false, false, false, false] rfl rfl (by kernel_rfl) (fun _ _ _ h => h) (.inl ⟨by rfl, ?hy13_⟩) ?ha13_ ?h13_
    case hy13_ =>
      intro w'
      go_simp
      try first | rfl | exact i64_w _ | (simp only [i64_w]; done)
    case ha13_ =>
      simp only [Act.put, qg, qh, qi]
      rfl
    refine take_ (i := 13) (N := some 18) (v := .int .i64 x1) (a' := ?a14_) #[true, true, true, true, true, true, true, true, true, true, true, true, true, true, false, false, false, false, false, false, false] rfl rfl (by kernel_rfl) (fun _ _ _ h => h) (.inl ⟨by rfl, ?hy14_⟩) hS ?ha14_ ?h14_
    case hy14_ =>
      rintro w' ⟨q1, q2, q3, q4, q5, q6, q7⟩
      go_simp
      try first | rfl | exact i64_w _ | (simp only [i64_w]; done)
    case ha14_ =>
      simp only [Act.put, qg, qh, qi]
      rfl
    refine pure_ (i := 14) (N := some 19) (v := .int .i64 (wrap64 (x0 + x1))) (a' := ?a15_) #[true, true, true, true, true, true, true, true, true, true, true, true, true, true, true, false, false, false, false, false, false] rfl rfl (by kernel_rfl) (fun _ _ _ h => h) (.inl ⟨by rfl, ?hy15_⟩) ?ha15_ ?h15_
    case hy15_ =>
      intro w'
      go_simp
      try first | rfl | exact i64_w _ | (simp only [i64_w]; done)
    case ha15_ =>
      simp only [Act.put, qg, qh, qi]
      rfl
    refine pure_ (i := 15) (N := some 20) (v := .int .i64 (wrap64 (wrap64 (x0 + x1) * 8))) (a' := ?a16_) #[true, true, true, true, true, true, true, true, true, true, true, true, true, true, true, true, false, false, false, false, false] rfl rfl (by kernel_rfl) (fun _ _ _ h => h) (.inl ⟨by rfl, ?hy16_⟩) ?ha16_ ?h16_
    case hy16_ =>
      intro w'
      go_simp
      try first | rfl | exact i64_w _ | (simp only [i64_w]; done)
    case ha16_ =>
      simp only [Act.put, qg, qh, qi]
      rfl
    refine take_ (i := 16) (N := some 21) (v := .int .i64 n) (a' := ?a17_) #[true, true, true, true, true, true, true, true, true, true, true, true, true, true, true, true, true, false, false, false, false] rfl rfl (by kernel_rfl) (fun _ _ _ h => h) (.inl ⟨by rfl, ?hy17_⟩) hS ?ha17_ ?h17_
    case hy17_ =>
      rintro w' ⟨q1, q2, q3, q4, q5, q6, q7⟩
      go_simp
      try first | rfl | exact i64_w _ | (simp only [i64_w]; done)
    case ha17_ =>
      simp only [Act.put, qg, qh, qi]
      rfl
    refine pure_ (i := 17) (N := some 22) (v := .int .i64 (wrap64 (wrap64 (wrap64 (x0 + x1) * 8) - n))) (a' := ?a18_) #[true, true, true, true, true, true, true, true, true, true, true, true, true, true, true, true, true, true, false, false, false] rfl rfl (by kernel_rfl) (fun _ _ _ h => h) (.inl ⟨by rfl, ?hy18_⟩) ?ha18_ ?h18_
    case hy18_ =>
      intro w'
      go_simp
      try first | rfl | exact i64_w _ | (simp only [i64_w]; done)
    case ha18_ =>
      simp only [Act.put, qg, qh, qi]
      rfl
    refine pure_ (i := 18) (N := some 23) (v := .bool (decide (off ≤ wrap64 (wrap64 (wrap64 (x0 + x1) * 8) - n)))) (a' := ?a19_) #[true, true, true, true, true, true, true, true, true, true, true, true, true, true, true, true, true, true, true, false, false] rfl rfl (by kernel_rfl) (fun _ _ _ h => h) (.inl ⟨by rfl, ?hy19_⟩) ?ha19_ ?h19_
    case hy19_ =>
      intro w'
      go_simp
      try first | rfl | exact i64_w _ | (simp only [i64_w]; done)
    case ha19_ =>
      simp only [Act.put, qg, qh, qi]
      rfl
    refine pure_ (i := 19) (N := some 24) (v := .bool (decide (off ≤ wrap64 (wrap64 (wrap64 (x0 + x1) * 8) - n)))) (a' := ?a20_) #[true, true, true, true, true, true, true, true, true, true, true, true, true, true, true, true, true, true, true, true, false] rfl rfl (by kernel_rfl) (fun _ _ _ h => h) (.inl ⟨by rfl, ?hy20_⟩) ?ha20_ ?h20_
    case hy20_ =>
      intro w'
      go_simp
      try first | rfl | exact i64_w _ | (simp only [i64_w]; done)
    case ha20_ =>
      simp only [Act.put, qg, qh, qi]
      rfl
    refine pure_ (i := 20) (N := some 4) (v := .bool (decide (off ≤ wrap64 (wrap64 (wrap64 (x0 + x1) * 8) - n)))) (a' := ?a21_) #[true, true, true, true, true, true, true, true, true, true, true, true, true, true, true, true, true, true, true, true, true] rfl rfl (by kernel_rfl) (fun _ _ _ h => h) (.inl ⟨by rfl, ?hy21_⟩) ?ha21_ ?h21_
    case hy21_ =>
      intro w'
      go_simp
      try first | rfl | exact i64_w _ | (simp only [i64_w]; done)
    case ha21_ =>
      simp only [Act.put, qg, qh, qi]
      rfl
    refine done_ (by kernel_rfl) ?_
    simp only [Act.put, qg, qh, qi, Exit.then]
    go_wp2
    go_ret
    exact ⟨by rw [hfin.out]; rfl, hS.2.2.2.2.2.1⟩
  · have cvb : decide (v ≤ off) = false := decide_eq_false cv
    clear cv
    have hfin : Hid (holdsB off n ⟨x0, x1, true⟩ = false) := Lib.hid (by simp only [holdsB]; rw [hv, cvb]; simp)
    replace hv := Lib.hid hv
    go_enter Try.func72, Try.ntmps72
    go_wp2
    refine start_ (n := 21) (S := Hold B C off n x0 x1 w W) (ds := []) #[false, false, false, false, false, false, false, false, false, false, false, false, false, false, false, false, false, false, false, false, false] (by kernel_rfl) rfl rfl hS0.out (fun hS => ?_)
    refine pure_ (i := 0) (N := some 5) (v := .pointer (some ⟨W.heap.size, 2, none⟩)) (a' := ?a22_) #[true, false, false, false, false, false, false, false, false, false, false, false, false, false, false, false, false, false, false, false, false] rfl rfl (by kernel_rfl) (fun _ _ _ h => h) (.inl ⟨by rfl, ?hy22_⟩) ?ha22_ ?h22_
    case hy22_ =>
      intro w'
      go_simp
      try first | rfl | exact i64_w _ | (simp only [i64_w]; done)
    case ha22_ =>
      simp only [Act.put, qg, qh, qi]
      rfl
    refine take_ (i := 1) (N := some 6) (v := .bool true) (a' := ?a23_) #[true, true, false, false, false, false, false, false, false, false, false, false, false, false, false, false, false, false, false, false, false] rfl rfl (by kernel_rfl) (fun _ _ _ h => h) (.inl ⟨by rfl, ?hy23_⟩) hS ?ha23_ ?h23_
    case hy23_ =>
      rintro w' ⟨q1, q2, q3, q4, q5, q6, q7⟩
      go_simp
      try first | rfl | exact i64_w _ | (simp only [i64_w]; done)
    case ha23_ =>
      simp only [Act.put, qg, qh, qi]
      rfl
    refine pure_ (i := 2) (N := some 7) (v := .bool true) (a' := ?a24_) #[true, true, true, false, false, false, false, false, false, false, false, false, false, false, false, false, false, false, false, false, false] rfl rfl (by kernel_rfl) (fun _ _ _ h => h) (.inl ⟨by rfl, ?hy24_⟩) ?ha24_ ?h24_
    case hy24_ =>
      intro w'
      go_simp
      try first | rfl | exact i64_w _ | (simp only [i64_w]; done)
    case ha24_ =>
      simp only [Act.put, qg, qh, qi]
      rfl
    refine take_ (i := 3) (N := some 8) (v := .int .i64 off) (a' := ?a25_) #[true, true, true, true, false, false, false, false, false, false, false, false, false, false, false, false, false, false, false, false, false] rfl rfl (by kernel_rfl) (fun _ _ _ h => h) (.inl ⟨by rfl, ?hy25_⟩) hS ?ha25_ ?h25_
    case hy25_ =>
      rintro w' ⟨q1, q2, q3, q4, q5, q6, q7⟩
      go_simp
      try first | rfl | exact i64_w _ | (simp only [i64_w]; done)
    case ha25_ =>
      simp only [Act.put, qg, qh, qi]
      rfl
    refine take_ (i := 4) (N := some 9) (v := .agg #[.int .i64 x0, .int .i64 x1, .bool true]) (a' := ?a26_) #[true, true, true, true, true, false, false, false, false, false, false, false, false, false, false, false, false, false, false, false, false] rfl rfl (by kernel_rfl) (fun _ _ _ h => h) (.inl ⟨by rfl, ?hy26_⟩) hS ?ha26_ ?h26_
    case hy26_ =>
      rintro w' ⟨q1, q2, q3, q4, q5, q6, q7⟩
      go_simp
      try first | rfl | exact i64_w _ | (simp only [i64_w]; done)
    case ha26_ =>
      simp only [Act.put, qg, qh, qi]
      rfl
    refine one_ (i := 5) (N := some 10) #[true, true, true, true, true, true, false, false, false, false, false, false, false, false, false, false, false, false, false, false, false] rfl rfl (by kernel_rfl) (by decide) (fun K hK => ?_)
    refine goes_ Try.func28 (by kernel_rfl) rfl #[.agg #[.int .i64 x0, .int .i64 x1, .bool true]] (by rfl) rfl rfl (by simp [Act.eval]) ?_
    with_reducible refine (carve_Off.calls x0 x1 true v _ ho.out).mono ?_
    rintro e w1 ⟨rfl, hb1⟩
    refine ⟨_, rfl, ?_⟩
    have hS1 := Hold.below hS hb1
    refine hK.out _ _ hS1 (fun hS => ?_)
    clear hK K
    refine norm_ (a' := ?a27_) ?ha27_ ?h27_
    case ha27_ =>
      simp only [Act.put, qg, qh, qi]
      rfl
    refine pure_ (i := 6) (N := some 11) (v := .bool false) (a' := ?a28_) #[true, true, true, true, true, true, true, false, false, false, false, false, false, false, false, false, false, false, false, false, false] rfl rfl (by kernel_rfl) (fun _ _ _ h => h) (.inl ⟨by rfl, ?hy28_⟩) ?ha28_ ?h28_
    case hy28_ =>
      intro w'
      go_simp
      try first | rfl | exact i64_w _ | (simp only [i64_w]; done)
    case ha28_ =>
      simp only [Act.put, qg, qh, qi]
      rfl
    refine pure_ (i := 7) (N := some 12) (v := .bool false) (a' := ?a29_) #[true, true, true, true, true, true, true, true, false, false, false, false, false, false, false, false, false, false, false, false, false] rfl rfl (by kernel_rfl) (fun _ _ _ h => h) (.inl ⟨by rfl, ?hy29_⟩) ?ha29_ ?h29_
    case hy29_ =>
      intro w'
      go_simp
      try first | rfl | exact i64_w _ | (simp only [i64_w]; done)
    case ha29_ =>
      simp only [Act.put, qg, qh, qi]
      rfl
    refine pure_ (i := 8) (N := some 13) (v := .bool false) (a' := ?a30_) #[true, true, true, true, true, true, true, true, true, false, false, false, false, false, false, false, false, false, false, false, false] rfl rfl (by kernel_rfl) (fun _ _ _ h => h) (.inl ⟨by rfl, ?hy30_⟩) ?ha30_ ?h30_
    case hy30_ =>
      intro w'
      go_simp
      try first | rfl | exact i64_w _ | (simp only [i64_w]; done)
    case ha30_ =>
      simp only [Act.put, qg, qh, qi]
      rfl
    refine pure_ (i := 9) (N := some 14) (v := undef) (a' := ?a31_) #[true, true, true, true, true, true, true, true, true, true, false, false, false, false, false, false, false, false, false, false, false] rfl rfl (by kernel_rfl) (fun _ _ _ h => h) (.inr ⟨by rfl, rfl⟩) ?ha31_ ?h31_
    case ha31_ =>
      simp only [Act.put, qg, qh, qi]
      rfl
    refine pure_ (i := 10) (N := some 15) (v := undef) (a' := ?a32_) #[true, true, true, true, true, true, true, true, true, true, true, false, false, false, false, false, false, false, false, false, false] rfl rfl (by kernel_rfl) (fun _ _ _ h => h) (.inr ⟨by rfl, rfl⟩) ?ha32_ ?h32_
    case ha32_ =>
      simp only [Act.put, qg, qh, qi]
      rfl
    refine pure_ (i := 11) (N := some 16) (v := undef) (a' := ?a33_) #[true, true, true, true, true, true, true, true, true, true, true, true, false, false, false, false, false, false, false, false, false] rfl rfl (by kernel_rfl) (fun _ _ _ h => h) (.inr ⟨by rfl, rfl⟩) ?ha33_ ?h33_
    case ha33_ =>
      simp only [Act.put, qg, qh, qi]
      rfl
    refine pure_ (i := 12) (N := some 17) (v := undef) (a' := ?a34_) #[true, true, true, true, true, true, true, true, true, true, true, true, true, false, false, false, false, false, false, false, false] rfl rfl (by kernel_rfl) (fun _ _ _ h => h) (.inr ⟨by rfl, rfl⟩) ?ha34_ ?h34_
    case ha34_ =>
      simp only [Act.put, qg, qh, qi]
      rfl
    refine pure_ (i := 13) (N := some 18) (v := undef) (a' := ?a35_) #[true, true, true, true, true, true, true, true, true, true, true, true, true, true, false, false, false, false, false, false, false] rfl rfl (by kernel_rfl) (fun _ _ _ h => h) (.inr ⟨by rfl, rfl⟩) ?ha35_ ?h35_
    case ha35_ =>
      simp only [Act.put, qg, qh, qi]
      rfl
    refine pure_ (i := 14) (N := some 19) (v := undef) (a' := ?a36_) #[true, true, true, true, true, true, true, true, true, true, true, true, true, true, true, false, false, false, false, false, false] rfl rfl (by kernel_rfl) (fun _ _ _ h => h) (.inr ⟨by rfl, rfl⟩) ?ha36_ ?h36_
    case ha36_ =>
      simp only [Act.put, qg, qh, qi]
      rfl
    refine pure_ (i := 15) (N := some 20) (v := undef) (a' := ?a37_) #[true, true, true, true, true, true, true, true, true, true, true, true, true, true, true, true, false, false, false, false, false] rfl rfl (by kernel_rfl) (fun _ _ _ h => h) (.inr ⟨by rfl, rfl⟩) ?ha37_ ?h37_
    case ha37_ =>
      simp only [Act.put, qg, qh, qi]
      rfl
    refine pure_ (i := 16) (N := some 21) (v := undef) (a' := ?a38_) #[true, true, true, true, true, true, true, true, true, true, true, true, true, true, true, true, true, false, false, false, false] rfl rfl (by kernel_rfl) (fun _ _ _ h => h) (.inr ⟨by rfl, rfl⟩) ?ha38_ ?h38_
    case ha38_ =>
      simp only [Act.put, qg, qh, qi]
      rfl
    refine pure_ (i := 17) (N := some 22) (v := undef) (a' := ?a39_) #[true, true, true, true, true, true, true, true, true, true, true, true, true, true, true, true, true, true, false, false, false] rfl rfl (by kernel_rfl) (fun _ _ _ h => h) (.inr ⟨by rfl, rfl⟩) ?ha39_ ?h39_
    case ha39_ =>
      simp only [Act.put, qg, qh, qi]
      rfl
    refine pure_ (i := 18) (N := some 23) (v := undef) (a' := ?a40_) #[true, true, true, true, true, true, true, true, true, true, true, true, true, true, true, true, true, true, true, false, false] rfl rfl (by kernel_rfl) (fun _ _ _ h => h) (.inr ⟨by rfl, rfl⟩) ?ha40_ ?h40_
    case ha40_ =>
      simp only [Act.put, qg, qh, qi]
      rfl
    refine pure_ (i := 19) (N := some 24) (v := .bool false) (a' := ?a41_) #[true, true, true, true, true, true, true, true, true, true, true, true, true, true, true, true, true, true, true, true, false] rfl rfl (by kernel_rfl) (fun _ _ _ h => h) (.inl ⟨by rfl, ?hy41_⟩) ?ha41_ ?h41_
    case hy41_ =>
      intro w'
      go_simp
      try first | rfl | exact i64_w _ | (simp only [i64_w]; done)
    case ha41_ =>
      simp only [Act.put, qg, qh, qi]
      rfl
    refine pure_ (i := 20) (N := some 4) (v := .bool false) (a' := ?a42_) #[true, true, true, true, true, true, true, true, true, true, true, true, true, true, true, true, true, true, true, true, true] rfl rfl (by kernel_rfl) (fun _ _ _ h => h) (.inl ⟨by rfl, ?hy42_⟩) ?ha42_ ?h42_
    case hy42_ =>
      intro w'
      go_simp
      try first | rfl | exact i64_w _ | (simp only [i64_w]; done)
    case ha42_ =>
      simp only [Act.put, qg, qh, qi]
      rfl
    refine done_ (by kernel_rfl) ?_
    simp only [Act.put, qg, qh, qi, Exit.then]
    go_wp2
    go_ret
    exact ⟨by rw [hfin.out]; rfl, hS.2.2.2.2.2.1⟩
theorem pred87 (off : Int) (B : Nat) (w : World) (hB : B < w.heap.size) (hcell : w.cell? ⟨B, 0, none⟩ = some (.int .i64 off)) :
    PredBelow Try.prog 87 #[.pointer (some ⟨B, 0, none⟩)] (fun x : S35 => .agg (enc35 x).toArray) (fun x => x.f2 && decide (offV x.f0 = off)) w := fun W x hb => by
  have hc : W.cell? ⟨B, 0, none⟩ = some (.int .i64 off) := (hb.cell (p := ⟨B, 0, none⟩) hB).trans hcell
  have hBW : B < W.heap.size := Nat.lt_of_lt_of_le hB hb.size
  have hne : B ≠ W.heap.size := by omega
  obtain ⟨x0, x1, x2⟩ := x
  have ho := off_v x0 x1 x2
  obtain ⟨v, hv⟩ : ∃ v, offV x0 = v := ⟨_, rfl⟩
  rw [hv] at ho
  show Calls Try.prog 87 #[.agg #[.int .i64 x0, .int .i64 x1, .bool x2], .pointer (some ⟨B, 0, none⟩)] W _
  cases x2
  · go_enter Try.func87, Try.ntmps87
    go_wp2
    go_quiet (fail)
    go_wp2
    go_ret
    exact ⟨by simp, by repeat (first | exact hb.alloc hb.size _ | apply qd | apply qe | apply qf)⟩
  · go_enter Try.func87, Try.ntmps87
    go_wp2
    go_region_with (go_at_call 28; refine (carve_Off.calls _ _ _ _ _ ho).mono ?_; rintro e w' ⟨rfl, hb'⟩; have hcB : w'.cell? ⟨B, 0, none⟩ = some (.int .i64 off) := (hb'.cell (p := ⟨B, 0, none⟩) (by simp; omega)).trans (by go_simp))
    all_goals (try go_wp2)
    all_goals go_ret
    all_goals exact ⟨by simp only [hv, Bool.true_and]; congr 2, qw (by repeat (first | exact hb.alloc hb.size _ | apply qf | apply qd | apply qe)) hb'⟩
theorem row35 {W : World} {A : Option Addr} {l : List S35} {g : Nat} (h : Kd.C k35 W A l.length l) (hA : A = some ⟨g, 0, none⟩) (i35 : Inhabited S35) :
    ∀ j, j < l.length → ∀ i v, (enc35 l[j]!)[i]? = some v → W.cell? ⟨g, 0 + j * 3 + i, none⟩ = some v := fun j hj i v hi => by
  obtain ⟨ad, e, hc⟩ := h.2.2 (by omega)
  rw [hA] at e
  obtain rfl := Option.some.inj e
  obtain ⟨c, hl, hK, hcell⟩ := hc j l[j] (List.getElem?_eq_getElem hj)
  have hcs := k35_open hK
  subst hcs
  rw [getElem!_pos l j hj] at hi
  have := hcell i v hi
  rw [add_plain] at this
  rw [Nat.zero_add]
  exact this
def findS (off : Int) : List S35 → Nat → Int
  | [], _ => -1
  | y :: r, i => if (y.f2 && decide (offV y.f0 = off)) = true then (i : Int) else findS off r (i + 1)
theorem find_idx (off : Int) (d : S35) : ∀ (l : List S35) (i : Nat), Lib.idxByFrom (fun _ y => y.f2 && decide (offV y.f0 = off)) d l i = findS off l i
  | [], _ => rfl
  | y :: r, i => by
    show (if (y.f2 && decide (offV y.f0 = off)) = true then (i : Int) else Lib.idxByFrom _ d r (i + 1)) = _
    rw [find_idx off d r (i + 1)]
    rfl
theorem nil86 (c : Nat) (f : Value) (w : World) : Calls Try.prog 86 #[.slice none 0 c, f] w fun e w' => e = .returned (.int .i64 (-1)) ∧ Below w.heap.size w w' := by
  go_enter Try.func86, Try.ntmps86
  go_wp2
  refine wp_loop_rounds 1 ?_
  rw [rounds_succ]
  go_wp2
  go_ret
  exact ⟨rfl, by repeat (first | exact Below.refl _ _ | apply qd | apply qe | apply qf)⟩
theorem nil71 (c : Nat) (f : Value) (w : World) : Calls Try.prog 71 #[.slice none 0 c, f] w fun e w' => e = .returned (.bool false) ∧ Below w.heap.size w w' := by
  go_enter Try.func71, Try.ntmps71
  go_wp2_with (go_at_call 86; refine (nil86 c f _).mono ?_; rintro e w' ⟨rfl, hb⟩)
  go_ret
  exact ⟨rfl, by first | exact hb | exact qw (by repeat (first | exact Below.refl _ _ | apply qd | apply qe | apply qf)) hb⟩
theorem own_form {W : World} {base : Nat} {v : Value} {l : List S35} (h : Kd.R k35 35 W base (fun _ => True) v l) : (v = .slice none 0 0 ∧ l = []) ∨ ∃ g c, v = .slice (some ⟨g, 0, none⟩) l.length c ∧ g < W.heap.size := by
  obtain ⟨inner, ho⟩ := Kd.R_own h
  rcases ho.2 with ⟨rfl, hn⟩ | ⟨g, cap, cur, rfl, hg, hh, _⟩
  · exact .inl ⟨rfl, List.eq_nil_of_length_eq_zero hn⟩
  · exact .inr ⟨g, cap, rfl, blk_lt hh⟩
theorem index86 (off : Int) (B : Nat) (W : World) (v : Value) (l : List S35) (base : Nat) (h : Kd.R k35 35 W base (fun _ => True) v l) (hB : B < W.heap.size) (hcell : W.cell? ⟨B, 0, none⟩ = some (.int .i64 off)) :
    Calls Try.prog 86 #[v, .func (.func 87) #[] #[.pointer (some ⟨B, 0, none⟩)]] W fun e w' => e = .returned (.int .i64 (findS off l 0)) ∧ Below W.heap.size W w' := by
  rcases own_form h with ⟨rfl, rfl⟩ | ⟨g, c, rfl, hg⟩
  · exact nil86 0 _ W
  · obtain ⟨A, c', e, hc, hC⟩ := Kd.R_reads h
    have hA : A = some ⟨g, 0, none⟩ := by injection e with e1 _ _; exact e1.symm
    let i35 : Inhabited S35 := ⟨⟨0, 0, false⟩⟩
    have H := AnyQ.slices_IndexFunc (P := Try.prog) (ρ := ren86) (α := S35) lay86 3 Try.isAgg35 Try.sizeOf35 enc35 (fun _ => rfl) (fun x => x.f2 && decide (offV x.f0 = off)) 87 #[.pointer (some ⟨B, 0, none⟩)] (enters_ Try.func87 (by kernel_rfl) rfl) g 0 l.length c l W (pred87 off B W hB hcell) (Nat.le_refl _) hC.2.1 hg (row35 hC hA i35)
    refine H.mono ?_
    rintro e w' ⟨rfl, hb⟩
    refine ⟨?_, hb⟩
    rw [List.take_length]
    show Ending.returned (.int .i64 (Lib.idxByFrom _ _ l 0)) = _
    rw [find_idx]
theorem contains71 (off n : Int) (B C : Nat) (W : World) (v : Value) (l : List S35) (base : Nat) (h : Kd.R k35 35 W base (fun _ => True) v l) (hB : B < W.heap.size) (hC' : C < W.heap.size) (hcell : W.cell? ⟨B, 0, none⟩ = some (.int .i64 off)) (hcell2 : W.cell? ⟨C, 0, none⟩ = some (.int .i64 n)) :
    Calls Try.prog 71 #[v, .func (.func 72) #[] #[.pointer (some ⟨B, 0, none⟩), .pointer (some ⟨C, 0, none⟩)]] W fun e w' => e = .returned (.bool (l.any (holdsB off n))) ∧ Below W.heap.size W w' := by
  rcases own_form h with ⟨rfl, rfl⟩ | ⟨g, c, rfl, hg⟩
  · exact nil71 0 _ W
  · obtain ⟨A, c', e, hc, hC⟩ := Kd.R_reads h
    have hA : A = some ⟨g, 0, none⟩ := by injection e with e1 _ _; exact e1.symm
    let i35 : Inhabited S35 := ⟨⟨0, 0, false⟩⟩
    have H := AnyQ.slices_ContainsFunc (P := Try.prog) (ρ := ren86) (α := S35) lay71 3 Try.isAgg35 Try.sizeOf35 enc35 (fun _ => rfl) (holdsB off n) 72 #[.pointer (some ⟨B, 0, none⟩), .pointer (some ⟨C, 0, none⟩)] (enters_ Try.func72 (by kernel_rfl) rfl) g 0 l.length c l W (pred72 off n B C W hB hC' hcell hcell2) (Nat.le_refl _) hC.2.1 hg (row35 hC hA i35)
    refine H.mono ?_
    rintro e w' ⟨rfl, hb⟩
    exact ⟨by rw [List.take_length], hb⟩
end
def image_Holds.f (k : Nat) (l0 : List Int) (a1 : Int) (a2 : Int) : Option (Bool) := if a2 < 0 then (some false) else (if a2 > 448 then (some false) else ((chain_Blocks.f k l0).bind fun p => (some (p.1.any (holdsB a1 a2)))))
theorem image_Holds.mono : ∀ a0 a1 a2 k, LeO (image_Holds.f k a0 a1 a2) (image_Holds.f (k + 1) a0 a1 a2) := by
  intro a0 a1 a2 k
  unfold image_Holds.f
  exact LeO.ite (LeO.refl _) (LeO.ite (LeO.refl _) (LeO.bind (chain_Blocks.mono a0 k) (fun _ => LeO.refl _)))
set_option maxHeartbeats 4000000 in
theorem image_Holds.calls (k : Nat) (A0 : Option Addr) (c0 : Nat) (l0 : List Int) (a1 : Int) (a2 : Int) (r : Bool) (w : World) (hr0 : Kd.C (Kd.int .u64) w A0 l0.length l0) (hc0 : l0.length ≤ c0) (h : image_Holds.f k l0 a1 a2 = some r) :
    Calls Try.prog 42 #[.slice A0 l0.length c0, .int .i64 a1, .int .i64 a2] w fun e w' => e = .returned (.bool r) ∧ Below w.heap.size w w' := by
 have hmf : ∀ (fn : Fn) (first cap : Array Value) (w : World), (Instr.makeFunc fn first cap).run Try.prog w = .ok (.func fn first cap) w := fun _ _ _ _ => rfl
 have HR := Lib.hid hr0
 have HC := Lib.hid hc0
 clear hr0 hc0
 unfold image_Holds.f at h
 by_cases c1 : a2 < 0
 ·
  rw [if_pos c1] at h
  obtain rfl := Option.some.inj h
  have c1b : decide (a2 < 0) = true := decide_eq_true c1
  go_enter Try.func42, Try.ntmps42
  go_wp2
  go_ret
  exact ⟨rfl, by repeat (first | exact Below.refl _ _ | apply qd | apply qe | apply qf)⟩
 rw [if_neg c1] at h
 have c1b : decide (a2 < 0) = false := decide_eq_false c1
 by_cases c2 : a2 > 448
 ·
  rw [if_pos c2] at h
  obtain rfl := Option.some.inj h
  have c2b : decide (448 < a2) = true := decide_eq_true c2
  go_enter Try.func42, Try.ntmps42
  go_wp2
  go_ret
  exact ⟨rfl, by repeat (first | exact Below.refl _ _ | apply qd | apply qe | apply qf)⟩
 rw [if_neg c2] at h
 have c2b : decide (448 < a2) = false := decide_eq_false c2
 obtain ⟨⟨m, ok⟩, hb, hm⟩ := Option.bind_eq_some_iff.1 h
 obtain rfl := Option.some.inj hm
 have hb := Lib.hid hb
 clear h hm c1 c2
 have hW : Below w.heap.size w ((w.alloc (.cells #[.int .i64 a1] 3)).alloc (.cells #[.int .i64 a2] 3)) := qd (qd (Below.refl _ _) _) _
 have hB0 : ((w.alloc (.cells #[.int .i64 a1] 3)).alloc (.cells #[.int .i64 a2] 3)).cell? ⟨w.heap.size, 0, none⟩ = some (.int .i64 a1) := by
  have hh : ((w.alloc (.cells #[.int .i64 a1] 3)).alloc (.cells #[.int .i64 a2] 3)).heap[w.heap.size]? = some (.cells #[.int .i64 a1] 3 (0, 0)) := blk_grown (heap_alloc_new w _) (World.grownBy_alloc _ _ none) (by simp)
  rw [blk_cell hh]; rfl
 have hC0 : ((w.alloc (.cells #[.int .i64 a1] 3)).alloc (.cells #[.int .i64 a2] 3)).cell? ⟨w.heap.size + 1, 0, none⟩ = some (.int .i64 a2) := by
  have hh : ((w.alloc (.cells #[.int .i64 a1] 3)).alloc (.cells #[.int .i64 a2] 3)).heap[w.heap.size + 1]? = some (.cells #[.int .i64 a2] 3 (0, 0)) := by simpa using heap_alloc_new (w.alloc (.cells #[.int .i64 a1] 3)) (.cells #[.int .i64 a2] 3)
  rw [blk_cell hh]; rfl
 replace hB0 := Lib.hid hB0
 replace hC0 := Lib.hid hC0
 go_enter Try.func42, Try.ntmps42
 go_wp2_with (first
  | (go_at_call 35; (with_reducible refine (chain_Blocks.calls k _ _ l0 m ok _ ?s1 ?s2 hb.out).mono ?_); (case s1 => exact Kd.C_below HR.out hW); (case s2 => exact HC.out); rintro e w1 ⟨v, rfl, ho, hb1⟩; have hB1 := Lib.hid (pw_cell_below hb1 hB0.out); have hC1 := Lib.hid (pw_cell_below hb1 hC0.out); have hB' := Lib.hid (qp w1 _ hB1.out); have hC' := Lib.hid (qp w1 _ hC1.out); have ho := Lib.hid ho)
  | (go_at_call 71; (with_reducible refine (contains71 a1 a2 w.heap.size (w.heap.size + 1) _ v m _ ho.out hB'.out hC'.out hB1.out hC1.out).mono ?_); rintro e w2 ⟨rfl, hb2⟩))
 go_ret
 exact ⟨rfl, qw (qw hW hb1) hb2⟩

/-! ### image_find: function 73, told by hand -/
def image_find.f (k : Nat) (l0 : List Int) (a1 : Int) : Option (List (S35) × Int) := (chain_Blocks.f k l0).bind fun p => (some (p.1, findS a1 p.1 0))
theorem image_find.mono : ∀ a0 a1 k, LeO (image_find.f k a0 a1) (image_find.f (k + 1) a0 a1) := by
  intro a0 a1 k
  unfold image_find.f
  exact LeO.bind (chain_Blocks.mono a0 k) (fun _ => LeO.refl _)
set_option maxHeartbeats 4000000 in
theorem image_find.calls (k : Nat) (A0 : Option Addr) (c0 : Nat) (l0 : List Int) (a1 : Int) (r1 : List (S35)) (r2 : Int) (w : World) (hr0 : Kd.C (Kd.int .u64) w A0 l0.length l0) (hc0 : l0.length ≤ c0) (h : image_find.f k l0 a1 = some (r1, r2)) :
    Calls Try.prog 73 #[.slice A0 l0.length c0, .int .i64 a1] w fun e w' => ∃ v0_ : Value, e = .returned (.tuple #[v0_, .int .i64 r2]) ∧ Kd.R k35 35 w' w.heap.size (fun _ => True) v0_ r1 ∧ Below w.heap.size w w' := by
 have hmf : ∀ (fn : Fn) (first cap : Array Value) (w : World), (Instr.makeFunc fn first cap).run Try.prog w = .ok (.func fn first cap) w := fun _ _ _ _ => rfl
 have HR := Lib.hid hr0
 have HC := Lib.hid hc0
 clear hr0 hc0
 unfold image_find.f at h
 obtain ⟨⟨m, ok⟩, hb, hm⟩ := Option.bind_eq_some_iff.1 h
 simp only [Option.some.injEq, Prod.mk.injEq] at hm
 obtain ⟨rfl, rfl⟩ := hm
 have hb := Lib.hid hb
 clear h
 have hW : Below w.heap.size w (w.alloc (.cells #[.int .i64 a1] 3)) := qd (Below.refl _ _) _
 have hB0 : (w.alloc (.cells #[.int .i64 a1] 3)).cell? ⟨w.heap.size, 0, none⟩ = some (.int .i64 a1) := by
  have hh : (w.alloc (.cells #[.int .i64 a1] 3)).heap[w.heap.size]? = some (.cells #[.int .i64 a1] 3 (0, 0)) := heap_alloc_new w _
  rw [blk_cell hh]; rfl
 replace hB0 := Lib.hid hB0
 go_enter Try.func73, Try.ntmps73
 go_wp2_with (first
  | (go_at_call 35; (with_reducible refine (chain_Blocks.calls k _ _ l0 m ok _ ?s1 ?s2 hb.out).mono ?_); (case s1 => exact Kd.C_below HR.out hW); (case s2 => exact HC.out); rintro e w1 ⟨v, rfl, ho, hb1⟩; have hB1 := Lib.hid (pw_cell_below hb1 hB0.out); have hB' := Lib.hid (qp w1 _ hB1.out); have ho := Lib.hid ho)
  | (go_at_call 86; (with_reducible refine (index86 a1 w.heap.size _ v m _ ho.out hB'.out hB1.out).mono ?_); rintro e w2 ⟨rfl, hb2⟩))
 go_ret2
 exact ⟨v, rfl, Kd.R_lower (qv ho.out hb2) (by simp), qw (qw hW hb1) hb2⟩

/-! ### image_Is: function 43 -/
def image_Is.f (k : Nat) (l0 : List Int) (a1 : Int) : Option (Bool) := (image_find.f k l0 a1).bind fun bt189 => (some (decide (bt189.2 ≥ 0)))
theorem image_Is.mono : ∀ a0 a1 k, LeO (image_Is.f k a0 a1) (image_Is.f (k + 1) a0 a1) := by
 intro a0 a1 k
 unfold image_Is.f
 repeat' first
   | (with_reducible exact image_find.mono _ _ _)
   | (with_reducible exact LeO.refl _)
   | (with_reducible exact LeO.none _)
   | (with_reducible refine LeO.ite ?_ ?_)
   | (with_reducible refine LeO.bind ?_ (fun _ => ?_))
   | exact image_find.mono _ _ _
   | exact LeO.none _
   | refine LeO.ite ?_ ?_
   | refine LeO.bind ?_ (fun _ => ?_)
set_option maxHeartbeats 8000000 in
set_option maxRecDepth 100000 in
theorem image_Is.calls (k : Nat) (A0 : Option Addr) (c0 : Nat) (l0 : List Int) (a1 : Int) (r : Bool) (w : World) (hr0 : Kd.C (Kd.int .u64) w A0 l0.length l0) (hc0 : l0.length ≤ c0) (h : image_Is.f k l0 a1 = some r) :
  Calls Try.prog 43 #[.slice A0 l0.length c0, .int .i64 a1] w fun e w' => e = .returned (.bool r) ∧ Below w.heap.size w w' := by
 have HR0 := Aside0.mk hr0
 have HC0 := Aside0.mk hc0
 clear hr0 hc0
 have HB := Aside0.mk (Below.refl w.heap.size w)
 have H : ((image_find.f k l0 a1).bind fun bt189 => (some (decide (bt189.2 ≥ 0)))) = some r := h
 clear h
 replace H := Option.bind_eq_some_iff.mp H
 obtain ⟨⟨t189, t190⟩, A30, H⟩ := H
 replace H : (some (decide (t190 ≥ 0))) = some r := H
 have A3 := Aside0.mk A30
 clear A30
 obtain rfl := Option.some.inj H
 go_enter Try.func43, Try.ntmps43
 go_wp2_with (first | ((with_reducible refine gate_callee (f := 73) rfl ?_); refine goesL_ (some 10) rfl rfl Try.func73 (by kernel_rfl) rfl #[.slice A0 l0.length c0, .int .i64 a1] rfl (by (try simp only [qj, qk, ql]); first | done | rfl | (simp only [qm, qn]; rfl)) ?_; (with_reducible refine (image_find.calls k _ _ l0 a1 t189 t190 _ ?side1 ?side2 A3.out).mono ?_); (case side1 => exact zc HR0.out); (case side2 => exact HC0.out); rintro e w4 ⟨v191, rfl, ho0, hb⟩; refine ⟨_, rfl, ?_⟩; have n0_ := Aside0.mk (Kd.R_lower ho0 (below_size (zB HB))); have n1_ := zb HB hb; clear HB; have HO192 := n0_; have HB := n1_; clear n0_ n1_; (try clear hb); (try clear ho0)))
 go_ret
 exact ⟨by first | rfl | (simp [errW_none, errW_some] <;> rfl) | (simp [*, errW_none, errW_some] <;> rfl), zB HB⟩

/-! ### image_holds: function 75 -/
def image_holds.f (k : Nat) (l0 : List Int) (a1 : Int) (a2 : Int) : Option (Int) := (chain_Blocks.f k l0).bind fun bt193 => (if bt193.2 = true then ((image_Holds.f k l0 a1 a2).bind fun t197 => (if t197 = true then (some 0) else (some 1))) else (some 6))
theorem image_holds.mono : ∀ a0 a1 a2 k, LeO (image_holds.f k a0 a1 a2) (image_holds.f (k + 1) a0 a1 a2) := by
 intro a0 a1 a2 k
 unfold image_holds.f
 repeat' first
   | (with_reducible exact chain_Blocks.mono _ _)
   | (with_reducible exact image_Holds.mono _ _ _ _)
   | (with_reducible exact LeO.refl _)
   | (with_reducible exact LeO.none _)
   | (with_reducible refine LeO.ite ?_ ?_)
   | (with_reducible refine LeO.bind ?_ (fun _ => ?_))
   | exact chain_Blocks.mono _ _
   | exact image_Holds.mono _ _ _ _
   | exact LeO.none _
   | refine LeO.ite ?_ ?_
   | refine LeO.bind ?_ (fun _ => ?_)
set_option maxHeartbeats 8000000 in
set_option maxRecDepth 100000 in
theorem image_holds.calls (k : Nat) (A0 : Option Addr) (c0 : Nat) (l0 : List Int) (a1 : Int) (a2 : Int) (r : Int) (w : World) (hr0 : Kd.C (Kd.int .u64) w A0 l0.length l0) (hc0 : l0.length ≤ c0) (h : image_holds.f k l0 a1 a2 = some r) :
  Calls Try.prog 75 #[.slice A0 l0.length c0, .int .i64 a1, .int .i64 a2] w fun e w' => e = .returned (.int .i64 r) ∧ Below w.heap.size w w' := by
 have HR0 := Aside0.mk hr0
 have HC0 := Aside0.mk hc0
 clear hr0 hc0
 have HB := Aside0.mk (Below.refl w.heap.size w)
 have H : ((chain_Blocks.f k l0).bind fun bt193 => (if bt193.2 = true then ((image_Holds.f k l0 a1 a2).bind fun t197 => (if t197 = true then (some 0) else (some 1))) else (some 6))) = some r := h
 clear h
 replace H := Option.bind_eq_some_iff.mp H
 obtain ⟨⟨t193, t194⟩, A40, H⟩ := H
 replace H : (if t194 = true then ((image_Holds.f k l0 a1 a2).bind fun t197 => (if t197 = true then (some 0) else (some 1))) else (some 6)) = some r := H
 have A4 := Aside0.mk A40
 clear A40
 by_cases c5 : t194 = true
 rotate_left
 ·
  replace c5 := Bool.eq_false_iff.mpr c5
  subst c5
  have H1 : (some 6) = some r := by rw [if_neg (show ¬ (false = true) by decide)] at H; exact H
  clear H
  have H := H1
  clear H1
  obtain rfl := Option.some.inj H
  go_enter Try.func75, Try.ntmps75
  go_wp2_with (first | ((with_reducible refine gate_callee (f := 35) rfl ?_); refine goesL_ (some 11) rfl rfl Try.func35 (by kernel_rfl) rfl #[.slice A0 l0.length c0] rfl (by (try simp only [qj, qk, ql]); first | done | rfl | (simp only [qm, qn]; rfl)) ?_; (with_reducible refine (chain_Blocks.calls k _ _ l0 t193 false _ ?side1 ?side2 A4.out).mono ?_); (case side1 => exact zc HR0.out); (case side2 => exact HC0.out); rintro e w12 ⟨v195, rfl, ho0, hb⟩; refine ⟨_, rfl, ?_⟩; have n0_ := Aside0.mk (Kd.R_lower ho0 (below_size (zB HB))); have n1_ := zb HB hb; clear HB; have HO196 := n0_; have HB := n1_; clear n0_ n1_; (try clear hb); (try clear ho0)))
  go_ret
  exact ⟨by first | rfl | (simp [errW_none, errW_some] <;> rfl) | (simp [*, errW_none, errW_some] <;> rfl), zB HB⟩
 subst c5
 have H1 : ((image_Holds.f k l0 a1 a2).bind fun t197 => (if t197 = true then (some 0) else (some 1))) = some r := by rw [if_pos rfl] at H; exact H
 clear H
 have H := H1
 clear H1
 replace H := Option.bind_eq_some_iff.mp H
 obtain ⟨t197, A60, H⟩ := H
 replace H : (if t197 = true then (some 0) else (some 1)) = some r := H
 have A6 := Aside0.mk A60
 clear A60
 by_cases c7 : t197 = true
 ·
  subst c7
  have H1 : (some 0) = some r := by rw [if_pos rfl] at H; exact H
  clear H
  have H := H1
  clear H1
  obtain rfl := Option.some.inj H
  go_enter Try.func75, Try.ntmps75
  go_wp2_with (first | ((with_reducible refine gate_callee (f := 35) rfl ?_); refine goesL_ (some 11) rfl rfl Try.func35 (by kernel_rfl) rfl #[.slice A0 l0.length c0] rfl (by (try simp only [qj, qk, ql]); first | done | rfl | (simp only [qm, qn]; rfl)) ?_; (with_reducible refine (chain_Blocks.calls k _ _ l0 t193 true _ ?side1 ?side2 A4.out).mono ?_); (case side1 => exact zc HR0.out); (case side2 => exact HC0.out); rintro e w8 ⟨v195, rfl, ho0, hb⟩; refine ⟨_, rfl, ?_⟩; have n0_ := Aside0.mk (Kd.R_lower ho0 (below_size (zB HB))); have n1_ := zb HB hb; clear HB; have HO196 := n0_; have HB := n1_; clear n0_ n1_; (try clear hb); (try clear ho0)) | ((with_reducible refine gate_callee (f := 42) rfl ?_); refine goesL_ (some 19) rfl rfl Try.func42 (by kernel_rfl) rfl #[.slice A0 l0.length c0, .int .i64 a1, .int .i64 a2] rfl (by (try simp only [qj, qk, ql]); first | done | rfl | (simp only [qm, qn]; rfl)) ?_; (with_reducible refine (image_Holds.calls k _ _ l0 a1 a2 true _ ?side1 ?side2 A6.out).mono ?_); (case side1 => exact zc (Kd.C_below HR0.out HB.out)); (case side2 => exact HC0.out); rintro e w9 ⟨rfl, hb⟩; refine ⟨_, rfl, ?_⟩; have n0_ := za HO196 hb; have n1_ := zb HB hb; replace HO196 := n0_; replace HB := n1_; clear n0_ n1_; (try clear hb)))
  go_ret
  exact ⟨by first | rfl | (simp [errW_none, errW_some] <;> rfl) | (simp [*, errW_none, errW_some] <;> rfl), zB HB⟩
 replace c7 := Bool.eq_false_iff.mpr c7
 subst c7
 have H1 : (some 1) = some r := by rw [if_neg (show ¬ (false = true) by decide)] at H; exact H
 clear H
 have H := H1
 clear H1
 obtain rfl := Option.some.inj H
 go_enter Try.func75, Try.ntmps75
 go_wp2_with (first | ((with_reducible refine gate_callee (f := 35) rfl ?_); refine goesL_ (some 11) rfl rfl Try.func35 (by kernel_rfl) rfl #[.slice A0 l0.length c0] rfl (by (try simp only [qj, qk, ql]); first | done | rfl | (simp only [qm, qn]; rfl)) ?_; (with_reducible refine (chain_Blocks.calls k _ _ l0 t193 true _ ?side1 ?side2 A4.out).mono ?_); (case side1 => exact zc HR0.out); (case side2 => exact HC0.out); rintro e w10 ⟨v195, rfl, ho0, hb⟩; refine ⟨_, rfl, ?_⟩; have n0_ := Aside0.mk (Kd.R_lower ho0 (below_size (zB HB))); have n1_ := zb HB hb; clear HB; have HO196 := n0_; have HB := n1_; clear n0_ n1_; (try clear hb); (try clear ho0)) | ((with_reducible refine gate_callee (f := 42) rfl ?_); refine goesL_ (some 19) rfl rfl Try.func42 (by kernel_rfl) rfl #[.slice A0 l0.length c0, .int .i64 a1, .int .i64 a2] rfl (by (try simp only [qj, qk, ql]); first | done | rfl | (simp only [qm, qn]; rfl)) ?_; (with_reducible refine (image_Holds.calls k _ _ l0 a1 a2 false _ ?side1 ?side2 A6.out).mono ?_); (case side1 => exact zc (Kd.C_below HR0.out HB.out)); (case side2 => exact HC0.out); rintro e w11 ⟨rfl, hb⟩; refine ⟨_, rfl, ?_⟩; have n0_ := za HO196 hb; have n1_ := zb HB hb; replace HO196 := n0_; replace HB := n1_; clear n0_ n1_; (try clear hb)))
 go_ret
 exact ⟨by first | rfl | (simp [errW_none, errW_some] <;> rfl) | (simp [*, errW_none, errW_some] <;> rfl), zB HB⟩

/-! ### span_within: function 90 -/
def span_within.f (l0 : List Int) (a1 : Int) (a2 : Int) : Option (Bool) := if a1 ≥ 0 then (if a2 ≥ 0 then (if a2 ≤ 448 then (some (decide (a1 ≤ (wrap64 ((wrap64 ((l0.length : Int) * 8)) - a2))))) else (some false)) else (some false)) else (some false)
set_option maxHeartbeats 8000000 in
set_option maxRecDepth 100000 in
theorem span_within.calls (A0 : Option Addr) (c0 : Nat) (l0 : List Int) (a1 : Int) (a2 : Int) (r : Bool) (w : World) (hr0 : Kd.C (Kd.int .u64) w A0 l0.length l0) (hc0 : l0.length ≤ c0) (h : span_within.f l0 a1 a2 = some r) :
  Calls Try.prog 90 #[.slice A0 l0.length c0, .int .i64 a1, .int .i64 a2] w fun e w' => e = .returned (.bool r) ∧ Drawn0 w w' := by
 have HR0 := Aside0.mk hr0
 have HC0 := Aside0.mk hc0
 clear hr0 hc0
 have H : (if a1 ≥ 0 then (if a2 ≥ 0 then (if a2 ≤ 448 then (some (decide (a1 ≤ (wrap64 ((wrap64 ((l0.length : Int) * 8)) - a2))))) else (some false)) else (some false)) else (some false)) = some r := h
 clear h
 by_cases c4 : a1 ≥ 0
 rotate_left
 ·
  rw [if_neg c4] at H
  have c4b0 : decide (0 ≤ a1) = false := decide_eq_false c4
  clear c4
  obtain rfl := Option.some.inj H
  go_enter Try.func90, Try.ntmps90
  go_wp2
  go_ret
  exact ⟨by first | rfl | (simp; done) | (simp [*]; done), by repeat (first | exact Drawn0.refl _ | apply Drawn0.step)⟩
 rw [if_pos c4] at H
 have c4b0 : decide (0 ≤ a1) = true := decide_eq_true c4
 clear c4
 by_cases c5 : a2 ≥ 0
 rotate_left
 ·
  rw [if_neg c5] at H
  have c5b0 : decide (0 ≤ a2) = false := decide_eq_false c5
  clear c5
  obtain rfl := Option.some.inj H
  go_enter Try.func90, Try.ntmps90
  go_wp2
  go_ret
  exact ⟨by first | rfl | (simp; done) | (simp [*]; done), by repeat (first | exact Drawn0.refl _ | apply Drawn0.step)⟩
 rw [if_pos c5] at H
 have c5b0 : decide (0 ≤ a2) = true := decide_eq_true c5
 clear c5
 by_cases c6 : a2 ≤ 448
 ·
  rw [if_pos c6] at H
  have c6b0 : decide (a2 ≤ 448) = true := decide_eq_true c6
  clear c6
  obtain rfl := Option.some.inj H
  go_enter Try.func90, Try.ntmps90
  go_wp2
  go_ret
  exact ⟨by first | rfl | (simp; done) | (simp [*]; done), by repeat (first | exact Drawn0.refl _ | apply Drawn0.step)⟩
 rw [if_neg c6] at H
 have c6b0 : decide (a2 ≤ 448) = false := decide_eq_false c6
 clear c6
 obtain rfl := Option.some.inj H
 go_enter Try.func90, Try.ntmps90
 go_wp2
 go_ret
 exact ⟨by first | rfl | (simp; done) | (simp [*]; done), by repeat (first | exact Drawn0.refl _ | apply Drawn0.step)⟩

/-! ### span_Read: function 76 -/
def span_Read.l0 : Nat → List Int → Int → Int → List Int → Int → Option (List Int × Bool)
 | 0, _, _, _, _, _ => none
 | k + 1, x0, x1, x2, x8, x9 => if x9 < (wrap64 (x1 + x2)) then (if 0 ≤ (wrap64 (Int.tdiv x9 8)) then (if (wrap64 (Int.tdiv x9 8)) < (x0.length : Int) then (if 0 ≤ (wrap64 ((Int.tmod x9 8) * 8)) then (if x8.length < 140737488355328 then (span_Read.l0 k x0 x1 x2 (x8 ++ [(shr .u64 (rd x0 (wrap64 (Int.tdiv x9 8))) (wrap64 ((Int.tmod x9 8) * 8))) % 256]) (wrap64 (x9 + 1))) else (none)) else (none)) else (none)) else (none)) else (some (x8, true))
def span_Read.f (k : Nat) (l0 : List Int) (a1 : Int) (a2 : Int) : Option (List Int × Bool) := (span_within.f l0 a1 a2).bind fun t198 => (if t198 = true then (span_Read.l0 k l0 a1 a2 ([] : List Int) a1) else (some (([] : List Int), false)))
theorem span_Read.mono_l : ∀ k, (∀ y0 y1 y2 y3 y4, LeO (span_Read.l0 k y0 y1 y2 y3 y4) (span_Read.l0 (k + 1) y0 y1 y2 y3 y4))
 | 0 => fun _ _ _ _ _ r h => by simp [span_Read.l0] at h
 | k + 1 => by
  have ih0 := span_Read.mono_l k
  ·
   intro y0 y1 y2 y3 y4
   unfold span_Read.l0
   repeat' first
   | (with_reducible exact ih0 _ _ _ _ _)
   | (with_reducible exact LeO.refl _)
   | (with_reducible exact LeO.none _)
   | (with_reducible refine LeO.ite ?_ ?_)
   | (with_reducible refine LeO.bind ?_ (fun _ => ?_))
   | exact ih0 _ _ _ _ _
   | exact LeO.none _
   | refine LeO.ite ?_ ?_
   | refine LeO.bind ?_ (fun _ => ?_)
theorem span_Read.mono : ∀ a0 a1 a2 k, LeO (span_Read.f k a0 a1 a2) (span_Read.f (k + 1) a0 a1 a2) := by
 intro a0 a1 a2 k
 have ih0 := span_Read.mono_l k
 unfold span_Read.f
 repeat' first
   | (with_reducible exact ih0 _ _ _ _ _)
   | (with_reducible exact LeO.refl _)
   | (with_reducible exact LeO.none _)
   | (with_reducible refine LeO.ite ?_ ?_)
   | (with_reducible refine LeO.bind ?_ (fun _ => ?_))
   | exact ih0 _ _ _ _ _
   | exact LeO.none _
   | refine LeO.ite ?_ ?_
   | refine LeO.bind ?_ (fun _ => ?_)
set_option maxHeartbeats 8000000 in
set_option maxRecDepth 100000 in
theorem span_Read.calls (k : Nat) (A0 : Option Addr) (c0 : Nat) (l0 : List Int) (a1 : Int) (a2 : Int) (r1 : List Int) (r2 : Bool) (w : World) (hr0 : Kd.C (Kd.int .u64) w A0 l0.length l0) (hc0 : l0.length ≤ c0) (h : span_Read.f k l0 a1 a2 = some (r1, r2)) :
  Calls Try.prog 76 #[.slice A0 l0.length c0, .int .i64 a1, .int .i64 a2] w fun e w' => ∃ v0_ : Value, e = .returned (.tuple #[v0_, .bool r2]) ∧ Kd.R (Kd.int .u8) 5 w' w.heap.size (fun _ => True) v0_ r1 ∧ Below w.heap.size w w' := by
 have HR0 := Aside0.mk hr0
 have HC0 := Aside0.mk hc0
 clear hr0 hc0
 have HB := Aside0.mk (Below.refl w.heap.size w)
 have H : ((span_within.f l0 a1 a2).bind fun t198 => (if t198 = true then (span_Read.l0 k l0 a1 a2 ([] : List Int) a1) else (some (([] : List Int), false)))) = some (r1, r2) := h
 clear h
 replace H := Option.bind_eq_some_iff.mp H
 obtain ⟨t198, A40, H⟩ := H
 replace H : (if t198 = true then (span_Read.l0 k l0 a1 a2 ([] : List Int) a1) else (some (([] : List Int), false))) = some (r1, r2) := H
 have A4 := Aside0.mk A40
 clear A40
 by_cases c5 : t198 = true
 rotate_left
 ·
  replace c5 := Bool.eq_false_iff.mpr c5
  subst c5
  have H1 : (some (([] : List Int), false)) = some (r1, r2) := by rw [if_neg (show ¬ (false = true) by decide)] at H; exact H
  clear H
  have H := H1
  clear H1
  simp only [Option.some.injEq, Prod.mk.injEq] at H
  obtain ⟨rfl, rfl⟩ := H
  go_enter Try.func76, Try.ntmps76
  go_wp2_with (first | ((with_reducible refine gate_callee (f := 90) rfl ?_); refine goesL_ (some 13) rfl rfl Try.func90 (by kernel_rfl) rfl #[.slice A0 l0.length c0, .int .i64 a1, .int .i64 a2] rfl (by (try simp only [qj, qk, ql]); first | done | rfl | (simp only [qm, qn]; rfl)) ?_; (with_reducible refine (span_within.calls _ _ l0 a1 a2 false _ ?side1 ?side2 A4.out).mono ?_); (case side1 => exact zc HR0.out); (case side2 => exact HC0.out); rintro e w' ⟨rfl, ⟨nd, rfl⟩⟩; refine ⟨_, rfl, ?_⟩))
  go_ret2
  exact ⟨_, by first | rfl | (simp [errW_none, errW_some] <;> rfl) | (simp [*, errW_none, errW_some] <;> rfl), by first | exact Kd.R_nil _ _ _ _ _ | exact Kd.N_nil _ _ _ _ _ | exact Kd.V_nil _ _ _ _ _ | exact Kd.Q_nil _ _ _ _ _ | exact Kd.S_nil _ _ _ _ _, zB HB⟩
 subst c5
 have H1 : (span_Read.l0 k l0 a1 a2 ([] : List Int) a1) = some (r1, r2) := by rw [if_pos rfl] at H; exact H
 clear H
 have H := H1
 clear H1
 have H' := Aside0.mk H
 clear H
 go_enter Try.func76, Try.ntmps76
 go_wp2_with (first | ((with_reducible refine gate_callee (f := 90) rfl ?_); refine goesL_ (some 13) rfl rfl Try.func90 (by kernel_rfl) rfl #[.slice A0 l0.length c0, .int .i64 a1, .int .i64 a2] rfl (by (try simp only [qj, qk, ql]); first | done | rfl | (simp only [qm, qn]; rfl)) ?_; (with_reducible refine (span_within.calls _ _ l0 a1 a2 true _ ?side1 ?side2 A4.out).mono ?_); (case side1 => exact zc HR0.out); (case side2 => exact HC0.out); rintro e w' ⟨rfl, ⟨nd, rfl⟩⟩; refine ⟨_, rfl, ?_⟩))
 go_loopg [8, 9] k (fun kq v8 v9 w' => ∃ (x8_1 : List Int) (x9_1 : Int), v9 = .int .i64 x9_1 ∧ Aside0 (span_Read.l0 kq l0 a1 a2 x8_1 x9_1 = some (r1, r2)) ∧ Aside0 (kq ≤ k) ∧ Aside0 (Kd.R (Kd.int .u8) 5 w' w.heap.size (fun _ => True) v8 x8_1) ∧ Aside0 (Below w.heap.size w w'))
 case atStart => exact ⟨(([] : List Int)), (a1), (by first | rfl | (simp; done) | (simp [*]; done)), H', ⟨Nat.le_refl _⟩, ⟨by first | exact Kd.R_nil _ _ _ _ _ | exact Kd.N_nil _ _ _ _ _ | exact Kd.V_nil _ _ _ _ _ | exact Kd.Q_nil _ _ _ _ _ | exact Kd.S_nil _ _ _ _ _⟩, ⟨zB HB⟩⟩
 case round =>
  clear H'
  try clear p2
  try clear c5
  obtain ⟨x8_1, x9_1, rfl, HA, HK1, HO_8, HB⟩ := hrel
  cases gk with
  | zero => exact absurd HA.out (by simp [span_Read.l0])
  | succ k1 =>
   have H := HA.out
   clear HA
   simp only [span_Read.l0] at H
   by_cases c6 : x9_1 < (wrap64 (a1 + a2))
   rotate_left
   ·
    rw [if_neg c6] at H
    have c6b0 : decide (x9_1 < (wrap64 (a1 + a2))) = false := decide_eq_false c6
    clear c6
    simp only [Option.some.injEq, Prod.mk.injEq] at H
    obtain ⟨rfl, rfl⟩ := H
    go_wp2
    go_ret2
    exact ⟨_, by first | rfl | (simp [errW_none, errW_some] <;> rfl) | (simp [*, errW_none, errW_some] <;> rfl), by (with_reducible repeat (first | apply qa | apply qb | apply qc)); exact HO_8.out, zB HB⟩
   rw [if_pos c6] at H
   have c6b0 : decide (x9_1 < (wrap64 (a1 + a2))) = true := decide_eq_true c6
   clear c6
   obtain ⟨ji7, hji7⟩ : ∃ j_ : Int, (wrap64 (Int.tdiv x9_1 8)) = j_ := ⟨_, rfl⟩
   replace H : (if 0 ≤ (ji7) then (if (ji7) < (l0.length : Int) then (if 0 ≤ (wrap64 ((Int.tmod x9_1 8) * 8)) then (if x8_1.length < 140737488355328 then (span_Read.l0 k1 l0 a1 a2 (x8_1 ++ [(shr .u64 (rd l0 (ji7)) (wrap64 ((Int.tmod x9_1 8) * 8))) % 256]) (wrap64 (x9_1 + 1))) else (none)) else (none)) else (none)) else (none)) = some (r1, r2) := by first | (rw [hji7] at H; exact H) | (simp only [hji7] at H ⊢; exact H)
   have hji7w : (IntKind.i64.wrap (Int.tdiv x9_1 8)) = ji7 := (i64_w _).trans hji7
   by_cases c8 : 0 ≤ (ji7)
   rotate_left
   ·
    rw [if_neg c8] at H
    exact absurd H (by simp)
   rw [if_pos c8] at H
   have c8b0 : decide (0 ≤ (ji7)) = true := decide_eq_true c8
   clear c8
   by_cases c9 : (ji7) < (l0.length : Int)
   rotate_left
   ·
    rw [if_neg c9] at H
    exact absurd H (by simp)
   rw [if_pos c9] at H
   have c9b0 : decide ((ji7) < (l0.length : Int)) = true := decide_eq_true c9
   clear c9
   obtain ⟨ji10, hji10⟩ : ∃ j_ : Int, (wrap64 ((Int.tmod x9_1 8) * 8)) = j_ := ⟨_, rfl⟩
   replace H : (if 0 ≤ (ji10) then (if x8_1.length < 140737488355328 then (span_Read.l0 k1 l0 a1 a2 (x8_1 ++ [(shr .u64 (rd l0 (ji7)) (ji10)) % 256]) (wrap64 (x9_1 + 1))) else (none)) else (none)) = some (r1, r2) := by first | (rw [hji10] at H; exact H) | (simp only [hji10] at H ⊢; exact H)
   have hji10w : (IntKind.i64.wrap ((Int.tmod x9_1 8) * 8)) = ji10 := (i64_w _).trans hji10
   by_cases c11 : 0 ≤ (ji10)
   rotate_left
   ·
    rw [if_neg c11] at H
    exact absurd H (by simp)
   rw [if_pos c11] at H
   have c11b0 := eq_true c11
   have c11b1 : decide (0 ≤ (ji10)) = true := decide_eq_true c11
   clear c11
   obtain ⟨ji12, hji12⟩ : ∃ j_ : Int, (shr .u64 (rd l0 (ji7)) (ji10)) = j_ := ⟨_, rfl⟩
   replace H : (if x8_1.length < 140737488355328 then (span_Read.l0 k1 l0 a1 a2 (x8_1 ++ [(ji12) % 256]) (wrap64 (x9_1 + 1))) else (none)) = some (r1, r2) := by first | (rw [hji12] at H; exact H) | (simp only [hji12] at H ⊢; exact H)
   have hji12_ : ((rd l0 (ji7)) / 2 ^ min (ji10).toNat 64) = ji12 := hji12
   have hji12z : (ji10) ≤ 64 → ((rd l0 (ji7)) / 2 ^ (ji10).toNat) = ji12 := shr_small hji12
   by_cases c13 : x8_1.length < 140737488355328
   rotate_left
   ·
    rw [if_neg c13] at H
    exact absurd H (by simp)
   rw [if_pos c13] at H
   have LMc13 := Aside0.mk c13
   clear c13
   obtain ⟨y200, hy200⟩ : ∃ y_ : List Int, y_ = (x8_1 ++ [(ji12) % 256]) := ⟨_, rfl⟩
   replace H : (span_Read.l0 k1 l0 a1 a2 y200 (wrap64 (x9_1 + 1))) = some (r1, r2) := by first | (rw [hy200]; with_reducible exact H) | (have H2_ := (Option.bind_some _ _).symm.trans H; rw [hy200]; with_reducible exact H2_) | (have H2_ := (Option.bind_some _ _).symm.trans H; with_reducible exact H2_) | with_reducible exact H | (rw [hy200]; exact H) | exact H
   have Ny200 := Aside0.mk hy200
   clear hy200
   have H' := Aside0.mk H
   clear H
   have p199 : 0 ≤ ((ji7) : Int) := zu
   have q199 : (ji7) < (l0.length : Int) := zu
   obtain ⟨ad199, e199, hx199_0⟩ := Kd.at_int HR0.out (ji7) p199 q199
   cases e199
   replace hx199_0 := zw HB hx199_0
   replace p199 := eq_true p199
   replace q199 := eq_true q199
   go_wp2_with (first | ((with_reducible refine gate_builtin (b := .append) (xs := #[.tmp 23, .tmp 34]) rfl ?_); at_builtin; refine Kd.R_append (Kd.int .u8) (w0 := w) w.heap.size rfl (.tmp 23) (.tmp 34) 63 5 (.int .u8 0) 1 rfl Try.underlying63 info5 rfl (by decide) (by omega) u8 x8_1 ((ji12) % 256) [.int .u8 ((ji12) % 256)] (fun _ => True) (fun _ => False) rfl rfl ?aP (fun _ hk => hk.elim) ?aF ?aO ?aB ?aS ?aL ?_; (case aP => exact rfl); (case aB => exact (zB HB)); (case aF => exact (fun _ _ => trivial)); (case aO => exact (zr HO_8)); (case aS => exact (below_size (zB HB))); (case aL => have := LMc13.out; omega); intro v201 w14 ho hb hg hat; rw [← Ny200.out] at ho; have n0_ := Aside0.mk (hb); have n1_ := Aside0.mk (ho); clear HB; clear HO_8; have HB := n0_; have HO202 := n1_; clear n0_ n1_; clear ho hb hg hat))
   go_roundg k1
   case measure => have := HK1.out; omega
   case rel => exact ⟨(y200), (wrap64 (x9_1 + 1)), (by first | rfl | (simp; done) | (simp [*]; done)), (by first | exact H' | ((try rw [hji7]); (try rw [hji10]); (try rw [hji12]); exact H')), ⟨by have := HK1.out; omega⟩, ⟨zr HO202⟩, ⟨zB HB⟩⟩

end Go.Proofs.Ytglekonhdjploaa.XImageForms
