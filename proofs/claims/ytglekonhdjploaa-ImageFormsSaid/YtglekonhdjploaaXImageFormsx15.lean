-- printed by wip/xprint.py
import Derived.Test.YtglekonhdjploaaXImageFormsx0
import Derived.Test.YtglekonhdjploaaXImageFormsx12
import Derived.Test.YtglekonhdjploaaXImageFormsx13
import Derived.Test.YtglekonhdjploaaXImageFormsx14
namespace Go.Proofs.Ytglekonhdjploaa.XImageForms
open Go.RowKit Go.Proofs.YtglekonhdjploaaW.PrintWords Go.Proofs.YtglekonhdjploaaW.PrintLast Go.Proofs.YtglekonhdjploaaW.PrintMore
attribute [local go_sem] max2_int min2_int max_two min_two max_three min_three max_four min_four
set_option linter.unusedVariables false
set_option linter.unusedSimpArgs false

/-! ### darningref4_CarveEdits: function 27 -/
def darningref4_CarveEdits.l0 : Nat → List (S35) → Int → Int → List (S30) → Int → Option ((List (S30)))
 | 0, _, _, _, _, _ => none
 | k + 1, x0, x1, x9, x10, x11 => if x11 < x9 then (if 0 ≤ x1 then (if x1 < (x0.length : Int) then (if x10.length < 8796093022208 then (darningref4_CarveEdits.l0 k x0 x1 x9 (x10 ++ [(⟨wrap64 (((rd_T35 x0 x1).f0) + x11), 0⟩ : S30)]) (wrap64 (x11 + 1))) else (none)) else (none)) else (none)) else (if 0 ≤ x1 then (if x1 < (x0.length : Int) then (if x9 < ((rd_T35 x0 x1).f1) then ((darningref4_Word.f (wrap64 (((rd_T35 x0 x1).f1) - x9)) false).bind fun t322 => (if x10.length < 8796093022208 then (some (x10 ++ [(⟨wrap64 (((rd_T35 x0 x1).f0) + x9), t322⟩ : S30)])) else (none))) else (some x10)) else (none)) else (none))
def darningref4_CarveEdits.f (k : Nat) (l0 : List (S35)) (a1 : Int) (a2 : Int) : Option ((List (S30))) := (darningref4_Carved.f k l0 a1 a2).bind fun bt304 => (if bt304.2 = true then (if 0 ≤ a1 then (if a1 < (l0.length : Int) then ((darningref4_Takes.f k ((rd_T35 l0 a1).f1) a2).bind fun t309 => ((darningref4_Word.f t309 true).bind fun t311 => (darningref4_CarveEdits.l0 k l0 a1 t309 (([(⟨(rd_T35 l0 a1).f0, t311⟩ : S30)] : List (S30))) 1))) else (none)) else (none)) else (some ([] : List (S30))))
theorem darningref4_CarveEdits.mono_l : ∀ k, (∀ y0 y1 y2 y3 y4, LeO (darningref4_CarveEdits.l0 k y0 y1 y2 y3 y4) (darningref4_CarveEdits.l0 (k + 1) y0 y1 y2 y3 y4))
 | 0 => fun _ _ _ _ _ r h => by simp [darningref4_CarveEdits.l0] at h
 | k + 1 => by
  have ih0 := darningref4_CarveEdits.mono_l k
  ·
   intro y0 y1 y2 y3 y4
   unfold darningref4_CarveEdits.l0
   repeat' first
   | (with_reducible exact ih0 _ _ _ _ _)
   | (with_reducible exact darningref4_Carved.mono _ _ _ _)
   | (with_reducible exact darningref4_Takes.mono _ _ _)
   | (with_reducible exact LeO.refl _)
   | (with_reducible exact LeO.none _)
   | (with_reducible refine LeO.ite ?_ ?_)
   | (with_reducible refine LeO.bind ?_ (fun _ => ?_))
   | exact ih0 _ _ _ _ _
   | exact darningref4_Carved.mono _ _ _ _
   | exact darningref4_Takes.mono _ _ _
   | exact LeO.none _
   | refine LeO.ite ?_ ?_
   | refine LeO.bind ?_ (fun _ => ?_)
theorem darningref4_CarveEdits.mono : ∀ a0 a1 a2 k, LeO (darningref4_CarveEdits.f k a0 a1 a2) (darningref4_CarveEdits.f (k + 1) a0 a1 a2) := by
 intro a0 a1 a2 k
 have ih0 := darningref4_CarveEdits.mono_l k
 unfold darningref4_CarveEdits.f
 repeat' first
   | (with_reducible exact ih0 _ _ _ _ _)
   | (with_reducible exact darningref4_Carved.mono _ _ _ _)
   | (with_reducible exact darningref4_Takes.mono _ _ _)
   | (with_reducible exact LeO.refl _)
   | (with_reducible exact LeO.none _)
   | (with_reducible refine LeO.ite ?_ ?_)
   | (with_reducible refine LeO.bind ?_ (fun _ => ?_))
   | exact ih0 _ _ _ _ _
   | exact darningref4_Carved.mono _ _ _ _
   | exact darningref4_Takes.mono _ _ _
   | exact LeO.none _
   | refine LeO.ite ?_ ?_
   | refine LeO.bind ?_ (fun _ => ?_)
def darningref4_CarveEdits.T5 : Bool × List (List Nat × List Nat) := (true, [([], []), ([], []), ([0, 1], [0, 1]), ([2], [2]), ([3], [3]), ([], []), ([5], [5]), ([4, 6], [4, 6]), ([7], [7]), ([8, 6, 0, 1, 2, 3, 4, 5, 6, 7, 8], [8])])
def darningref4_CarveEdits.B5 : List Nat := [0, 0, 3, 7, 15, 0, 32, 127, 255, 511]
theorem darningref4_CarveEdits.tab5 : rtab .any (opsOf Try.f27 5) = darningref4_CarveEdits.T5 := by kernel_rfl
theorem darningref4_CarveEdits.bits5 : waitsOk darningref4_CarveEdits.T5.2 darningref4_CarveEdits.B5 = true := by kernel_rfl
def darningref4_CarveEdits.T11 : Bool × List (List Nat × List Nat) := (true, [([], []), ([], []), ([], []), ([1, 2], [1, 2]), ([3], [3]), ([4], [4]), ([], []), ([5, 6], [5, 6]), ([], []), ([], []), ([8, 9], [8, 9]), ([10], [10]), ([11], [11]), ([], []), ([12, 13], [12, 13]), ([14], [14]), ([7, 15], [7, 15]), ([16], [16]), ([0, 17, 15], [0, 17]), ([18, 18, 0, 1, 2, 3, 4, 5, 6, 7, 8, 9, 10, 11, 12, 13, 14, 15, 16, 17, 18], [0, 18])])
def darningref4_CarveEdits.B11 : List Nat := [0, 0, 0, 6, 14, 30, 0, 126, 0, 0, 768, 1792, 3840, 0, 16128, 32512, 65534, 131070, 262143, 524287]
theorem darningref4_CarveEdits.tab11 : rtab .any (opsOf Try.f27 11) = darningref4_CarveEdits.T11 := by kernel_rfl
theorem darningref4_CarveEdits.bits11 : waitsOk darningref4_CarveEdits.T11.2 darningref4_CarveEdits.B11 = true := by kernel_rfl
set_option maxHeartbeats 8000000 in
set_option maxRecDepth 100000 in
theorem darningref4_CarveEdits.calls (k : Nat) (A0 : Option Addr) (c0 : Nat) (l0 : List (S35)) (a1 : Int) (a2 : Int) (r : List (S30)) (w : World) (hr0 : Kd.C k35 w A0 l0.length l0) (hc0 : l0.length ≤ c0) (h : darningref4_CarveEdits.f k l0 a1 a2 = some r) :
  Calls Try.prog 27 #[.slice A0 l0.length c0, .int .i64 a1, .int .i64 a2] w fun e w' => ∃ v0_ : Value, e = .returned (v0_) ∧ Kd.R k30 30 w' w.heap.size (fun _ => True) v0_ r ∧ Below w.heap.size w w' := by
 have hu30 := Try.underlying30
 have HR0 := Aside0.mk hr0
 have HC0 := Aside0.mk hc0
 clear hr0 hc0
 have HB := Aside0.mk (Below.refl w.heap.size w)
 have H : ((darningref4_Carved.f k l0 a1 a2).bind fun bt304 => (if bt304.2 = true then (if 0 ≤ a1 then (if a1 < (l0.length : Int) then ((darningref4_Takes.f k ((rd_T35 l0 a1).f1) a2).bind fun t309 => ((darningref4_Word.f t309 true).bind fun t311 => (darningref4_CarveEdits.l0 k l0 a1 t309 (([(⟨(rd_T35 l0 a1).f0, t311⟩ : S30)] : List (S30))) 1))) else (none)) else (none)) else (some ([] : List (S30))))) = some r := h
 clear h
 replace H := Option.bind_eq_some_iff.mp H
 obtain ⟨⟨t304, t305⟩, A40, H⟩ := H
 replace H : (if t305 = true then (if 0 ≤ a1 then (if a1 < (l0.length : Int) then ((darningref4_Takes.f k ((rd_T35 l0 a1).f1) a2).bind fun t309 => ((darningref4_Word.f t309 true).bind fun t311 => (darningref4_CarveEdits.l0 k l0 a1 t309 (([(⟨(rd_T35 l0 a1).f0, t311⟩ : S30)] : List (S30))) 1))) else (none)) else (none)) else (some ([] : List (S30)))) = some r := H
 have A4 := Aside0.mk A40
 clear A40
 by_cases c5 : t305 = true
 rotate_left
 ·
  replace c5 := Bool.eq_false_iff.mpr c5
  subst c5
  have H1 : (some ([] : List (S30))) = some r := by rw [if_neg (show ¬ (false = true) by decide)] at H; exact H
  clear H
  have H := H1
  clear H1
  obtain rfl := Option.some.inj H
  go_enter Try.func27, Try.ntmps27
  go_wp2_with (first | ((with_reducible refine gate_callee (f := 24) rfl ?_); refine goesL_ (some 16) rfl rfl Try.func24 (by kernel_rfl) rfl #[.slice A0 l0.length c0, .int .i64 a1, .int .i64 a2] rfl (by (try simp only [qj, qk, ql]); first | done | rfl | (simp only [qm, qn]; rfl)) ?_; (with_reducible refine (darningref4_Carved.calls k _ _ l0 a1 a2 t304 false _ ?side1 ?side2 A4.out).mono ?_); (case side1 => exact zc HR0.out); (case side2 => exact HC0.out); rintro e w26 ⟨v306, rfl, ho0, hb⟩; refine ⟨_, rfl, ?_⟩; have n0_ := Aside0.mk (Kd.R_lower ho0 (below_size (zB HB))); have n1_ := zb HB hb; clear HB; have HO307 := n0_; have HB := n1_; clear n0_ n1_; (try clear hb); (try clear ho0)))
  go_ret
  exact ⟨_, by first | rfl | (simp [errW_none, errW_some] <;> rfl) | (simp [*, errW_none, errW_some] <;> rfl), by first | exact Kd.R_nil _ _ _ _ _ | exact Kd.N_nil _ _ _ _ _ | exact Kd.V_nil _ _ _ _ _ | exact Kd.Q_nil _ _ _ _ _ | exact Kd.S_nil _ _ _ _ _, zB HB⟩
 subst c5
 have H1 : (if 0 ≤ a1 then (if a1 < (l0.length : Int) then ((darningref4_Takes.f k ((rd_T35 l0 a1).f1) a2).bind fun t309 => ((darningref4_Word.f t309 true).bind fun t311 => (darningref4_CarveEdits.l0 k l0 a1 t309 (([(⟨(rd_T35 l0 a1).f0, t311⟩ : S30)] : List (S30))) 1))) else (none)) else (none)) = some r := by rw [if_pos rfl] at H; exact H
 clear H
 have H := H1
 clear H1
 by_cases c6 : 0 ≤ a1
 rotate_left
 ·
  rw [if_neg c6] at H
  exact absurd H (by simp)
 rw [if_pos c6] at H
 have c6b0 : decide (0 ≤ a1) = true := decide_eq_true c6
 clear c6
 by_cases c7 : a1 < (l0.length : Int)
 rotate_left
 ·
  rw [if_neg c7] at H
  exact absurd H (by simp)
 rw [if_pos c7] at H
 have c7b0 : decide (a1 < (l0.length : Int)) = true := decide_eq_true c7
 clear c7
 replace H := Option.bind_eq_some_iff.mp H
 obtain ⟨t309, A80, H⟩ := H
 replace H : ((darningref4_Word.f t309 true).bind fun t311 => (darningref4_CarveEdits.l0 k l0 a1 t309 (([(⟨(rd_T35 l0 a1).f0, t311⟩ : S30)] : List (S30))) 1)) = some r := H
 have A8 := Aside0.mk A80
 clear A80
 replace H := Option.bind_eq_some_iff.mp H
 obtain ⟨t311, A90, H⟩ := H
 replace H : (darningref4_CarveEdits.l0 k l0 a1 t309 (([(⟨(rd_T35 l0 a1).f0, t311⟩ : S30)] : List (S30))) 1) = some r := H
 have A9 := Aside0.mk A90
 clear A90
 obtain ⟨y312, hy312⟩ : ∃ y_ : List (S30), y_ = (([(⟨(rd_T35 l0 a1).f0, t311⟩ : S30)] : List (S30))) := ⟨_, rfl⟩
 replace H : (darningref4_CarveEdits.l0 k l0 a1 t309 y312 1) = some r := by first | (rw [hy312]; with_reducible exact H) | (have H2_ := (Option.bind_some _ _).symm.trans H; rw [hy312]; with_reducible exact H2_) | (have H2_ := (Option.bind_some _ _).symm.trans H; with_reducible exact H2_) | with_reducible exact H | (rw [hy312]; exact H) | exact H
 have Ny312 := Aside0.mk hy312
 clear hy312
 have H' := Aside0.mk H
 clear H
 go_enter Try.func27, Try.ntmps27
 try go_wp2_with (first | ((with_reducible refine gate_callee (f := 24) rfl ?_); refine goesL_ (some 16) rfl rfl Try.func24 (by kernel_rfl) rfl #[.slice A0 l0.length c0, .int .i64 a1, .int .i64 a2] rfl (by (try simp only [qj, qk, ql]); first | done | rfl | (simp only [qm, qn]; rfl)) ?_; (with_reducible refine (darningref4_Carved.calls k _ _ l0 a1 a2 t304 true _ ?side1 ?side2 A4.out).mono ?_); (case side1 => exact zc HR0.out); (case side2 => exact HC0.out); rintro e w10 ⟨v306, rfl, ho0, hb⟩; refine ⟨_, rfl, ?_⟩; have n0_ := Aside0.mk (Kd.R_lower ho0 (below_size (zB HB))); have n1_ := zb HB hb; clear HB; have HO307 := n0_; have HB := n1_; clear n0_ n1_; (try clear hb); (try clear ho0); have p308 : 0 ≤ (a1 : Int) := zu; have q308 : a1 < (l0.length : Int) := zu; obtain ⟨ad308, e308, hx308_0, hx308_1, hx308_2⟩ := at_T35 HR0.out a1 p308 q308; cases e308; replace hx308_0 := zw HB hx308_0; replace hx308_1 := zw HB hx308_1; replace hx308_2 := zw HB hx308_2; replace p308 := eq_true p308; replace q308 := eq_true q308) | ((with_reducible refine gate_callee (f := 30) rfl ?_); refine goesL_ (some 27) rfl rfl Try.func30 (by kernel_rfl) rfl #[.int .i64 ((rd_T35 l0 a1).f1), .int .i64 a2] rfl (by (try simp only [qj, qk, ql]); first | done | rfl | (simp only [qm, qn]; rfl)) ?_; (with_reducible refine (darningref4_Takes.calls k ((rd_T35 l0 a1).f1) a2 t309 _ A8.out).mono ?_); rintro e w' ⟨rfl, ⟨nd, rfl⟩⟩; refine ⟨_, rfl, ?_⟩))
 (try (rw [drewN_self w10]; generalize hq_ : World.drewN w10 _ = w10; have n0_ : Aside0 (Kd.R k35 35 w10 w.heap.size (fun _ => True) v306 t304) := ⟨by rw [← hq_]; exact (zr HO307)⟩; have n1_ : Aside0 (Below w.heap.size w w10) := ⟨by rw [← hq_]; exact (zB HB)⟩; clear HO307 HB hq_; have HO307 := n0_; have HB := n1_; clear n0_ n1_))
 have n0_ := Aside0.mk (qc HO307.out)
 have n1_ := Aside0.mk (qf HB.out)
 clear HO307
 clear HB
 have HO307 := n0_
 have HB := n1_
 clear n0_ n1_
 have p310 : 0 ≤ (a1 : Int) := zu
 have q310 : a1 < (l0.length : Int) := zu
 obtain ⟨ad310, e310, hx310_0, hx310_1, hx310_2⟩ := at_T35 HR0.out a1 p310 q310
 have hw310_2 := hx310_2
 have hw310_1 := hx310_1
 have hw310_0 := hx310_0
 obtain rfl : ad308 = ad310 := (by injection e310)
 replace hx310_0 := zw HB hx310_0
 replace hx310_1 := zw HB hx310_1
 replace hx310_2 := zw HB hx310_2
 replace p310 := eq_true p310
 replace q310 := eq_true q310
 refine start_ (n := 10) (S := fun w' => w'.cell? (ad308.add ((a1).toNat * 3)) = some (.int .i64 ((rd_T35 l0 a1).f0)) ∧ w'.cell? ⟨(ad308.add ((a1).toNat * 3)).block, (ad308.add ((a1).toNat * 3)).off + 1, none⟩ = some (.int .i64 ((rd_T35 l0 a1).f1)) ∧ w'.cell? ⟨(ad308.add ((a1).toNat * 3)).block, (ad308.add ((a1).toNat * 3)).off + 2, none⟩ = some (.bool ((rd_T35 l0 a1).f2))) (ds := []) (onA 10 0) (by kernel_rfl) rfl rfl ⟨(zw HB hw310_0), (zw HB hw310_1), (zw HB hw310_2)⟩ (fun hHeld => ?_); refine with_tabW darningref4_CarveEdits.tab5 darningref4_CarveEdits.bits5 (fun HT_ HW_ => ?_)
 generalize w10.drew = w11 at HO307 HB hx310_0 hx310_1 hx310_2 hHeld ⊢
 refine pu 0 (some 28) (onA 10 1) HT_ (h := ?_)
 refine pu 1 (some 29) (onA 10 2) HT_ (h := ?_)
 refine pu 2 (some 30) (onA 10 3) HT_ (h := ?_)
 refine pu 3 (some 31) (onA 10 4) HT_ (h := ?_)
 refine pu 5 (some 33) #[tt_,tt_,tt_,tt_,ff_,tt_,ff_,ff_,ff_,ff_] HT_ (h := ?_)
 refine take_ (i := 4) (N := some 32) (v := ?_) (a' := ?_) (onA 10 6) rfl rfl (take_ofW HT_.out HW_.out (by kernel_rfl)) (fun _ _ _ h => h) (Or.inl ⟨by rfl, ?_⟩) hHeld ?_ ?_
 rotate_left
 ·
  rintro w' ⟨s0, s1, s2⟩
  go_simp
  with_reducible rfl
 rotate_left
 ·
  simp only [Act.put, qg, qh, qi, i64_w, i32_w]
  rfl
 refine one_ (i := 6) (N := some 34) (onA 10 7) rfl rfl (one_of HT_.out (by kernel_rfl)) (by decide) (fun K hK => ?_)
 refine goes_ Try.func20 (by kernel_rfl) rfl #[.int .i64 t309, .bool true] (by rfl) rfl rfl (by (try simp only [qj, qk, ql]); first | done | rfl | (simp only [qm, qn]; rfl)) ?_
 with_reducible refine (darningref4_Word.calls t309 true t311 _ A9.out).mono ?_
 rintro e w' ⟨rfl, ⟨nd, rfl⟩⟩
 refine ⟨_, rfl, ?_⟩
 refine hK.out _ _ ⟨(zw HB hw310_0), (zw HB hw310_1), (zw HB hw310_2)⟩ (fun hHeld => ?_)
 clear hK K
 refine norm_ (a' := ?_) ?_ ?_
 rotate_left
 ·
  show Act.put _ (some 34) _ = _
  simp only [Act.put, qg, qh, qi, i64_w, i32_w]
  rfl
 refine pu 7 (some 35) (onA 10 8) HT_ (h := ?_)
 refine one_ (i := 8) (N := some 36) (onA 10 9) rfl rfl (one_of HT_.out (by kernel_rfl)) (by decide) (fun K hK => ?_)
 refine Kd.R_lit_step k30 _ 30 ?hg (N := 36) ?hd (xs := ([(⟨(rd_T35 l0 a1).f0, t311⟩ : S30)] : List (S30))) (inner := [.int .i64 ((rd_T35 l0 a1).f0), .int .u64 t311]) (ok := fun _ => True) (okp := fun _ => True) ?hr ?hp (fun _ hk => hk) trivial (Below.refl _ _) (Nat.le_refl _) (by simp) ?_; (case hd => rfl); (case hg => rfl); (case hr => first | (go_simp; done) | (go_simp; rfl)); (case hp => exact (Reps.c2 (show Kd.M k30 _ _ _ (⟨(rd_T35 l0 a1).f0, t311⟩ : S30) [.int .i64 ((rd_T35 l0 a1).f0), .int .u64 t311] from (k30_mkM _ _ _ (⟨(rd_T35 l0 a1).f0, t311⟩ : S30) )) (Reps.none _ _)))
 intro v313 w12 ho13 hb hg_ hnew_
 clear hg_ hnew_
 (first | rw [← Ny312.out] at ho13 | (simp only [Int.reduceToNat] at ho13; rw [← Ny312.out] at ho13))
 have n0_ := za HO307 hb
 have n1_ := Aside0.mk (Kd.R_lower ho13 (below_size (zB HB)))
 have n2_ := zb HB hb
 clear HO307
 clear HB
 have HO307 := n0_
 have HO314 := n1_
 have HB := n2_
 clear n0_ n1_ n2_
 clear hb ho13
 refine hK.out _ _ ⟨(zw HB hw310_0), (zw HB hw310_1), (zw HB hw310_2)⟩ (fun hHeld => ?_)
 clear hK K
 refine norm_ (a' := ?_) ?_ ?_
 rotate_left
 ·
  show Act.put _ (some 36) _ = _
  simp only [Act.put, qg, qh, qi, i64_w, i32_w]
  rfl
 refine pu 9 (some 10) (onA 10 10) HT_ (h := ?_)
 refine done_ (done_of HT_.out (by kernel_rfl)) ?_
 try go_wp2
 go_loopg [10, 11] k (fun kq v10 v11 w' => ∃ (x10_1 : List (S30)) (x11_1 : Int), v11 = .int .i64 x11_1 ∧ Aside0 (darningref4_CarveEdits.l0 kq l0 a1 t309 x10_1 x11_1 = some r) ∧ Aside0 (kq ≤ k) ∧ Aside0 (Kd.R k30 30 w' w.heap.size (fun _ => True) v10 x10_1) ∧ Aside0 (Below w.heap.size w w'))
 case atStart => exact ⟨(y312), (1), (by first | rfl | (simp; done) | (simp [*]; done)), H', ⟨Nat.le_refl _⟩, ⟨zr HO314⟩, ⟨zB HB⟩⟩
 case round =>
  clear H'
  try clear c2
  try clear p2
  try clear c3
  try clear p3
  try clear q3
  try clear hx3
  try clear c5
  try clear c6
  try clear c6b0
  try clear c7
  try clear c7b0
  try clear hx308_0
  try clear hx308_1
  try clear hx308_2
  try clear hx310_0
  try clear hx310_1
  try clear hx310_2
  try clear p308
  try clear p310
  try clear q308
  try clear q310
  obtain ⟨x10_1, x11_1, rfl, HA, HK1, HO_10, HB⟩ := hrel
  cases gk with
  | zero => exact absurd HA.out (by simp [darningref4_CarveEdits.l0])
  | succ k1 =>
   have H := HA.out
   clear HA
   simp only [darningref4_CarveEdits.l0] at H
   by_cases c14 : x11_1 < t309
   ·
    rw [if_pos c14] at H
    have c14b0 : decide (x11_1 < t309) = true := decide_eq_true c14
    clear c14
    by_cases c15 : 0 ≤ a1
    rotate_left
    ·
     rw [if_neg c15] at H
     exact absurd H (by simp)
    rw [if_pos c15] at H
    have c15b0 : decide (0 ≤ a1) = true := decide_eq_true c15
    clear c15
    by_cases c16 : a1 < (l0.length : Int)
    rotate_left
    ·
     rw [if_neg c16] at H
     exact absurd H (by simp)
    rw [if_pos c16] at H
    have c16b0 : decide (a1 < (l0.length : Int)) = true := decide_eq_true c16
    clear c16
    by_cases c17 : x10_1.length < 8796093022208
    rotate_left
    ·
     rw [if_neg c17] at H
     exact absurd H (by simp)
    rw [if_pos c17] at H
    have LMc17 := Aside0.mk c17
    clear c17
    obtain ⟨y316, hy316⟩ : ∃ y_ : List (S30), y_ = (x10_1 ++ [(⟨wrap64 (((rd_T35 l0 a1).f0) + x11_1), 0⟩ : S30)]) := ⟨_, rfl⟩
    replace H : (darningref4_CarveEdits.l0 k1 l0 a1 t309 y316 (wrap64 (x11_1 + 1))) = some r := by first | (rw [hy316]; with_reducible exact H) | (have H2_ := (Option.bind_some _ _).symm.trans H; rw [hy316]; with_reducible exact H2_) | (have H2_ := (Option.bind_some _ _).symm.trans H; with_reducible exact H2_) | with_reducible exact H | (rw [hy316]; exact H) | exact H
    have Ny316 := Aside0.mk hy316
    clear hy316
    have H' := Aside0.mk H
    clear H
    have p315 : 0 ≤ (a1 : Int) := zu
    have q315 : a1 < (l0.length : Int) := zu
    obtain ⟨ad315, e315, hx315_0, hx315_1, hx315_2⟩ := at_T35 HR0.out a1 p315 q315
    obtain rfl : ad308 = ad315 := (by injection e315)
    replace hx315_0 := zw HB hx315_0
    replace hx315_1 := zw HB hx315_1
    replace hx315_2 := zw HB hx315_2
    replace p315 := eq_true p315
    replace q315 := eq_true q315
    go_wp2_with (first | ((with_reducible refine gate_builtin (b := .append) (xs := #[.tmp 42, .tmp 51]) rfl ?_); at_builtin; refine Kd.R_append k30 (w0 := w) w.heap.size rfl (.tmp 42) (.tmp 51) 42 30 (.agg #[(.int .i64 0), (.int .u64 0)]) 16 rfl Try.underlying42 info30 rfl (by decide) (by omega) u10 x10_1 (⟨wrap64 (((rd_T35 l0 a1).f0) + x11_1), 0⟩ : S30) [.int .i64 (wrap64 (((rd_T35 l0 a1).f0) + x11_1)), .int .u64 0] (fun _ => True) (fun _ => False) rfl rfl ?aP (fun _ hk => hk.elim) ?aF ?aO ?aB ?aS ?aL ?_; (case aP => exact k30_mkM _ _ _ (⟨wrap64 (((rd_T35 l0 a1).f0) + x11_1), 0⟩ : S30)); (case aB => exact (zB HB)); (case aF => exact (fun _ _ => trivial)); (case aO => exact (zr HO_10)); (case aS => exact (below_size (zB HB))); (case aL => have := LMc17.out; omega); intro v317 w18 ho hb hg hat; rw [← Ny316.out] at ho; have n0_ := Aside0.mk (hb); have n1_ := Aside0.mk (ho); clear HB; clear HO_10; have HB := n0_; have HO318 := n1_; clear n0_ n1_; clear ho hb hg hat))
    go_roundg k1
    case measure => have := HK1.out; omega
    case rel => exact ⟨(y316), (wrap64 (x11_1 + 1)), (by first | rfl | (simp; done) | (simp [*]; done)), H', ⟨by have := HK1.out; omega⟩, ⟨zr HO318⟩, ⟨zB HB⟩⟩
   rw [if_neg c14] at H
   have c14b0 : decide (x11_1 < t309) = false := decide_eq_false c14
   clear c14
   by_cases c19 : 0 ≤ a1
   rotate_left
   ·
    rw [if_neg c19] at H
    exact absurd H (by simp)
   rw [if_pos c19] at H
   have c19b0 : decide (0 ≤ a1) = true := decide_eq_true c19
   clear c19
   by_cases c20 : a1 < (l0.length : Int)
   rotate_left
   ·
    rw [if_neg c20] at H
    exact absurd H (by simp)
   rw [if_pos c20] at H
   have c20b0 : decide (a1 < (l0.length : Int)) = true := decide_eq_true c20
   clear c20
   by_cases c21 : t309 < ((rd_T35 l0 a1).f1)
   rotate_left
   ·
    rw [if_neg c21] at H
    have c21b0 : decide (t309 < ((rd_T35 l0 a1).f1)) = false := decide_eq_false c21
    clear c21
    obtain rfl := Option.some.inj H
    have p319 : 0 ≤ (a1 : Int) := zu
    have q319 : a1 < (l0.length : Int) := zu
    obtain ⟨ad319, e319, hx319_0, hx319_1, hx319_2⟩ := at_T35 HR0.out a1 p319 q319
    obtain rfl : ad308 = ad319 := (by injection e319)
    replace hx319_0 := zw HB hx319_0
    replace hx319_1 := zw HB hx319_1
    replace hx319_2 := zw HB hx319_2
    replace p319 := eq_true p319
    replace q319 := eq_true q319
    go_wp2
    go_ret
    exact ⟨_, by first | rfl | (simp [errW_none, errW_some] <;> rfl) | (simp [*, errW_none, errW_some] <;> rfl), by (with_reducible repeat (first | apply qa | apply qb | apply qc)); exact HO_10.out, zB HB⟩
   rw [if_pos c21] at H
   have c21b0 : decide (t309 < ((rd_T35 l0 a1).f1)) = true := decide_eq_true c21
   clear c21
   replace H := Option.bind_eq_some_iff.mp H
   obtain ⟨t322, A220, H⟩ := H
   replace H : (if x10_1.length < 8796093022208 then (some (x10_1 ++ [(⟨wrap64 (((rd_T35 l0 a1).f0) + t309), t322⟩ : S30)])) else (none)) = some r := H
   have A22 := Aside0.mk A220
   clear A220
   by_cases c23 : x10_1.length < 8796093022208
   rotate_left
   ·
    rw [if_neg c23] at H
    exact absurd H (by simp)
   rw [if_pos c23] at H
   have LMc23 := Aside0.mk c23
   clear c23
   obtain ⟨y323, hy323⟩ : ∃ y_ : List (S30), y_ = (x10_1 ++ [(⟨wrap64 (((rd_T35 l0 a1).f0) + t309), t322⟩ : S30)]) := ⟨_, rfl⟩
   replace H : (some y323) = some r := by first | (rw [hy323]; with_reducible exact H) | (have H2_ := (Option.bind_some _ _).symm.trans H; rw [hy323]; with_reducible exact H2_) | (have H2_ := (Option.bind_some _ _).symm.trans H; with_reducible exact H2_) | with_reducible exact H | (rw [hy323]; exact H) | exact H
   have Ny323 := Aside0.mk hy323
   clear hy323
   obtain rfl := Option.some.inj H
   have p319 : 0 ≤ (a1 : Int) := zu
   have q319 : a1 < (l0.length : Int) := zu
   obtain ⟨ad319, e319, hx319_0, hx319_1, hx319_2⟩ := at_T35 HR0.out a1 p319 q319
   obtain rfl : ad308 = ad319 := (by injection e319)
   replace hx319_0 := zw HB hx319_0
   replace hx319_1 := zw HB hx319_1
   replace hx319_2 := zw HB hx319_2
   replace p319 := eq_true p319
   replace q319 := eq_true q319
   try go_wp2
   have n0_ := Aside0.mk (qc HO_10.out)
   have n1_ := Aside0.mk (qf HB.out)
   clear HO_10
   clear HB
   have HO_10 := n0_
   have HB := n1_
   clear n0_ n1_
   have p320 : 0 ≤ (a1 : Int) := zu
   have q320 : a1 < (l0.length : Int) := zu
   obtain ⟨ad320, e320, hx320_0, hx320_1, hx320_2⟩ := at_T35 HR0.out a1 p320 q320
   have hw320_2 := hx320_2
   have hw320_1 := hx320_1
   have hw320_0 := hx320_0
   obtain rfl : ad308 = ad320 := (by injection e320)
   replace hx320_0 := zw HB hx320_0
   replace hx320_1 := zw HB hx320_1
   replace hx320_2 := zw HB hx320_2
   replace p320 := eq_true p320
   replace q320 := eq_true q320
   have p321 : 0 ≤ (a1 : Int) := zu
   have q321 : a1 < (l0.length : Int) := zu
   obtain ⟨ad321, e321, hx321_0, hx321_1, hx321_2⟩ := at_T35 HR0.out a1 p321 q321
   have hw321_2 := hx321_2
   have hw321_1 := hx321_1
   have hw321_0 := hx321_0
   obtain rfl : ad308 = ad321 := (by injection e321)
   replace hx321_0 := zw HB hx321_0
   replace hx321_1 := zw HB hx321_1
   replace hx321_2 := zw HB hx321_2
   replace p321 := eq_true p321
   replace q321 := eq_true q321
   refine start_ (n := 20) (S := fun w' => w'.cell? (ad308.add ((a1).toNat * 3)) = some (.int .i64 ((rd_T35 l0 a1).f0)) ∧ w'.cell? ⟨(ad308.add ((a1).toNat * 3)).block, (ad308.add ((a1).toNat * 3)).off + 1, none⟩ = some (.int .i64 ((rd_T35 l0 a1).f1)) ∧ w'.cell? ⟨(ad308.add ((a1).toNat * 3)).block, (ad308.add ((a1).toNat * 3)).off + 2, none⟩ = some (.bool ((rd_T35 l0 a1).f2)) ∧ w'.cell? (ad308.add ((a1).toNat * 3)) = some (.int .i64 ((rd_T35 l0 a1).f0)) ∧ w'.cell? ⟨(ad308.add ((a1).toNat * 3)).block, (ad308.add ((a1).toNat * 3)).off + 1, none⟩ = some (.int .i64 ((rd_T35 l0 a1).f1)) ∧ w'.cell? ⟨(ad308.add ((a1).toNat * 3)).block, (ad308.add ((a1).toNat * 3)).off + 2, none⟩ = some (.bool ((rd_T35 l0 a1).f2))) (ds := []) (onA 20 0) (by kernel_rfl) rfl rfl ⟨(zw HB hw320_0), (zw HB hw320_1), (zw HB hw320_2), (zw HB hw321_0), (zw HB hw321_1), (zw HB hw321_2)⟩ (fun hHeld => ?_); refine with_tabW darningref4_CarveEdits.tab11 darningref4_CarveEdits.bits11 (fun HT_ HW_ => ?_)
   generalize wr.drew = w24 at HO_10 HB hx320_0 hx320_1 hx320_2 hx321_0 hx321_1 hx321_2 hHeld ⊢
   refine pu 0 (some 60) (onA 20 1) HT_ (h := ?_)
   refine pu 1 (some 61) (onA 20 2) HT_ (h := ?_)
   refine pu 2 (some 62) (onA 20 3) HT_ (h := ?_)
   refine pu 3 (some 63) (onA 20 4) HT_ (h := ?_)
   refine pu 4 (some 64) (onA 20 5) HT_ (h := ?_)
   refine pu 6 (some 66) #[tt_,tt_,tt_,tt_,tt_,ff_,tt_,ff_,ff_,ff_,ff_,ff_,ff_,ff_,ff_,ff_,ff_,ff_,ff_,ff_] HT_ (h := ?_)
   refine pu 8 (some 68) #[tt_,tt_,tt_,tt_,tt_,ff_,tt_,ff_,tt_,ff_,ff_,ff_,ff_,ff_,ff_,ff_,ff_,ff_,ff_,ff_] HT_ (h := ?_)
   refine pu 9 (some 69) #[tt_,tt_,tt_,tt_,tt_,ff_,tt_,ff_,tt_,tt_,ff_,ff_,ff_,ff_,ff_,ff_,ff_,ff_,ff_,ff_] HT_ (h := ?_)
   refine pu 10 (some 70) #[tt_,tt_,tt_,tt_,tt_,ff_,tt_,ff_,tt_,tt_,tt_,ff_,ff_,ff_,ff_,ff_,ff_,ff_,ff_,ff_] HT_ (h := ?_)
   refine pu 11 (some 71) #[tt_,tt_,tt_,tt_,tt_,ff_,tt_,ff_,tt_,tt_,tt_,tt_,ff_,ff_,ff_,ff_,ff_,ff_,ff_,ff_] HT_ (h := ?_)
   refine pu 13 (some 73) #[tt_,tt_,tt_,tt_,tt_,ff_,tt_,ff_,tt_,tt_,tt_,tt_,ff_,tt_,ff_,ff_,ff_,ff_,ff_,ff_] HT_ (h := ?_)
   refine take_ (i := 5) (N := some 65) (v := ?_) (a' := ?_) #[tt_,tt_,tt_,tt_,tt_,tt_,tt_,ff_,tt_,tt_,tt_,tt_,ff_,tt_,ff_,ff_,ff_,ff_,ff_,ff_] rfl rfl (take_ofW HT_.out HW_.out (by kernel_rfl)) (fun _ _ _ h => h) (Or.inl ⟨by rfl, ?_⟩) hHeld ?_ ?_
   rotate_left
   ·
    rintro w' ⟨s0, s1, s2, s3, s4, s5⟩
    go_simp
    with_reducible rfl
   rotate_left
   ·
    simp only [Act.put, qg, qh, qi, i64_w, i32_w]
    rfl
   refine pu 7 (some 67) #[tt_,tt_,tt_,tt_,tt_,tt_,tt_,tt_,tt_,tt_,tt_,tt_,ff_,tt_,ff_,ff_,ff_,ff_,ff_,ff_] HT_ (h := ?_)
   refine take_ (i := 12) (N := some 72) (v := ?_) (a' := ?_) (onA 20 14) rfl rfl (take_ofW HT_.out HW_.out (by kernel_rfl)) (fun _ _ _ h => h) (Or.inl ⟨by rfl, ?_⟩) hHeld ?_ ?_
   rotate_left
   ·
    rintro w' ⟨s0, s1, s2, s3, s4, s5⟩
    go_simp
    with_reducible rfl
   rotate_left
   ·
    simp only [Act.put, qg, qh, qi, i64_w, i32_w]
    rfl
   refine pu 14 (some 74) (onA 20 15) HT_ (h := ?_)
   refine one_ (i := 15) (N := some 75) (onA 20 16) rfl rfl (one_of HT_.out (by kernel_rfl)) (by decide) (fun K hK => ?_)
   refine goes_ Try.func20 (by kernel_rfl) rfl #[.int .i64 (wrap64 (((rd_T35 l0 a1).f1) - t309)), .bool false] (by rfl) rfl rfl (by (try simp only [qj, qk, ql]); first | done | rfl | (simp only [qm, qn]; rfl)) ?_
   with_reducible refine (darningref4_Word.calls (wrap64 (((rd_T35 l0 a1).f1) - t309)) false t322 _ A22.out).mono ?_
   rintro e w' ⟨rfl, ⟨nd, rfl⟩⟩
   refine ⟨_, rfl, ?_⟩
   refine hK.out _ _ ⟨(zw HB hw320_0), (zw HB hw320_1), (zw HB hw320_2), (zw HB hw321_0), (zw HB hw321_1), (zw HB hw321_2)⟩ (fun hHeld => ?_)
   clear hK K
   refine norm_ (a' := ?_) ?_ ?_
   rotate_left
   ·
    show Act.put _ (some 75) _ = _
    simp only [Act.put, qg, qh, qi, i64_w, i32_w]
    rfl
   refine pu 16 (some 76) (onA 20 17) HT_ (h := ?_)
   refine one_ (i := 17) (N := some 77) (onA 20 18) rfl rfl (one_of HT_.out (by kernel_rfl)) (by decide) (fun K hK => ?_)
   refine value_ (w1 := ?_) (v := ?_) (by rfl) rfl ?_ ?_
   rotate_left 2
   ·
    go_simp
    constructor
    ·
     rfl
    ·
     rfl
   refine hK.out _ _ ⟨(World.cell?_alloc_lt _ _ _ (qp _ _ ((zw HB hw320_0)))).trans ((zw HB hw320_0)), (World.cell?_alloc_lt _ _ _ (qp _ _ ((zw HB hw320_1)))).trans ((zw HB hw320_1)), (World.cell?_alloc_lt _ _ _ (qp _ _ ((zw HB hw320_2)))).trans ((zw HB hw320_2)), (World.cell?_alloc_lt _ _ _ (qp _ _ ((zw HB hw321_0)))).trans ((zw HB hw321_0)), (World.cell?_alloc_lt _ _ _ (qp _ _ ((zw HB hw321_1)))).trans ((zw HB hw321_1)), (World.cell?_alloc_lt _ _ _ (qp _ _ ((zw HB hw321_2)))).trans ((zw HB hw321_2))⟩ (fun hHeld => ?_)
   clear hK K
   refine norm_ (a' := ?_) ?_ ?_
   rotate_left
   ·
    show Act.put _ (some 77) _ = _
    simp only [Act.put, qg, qh, qi, i64_w, i32_w]
    rfl
   refine one_ (i := 18) (N := some 78) (onA 20 19) rfl rfl (one_of HT_.out (by kernel_rfl)) (by decide) (fun K hK => ?_)
   refine Kd.R_append_step k30 (w0 := w) w.heap.size (by rfl) (.tmp 60) (.tmp 77) 42 30 (.agg #[(.int .i64 0), (.int .u64 0)]) 16 rfl Try.underlying42 info30 rfl (by decide) (by omega) u10 x10_1 (⟨wrap64 (((rd_T35 l0 a1).f0) + t309), t322⟩ : S30) [.int .i64 (wrap64 (((rd_T35 l0 a1).f0) + t309)), .int .u64 t322] (fun _ => True) (fun _ => False) rfl rfl ?aP (fun _ hk => hk.elim) ?aF ?aO ?aB ?aS ?aL ?_
   (case aP => exact k30_mkM _ _ _ (⟨wrap64 (((rd_T35 l0 a1).f0) + t309), t322⟩ : S30))
   (case aB => exact (zB HB))
   (case aF => exact (fun _ _ => trivial))
   (case aO => exact (zr HO_10))
   (case aS => exact (below_size (zB HB)))
   (case aL => have := LMc23.out; omega)
   intro v324 w25 ho hb hg hat
   rw [← Ny323.out] at ho
   have n0_ := Aside0.mk (hb)
   have n1_ := Aside0.mk (ho)
   clear HB
   clear HO_10
   have HB := n0_
   have HO325 := n1_
   clear n0_ n1_
   clear ho hb hg hat
   refine hK.out _ _ ⟨(zw HB hw320_0), (zw HB hw320_1), (zw HB hw320_2), (zw HB hw321_0), (zw HB hw321_1), (zw HB hw321_2)⟩ (fun hHeld => ?_)
   clear hK K
   refine norm_ (a' := ?_) ?_ ?_
   rotate_left
   ·
    show Act.put _ (some 78) _ = _
    simp only [Act.put, qg, qh, qi, i64_w, i32_w]
    rfl
   refine pu 19 (some 10) (onA 20 20) HT_ (h := ?_)
   refine done_ (done_of HT_.out (by kernel_rfl)) ?_
   try go_wp2
   go_ret
   exact ⟨_, by first | rfl | (simp [errW_none, errW_some] <;> rfl) | (simp [*, errW_none, errW_some] <;> rfl), by (with_reducible repeat (first | apply qa | apply qb | apply qc)); exact HO325.out, zB HB⟩

/-! ### darningref4_Off: function 29 -/
def darningref4_Off.f (a0_0 : Int) (a0_1 : Int) (a0_2 : Bool) : Option (Int) := if a0_0 < 0 then (some 0) else (if a0_0 > 512 then (some 0) else (some (wrap64 ((wrap64 (a0_0 + 1)) * 8))))
set_option maxHeartbeats 8000000 in
set_option maxRecDepth 100000 in
theorem darningref4_Off.calls (a0_0 : Int) (a0_1 : Int) (a0_2 : Bool) (r : Int) (w : World) (h : darningref4_Off.f a0_0 a0_1 a0_2 = some r) :
  Calls Try.prog 29 #[.agg #[.int .i64 a0_0, .int .i64 a0_1, .bool a0_2]] w fun e w' => e = .returned (.int .i64 r) ∧ Below w.heap.size w w' := by
 have hu35 := Try.underlying35
 have HB := Aside0.mk (Below.refl w.heap.size w)
 have H : (if a0_0 < 0 then (some 0) else (if a0_0 > 512 then (some 0) else (some (wrap64 ((wrap64 (a0_0 + 1)) * 8))))) = some r := h
 clear h
 by_cases c2 : a0_0 < 0
 ·
  rw [if_pos c2] at H
  have c2b0 : decide (a0_0 < 0) = true := decide_eq_true c2
  clear c2
  obtain rfl := Option.some.inj H
  go_enter Try.func29, Try.ntmps29
  go_wp2_with (first | ((with_reducible refine gate_dst (N := 1) rfl ?_); refine box_event ?hg (N := 1) ?hd (cs := #[.int .i64 a0_0, .int .i64 a0_1, .bool a0_2]) (t := 35) ?hr ?_; (case hd => rfl); (case hg => rfl); (case hr => first | (go_simp; done) | (go_simp; rfl)); intro gb326 hg w3 hbox hb; have n0_ := zb HB hb; have n1_ := Aside0.mk (hbox); have n2_ := Aside0.mk ((by rw [hg]; exact (below_size (zB HB)) : w.heap.size ≤ gb326)); have n3_ := Aside0.mk ((by rw [hg]; exact (below_size (zB HB)) : w.heap.size ≤ gb326)); clear HB; have HB := n0_; have BK326 := n1_; have GW326 := n2_; have GE326 := n3_; clear n0_ n1_ n2_ n3_; clear hb hbox hg; have hcz4_0 : w3.cell? ⟨gb326, 0, none⟩ = some (.int .i64 a0_0) := (blk_cell BK326.out 0).trans rfl; have hcz4_1 : w3.cell? ⟨gb326, 1, none⟩ = some (.int .i64 a0_1) := (blk_cell BK326.out 1).trans rfl; have hcz4_2 : w3.cell? ⟨gb326, 2, none⟩ = some (.bool a0_2) := (blk_cell BK326.out 2).trans rfl; have hfz4_0 := blk_frozen BK326.out 0; have hfz4_1 := blk_frozen BK326.out 1; have hfz4_2 := blk_frozen BK326.out 2))
  go_ret
  exact ⟨by first | rfl | (simp [errW_none, errW_some] <;> rfl) | (simp [*, errW_none, errW_some] <;> rfl), by repeat (first | (with_reducible first | exact HB.out | apply qd | apply qe | apply qf | refine below_set ?_ GE326.out) | exact HB.out)⟩
 rw [if_neg c2] at H
 have c2b0 : decide (a0_0 < 0) = false := decide_eq_false c2
 clear c2
 by_cases c5 : a0_0 > 512
 ·
  rw [if_pos c5] at H
  have c5b0 : decide (512 < a0_0) = true := decide_eq_true c5
  clear c5
  obtain rfl := Option.some.inj H
  go_enter Try.func29, Try.ntmps29
  go_wp2_with (first | ((with_reducible refine gate_dst (N := 1) rfl ?_); refine box_event ?hg (N := 1) ?hd (cs := #[.int .i64 a0_0, .int .i64 a0_1, .bool a0_2]) (t := 35) ?hr ?_; (case hd => rfl); (case hg => rfl); (case hr => first | (go_simp; done) | (go_simp; rfl)); intro gb326 hg w6 hbox hb; have n0_ := zb HB hb; have n1_ := Aside0.mk (hbox); have n2_ := Aside0.mk ((by rw [hg]; exact (below_size (zB HB)) : w.heap.size ≤ gb326)); have n3_ := Aside0.mk ((by rw [hg]; exact (below_size (zB HB)) : w.heap.size ≤ gb326)); clear HB; have HB := n0_; have BK326 := n1_; have GW326 := n2_; have GE326 := n3_; clear n0_ n1_ n2_ n3_; clear hb hbox hg; have hcz7_0 : w6.cell? ⟨gb326, 0, none⟩ = some (.int .i64 a0_0) := (blk_cell BK326.out 0).trans rfl; have hcz7_1 : w6.cell? ⟨gb326, 1, none⟩ = some (.int .i64 a0_1) := (blk_cell BK326.out 1).trans rfl; have hcz7_2 : w6.cell? ⟨gb326, 2, none⟩ = some (.bool a0_2) := (blk_cell BK326.out 2).trans rfl; have hfz7_0 := blk_frozen BK326.out 0; have hfz7_1 := blk_frozen BK326.out 1; have hfz7_2 := blk_frozen BK326.out 2))
  go_ret
  exact ⟨by first | rfl | (simp [errW_none, errW_some] <;> rfl) | (simp [*, errW_none, errW_some] <;> rfl), by repeat (first | (with_reducible first | exact HB.out | apply qd | apply qe | apply qf | refine below_set ?_ GE326.out) | exact HB.out)⟩
 rw [if_neg c5] at H
 have c5b0 : decide (512 < a0_0) = false := decide_eq_false c5
 clear c5
 obtain rfl := Option.some.inj H
 go_enter Try.func29, Try.ntmps29
 go_wp2_with (first | ((with_reducible refine gate_dst (N := 1) rfl ?_); refine box_event ?hg (N := 1) ?hd (cs := #[.int .i64 a0_0, .int .i64 a0_1, .bool a0_2]) (t := 35) ?hr ?_; (case hd => rfl); (case hg => rfl); (case hr => first | (go_simp; done) | (go_simp; rfl)); intro gb326 hg w8 hbox hb; have n0_ := zb HB hb; have n1_ := Aside0.mk (hbox); have n2_ := Aside0.mk ((by rw [hg]; exact (below_size (zB HB)) : w.heap.size ≤ gb326)); have n3_ := Aside0.mk ((by rw [hg]; exact (below_size (zB HB)) : w.heap.size ≤ gb326)); clear HB; have HB := n0_; have BK326 := n1_; have GW326 := n2_; have GE326 := n3_; clear n0_ n1_ n2_ n3_; clear hb hbox hg; have hcz9_0 : w8.cell? ⟨gb326, 0, none⟩ = some (.int .i64 a0_0) := (blk_cell BK326.out 0).trans rfl; have hcz9_1 : w8.cell? ⟨gb326, 1, none⟩ = some (.int .i64 a0_1) := (blk_cell BK326.out 1).trans rfl; have hcz9_2 : w8.cell? ⟨gb326, 2, none⟩ = some (.bool a0_2) := (blk_cell BK326.out 2).trans rfl; have hfz9_0 := blk_frozen BK326.out 0; have hfz9_1 := blk_frozen BK326.out 1; have hfz9_2 := blk_frozen BK326.out 2))
 go_ret
 exact ⟨by first | rfl | (simp [errW_none, errW_some] <;> rfl) | (simp [*, errW_none, errW_some] <;> rfl), by repeat (first | (with_reducible first | exact HB.out | apply qd | apply qe | apply qf | refine below_set ?_ GE326.out) | exact HB.out)⟩

/-! ### darningref4_Need: function 41 -/
def darningref4_Need.f (a0 : Int) : Option (Int) := if a0 < 1 then (some 0) else (if a0 > 448 then (some 0) else (some (wrap64 (1 + (wrap64 (Int.tdiv (wrap64 (a0 + 7)) 8))))))
set_option maxHeartbeats 8000000 in
set_option maxRecDepth 100000 in
theorem darningref4_Need.calls (a0 : Int) (r : Int) (w : World) (h : darningref4_Need.f a0 = some r) :
  Calls Try.prog 41 #[.int .i64 a0] w fun e w' => e = .returned (.int .i64 r) ∧ Drawn0 w w' := by
 have H : (if a0 < 1 then (some 0) else (if a0 > 448 then (some 0) else (some (wrap64 (1 + (wrap64 (Int.tdiv (wrap64 (a0 + 7)) 8))))))) = some r := h
 clear h
 by_cases c2 : a0 < 1
 ·
  rw [if_pos c2] at H
  have c2b0 : decide (a0 < 1) = true := decide_eq_true c2
  clear c2
  obtain rfl := Option.some.inj H
  go_enter Try.func41, Try.ntmps41
  go_wp2
  go_ret
  exact ⟨by first | rfl | (simp; done) | (simp [*]; done), by repeat (first | exact Drawn0.refl _ | apply Drawn0.step)⟩
 rw [if_neg c2] at H
 have c2b0 : decide (a0 < 1) = false := decide_eq_false c2
 clear c2
 by_cases c3 : a0 > 448
 ·
  rw [if_pos c3] at H
  have c3b0 : decide (448 < a0) = true := decide_eq_true c3
  clear c3
  obtain rfl := Option.some.inj H
  go_enter Try.func41, Try.ntmps41
  go_wp2
  go_ret
  exact ⟨by first | rfl | (simp; done) | (simp [*]; done), by repeat (first | exact Drawn0.refl _ | apply Drawn0.step)⟩
 rw [if_neg c3] at H
 have c3b0 : decide (448 < a0) = false := decide_eq_false c3
 clear c3
 obtain rfl := Option.some.inj H
 go_enter Try.func41, Try.ntmps41
 go_wp2
 go_ret
 exact ⟨by first | rfl | (simp; done) | (simp [*]; done), by repeat (first | exact Drawn0.refl _ | apply Drawn0.step)⟩

/-! ### darningref4_ParseWord: function 80 -/
def darningref4_ParseWord.f (a0 : Int) : Option (Int × Bool × Bool) := if (a0 / 2) < 2 then (some (0, false, false)) else (if (a0 / 2) > 512 then (some (0, false, false)) else (some (wrap64 (a0 / 2), ((Go.bits .and .u64 a0 1) == 1), true)))
set_option maxHeartbeats 8000000 in
set_option maxRecDepth 100000 in
theorem darningref4_ParseWord.calls (a0 : Int) (r1 : Int) (r2 : Bool) (r3 : Bool) (w : World) (h : darningref4_ParseWord.f a0 = some (r1, r2, r3)) :
  Calls Try.prog 80 #[.int .u64 a0] w fun e w' => e = .returned (.tuple #[.int .i64 r1, .bool r2, .bool r3]) ∧ Drawn0 w w' := by
 have H : (if (a0 / 2) < 2 then (some (0, false, false)) else (if (a0 / 2) > 512 then (some (0, false, false)) else (some (wrap64 (a0 / 2), ((Go.bits .and .u64 a0 1) == 1), true)))) = some (r1, r2, r3) := h
 clear h
 by_cases c2 : (a0 / 2) < 2
 ·
  rw [if_pos c2] at H
  have c2b0 : decide ((a0 / 2) < 2) = true := decide_eq_true c2
  clear c2
  simp only [Option.some.injEq, Prod.mk.injEq] at H
  obtain ⟨rfl, rfl, rfl⟩ := H
  go_enter Try.func80, Try.ntmps80
  go_wp2
  go_ret3
  exact ⟨by first | rfl | (simp; done) | (simp [*]; done), by repeat (first | exact Drawn0.refl _ | apply Drawn0.step)⟩
 rw [if_neg c2] at H
 have c2b0 : decide ((a0 / 2) < 2) = false := decide_eq_false c2
 clear c2
 by_cases c3 : (a0 / 2) > 512
 ·
  rw [if_pos c3] at H
  have c3b0 : decide (512 < (a0 / 2)) = true := decide_eq_true c3
  clear c3
  simp only [Option.some.injEq, Prod.mk.injEq] at H
  obtain ⟨rfl, rfl, rfl⟩ := H
  go_enter Try.func80, Try.ntmps80
  go_wp2
  go_ret3
  exact ⟨by first | rfl | (simp; done) | (simp [*]; done), by repeat (first | exact Drawn0.refl _ | apply Drawn0.step)⟩
 rw [if_neg c3] at H
 have c3b0 : decide (512 < (a0 / 2)) = false := decide_eq_false c3
 clear c3
 simp only [Option.some.injEq, Prod.mk.injEq] at H
 obtain ⟨rfl, rfl, rfl⟩ := H
 go_enter Try.func80, Try.ntmps80
 go_wp2
 go_ret3
 exact ⟨by first | rfl | (simp; done) | (simp [*]; done), by repeat (first | exact Drawn0.refl _ | apply Drawn0.step)⟩

end Go.Proofs.Ytglekonhdjploaa.XImageForms
