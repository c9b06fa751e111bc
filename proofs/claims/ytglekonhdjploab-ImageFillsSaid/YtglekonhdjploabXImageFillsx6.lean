-- Laid by this session's own printer (wip/xprint.py): each Go function that the law reaches as a plain Lean function, and that the call comes to it.
import Derived.Test.YtglekonhdjploabXImageFillsx0
import Derived.Test.YtglekonhdjploabXImageFillsx1
import Derived.Test.YtglekonhdjploabXImageFillsx4
import Derived.Test.YtglekonhdjploabXImageFillsx5
namespace Go.Proofs.Ytglekonhdjploab.XImageFills
open Go.RowKit Go.Proofs.YtglekonhdjploabW.PrintWords Go.Proofs.YtglekonhdjploabW.PrintLast Go.Proofs.YtglekonhdjploabW.PrintMore
attribute [local go_sem] max2_int min2_int max_two min_two max_three min_three max_four min_four   -- for this text's walks alone
set_option linter.unusedVariables false
set_option linter.unusedSimpArgs false

/-! ### darningref4_Apply: function 9 -/
def darningref4_Apply.l0 : Nat → List Int → List (S57) → Int → Int → Option (List Int)
 | 0, _, _, _, _ => none
 | k + 1, x5, x10, x11, x12 => if x12 < x11 then (if 0 ≤ x12 then (if x12 < (x10.length : Int) then (if ((rd_T57 x10 x12).f0) ≥ 0 then (if ((rd_T57 x10 x12).f0) < (x5.length : Int) then (if 0 ≤ ((rd_T57 x10 x12).f0) then (darningref4_Apply.l0 k (x5.set (((rd_T57 x10 x12).f0) : Int).toNat ((rd_T57 x10 x12).f1)) x10 x11 (wrap64 (x12 + 1))) else (none)) else (darningref4_Apply.l0 k x5 x10 x11 (wrap64 (x12 + 1)))) else (darningref4_Apply.l0 k x5 x10 x11 (wrap64 (x12 + 1)))) else (none)) else (none)) else (some x5)
def darningref4_Apply.f (k : Nat) (l0 : List Int) (l1 : List (S57)) : Option (List Int) := if ([] : List Int).length + l0.length < 17592186044416 then (darningref4_Apply.l0 k (([] : List Int) ++ l0) l1 (l1.length : Int) 0) else (none)
theorem darningref4_Apply.mono_l : ∀ k, (∀ y0 y1 y2 y3, LeO (darningref4_Apply.l0 k y0 y1 y2 y3) (darningref4_Apply.l0 (k + 1) y0 y1 y2 y3))
 | 0 => fun _ _ _ _ r h => by simp [darningref4_Apply.l0] at h
 | k + 1 => by
  have ih0 := darningref4_Apply.mono_l k
  ·
   intro y0 y1 y2 y3
   unfold darningref4_Apply.l0
   repeat' first
   | (with_reducible exact ih0 _ _ _ _)
   | (with_reducible exact LeO.refl _)
   | (with_reducible exact LeO.none _)
   | (with_reducible refine LeO.ite ?_ ?_)
   | (with_reducible refine LeO.bind ?_ (fun _ => ?_))
   | exact ih0 _ _ _ _
   | exact LeO.none _
   | refine LeO.ite ?_ ?_
   | refine LeO.bind ?_ (fun _ => ?_)
theorem darningref4_Apply.mono : ∀ a0 a1 k, LeO (darningref4_Apply.f k a0 a1) (darningref4_Apply.f (k + 1) a0 a1) := by
 intro a0 a1 k
 have ih0 := darningref4_Apply.mono_l k
 unfold darningref4_Apply.f
 repeat' first
   | (with_reducible exact ih0 _ _ _ _)
   | (with_reducible exact LeO.refl _)
   | (with_reducible exact LeO.none _)
   | (with_reducible refine LeO.ite ?_ ?_)
   | (with_reducible refine LeO.bind ?_ (fun _ => ?_))
   | exact ih0 _ _ _ _
   | exact LeO.none _
   | refine LeO.ite ?_ ?_
   | refine LeO.bind ?_ (fun _ => ?_)
set_option maxHeartbeats 8000000 in
set_option maxRecDepth 100000 in
theorem darningref4_Apply.calls (k : Nat) (A0 : Option Addr) (c0 : Nat) (l0 : List Int) (A1 : Option Addr) (c1 : Nat) (l1 : List (S57)) (r : List Int) (w : World) (hr0 : Kd.C (Kd.int .u64) w A0 l0.length l0) (hc0 : l0.length ≤ c0) (hr1 : Kd.C k57 w A1 l1.length l1) (hc1 : l1.length ≤ c1) (h : darningref4_Apply.f k l0 l1 = some r) :
  Calls Try.prog 9 #[.slice A0 l0.length c0, .slice A1 l1.length c1] w fun e w' => ∃ v0_ : Value, e = .returned (v0_) ∧ Kd.R (Kd.int .u64) 39 w' w.heap.size (fun _ => True) v0_ r ∧ Below w.heap.size w w' := by
 have hu57 := Try.underlying57
 have HR0 := Aside0.mk hr0
 have HC0 := Aside0.mk hc0
 clear hr0 hc0
 have HR1 := Aside0.mk hr1
 have HC1 := Aside0.mk hc1
 clear hr1 hc1
 have HB := Aside0.mk (Below.refl w.heap.size w)
 have H : (if ([] : List Int).length + l0.length < 17592186044416 then (darningref4_Apply.l0 k (([] : List Int) ++ l0) l1 (l1.length : Int) 0) else (none)) = some r := h
 clear h
 by_cases c3 : ([] : List Int).length + l0.length < 17592186044416
 ·
  rw [if_pos c3] at H
  have LMc3 := Aside0.mk c3
  clear c3
  obtain ⟨y181, hy181⟩ : ∃ y_ : List Int, y_ = (([] : List Int) ++ l0) := ⟨_, rfl⟩
  replace H : (darningref4_Apply.l0 k y181 l1 (l1.length : Int) 0) = some r := by first | (rw [hy181]; with_reducible exact H) | (have H2_ := (Option.bind_some _ _).symm.trans H; rw [hy181]; with_reducible exact H2_) | (have H2_ := (Option.bind_some _ _).symm.trans H; with_reducible exact H2_) | with_reducible exact H | (rw [hy181]; exact H) | exact H
  have Ny181 := Aside0.mk hy181
  clear hy181
  have H' := Aside0.mk H
  clear H
  go_enter Try.func9, Try.ntmps9
  go_wp2_with (first | ((with_reducible refine gate_builtin (b := .append) (xs := #[.const (.slice none 0 0), .tmp 8]) rfl ?_); (try (refine gate_guard (by rfl) ?_; dsimp only)); at_builtin; refine Kd.R_append_rows (Kd.int .u64) (w0 := w) w.heap.size rfl (.const (.slice none 0 0)) (.tmp 8) 26 39 (.int .u64 0) 8 rfl Try.underlying26 info39 rfl (by decide) (by omega) (.slice none 0 0) ([] : List Int) l0 _ _ _ (fun _ => True) (fun _ => False) rfl rfl ?aO ?aR (fun _ _ h => h) (fun _ h => h.elim) ?aF ?aB ?aS ?aL ?_; (case aR => repeat (first | exact HR0.out | (with_reducible refine Kd.C_alloc ?_ _) | (with_reducible refine Kd.C_drewN ?_ _) | (with_reducible refine Kd.C_drew ?_))); (case aB => exact (by repeat (first | (with_reducible first | exact HB.out | apply below_alloc | apply pw_below_drewN | apply below_drew1) | exact HB.out))); (case aF => exact (fun _ _ => trivial)); (case aO => exact ((Kd.R_nil _ _ _ _ (fun _ => True)))); (case aS => exact (below_size (by repeat (first | (with_reducible first | exact HB.out | apply below_alloc | apply pw_below_drewN | apply below_drew1) | exact HB.out)))); (case aL => have := LMc3.out; omega); intro v182 w4 ho hb hg hat; rw [← Ny181.out] at ho; have n0_ := Aside0.mk (hb); have n1_ := Aside0.mk (ho); clear HB; have HB := n0_; have HO183 := n1_; clear n0_ n1_; clear ho hb hg hat))
  go_loopg [12] k (fun kq v12 w' => ∃ (x5_1 : List Int) (x12_1 : Int), v12 = .int .i64 x12_1 ∧ Aside0 (darningref4_Apply.l0 kq x5_1 l1 (l1.length : Int) x12_1 = some r) ∧ Aside0 (kq ≤ k) ∧ Aside0 (Kd.R (Kd.int .u64) 39 w' w.heap.size (fun _ => True) v182 x5_1) ∧ Aside0 (Below w.heap.size w w'))
  case atStart => exact ⟨(y181), (0), (by first | rfl | (simp; done) | (simp [*]; done)), H', ⟨Nat.le_refl _⟩, ⟨by (with_reducible repeat (first | apply Kd.R_alloc | apply Kd.R_drewN | apply Kd.R_drew)); exact HO183.out⟩, ⟨by repeat (first | (with_reducible first | exact HB.out | apply below_alloc | apply pw_below_drewN | apply below_drew1) | exact HB.out)⟩⟩
  case round =>
   clear H'
   try clear c1
   try clear p2
   try clear c3
   obtain ⟨x5_1, x12_1, rfl, HA, HK1, HO_5, HB⟩ := hrel
   cases gk with
   | zero => exact absurd HA.out (by simp [darningref4_Apply.l0])
   | succ k1 =>
    have H := HA.out
    clear HA
    simp only [darningref4_Apply.l0] at H
    by_cases c5 : x12_1 < (l1.length : Int)
    ·
     rw [if_pos c5] at H
     have c5b0 : decide (x12_1 < (l1.length : Int)) = true := decide_eq_true c5
     clear c5
     by_cases c6 : 0 ≤ x12_1
     ·
      rw [if_pos c6] at H
      have c6b0 : decide (0 ≤ x12_1) = true := decide_eq_true c6
      clear c6
      by_cases c7 : x12_1 < (l1.length : Int)
      ·
       rw [if_pos c7] at H
       have c7b0 : decide (x12_1 < (l1.length : Int)) = true := decide_eq_true c7
       clear c7
       by_cases c8 : ((rd_T57 l1 x12_1).f0) ≥ 0
       ·
        rw [if_pos c8] at H
        have c8b0 : decide (0 ≤ ((rd_T57 l1 x12_1).f0)) = true := decide_eq_true c8
        clear c8
        by_cases c9 : ((rd_T57 l1 x12_1).f0) < (x5_1.length : Int)
        ·
         rw [if_pos c9] at H
         have c9b0 : decide (((rd_T57 l1 x12_1).f0) < (x5_1.length : Int)) = true := decide_eq_true c9
         clear c9
         by_cases c10 : 0 ≤ ((rd_T57 l1 x12_1).f0)
         ·
          rw [if_pos c10] at H
          have c10b0 : decide (0 ≤ ((rd_T57 l1 x12_1).f0)) = true := decide_eq_true c10
          clear c10
          obtain ⟨y186, hy186⟩ : ∃ y_ : List Int, y_ = (x5_1.set (((rd_T57 l1 x12_1).f0) : Int).toNat ((rd_T57 l1 x12_1).f1)) := ⟨_, rfl⟩
          replace H : (darningref4_Apply.l0 k1 y186 l1 (l1.length : Int) (wrap64 (x12_1 + 1))) = some r := by first | (rw [hy186]; with_reducible exact H) | (have H2_ := (Option.bind_some _ _).symm.trans H; rw [hy186]; with_reducible exact H2_) | (have H2_ := (Option.bind_some _ _).symm.trans H; with_reducible exact H2_) | with_reducible exact H | (rw [hy186]; exact H) | exact H
          have Ny186 := Aside0.mk hy186
          clear hy186
          have H' := Aside0.mk H
          clear H
          have p184 : 0 ≤ (x12_1 : Int) := of_decide_eq_true (by first | (with_reducible assumption) | assumption)
          have q184 : x12_1 < (l1.length : Int) := of_decide_eq_true (by first | (with_reducible assumption) | assumption)
          obtain ⟨ad184, e184, hx184_0, hx184_1⟩ := at_T57 HR1.out x12_1 p184 q184
          cases e184
          replace hx184_0 := (HB.out.cell (World.block_lt_of_cell? w _ hx184_0)).trans hx184_0
          replace hx184_1 := (HB.out.cell (World.block_lt_of_cell? w _ hx184_1)).trans hx184_1
          replace p184 := eq_true p184
          replace q184 := eq_true q184
          go_wp2_with (first | ((with_reducible refine gate_dst (N := 7) rfl ?_); (try (refine gate_guard (by rfl) ?_; dsimp only)); refine box_event ?hg (N := 7) ?hd (cs := #[.int .i64 0, .int .u64 0]) (t := 57) ?hr ?_; (case hd => rfl); (case hg => rfl); (case hr => first | (go_simp; done) | (go_simp; rfl)); intro gb185 hg w12 hbox hb; have n0_ := Aside0.mk (Kd.R_below (by (with_reducible repeat (first | apply Kd.R_alloc | apply Kd.R_drewN | apply Kd.R_drew)); exact HO_5.out) hb); have n1_ := Aside0.mk (below_step (by repeat (first | (with_reducible first | exact HB.out | apply below_alloc | apply pw_below_drewN | apply below_drew1) | exact HB.out)) hb); have n2_ := Aside0.mk (hbox); have n3_ := Aside0.mk ((by rw [hg]; exact (below_size (by repeat (first | (with_reducible first | exact HB.out | apply below_alloc | apply pw_below_drewN | apply below_drew1) | exact HB.out))) : w.heap.size ≤ gb185)); have n4_ := Aside0.mk ((by rw [hg]; exact (below_size (by repeat (first | (with_reducible first | exact HB.out | apply below_alloc | apply pw_below_drewN | apply below_drew1) | exact HB.out))) : w.heap.size ≤ gb185)); clear HO_5; clear HB; have HO_5 := n0_; have HB := n1_; have BK185 := n2_; have GW185 := n3_; have GE185 := n4_; clear n0_ n1_ n2_ n3_ n4_; clear hb hbox hg; have hcz13_0 : w12.cell? ⟨gb185, 0, none⟩ = some (.int .i64 0) := (blk_cell BK185.out 0).trans rfl; have hcz13_1 : w12.cell? ⟨gb185, 1, none⟩ = some (.int .u64 0) := (blk_cell BK185.out 1).trans rfl; have hfz13_0 := blk_frozen BK185.out 0; have hfz13_1 := blk_frozen BK185.out 1) | ((with_reducible refine gate_store (t := 57) (p := 7) rfl ?_); refine store_event (t := 57) (p := 7) (v := ?vo_w14) (w1 := ((w12.setCell ⟨gb185, 0, none⟩ (.int .i64 ((rd_T57 l1 x12_1).f0))).setCell ⟨gb185, 1, none⟩ (.int .u64 ((rd_T57 l1 x12_1).f1)))) ?hg ?ho ?hn ?hr ?_; (case ho => rfl); (case hg => rfl); (case hn => rfl); (case hr => first | (go_simp; done) | (go_simp; rfl)); intro w14 hw; have n0_ : Aside0 (Kd.R (Kd.int .u64) 39 w14 w.heap.size (fun _ => True) v182 x5_1) := ⟨(by rw [hw]; exact (by (with_reducible repeat (first | apply Kd.R_alloc | apply Kd.R_drewN | apply Kd.R_drew)); exact Kd.R_mono (Kd.R_far (p := ⟨gb185, 1, none⟩) (Kd.R_far (p := ⟨gb185, 0, none⟩) (Kd.R_types HO_5.out BK185.out (by decide)) (fun _ hk => hk.2) (.int .i64 ((rd_T57 l1 x12_1).f0))) (fun _ hk => hk.2) (.int .u64 ((rd_T57 l1 x12_1).f1))) (fun _ hk => trivial)))⟩; have n1_ : Aside0 (w14.heap[gb185]? = some (.cells #[.int .i64 ((rd_T57 l1 x12_1).f0), .int .u64 ((rd_T57 l1 x12_1).f1)] 57 (0, 0))) := ⟨(by rw [hw]; exact (by (with_reducible repeat (first | refine blk_drewN ?_ _ | refine blk_drew ?_ | refine blk_alloc ?_ _)); refine blk_put (cs := #[.int .i64 ((rd_T57 l1 x12_1).f0), .int .u64 0]) ?_ 1 _ rfl; (with_reducible repeat (first | refine blk_drewN ?_ _ | refine blk_drew ?_ | refine blk_alloc ?_ _)); refine blk_put (cs := #[.int .i64 0, .int .u64 0]) ?_ 0 _ rfl; (with_reducible repeat (first | refine blk_drewN ?_ _ | refine blk_drew ?_ | refine blk_alloc ?_ _)); exact BK185.out))⟩; have n2_ : Aside0 (Below w.heap.size w w14) := ⟨(by rw [hw]; exact (by repeat (first | (with_reducible first | exact HB.out | apply below_alloc | apply pw_below_drewN | apply below_drew1 | refine below_set ?_ GE185.out) | exact HB.out)))⟩; clear hw; clear HO_5; clear BK185; clear HB; have HO_5 := n0_; have BK185 := n1_; have HB := n2_; clear n0_ n1_ n2_; have hcz15_0 : w14.cell? ⟨gb185, 0, none⟩ = some (.int .i64 ((rd_T57 l1 x12_1).f0)) := (blk_cell BK185.out 0).trans rfl; have hcz15_1 : w14.cell? ⟨gb185, 1, none⟩ = some (.int .u64 ((rd_T57 l1 x12_1).f1)) := (blk_cell BK185.out 1).trans rfl; have hfz15_0 := blk_frozen BK185.out 0; have hfz15_1 := blk_frozen BK185.out 1; obtain ⟨Ao16, co16, eo16⟩ := Kd.R_slice HO_5.out; subst eo16; have p11 : 0 ≤ (((rd_T57 l1 x12_1).f0) : Int) := of_decide_eq_true (by first | (with_reducible assumption) | assumption); have q11 : (((rd_T57 l1 x12_1).f0) : Int) < ((x5_1.length : Int) : Int) := of_decide_eq_true (by first | (with_reducible assumption) | assumption); obtain ⟨go11, co11, eo11, gb11, gl11, cl11, HG11⟩ := Kd.R_form HO_5.out (by omega); (first | cases eo11 | (injection eo11 with ea_ en_ ec_; (first | subst ea_ | (injection ea_ with ea_; subst ea_)); subst ec_; clear en_)); have GB11 := Aside0.mk gb11; have GG11 := Aside0.mk HG11; clear gb11 gl11 HG11; obtain ⟨hx11_0, hf11_0⟩ := Kd.R_celln 0 HO_5.out (((rd_T57 l1 x12_1).f0) : Int) p11 q11; replace p11 := eq_true p11; replace q11 := eq_true q11; obtain ⟨hy17_, hz17_⟩ := Kd.R_celln 0 HO_5.out (((rd_T57 l1 x12_1).f0) : Int) (of_decide_eq_true (by first | (with_reducible assumption) | assumption)) (of_decide_eq_true (by first | (with_reducible assumption) | assumption)); have HP17 := Kd.R_putg HO_5.out (((rd_T57 l1 x12_1).f0) : Int) ((rd_T57 l1 x12_1).f1)) | ((with_reducible refine gate_store (t := 39) (p := 31) rfl ?_); refine store_event (t := 39) (p := 31) (v := ?vo_w18) (w1 := (w14.setCell ⟨go11, (((rd_T57 l1 x12_1).f0) : Int).toNat, none⟩ (.int .u64 ((rd_T57 l1 x12_1).f1)))) ?hg ?ho ?hn ?hr ?_; (case ho => rfl); (case hg => rfl); (case hn => rfl); (case hr => first | (go_simp; done) | (go_simp; rfl)); intro w18 hw; have hg : w14.grownBy w18 (some go11) := (by rw [hw]; exact HP17.2); have hp_ : Kd.R (Kd.int .u64) 39 w18 w.heap.size (fun _ => True) (.slice (some ⟨go11, 0, none⟩) x5_1.length co16) y186 := (by rw [hw, Ny186.out]; exact HP17.1); clear HP17; have n0_ := Aside0.mk (hp_); have n1_ := Aside0.mk (blk_grown (g := gb185) (o := .cells #[.int .i64 ((rd_T57 l1 x12_1).f0), .int .u64 ((rd_T57 l1 x12_1).f1)] 57 (0, 0)) (by (with_reducible repeat (first | refine blk_drewN ?_ _ | refine blk_drew ?_ | refine blk_alloc ?_ _)); exact BK185.out) hg (Kd.R_ne HO_5.out BK185.out (by decide))); have n2_ := Aside0.mk ((by rw [hw]; exact below_set (HB.out) GB11.out : Below w.heap.size w w18)); clear HO_5; clear BK185; clear HB; have HO_5 := n0_; have BK185 := n1_; have HB := n2_; clear n0_ n1_ n2_; clear hg hw hp_))
          go_roundg k1
          case measure => have := HK1.out; omega
          case rel => exact ⟨(y186), (wrap64 (x12_1 + 1)), (by first | rfl | (simp; done) | (simp [*]; done)), H', ⟨by have := HK1.out; omega⟩, ⟨by (with_reducible repeat (first | apply Kd.R_alloc | apply Kd.R_drewN | apply Kd.R_drew)); exact HO_5.out⟩, ⟨by repeat (first | (with_reducible first | exact HB.out | apply below_alloc | apply pw_below_drewN | apply below_drew1 | refine below_set ?_ GE185.out) | exact HB.out)⟩⟩
         ·
          rw [if_neg c10] at H
          exact absurd H (by simp)
        ·
         rw [if_neg c9] at H
         have c9b0 : decide (((rd_T57 l1 x12_1).f0) < (x5_1.length : Int)) = false := decide_eq_false c9
         clear c9
         have H' := Aside0.mk H
         clear H
         have p184 : 0 ≤ (x12_1 : Int) := of_decide_eq_true (by first | (with_reducible assumption) | assumption)
         have q184 : x12_1 < (l1.length : Int) := of_decide_eq_true (by first | (with_reducible assumption) | assumption)
         obtain ⟨ad184, e184, hx184_0, hx184_1⟩ := at_T57 HR1.out x12_1 p184 q184
         cases e184
         replace hx184_0 := (HB.out.cell (World.block_lt_of_cell? w _ hx184_0)).trans hx184_0
         replace hx184_1 := (HB.out.cell (World.block_lt_of_cell? w _ hx184_1)).trans hx184_1
         replace p184 := eq_true p184
         replace q184 := eq_true q184
         go_wp2_with (first | ((with_reducible refine gate_dst (N := 7) rfl ?_); (try (refine gate_guard (by rfl) ?_; dsimp only)); refine box_event ?hg (N := 7) ?hd (cs := #[.int .i64 0, .int .u64 0]) (t := 57) ?hr ?_; (case hd => rfl); (case hg => rfl); (case hr => first | (go_simp; done) | (go_simp; rfl)); intro gb185 hg w19 hbox hb; have n0_ := Aside0.mk (Kd.R_below (by (with_reducible repeat (first | apply Kd.R_alloc | apply Kd.R_drewN | apply Kd.R_drew)); exact HO_5.out) hb); have n1_ := Aside0.mk (below_step (by repeat (first | (with_reducible first | exact HB.out | apply below_alloc | apply pw_below_drewN | apply below_drew1) | exact HB.out)) hb); have n2_ := Aside0.mk (hbox); have n3_ := Aside0.mk ((by rw [hg]; exact (below_size (by repeat (first | (with_reducible first | exact HB.out | apply below_alloc | apply pw_below_drewN | apply below_drew1) | exact HB.out))) : w.heap.size ≤ gb185)); have n4_ := Aside0.mk ((by rw [hg]; exact (below_size (by repeat (first | (with_reducible first | exact HB.out | apply below_alloc | apply pw_below_drewN | apply below_drew1) | exact HB.out))) : w.heap.size ≤ gb185)); clear HO_5; clear HB; have HO_5 := n0_; have HB := n1_; have BK185 := n2_; have GW185 := n3_; have GE185 := n4_; clear n0_ n1_ n2_ n3_ n4_; clear hb hbox hg; have hcz20_0 : w19.cell? ⟨gb185, 0, none⟩ = some (.int .i64 0) := (blk_cell BK185.out 0).trans rfl; have hcz20_1 : w19.cell? ⟨gb185, 1, none⟩ = some (.int .u64 0) := (blk_cell BK185.out 1).trans rfl; have hfz20_0 := blk_frozen BK185.out 0; have hfz20_1 := blk_frozen BK185.out 1; obtain ⟨Ao21, co21, eo21⟩ := Kd.R_slice HO_5.out; subst eo21))
         go_roundg k1
         case measure => have := HK1.out; omega
         case rel => exact ⟨(x5_1), (wrap64 (x12_1 + 1)), (by first | rfl | (simp; done) | (simp [*]; done)), H', ⟨by have := HK1.out; omega⟩, ⟨by (with_reducible repeat (first | apply Kd.R_alloc | apply Kd.R_drewN | apply Kd.R_drew)); exact Kd.R_mono (Kd.R_far (p := ⟨gb185, 1, none⟩) (Kd.R_far (p := ⟨gb185, 0, none⟩) (Kd.R_types HO_5.out BK185.out (by decide)) (fun _ hk => hk.2) (.int .i64 ((rd_T57 l1 x12_1).f0))) (fun _ hk => hk.2) (.int .u64 ((rd_T57 l1 x12_1).f1))) (fun _ hk => trivial)⟩, ⟨by repeat (first | (with_reducible first | exact HB.out | apply below_alloc | apply pw_below_drewN | apply below_drew1 | refine below_set ?_ GE185.out) | exact HB.out)⟩⟩
       ·
        rw [if_neg c8] at H
        have c8b0 : decide (0 ≤ ((rd_T57 l1 x12_1).f0)) = false := decide_eq_false c8
        clear c8
        have H' := Aside0.mk H
        clear H
        have p184 : 0 ≤ (x12_1 : Int) := of_decide_eq_true (by first | (with_reducible assumption) | assumption)
        have q184 : x12_1 < (l1.length : Int) := of_decide_eq_true (by first | (with_reducible assumption) | assumption)
        obtain ⟨ad184, e184, hx184_0, hx184_1⟩ := at_T57 HR1.out x12_1 p184 q184
        cases e184
        replace hx184_0 := (HB.out.cell (World.block_lt_of_cell? w _ hx184_0)).trans hx184_0
        replace hx184_1 := (HB.out.cell (World.block_lt_of_cell? w _ hx184_1)).trans hx184_1
        replace p184 := eq_true p184
        replace q184 := eq_true q184
        go_wp2_with (first | ((with_reducible refine gate_dst (N := 7) rfl ?_); (try (refine gate_guard (by rfl) ?_; dsimp only)); refine box_event ?hg (N := 7) ?hd (cs := #[.int .i64 0, .int .u64 0]) (t := 57) ?hr ?_; (case hd => rfl); (case hg => rfl); (case hr => first | (go_simp; done) | (go_simp; rfl)); intro gb185 hg w22 hbox hb; have n0_ := Aside0.mk (Kd.R_below (by (with_reducible repeat (first | apply Kd.R_alloc | apply Kd.R_drewN | apply Kd.R_drew)); exact HO_5.out) hb); have n1_ := Aside0.mk (below_step (by repeat (first | (with_reducible first | exact HB.out | apply below_alloc | apply pw_below_drewN | apply below_drew1) | exact HB.out)) hb); have n2_ := Aside0.mk (hbox); have n3_ := Aside0.mk ((by rw [hg]; exact (below_size (by repeat (first | (with_reducible first | exact HB.out | apply below_alloc | apply pw_below_drewN | apply below_drew1) | exact HB.out))) : w.heap.size ≤ gb185)); have n4_ := Aside0.mk ((by rw [hg]; exact (below_size (by repeat (first | (with_reducible first | exact HB.out | apply below_alloc | apply pw_below_drewN | apply below_drew1) | exact HB.out))) : w.heap.size ≤ gb185)); clear HO_5; clear HB; have HO_5 := n0_; have HB := n1_; have BK185 := n2_; have GW185 := n3_; have GE185 := n4_; clear n0_ n1_ n2_ n3_ n4_; clear hb hbox hg; have hcz23_0 : w22.cell? ⟨gb185, 0, none⟩ = some (.int .i64 0) := (blk_cell BK185.out 0).trans rfl; have hcz23_1 : w22.cell? ⟨gb185, 1, none⟩ = some (.int .u64 0) := (blk_cell BK185.out 1).trans rfl; have hfz23_0 := blk_frozen BK185.out 0; have hfz23_1 := blk_frozen BK185.out 1))
        go_roundg k1
        case measure => have := HK1.out; omega
        case rel => exact ⟨(x5_1), (wrap64 (x12_1 + 1)), (by first | rfl | (simp; done) | (simp [*]; done)), H', ⟨by have := HK1.out; omega⟩, ⟨by (with_reducible repeat (first | apply Kd.R_alloc | apply Kd.R_drewN | apply Kd.R_drew)); exact Kd.R_mono (Kd.R_far (p := ⟨gb185, 1, none⟩) (Kd.R_far (p := ⟨gb185, 0, none⟩) (Kd.R_types HO_5.out BK185.out (by decide)) (fun _ hk => hk.2) (.int .i64 ((rd_T57 l1 x12_1).f0))) (fun _ hk => hk.2) (.int .u64 ((rd_T57 l1 x12_1).f1))) (fun _ hk => trivial)⟩, ⟨by repeat (first | (with_reducible first | exact HB.out | apply below_alloc | apply pw_below_drewN | apply below_drew1 | refine below_set ?_ GE185.out) | exact HB.out)⟩⟩
      ·
       rw [if_neg c7] at H
       exact absurd H (by simp)
     ·
      rw [if_neg c6] at H
      exact absurd H (by simp)
    ·
     rw [if_neg c5] at H
     have c5b0 : decide (x12_1 < (l1.length : Int)) = false := decide_eq_false c5
     clear c5
     obtain rfl := Option.some.inj H
     go_wp2
     go_ret
     exact ⟨_, by first | rfl | (simp [errW_none, errW_some] <;> rfl) | (simp [*, errW_none, errW_some] <;> rfl), by (with_reducible repeat (first | apply Kd.R_alloc | apply Kd.R_drewN | apply Kd.R_drew)); exact HO_5.out, by repeat (first | (with_reducible first | exact HB.out | apply below_alloc | apply pw_below_drewN | apply below_drew1) | exact HB.out)⟩
 ·
  rw [if_neg c3] at H
  exact absurd H (by simp)

/-! ### chain_First: function 13 -/
def chain_First.f (a0 : Int) : Option (List Int) := (chain_mayWords.f a0).bind fun t187 => (if t187 = true then (if 0 ≤ a0 then (if (a0 : Int).toNat ≤ 35184372088832 then ((some (List.replicate (a0 : Int).toNat 0 : List Int)).bind fun y188 => ((block_Word.f a0 false).bind fun t191 => (if 0 < (y188.length : Int) then (some (y188.set (0 : Int).toNat t191)) else (none)))) else (none)) else (none)) else (some ([] : List Int)))
set_option maxHeartbeats 8000000 in
set_option maxRecDepth 100000 in
theorem chain_First.calls (a0 : Int) (r : List Int) (w : World) (h : chain_First.f a0 = some r) :
  Calls Try.prog 13 #[.int .i64 a0] w fun e w' => ∃ v0_ : Value, e = .returned (v0_) ∧ Kd.R (Kd.int .u64) 39 w' w.heap.size (fun _ => True) v0_ r ∧ Below w.heap.size w w' := by
 have HB := Aside0.mk (Below.refl w.heap.size w)
 have H : ((chain_mayWords.f a0).bind fun t187 => (if t187 = true then (if 0 ≤ a0 then (if (a0 : Int).toNat ≤ 35184372088832 then ((some (List.replicate (a0 : Int).toNat 0 : List Int)).bind fun y188 => ((block_Word.f a0 false).bind fun t191 => (if 0 < (y188.length : Int) then (some (y188.set (0 : Int).toNat t191)) else (none)))) else (none)) else (none)) else (some ([] : List Int)))) = some r := h
 clear h
 replace H := Option.bind_eq_some_iff.mp H
 obtain ⟨t187, A20, H⟩ := H
 replace H : (if t187 = true then (if 0 ≤ a0 then (if (a0 : Int).toNat ≤ 35184372088832 then ((some (List.replicate (a0 : Int).toNat 0 : List Int)).bind fun y188 => ((block_Word.f a0 false).bind fun t191 => (if 0 < (y188.length : Int) then (some (y188.set (0 : Int).toNat t191)) else (none)))) else (none)) else (none)) else (some ([] : List Int))) = some r := H
 have A2 := Aside0.mk A20
 clear A20
 by_cases c3 : t187 = true
 ·
  subst c3
  have H1 : (if 0 ≤ a0 then (if (a0 : Int).toNat ≤ 35184372088832 then ((some (List.replicate (a0 : Int).toNat 0 : List Int)).bind fun y188 => ((block_Word.f a0 false).bind fun t191 => (if 0 < (y188.length : Int) then (some (y188.set (0 : Int).toNat t191)) else (none)))) else (none)) else (none)) = some r := by rw [if_pos rfl] at H; exact H
  clear H
  have H := H1
  clear H1
  by_cases c4 : 0 ≤ a0
  ·
   rw [if_pos c4] at H
   have c4b0 := eq_true c4
   have c4b1 : decide (0 ≤ a0) = true := decide_eq_true c4
   clear c4
   by_cases c5 : (a0 : Int).toNat ≤ 35184372088832
   ·
    rw [if_pos c5] at H
    have c5b0 := eq_true c5
    have c5b1 : decide ((a0 : Int).toNat ≤ 35184372088832) = true := decide_eq_true c5
    clear c5
    obtain ⟨y188, hy188⟩ : ∃ y_ : List Int, y_ = (List.replicate (a0 : Int).toNat 0) := ⟨_, rfl⟩
    replace H : ((block_Word.f a0 false).bind fun t191 => (if 0 < (y188.length : Int) then (some (y188.set (0 : Int).toNat t191)) else (none))) = some r := by first | (rw [hy188]; with_reducible exact H) | (have H2_ := (Option.bind_some _ _).symm.trans H; rw [hy188]; with_reducible exact H2_) | (have H2_ := (Option.bind_some _ _).symm.trans H; with_reducible exact H2_) | with_reducible exact H | (rw [hy188]; exact H) | exact H
    have Ny188 := Aside0.mk hy188
    clear hy188
    replace H := Option.bind_eq_some_iff.mp H
    obtain ⟨t191, A60, H⟩ := H
    replace H : (if 0 < (y188.length : Int) then (some (y188.set (0 : Int).toNat t191)) else (none)) = some r := H
    have A6 := Aside0.mk A60
    clear A60
    by_cases c7 : 0 < (y188.length : Int)
    ·
     rw [if_pos c7] at H
     have c7b0 : decide (0 < (y188.length : Int)) = true := decide_eq_true c7
     have c7b1 : decide (0 < y188.length) = true := decide_eq_true (by omega)
     clear c7
     obtain ⟨y192, hy192⟩ : ∃ y_ : List Int, y_ = (y188.set (0 : Int).toNat t191) := ⟨_, rfl⟩
     replace H : (some y192) = some r := by first | (rw [hy192]; with_reducible exact H) | (have H2_ := (Option.bind_some _ _).symm.trans H; rw [hy192]; with_reducible exact H2_) | (have H2_ := (Option.bind_some _ _).symm.trans H; with_reducible exact H2_) | with_reducible exact H | (rw [hy192]; exact H) | exact H
     have Ny192 := Aside0.mk hy192
     clear hy192
     obtain rfl := Option.some.inj H
     go_enter Try.func13, Try.ntmps13
     go_wp2_with (first | ((with_reducible refine gate_callee (f := 30) rfl ?_); refine goesL_ (some 5) rfl rfl Try.func30 (by kernel_rfl) rfl #[.int .i64 a0] rfl (by (try simp only [List.map_toArray, List.map_cons, List.map_nil]); first | done | rfl | (simp only [List.length_drop, List.length_take]; rfl)) ?_; (with_reducible refine (chain_mayWords.calls a0 true _ A2.out).mono ?_); rintro e w' ⟨rfl, ⟨nd, rfl⟩⟩; refine ⟨_, rfl, ?_⟩) | ((with_reducible refine gate_dst (N := 8) rfl ?_); refine Kd.R_make (Kd.int .u64) _ 39 rfl (N := 8) rfl 26 _ _ rfl a0 rfl rfl Try.underlying26 (.int .u64 0) 8 info39 rfl (by decide) (by omega) 0 (ok := fun _ => True) (okp := fun _ => True) rfl (fun _ hk => hk) trivial (of_decide_eq_true (by first | (with_reducible assumption) | assumption)) (Nat.le_trans (Nat.mul_le_mul_right _ (of_decide_eq_true (by first | (with_reducible assumption) | assumption) : a0.toNat ≤ 35184372088832)) (by omega)) (Below.refl _ _) (Nat.le_refl _) ?_; intro v189 w9 ho10 hb hg_ hnew_; clear hg_ hnew_; (first | rw [← Ny188.out] at ho10 | (simp only [Int.reduceToNat] at ho10; rw [← Ny188.out] at ho10)); have n0_ := Aside0.mk (Kd.R_lower ho10 (below_size (by repeat (first | (with_reducible first | exact HB.out | apply below_alloc | apply pw_below_drewN | apply below_drew1) | exact HB.out)))); have n1_ := Aside0.mk (below_step (by repeat (first | (with_reducible first | exact HB.out | apply below_alloc | apply pw_below_drewN | apply below_drew1) | exact HB.out)) hb); clear HB; have HO190 := n0_; have HB := n1_; clear n0_ n1_; clear hb ho10) | ((with_reducible refine gate_callee (f := 31) rfl ?_); refine goesL_ (some 11) rfl rfl Try.func31 (by kernel_rfl) rfl #[.int .i64 a0, .bool false] rfl (by (try simp only [List.map_toArray, List.map_cons, List.map_nil]); first | done | rfl | (simp only [List.length_drop, List.length_take]; rfl)) ?_; (with_reducible refine (block_Word.calls a0 false t191 _ A6.out).mono ?_); rintro e w' ⟨rfl, ⟨nd, rfl⟩⟩; refine ⟨_, rfl, ?_⟩; (try (rw [drewN_self w9]; generalize hq_ : World.drewN w9 _ = w9; have n0_ : Aside0 (Kd.R (Kd.int .u64) 39 w9 w.heap.size (fun _ => True) v189 y188) := ⟨by rw [← hq_]; exact (by (with_reducible repeat (first | apply Kd.R_alloc | apply Kd.R_drewN | apply Kd.R_drew)); exact HO190.out)⟩; have n1_ : Aside0 (Below w.heap.size w w9) := ⟨by rw [← hq_]; exact (by repeat (first | (with_reducible first | exact HB.out | apply below_alloc | apply pw_below_drewN | apply below_drew1) | exact HB.out))⟩; clear HO190 HB hq_; have HO190 := n0_; have HB := n1_; clear n0_ n1_)); have p8 : 0 ≤ (0 : Int) := (by omega); have q8 : (0 : Int) < ((y188.length : Int) : Int) := of_decide_eq_true (by first | (with_reducible assumption) | assumption); have qi8 : (0 < y188.length) = True := eq_true (by omega); obtain ⟨go8, co8, eo8, gb8, gl8, cl8, HG8⟩ := Kd.R_form HO190.out (by omega); (first | cases eo8 | (injection eo8 with ea_ en_ ec_; (first | subst ea_ | (injection ea_ with ea_; subst ea_)); subst ec_; clear en_)); have GB8 := Aside0.mk gb8; have GG8 := Aside0.mk HG8; clear gb8 gl8 HG8; obtain ⟨hx8_0, hf8_0⟩ := Kd.R_celln 0 HO190.out (0 : Int) p8 q8; (try rw [show ((0 : Int)).toNat = 0 from rfl] at hx8_0); (try simp only [Nat.reduceMul, Nat.zero_mul, Nat.zero_add, Nat.reduceAdd] at hx8_0); (try rw [show ((0 : Int)).toNat = 0 from rfl] at hf8_0); (try simp only [Nat.reduceMul, Nat.zero_mul, Nat.zero_add, Nat.reduceAdd] at hf8_0); replace p8 := eq_true p8; replace q8 := eq_true q8; obtain ⟨hy11_, hz11_⟩ := Kd.R_celln 0 HO190.out (0 : Int) (by omega) (of_decide_eq_true (by first | (with_reducible assumption) | assumption)); (try simp only [Int.reduceToNat, Int.toNat_zero, Int.toNat_ofNat, Nat.reduceMul, Nat.zero_mul, Nat.zero_add] at hy11_ hz11_); (try rw [show ((0 : Int)).toNat = 0 from rfl] at hy11_); (try rw [show ((0 : Int)).toNat = 0 from rfl] at hz11_); have HP11 := Kd.R_putg HO190.out (0 : Int) t191) | ((with_reducible refine gate_store (t := 39) (p := 12) rfl ?_); refine store_event (t := 39) (p := 12) (v := ?vo_w12) (w1 := (w9.setCell ⟨go8, (0 : Int).toNat, none⟩ (.int .u64 t191))) ?hg ?ho ?hn ?hr ?_; (case ho => rfl); (case hg => rfl); (case hn => rfl); (case hr => first | (go_simp; done) | (go_simp; rfl)); intro w12 hw; have hg : w9.grownBy w12 (some go8) := (by rw [hw]; exact HP11.2); have hp_ : Kd.R (Kd.int .u64) 39 w12 w.heap.size (fun _ => True) (.slice (some ⟨go8, 0, none⟩) y188.length co8) y192 := (by rw [hw, Ny192.out]; exact HP11.1); clear HP11; have n0_ := Aside0.mk (hp_); have n1_ := Aside0.mk ((by rw [hw]; exact below_set (HB.out) GB8.out : Below w.heap.size w w12)); clear HO190; clear HB; have HO190 := n0_; have HB := n1_; clear n0_ n1_; clear hg hw hp_))
     go_ret
     exact ⟨_, by first | rfl | (simp [errW_none, errW_some] <;> rfl) | (simp [*, errW_none, errW_some] <;> rfl), by (with_reducible repeat (first | apply Kd.R_alloc | apply Kd.R_drewN | apply Kd.R_drew)); exact HO190.out, by repeat (first | (with_reducible first | exact HB.out | apply below_alloc | apply pw_below_drewN | apply below_drew1) | exact HB.out)⟩
    ·
     rw [if_neg c7] at H
     exact absurd H (by simp)
   ·
    rw [if_neg c5] at H
    exact absurd H (by simp)
  ·
   rw [if_neg c4] at H
   exact absurd H (by simp)
 ·
  replace c3 := Bool.eq_false_iff.mpr c3
  subst c3
  have H1 : (some ([] : List Int)) = some r := by rw [if_neg (show ¬ (false = true) by decide)] at H; exact H
  clear H
  have H := H1
  clear H1
  obtain rfl := Option.some.inj H
  go_enter Try.func13, Try.ntmps13
  go_wp2_with (first | ((with_reducible refine gate_callee (f := 30) rfl ?_); refine goesL_ (some 5) rfl rfl Try.func30 (by kernel_rfl) rfl #[.int .i64 a0] rfl (by (try simp only [List.map_toArray, List.map_cons, List.map_nil]); first | done | rfl | (simp only [List.length_drop, List.length_take]; rfl)) ?_; (with_reducible refine (chain_mayWords.calls a0 false _ A2.out).mono ?_); rintro e w' ⟨rfl, ⟨nd, rfl⟩⟩; refine ⟨_, rfl, ?_⟩))
  go_ret
  exact ⟨_, by first | rfl | (simp [errW_none, errW_some] <;> rfl) | (simp [*, errW_none, errW_some] <;> rfl), by first | exact Kd.R_nil _ _ _ _ _ | exact Kd.N_nil _ _ _ _ _ | exact Kd.V_nil _ _ _ _ _ | exact Kd.Q_nil _ _ _ _ _ | exact Kd.S_nil _ _ _ _ _, by repeat (first | (with_reducible first | exact HB.out | apply below_alloc | apply pw_below_drewN | apply below_drew1) | exact HB.out)⟩

-- NOT PRINTED: function 40 (api_Block_40)

-- NOT PRINTED: function 35 (api_Block_35)

/-! ### image_Holds: function 20, told by hand -/
section
open Go.Shelf Go.Lib Go.Proofs
def ren86 : Ren := { f := fun x => match x with | 8 => 35 | 6 => 40 | n => n, t := fun x => match x with | 22 => 22 | 23 => 45 | 25 => 70 | n => n, g := fun n => n }
theorem lay86 : SlLaysH0.n6 Try.prog ren86 :=
  { mixed := by kernel_rfl, f6 := ⟨"slices.IndexFunc[[]darning/api.Block,darning/api.Block]", of_decide_eq_true (by kernel_rfl), Try.func40.trans (congrArg some (by kernel_rfl))⟩,
    t0 := Try.underlying0, a0 := Try.isAgg0, z0 := Try.sizeOf0, v0 := Try.zeroValue0, t3 := Try.underlying3, a3 := Try.isAgg3, z3 := Try.sizeOf3, v3 := Try.zeroValue3, t4 := Try.underlying4, a4 := Try.isAgg4, z4 := Try.sizeOf4, v4 := Try.zeroValue4,
    t22 := Try.underlying22, a22 := Try.isAgg22, z22 := Try.sizeOf22, v22 := Try.zeroValue22, t25 := Try.underlying70, a25 := Try.isAgg70, z25 := Try.sizeOf70, v25 := Try.zeroValue70 }
theorem lay71 : SlLaysH0.n8 Try.prog ren86 :=
  { mixed := by kernel_rfl, f6 := lay86.f6, f8 := ⟨"slices.ContainsFunc[[]darning/api.Block,darning/api.Block]", of_decide_eq_true (by kernel_rfl), Try.func35.trans (congrArg some (by kernel_rfl))⟩,
    t0 := Try.underlying0, a0 := Try.isAgg0, z0 := Try.sizeOf0, v0 := Try.zeroValue0, t3 := Try.underlying3, a3 := Try.isAgg3, z3 := Try.sizeOf3, v3 := Try.zeroValue3, t4 := Try.underlying4, a4 := Try.isAgg4, z4 := Try.sizeOf4, v4 := Try.zeroValue4,
    t22 := Try.underlying22, a22 := Try.isAgg22, z22 := Try.sizeOf22, v22 := Try.zeroValue22, t25 := Try.underlying70, a25 := Try.isAgg70, z25 := Try.sizeOf70, v25 := Try.zeroValue70 }
def offV (a : Int) : Int := if a < 0 then 0 else if a > 512 then 0 else wrap64 ((wrap64 (a + 1)) * 8)
theorem off_v (a b : Int) (c : Bool) : carve_Off.f a b c = some (offV a) := by
  unfold carve_Off.f offV
  split
  · rfl
  · split <;> rfl
def enc45 (x : S45) : List Value := [.int .i64 x.f0, .int .i64 x.f1, .bool x.f2]
/-- What stands while a predicate looks. -/
def Hold (B C : Nat) (off n x0 x1 : Int) (w W w' : World) : Prop :=
  w'.cell? ⟨B, 0, none⟩ = some (.int .i64 off) ∧ w'.cell? ⟨C, 0, none⟩ = some (.int .i64 n) ∧ w'.cell? ⟨W.heap.size, 0, none⟩ = some (.int .i64 x0) ∧ w'.cell? ⟨W.heap.size, 1, none⟩ = some (.int .i64 x1) ∧ w'.cell? ⟨W.heap.size, 2, none⟩ = some (.bool true) ∧ Below w.heap.size w w' ∧ W.heap.size < w'.heap.size
theorem Hold.below {B C : Nat} {off n x0 x1 : Int} {w W w' w1 : World} (h : Hold B C off n x0 x1 w W w') (hb : Below w'.heap.size w' w1) : Hold B C off n x0 x1 w W w1 := by
  obtain ⟨h1, h2, h3, h4, h5, h6, h7⟩ := h
  exact ⟨pw_cell_below hb h1, pw_cell_below hb h2, pw_cell_below hb h3, pw_cell_below hb h4, pw_cell_below hb h5, below_step h6 hb, Nat.lt_of_lt_of_le h7 hb.size⟩
def holdsB (off n : Int) (x : S45) : Bool := x.f2 && (decide (offV x.f0 ≤ off) && decide (off ≤ wrap64 (wrap64 (wrap64 (x.f0 + x.f1) * 8) - n)))
set_option maxHeartbeats 2000000 in
theorem pred72 (off n : Int) (B C : Nat) (w : World) (hB : B < w.heap.size) (hC : C < w.heap.size) (hcell : w.cell? ⟨B, 0, none⟩ = some (.int .i64 off)) (hcell2 : w.cell? ⟨C, 0, none⟩ = some (.int .i64 n)) :
    PredBelow Try.prog 36 #[.pointer (some ⟨B, 0, none⟩), .pointer (some ⟨C, 0, none⟩)] (fun x : S45 => .agg (enc45 x).toArray) (holdsB off n) w := fun W x hb => by
  have hc : W.cell? ⟨B, 0, none⟩ = some (.int .i64 off) := (hb.cell (p := ⟨B, 0, none⟩) hB).trans hcell
  have hd : W.cell? ⟨C, 0, none⟩ = some (.int .i64 n) := (hb.cell (p := ⟨C, 0, none⟩) hC).trans hcell2
  have hBW : B < W.heap.size := Nat.lt_of_lt_of_le hB hb.size
  have hCW : C < W.heap.size := Nat.lt_of_lt_of_le hC hb.size
  obtain ⟨x0, x1, x2⟩ := x
  have ho := off_v x0 x1 x2
  obtain ⟨v, hv⟩ : ∃ v, offV x0 = v := ⟨_, rfl⟩
  rw [hv] at ho
  replace ho := Lib.hid ho
  show Calls Try.prog 36 #[.agg #[.int .i64 x0, .int .i64 x1, .bool x2], .pointer (some ⟨B, 0, none⟩), .pointer (some ⟨C, 0, none⟩)] W _
  cases x2
  · go_enter Try.func36, Try.ntmps36
    go_wp2
    go_quiet (fail)
    go_wp2
    go_ret
    exact ⟨by simp [holdsB], by repeat (first | exact hb.alloc hb.size _ | apply below_alloc | apply pw_below_drewN | apply below_drew1)⟩
  have hS0 : Hold B C off n x0 x1 w W (W.alloc (.cells #[.int .i64 x0, .int .i64 x1, .bool true] 45)).drew := by
    have hblk : (W.alloc (.cells #[.int .i64 x0, .int .i64 x1, .bool true] 45)).heap[W.heap.size]? = some (.cells #[.int .i64 x0, .int .i64 x1, .bool true] 45 (0, 0)) := heap_alloc_new W _
    refine ⟨pw_cell_below (below_alloc (Below.refl _ _) _) hc, pw_cell_below (below_alloc (Below.refl _ _) _) hd, (blk_cell hblk 0).trans rfl, (blk_cell hblk 1).trans rfl, (blk_cell hblk 2).trans rfl, below_drew1 (hb.alloc hb.size _), by simp⟩
  replace hS0 := Lib.hid hS0
  by_cases cv : v ≤ off
  · have cvb : decide (v ≤ off) = true := decide_eq_true cv
    clear cv
    have hfin : Hid (holdsB off n ⟨x0, x1, true⟩ = decide (off ≤ wrap64 (wrap64 (wrap64 (x0 + x1) * 8) - n))) := Lib.hid (by simp only [holdsB]; rw [hv, cvb]; simp)
    replace hv := Lib.hid hv
    go_enter Try.func36, Try.ntmps36
    go_wp2
    refine start_ (n := 21) (S := Hold B C off n x0 x1 w W) (ds := []) #[false, false, false, false, false, false, false, false, false, false, false, false, false, false, false, false, false, false, false, false, false] (by kernel_rfl) rfl rfl hS0.out (fun hS => ?_)
    refine pure_ (i := 0) (N := some 5) (v := .pointer (some ⟨W.heap.size, 2, none⟩)) (a' := ?a1_) #[true, false, false, false, false, false, false, false, false, false, false, false, false, false, false, false, false, false, false, false, false] rfl rfl (by kernel_rfl) (fun _ _ _ h => h) (.inl ⟨by rfl, ?hy1_⟩) ?ha1_ ?h1_
    case hy1_ =>
      intro w'
      go_simp
      try first | rfl | exact i64_w _ | (simp only [i64_w]; done)
    case ha1_ =>
      simp only [Act.put, List.setIfInBounds_toArray, List.set_cons_zero, List.set_cons_succ]
      rfl
    refine take_ (i := 1) (N := some 6) (v := .bool true) (a' := ?a2_) #[true, true, false, false, false, false, false, false, false, false, false, false, false, false, false, false, false, false, false, false, false] rfl rfl (by kernel_rfl) (fun _ _ _ h => h) (.inl ⟨by rfl, ?hy2_⟩) hS ?ha2_ ?h2_
    case hy2_ =>
      rintro w' ⟨q1, q2, q3, q4, q5, q6, q7⟩
      go_simp
      try first | rfl | exact i64_w _ | (simp only [i64_w]; done)
    case ha2_ =>
      simp only [Act.put, List.setIfInBounds_toArray, List.set_cons_zero, List.set_cons_succ]
      rfl
    refine pure_ (i := 2) (N := some 7) (v := .bool true) (a' := ?a3_) #[true, true, true, false, false, false, false, false, false, false, false, false, false, false, false, false, false, false, false, false, false] rfl rfl (by kernel_rfl) (fun _ _ _ h => h) (.inl ⟨by rfl, ?hy3_⟩) ?ha3_ ?h3_
    case hy3_ =>
      intro w'
      go_simp
      try first | rfl | exact i64_w _ | (simp only [i64_w]; done)
    case ha3_ =>
      simp only [Act.put, List.setIfInBounds_toArray, List.set_cons_zero, List.set_cons_succ]
      rfl
    refine take_ (i := 3) (N := some 8) (v := .int .i64 off) (a' := ?a4_) #[true, true, true, true, false, false, false, false, false, false, false, false, false, false, false, false, false, false, false, false, false] rfl rfl (by kernel_rfl) (fun _ _ _ h => h) (.inl ⟨by rfl, ?hy4_⟩) hS ?ha4_ ?h4_
    case hy4_ =>
      rintro w' ⟨q1, q2, q3, q4, q5, q6, q7⟩
      go_simp
      try first | rfl | exact i64_w _ | (simp only [i64_w]; done)
    case ha4_ =>
      simp only [Act.put, List.setIfInBounds_toArray, List.set_cons_zero, List.set_cons_succ]
      rfl
    refine take_ (i := 4) (N := some 9) (v := .agg #[.int .i64 x0, .int .i64 x1, .bool true]) (a' := ?a5_) #[true, true, true, true, true, false, false, false, false, false, false, false, false, false, false, false, false, false, false, false, false] rfl rfl (by kernel_rfl) (fun _ _ _ h => h) (.inl ⟨by rfl, ?hy5_⟩) hS ?ha5_ ?h5_
    case hy5_ =>
      rintro w' ⟨q1, q2, q3, q4, q5, q6, q7⟩
      go_simp
      try first | rfl | exact i64_w _ | (simp only [i64_w]; done)
    case ha5_ =>
      simp only [Act.put, List.setIfInBounds_toArray, List.set_cons_zero, List.set_cons_succ]
      rfl
    refine one_ (i := 5) (N := some 10) #[true, true, true, true, true, true, false, false, false, false, false, false, false, false, false, false, false, false, false, false, false] rfl rfl (by kernel_rfl) (by decide) (fun K hK => ?_)
    refine goes_ Try.func25 (by kernel_rfl) rfl #[.agg #[.int .i64 x0, .int .i64 x1, .bool true]] (by rfl) rfl rfl (by simp [Act.eval]) ?_
    with_reducible refine (carve_Off.calls x0 x1 true v _ ho.out).mono ?_
    rintro e w1 ⟨rfl, hb1⟩
    refine ⟨_, rfl, ?_⟩
    have hS1 := Hold.below hS hb1
    refine hK.out _ _ hS1 (fun hS => ?_)
    clear hK K
    refine norm_ (a' := ?a6_) ?ha6_ ?h6_
    case ha6_ =>
      simp only [Act.put, List.setIfInBounds_toArray, List.set_cons_zero, List.set_cons_succ]
      rfl
    refine pure_ (i := 6) (N := some 11) (v := .bool true) (a' := ?a7_) #[true, true, true, true, true, true, true, false, false, false, false, false, false, false, false, false, false, false, false, false, false] rfl rfl (by kernel_rfl) (fun _ _ _ h => h) (.inl ⟨by rfl, ?hy7_⟩) ?ha7_ ?h7_
    case hy7_ =>
      intro w'
      go_simp
      try first | rfl | exact i64_w _ | (simp only [i64_w]; done)
    case ha7_ =>
      simp only [Act.put, List.setIfInBounds_toArray, List.set_cons_zero, List.set_cons_succ]
      rfl
    refine pure_ (i := 7) (N := some 12) (v := .bool true) (a' := ?a8_) #[true, true, true, true, true, true, true, true, false, false, false, false, false, false, false, false, false, false, false, false, false] rfl rfl (by kernel_rfl) (fun _ _ _ h => h) (.inl ⟨by rfl, ?hy8_⟩) ?ha8_ ?h8_
    case hy8_ =>
      intro w'
      go_simp
      try first | rfl | exact i64_w _ | (simp only [i64_w]; done)
    case ha8_ =>
      simp only [Act.put, List.setIfInBounds_toArray, List.set_cons_zero, List.set_cons_succ]
      rfl
    refine pure_ (i := 8) (N := some 13) (v := .bool true) (a' := ?a9_) #[true, true, true, true, true, true, true, true, true, false, false, false, false, false, false, false, false, false, false, false, false] rfl rfl (by kernel_rfl) (fun _ _ _ h => h) (.inl ⟨by rfl, ?hy9_⟩) ?ha9_ ?h9_
    case hy9_ =>
      intro w'
      go_simp
      try first | rfl | exact i64_w _ | (simp only [i64_w]; done)
    case ha9_ =>
      simp only [Act.put, List.setIfInBounds_toArray, List.set_cons_zero, List.set_cons_succ]
      rfl
    refine take_ (i := 9) (N := some 14) (v := .int .i64 off) (a' := ?a10_) #[true, true, true, true, true, true, true, true, true, true, false, false, false, false, false, false, false, false, false, false, false] rfl rfl (by kernel_rfl) (fun _ _ _ h => h) (.inl ⟨by rfl, ?hy10_⟩) hS ?ha10_ ?h10_
    case hy10_ =>
      rintro w' ⟨q1, q2, q3, q4, q5, q6, q7⟩
      go_simp
      try first | rfl | exact i64_w _ | (simp only [i64_w]; done)
    case ha10_ =>
      simp only [Act.put, List.setIfInBounds_toArray, List.set_cons_zero, List.set_cons_succ]
      rfl
    refine pure_ (i := 10) (N := some 15) (v := .pointer (some ⟨W.heap.size, 0, none⟩)) (a' := ?a11_) #[true, true, true, true, true, true, true, true, true, true, true, false, false, false, false, false, false, false, false, false, false] rfl rfl (by kernel_rfl) (fun _ _ _ h => h) (.inl ⟨by rfl, ?hy11_⟩) ?ha11_ ?h11_
    case hy11_ =>
      intro w'
      go_simp
      try first | rfl | exact i64_w _ | (simp only [i64_w]; done)
    case ha11_ =>
      simp only [Act.put, List.setIfInBounds_toArray, List.set_cons_zero, List.set_cons_succ]
      rfl
    refine take_ (i := 11) (N := some 16) (v := .int .i64 x0) (a' := ?a12_) #[true, true, true, true, true, true, true, true, true, true, true, true, false, false, false, false, false, false, false, false, false] rfl rfl (by kernel_rfl) (fun _ _ _ h => h) (.inl ⟨by rfl, ?hy12_⟩) hS ?ha12_ ?h12_
    case hy12_ =>
      rintro w' ⟨q1, q2, q3, q4, q5, q6, q7⟩
      go_simp
      try first | rfl | exact i64_w _ | (simp only [i64_w]; done)
    case ha12_ =>
      simp only [Act.put, List.setIfInBounds_toArray, List.set_cons_zero, List.set_cons_succ]
      rfl
    refine pure_ (i := 12) (N := some 17) (v := .pointer (some ⟨W.heap.size, 1, none⟩)) (a' := ?a13_) #[true, true, true, true, true, true, true, true, true, true, true, true, true, false, false, false, false, false, false, false, false] rfl rfl (by kernel_rfl) (fun _ _ _ h => h) (.inl ⟨by rfl, ?hy13_⟩) ?ha13_ ?h13_
    case hy13_ =>
      intro w'
      go_simp
      try first | rfl | exact i64_w _ | (simp only [i64_w]; done)
    case ha13_ =>
      simp only [Act.put, List.setIfInBounds_toArray, List.set_cons_zero, List.set_cons_succ]
      rfl
    refine take_ (i := 13) (N := some 18) (v := .int .i64 x1) (a' := ?a14_) #[true, true, true, true, true, true, true, true, true, true, true, true, true, true, false, false, false, false, false, false, false] rfl rfl (by kernel_rfl) (fun _ _ _ h => h) (.inl ⟨by rfl, ?hy14_⟩) hS ?ha14_ ?h14_
    case hy14_ =>
      rintro w' ⟨q1, q2, q3, q4, q5, q6, q7⟩
      go_simp
      try first | rfl | exact i64_w _ | (simp only [i64_w]; done)
    case ha14_ =>
      simp only [Act.put, List.setIfInBounds_toArray, List.set_cons_zero, List.set_cons_succ]
      rfl
    refine pure_ (i := 14) (N := some 19) (v := .int .i64 (wrap64 (x0 + x1))) (a' := ?a15_) #[true, true, true, true, true, true, true, true, true, true, true, true, true, true, true, false, false, false, false, false, false] rfl rfl (by kernel_rfl) (fun _ _ _ h => h) (.inl ⟨by rfl, ?hy15_⟩) ?ha15_ ?h15_
    case hy15_ =>
      intro w'
      go_simp
      try first | rfl | exact i64_w _ | (simp only [i64_w]; done)
    case ha15_ =>
      simp only [Act.put, List.setIfInBounds_toArray, List.set_cons_zero, List.set_cons_succ]
      rfl
    refine pure_ (i := 15) (N := some 20) (v := .int .i64 (wrap64 (wrap64 (x0 + x1) * 8))) (a' := ?a16_) #[true, true, true, true, true, true, true, true, true, true, true, true, true, true, true, true, false, false, false, false, false] rfl rfl (by kernel_rfl) (fun _ _ _ h => h) (.inl ⟨by rfl, ?hy16_⟩) ?ha16_ ?h16_
    case hy16_ =>
      intro w'
      go_simp
      try first | rfl | exact i64_w _ | (simp only [i64_w]; done)
    case ha16_ =>
      simp only [Act.put, List.setIfInBounds_toArray, List.set_cons_zero, List.set_cons_succ]
      rfl
    refine take_ (i := 16) (N := some 21) (v := .int .i64 n) (a' := ?a17_) #[true, true, true, true, true, true, true, true, true, true, true, true, true, true, true, true, true, false, false, false, false] rfl rfl (by kernel_rfl) (fun _ _ _ h => h) (.inl ⟨by rfl, ?hy17_⟩) hS ?ha17_ ?h17_
    case hy17_ =>
      rintro w' ⟨q1, q2, q3, q4, q5, q6, q7⟩
      go_simp
      try first | rfl | exact i64_w _ | (simp only [i64_w]; done)
    case ha17_ =>
      simp only [Act.put, List.setIfInBounds_toArray, List.set_cons_zero, List.set_cons_succ]
      rfl
    refine pure_ (i := 17) (N := some 22) (v := .int .i64 (wrap64 (wrap64 (wrap64 (x0 + x1) * 8) - n))) (a' := ?a18_) #[true, true, true, true, true, true, true, true, true, true, true, true, true, true, true, true, true, true, false, false, false] rfl rfl (by kernel_rfl) (fun _ _ _ h => h) (.inl ⟨by rfl, ?hy18_⟩) ?ha18_ ?h18_
    case hy18_ =>
      intro w'
      go_simp
      try first | rfl | exact i64_w _ | (simp only [i64_w]; done)
    case ha18_ =>
      simp only [Act.put, List.setIfInBounds_toArray, List.set_cons_zero, List.set_cons_succ]
      rfl
    refine pure_ (i := 18) (N := some 23) (v := .bool (decide (off ≤ wrap64 (wrap64 (wrap64 (x0 + x1) * 8) - n)))) (a' := ?a19_) #[true, true, true, true, true, true, true, true, true, true, true, true, true, true, true, true, true, true, true, false, false] rfl rfl (by kernel_rfl) (fun _ _ _ h => h) (.inl ⟨by rfl, ?hy19_⟩) ?ha19_ ?h19_
    case hy19_ =>
      intro w'
      go_simp
      try first | rfl | exact i64_w _ | (simp only [i64_w]; done)
    case ha19_ =>
      simp only [Act.put, List.setIfInBounds_toArray, List.set_cons_zero, List.set_cons_succ]
      rfl
    refine pure_ (i := 19) (N := some 24) (v := .bool (decide (off ≤ wrap64 (wrap64 (wrap64 (x0 + x1) * 8) - n)))) (a' := ?a20_) #[true, true, true, true, true, true, true, true, true, true, true, true, true, true, true, true, true, true, true, true, false] rfl rfl (by kernel_rfl) (fun _ _ _ h => h) (.inl ⟨by rfl, ?hy20_⟩) ?ha20_ ?h20_
    case hy20_ =>
      intro w'
      go_simp
      try first | rfl | exact i64_w _ | (simp only [i64_w]; done)
    case ha20_ =>
      simp only [Act.put, List.setIfInBounds_toArray, List.set_cons_zero, List.set_cons_succ]
      rfl
    refine pure_ (i := 20) (N := some 4) (v := .bool (decide (off ≤ wrap64 (wrap64 (wrap64 (x0 + x1) * 8) - n)))) (a' := ?a21_) #[true, true, true, true, true, true, true, true, true, true, true, true, true, true, true, true, true, true, true, true, true] rfl rfl (by kernel_rfl) (fun _ _ _ h => h) (.inl ⟨by rfl, ?hy21_⟩) ?ha21_ ?h21_
    case hy21_ =>
      intro w'
      go_simp
      try first | rfl | exact i64_w _ | (simp only [i64_w]; done)
    case ha21_ =>
      simp only [Act.put, List.setIfInBounds_toArray, List.set_cons_zero, List.set_cons_succ]
      rfl
    refine done_ (by kernel_rfl) ?_
    simp only [Act.put, List.setIfInBounds_toArray, List.set_cons_zero, List.set_cons_succ, Exit.then]
    go_wp2
    go_ret
    exact ⟨by rw [hfin.out]; rfl, hS.2.2.2.2.2.1⟩
  · have cvb : decide (v ≤ off) = false := decide_eq_false cv
    clear cv
    have hfin : Hid (holdsB off n ⟨x0, x1, true⟩ = false) := Lib.hid (by simp only [holdsB]; rw [hv, cvb]; simp)
    replace hv := Lib.hid hv
    go_enter Try.func36, Try.ntmps36
    go_wp2
    refine start_ (n := 21) (S := Hold B C off n x0 x1 w W) (ds := []) #[false, false, false, false, false, false, false, false, false, false, false, false, false, false, false, false, false, false, false, false, false] (by kernel_rfl) rfl rfl hS0.out (fun hS => ?_)
    refine pure_ (i := 0) (N := some 5) (v := .pointer (some ⟨W.heap.size, 2, none⟩)) (a' := ?a22_) #[true, false, false, false, false, false, false, false, false, false, false, false, false, false, false, false, false, false, false, false, false] rfl rfl (by kernel_rfl) (fun _ _ _ h => h) (.inl ⟨by rfl, ?hy22_⟩) ?ha22_ ?h22_
    case hy22_ =>
      intro w'
      go_simp
      try first | rfl | exact i64_w _ | (simp only [i64_w]; done)
    case ha22_ =>
      simp only [Act.put, List.setIfInBounds_toArray, List.set_cons_zero, List.set_cons_succ]
      rfl
    refine take_ (i := 1) (N := some 6) (v := .bool true) (a' := ?a23_) #[true, true, false, false, false, false, false, false, false, false, false, false, false, false, false, false, false, false, false, false, false] rfl rfl (by kernel_rfl) (fun _ _ _ h => h) (.inl ⟨by rfl, ?hy23_⟩) hS ?ha23_ ?h23_
    case hy23_ =>
      rintro w' ⟨q1, q2, q3, q4, q5, q6, q7⟩
      go_simp
      try first | rfl | exact i64_w _ | (simp only [i64_w]; done)
    case ha23_ =>
      simp only [Act.put, List.setIfInBounds_toArray, List.set_cons_zero, List.set_cons_succ]
      rfl
    refine pure_ (i := 2) (N := some 7) (v := .bool true) (a' := ?a24_) #[true, true, true, false, false, false, false, false, false, false, false, false, false, false, false, false, false, false, false, false, false] rfl rfl (by kernel_rfl) (fun _ _ _ h => h) (.inl ⟨by rfl, ?hy24_⟩) ?ha24_ ?h24_
    case hy24_ =>
      intro w'
      go_simp
      try first | rfl | exact i64_w _ | (simp only [i64_w]; done)
    case ha24_ =>
      simp only [Act.put, List.setIfInBounds_toArray, List.set_cons_zero, List.set_cons_succ]
      rfl
    refine take_ (i := 3) (N := some 8) (v := .int .i64 off) (a' := ?a25_) #[true, true, true, true, false, false, false, false, false, false, false, false, false, false, false, false, false, false, false, false, false] rfl rfl (by kernel_rfl) (fun _ _ _ h => h) (.inl ⟨by rfl, ?hy25_⟩) hS ?ha25_ ?h25_
    case hy25_ =>
      rintro w' ⟨q1, q2, q3, q4, q5, q6, q7⟩
      go_simp
      try first | rfl | exact i64_w _ | (simp only [i64_w]; done)
    case ha25_ =>
      simp only [Act.put, List.setIfInBounds_toArray, List.set_cons_zero, List.set_cons_succ]
      rfl
    refine take_ (i := 4) (N := some 9) (v := .agg #[.int .i64 x0, .int .i64 x1, .bool true]) (a' := ?a26_) #[true, true, true, true, true, false, false, false, false, false, false, false, false, false, false, false, false, false, false, false, false] rfl rfl (by kernel_rfl) (fun _ _ _ h => h) (.inl ⟨by rfl, ?hy26_⟩) hS ?ha26_ ?h26_
    case hy26_ =>
      rintro w' ⟨q1, q2, q3, q4, q5, q6, q7⟩
      go_simp
      try first | rfl | exact i64_w _ | (simp only [i64_w]; done)
    case ha26_ =>
      simp only [Act.put, List.setIfInBounds_toArray, List.set_cons_zero, List.set_cons_succ]
      rfl
    refine one_ (i := 5) (N := some 10) #[true, true, true, true, true, true, false, false, false, false, false, false, false, false, false, false, false, false, false, false, false] rfl rfl (by kernel_rfl) (by decide) (fun K hK => ?_)
    refine goes_ Try.func25 (by kernel_rfl) rfl #[.agg #[.int .i64 x0, .int .i64 x1, .bool true]] (by rfl) rfl rfl (by simp [Act.eval]) ?_
    with_reducible refine (carve_Off.calls x0 x1 true v _ ho.out).mono ?_
    rintro e w1 ⟨rfl, hb1⟩
    refine ⟨_, rfl, ?_⟩
    have hS1 := Hold.below hS hb1
    refine hK.out _ _ hS1 (fun hS => ?_)
    clear hK K
    refine norm_ (a' := ?a27_) ?ha27_ ?h27_
    case ha27_ =>
      simp only [Act.put, List.setIfInBounds_toArray, List.set_cons_zero, List.set_cons_succ]
      rfl
    refine pure_ (i := 6) (N := some 11) (v := .bool false) (a' := ?a28_) #[true, true, true, true, true, true, true, false, false, false, false, false, false, false, false, false, false, false, false, false, false] rfl rfl (by kernel_rfl) (fun _ _ _ h => h) (.inl ⟨by rfl, ?hy28_⟩) ?ha28_ ?h28_
    case hy28_ =>
      intro w'
      go_simp
      try first | rfl | exact i64_w _ | (simp only [i64_w]; done)
    case ha28_ =>
      simp only [Act.put, List.setIfInBounds_toArray, List.set_cons_zero, List.set_cons_succ]
      rfl
    refine pure_ (i := 7) (N := some 12) (v := .bool false) (a' := ?a29_) #[true, true, true, true, true, true, true, true, false, false, false, false, false, false, false, false, false, false, false, false, false] rfl rfl (by kernel_rfl) (fun _ _ _ h => h) (.inl ⟨by rfl, ?hy29_⟩) ?ha29_ ?h29_
    case hy29_ =>
      intro w'
      go_simp
      try first | rfl | exact i64_w _ | (simp only [i64_w]; done)
    case ha29_ =>
      simp only [Act.put, List.setIfInBounds_toArray, List.set_cons_zero, List.set_cons_succ]
      rfl
    refine pure_ (i := 8) (N := some 13) (v := .bool false) (a' := ?a30_) #[true, true, true, true, true, true, true, true, true, false, false, false, false, false, false, false, false, false, false, false, false] rfl rfl (by kernel_rfl) (fun _ _ _ h => h) (.inl ⟨by rfl, ?hy30_⟩) ?ha30_ ?h30_
    case hy30_ =>
      intro w'
      go_simp
      try first | rfl | exact i64_w _ | (simp only [i64_w]; done)
    case ha30_ =>
      simp only [Act.put, List.setIfInBounds_toArray, List.set_cons_zero, List.set_cons_succ]
      rfl
    refine pure_ (i := 9) (N := some 14) (v := undef) (a' := ?a31_) #[true, true, true, true, true, true, true, true, true, true, false, false, false, false, false, false, false, false, false, false, false] rfl rfl (by kernel_rfl) (fun _ _ _ h => h) (.inr ⟨by rfl, rfl⟩) ?ha31_ ?h31_
    case ha31_ =>
      simp only [Act.put, List.setIfInBounds_toArray, List.set_cons_zero, List.set_cons_succ]
      rfl
    refine pure_ (i := 10) (N := some 15) (v := undef) (a' := ?a32_) #[true, true, true, true, true, true, true, true, true, true, true, false, false, false, false, false, false, false, false, false, false] rfl rfl (by kernel_rfl) (fun _ _ _ h => h) (.inr ⟨by rfl, rfl⟩) ?ha32_ ?h32_
    case ha32_ =>
      simp only [Act.put, List.setIfInBounds_toArray, List.set_cons_zero, List.set_cons_succ]
      rfl
    refine pure_ (i := 11) (N := some 16) (v := undef) (a' := ?a33_) #[true, true, true, true, true, true, true, true, true, true, true, true, false, false, false, false, false, false, false, false, false] rfl rfl (by kernel_rfl) (fun _ _ _ h => h) (.inr ⟨by rfl, rfl⟩) ?ha33_ ?h33_
    case ha33_ =>
      simp only [Act.put, List.setIfInBounds_toArray, List.set_cons_zero, List.set_cons_succ]
      rfl
    refine pure_ (i := 12) (N := some 17) (v := undef) (a' := ?a34_) #[true, true, true, true, true, true, true, true, true, true, true, true, true, false, false, false, false, false, false, false, false] rfl rfl (by kernel_rfl) (fun _ _ _ h => h) (.inr ⟨by rfl, rfl⟩) ?ha34_ ?h34_
    case ha34_ =>
      simp only [Act.put, List.setIfInBounds_toArray, List.set_cons_zero, List.set_cons_succ]
      rfl
    refine pure_ (i := 13) (N := some 18) (v := undef) (a' := ?a35_) #[true, true, true, true, true, true, true, true, true, true, true, true, true, true, false, false, false, false, false, false, false] rfl rfl (by kernel_rfl) (fun _ _ _ h => h) (.inr ⟨by rfl, rfl⟩) ?ha35_ ?h35_
    case ha35_ =>
      simp only [Act.put, List.setIfInBounds_toArray, List.set_cons_zero, List.set_cons_succ]
      rfl
    refine pure_ (i := 14) (N := some 19) (v := undef) (a' := ?a36_) #[true, true, true, true, true, true, true, true, true, true, true, true, true, true, true, false, false, false, false, false, false] rfl rfl (by kernel_rfl) (fun _ _ _ h => h) (.inr ⟨by rfl, rfl⟩) ?ha36_ ?h36_
    case ha36_ =>
      simp only [Act.put, List.setIfInBounds_toArray, List.set_cons_zero, List.set_cons_succ]
      rfl
    refine pure_ (i := 15) (N := some 20) (v := undef) (a' := ?a37_) #[true, true, true, true, true, true, true, true, true, true, true, true, true, true, true, true, false, false, false, false, false] rfl rfl (by kernel_rfl) (fun _ _ _ h => h) (.inr ⟨by rfl, rfl⟩) ?ha37_ ?h37_
    case ha37_ =>
      simp only [Act.put, List.setIfInBounds_toArray, List.set_cons_zero, List.set_cons_succ]
      rfl
    refine pure_ (i := 16) (N := some 21) (v := undef) (a' := ?a38_) #[true, true, true, true, true, true, true, true, true, true, true, true, true, true, true, true, true, false, false, false, false] rfl rfl (by kernel_rfl) (fun _ _ _ h => h) (.inr ⟨by rfl, rfl⟩) ?ha38_ ?h38_
    case ha38_ =>
      simp only [Act.put, List.setIfInBounds_toArray, List.set_cons_zero, List.set_cons_succ]
      rfl
    refine pure_ (i := 17) (N := some 22) (v := undef) (a' := ?a39_) #[true, true, true, true, true, true, true, true, true, true, true, true, true, true, true, true, true, true, false, false, false] rfl rfl (by kernel_rfl) (fun _ _ _ h => h) (.inr ⟨by rfl, rfl⟩) ?ha39_ ?h39_
    case ha39_ =>
      simp only [Act.put, List.setIfInBounds_toArray, List.set_cons_zero, List.set_cons_succ]
      rfl
    refine pure_ (i := 18) (N := some 23) (v := undef) (a' := ?a40_) #[true, true, true, true, true, true, true, true, true, true, true, true, true, true, true, true, true, true, true, false, false] rfl rfl (by kernel_rfl) (fun _ _ _ h => h) (.inr ⟨by rfl, rfl⟩) ?ha40_ ?h40_
    case ha40_ =>
      simp only [Act.put, List.setIfInBounds_toArray, List.set_cons_zero, List.set_cons_succ]
      rfl
    refine pure_ (i := 19) (N := some 24) (v := .bool false) (a' := ?a41_) #[true, true, true, true, true, true, true, true, true, true, true, true, true, true, true, true, true, true, true, true, false] rfl rfl (by kernel_rfl) (fun _ _ _ h => h) (.inl ⟨by rfl, ?hy41_⟩) ?ha41_ ?h41_
    case hy41_ =>
      intro w'
      go_simp
      try first | rfl | exact i64_w _ | (simp only [i64_w]; done)
    case ha41_ =>
      simp only [Act.put, List.setIfInBounds_toArray, List.set_cons_zero, List.set_cons_succ]
      rfl
    refine pure_ (i := 20) (N := some 4) (v := .bool false) (a' := ?a42_) #[true, true, true, true, true, true, true, true, true, true, true, true, true, true, true, true, true, true, true, true, true] rfl rfl (by kernel_rfl) (fun _ _ _ h => h) (.inl ⟨by rfl, ?hy42_⟩) ?ha42_ ?h42_
    case hy42_ =>
      intro w'
      go_simp
      try first | rfl | exact i64_w _ | (simp only [i64_w]; done)
    case ha42_ =>
      simp only [Act.put, List.setIfInBounds_toArray, List.set_cons_zero, List.set_cons_succ]
      rfl
    refine done_ (by kernel_rfl) ?_
    simp only [Act.put, List.setIfInBounds_toArray, List.set_cons_zero, List.set_cons_succ, Exit.then]
    go_wp2
    go_ret
    exact ⟨by rw [hfin.out]; rfl, hS.2.2.2.2.2.1⟩
theorem pred87 (off : Int) (B : Nat) (w : World) (hB : B < w.heap.size) (hcell : w.cell? ⟨B, 0, none⟩ = some (.int .i64 off)) :
    PredBelow Try.prog 41 #[.pointer (some ⟨B, 0, none⟩)] (fun x : S45 => .agg (enc45 x).toArray) (fun x => x.f2 && decide (offV x.f0 = off)) w := fun W x hb => by
  have hc : W.cell? ⟨B, 0, none⟩ = some (.int .i64 off) := (hb.cell (p := ⟨B, 0, none⟩) hB).trans hcell
  have hBW : B < W.heap.size := Nat.lt_of_lt_of_le hB hb.size
  have hne : B ≠ W.heap.size := by omega
  obtain ⟨x0, x1, x2⟩ := x
  have ho := off_v x0 x1 x2
  obtain ⟨v, hv⟩ : ∃ v, offV x0 = v := ⟨_, rfl⟩
  rw [hv] at ho
  show Calls Try.prog 41 #[.agg #[.int .i64 x0, .int .i64 x1, .bool x2], .pointer (some ⟨B, 0, none⟩)] W _
  cases x2
  · go_enter Try.func41, Try.ntmps41
    go_wp2
    go_quiet (fail)
    go_wp2
    go_ret
    exact ⟨by simp, by repeat (first | exact hb.alloc hb.size _ | apply below_alloc | apply pw_below_drewN | apply below_drew1)⟩
  · go_enter Try.func41, Try.ntmps41
    go_wp2
    go_region_with (go_at_call 25; refine (carve_Off.calls _ _ _ _ _ ho).mono ?_; rintro e w' ⟨rfl, hb'⟩; have hcB : w'.cell? ⟨B, 0, none⟩ = some (.int .i64 off) := (hb'.cell (p := ⟨B, 0, none⟩) (by simp; omega)).trans (by go_simp))
    all_goals (try go_wp2)
    all_goals go_ret
    all_goals exact ⟨by simp only [hv, Bool.true_and]; congr 2, below_step (by repeat (first | exact hb.alloc hb.size _ | apply below_drew1 | apply below_alloc | apply pw_below_drewN)) hb'⟩
theorem row35 {W : World} {A : Option Addr} {l : List S45} {g : Nat} (h : Kd.C k45 W A l.length l) (hA : A = some ⟨g, 0, none⟩) (i35 : Inhabited S45) :
    ∀ j, j < l.length → ∀ i v, (enc45 l[j]!)[i]? = some v → W.cell? ⟨g, 0 + j * 3 + i, none⟩ = some v := fun j hj i v hi => by
  obtain ⟨ad, e, hc⟩ := h.2.2 (by omega)
  rw [hA] at e
  obtain rfl := Option.some.inj e
  obtain ⟨c, hl, hK, hcell⟩ := hc j l[j] (List.getElem?_eq_getElem hj)
  have hcs := k45_open hK
  subst hcs
  rw [getElem!_pos l j hj] at hi
  have := hcell i v hi
  rw [add_plain] at this
  rw [Nat.zero_add]
  exact this
def findS (off : Int) : List S45 → Nat → Int
  | [], _ => -1
  | y :: r, i => if (y.f2 && decide (offV y.f0 = off)) = true then (i : Int) else findS off r (i + 1)
theorem find_idx (off : Int) (d : S45) : ∀ (l : List S45) (i : Nat), Lib.idxByFrom (fun _ y => y.f2 && decide (offV y.f0 = off)) d l i = findS off l i
  | [], _ => rfl
  | y :: r, i => by
    show (if (y.f2 && decide (offV y.f0 = off)) = true then (i : Int) else Lib.idxByFrom _ d r (i + 1)) = _
    rw [find_idx off d r (i + 1)]
    rfl
theorem nil86 (c : Nat) (f : Value) (w : World) : Calls Try.prog 40 #[.slice none 0 c, f] w fun e w' => e = .returned (.int .i64 (-1)) ∧ Below w.heap.size w w' := by
  go_enter Try.func40, Try.ntmps40
  go_wp2
  refine wp_loop_rounds 1 ?_
  rw [rounds_succ]
  go_wp2
  go_ret
  exact ⟨rfl, by repeat (first | exact Below.refl _ _ | apply below_alloc | apply pw_below_drewN | apply below_drew1)⟩
theorem nil71 (c : Nat) (f : Value) (w : World) : Calls Try.prog 35 #[.slice none 0 c, f] w fun e w' => e = .returned (.bool false) ∧ Below w.heap.size w w' := by
  go_enter Try.func35, Try.ntmps35
  go_wp2_with (go_at_call 40; refine (nil86 c f _).mono ?_; rintro e w' ⟨rfl, hb⟩)
  go_ret
  exact ⟨rfl, by first | exact hb | exact below_step (by repeat (first | exact Below.refl _ _ | apply below_alloc | apply pw_below_drewN | apply below_drew1)) hb⟩
theorem own_form {W : World} {base : Nat} {v : Value} {l : List S45} (h : Kd.R k45 45 W base (fun _ => True) v l) : (v = .slice none 0 0 ∧ l = []) ∨ ∃ g c, v = .slice (some ⟨g, 0, none⟩) l.length c ∧ g < W.heap.size := by
  obtain ⟨inner, ho⟩ := Kd.R_own h
  rcases ho.2 with ⟨rfl, hn⟩ | ⟨g, cap, cur, rfl, hg, hh, _⟩
  · exact .inl ⟨rfl, List.eq_nil_of_length_eq_zero hn⟩
  · exact .inr ⟨g, cap, rfl, blk_lt hh⟩
theorem index86 (off : Int) (B : Nat) (W : World) (v : Value) (l : List S45) (base : Nat) (h : Kd.R k45 45 W base (fun _ => True) v l) (hB : B < W.heap.size) (hcell : W.cell? ⟨B, 0, none⟩ = some (.int .i64 off)) :
    Calls Try.prog 40 #[v, .func (.func 41) #[] #[.pointer (some ⟨B, 0, none⟩)]] W fun e w' => e = .returned (.int .i64 (findS off l 0)) ∧ Below W.heap.size W w' := by
  rcases own_form h with ⟨rfl, rfl⟩ | ⟨g, c, rfl, hg⟩
  · exact nil86 0 _ W
  · obtain ⟨A, c', e, hc, hC⟩ := Kd.R_reads h
    have hA : A = some ⟨g, 0, none⟩ := by injection e with e1 _ _; exact e1.symm
    let i35 : Inhabited S45 := ⟨⟨0, 0, false⟩⟩
    have H := AnyQ.slices_IndexFunc (P := Try.prog) (ρ := ren86) (α := S45) lay86 3 Try.isAgg45 Try.sizeOf45 enc45 (fun _ => rfl) (fun x => x.f2 && decide (offV x.f0 = off)) 41 #[.pointer (some ⟨B, 0, none⟩)] (enters_ Try.func41 (by kernel_rfl) rfl) g 0 l.length c l W (pred87 off B W hB hcell) (Nat.le_refl _) hC.2.1 hg (row35 hC hA i35)
    refine H.mono ?_
    rintro e w' ⟨rfl, hb⟩
    refine ⟨?_, hb⟩
    rw [List.take_length]
    show Ending.returned (.int .i64 (Lib.idxByFrom _ _ l 0)) = _
    rw [find_idx]
theorem contains71 (off n : Int) (B C : Nat) (W : World) (v : Value) (l : List S45) (base : Nat) (h : Kd.R k45 45 W base (fun _ => True) v l) (hB : B < W.heap.size) (hC' : C < W.heap.size) (hcell : W.cell? ⟨B, 0, none⟩ = some (.int .i64 off)) (hcell2 : W.cell? ⟨C, 0, none⟩ = some (.int .i64 n)) :
    Calls Try.prog 35 #[v, .func (.func 36) #[] #[.pointer (some ⟨B, 0, none⟩), .pointer (some ⟨C, 0, none⟩)]] W fun e w' => e = .returned (.bool (l.any (holdsB off n))) ∧ Below W.heap.size W w' := by
  rcases own_form h with ⟨rfl, rfl⟩ | ⟨g, c, rfl, hg⟩
  · exact nil71 0 _ W
  · obtain ⟨A, c', e, hc, hC⟩ := Kd.R_reads h
    have hA : A = some ⟨g, 0, none⟩ := by injection e with e1 _ _; exact e1.symm
    let i35 : Inhabited S45 := ⟨⟨0, 0, false⟩⟩
    have H := AnyQ.slices_ContainsFunc (P := Try.prog) (ρ := ren86) (α := S45) lay71 3 Try.isAgg45 Try.sizeOf45 enc45 (fun _ => rfl) (holdsB off n) 36 #[.pointer (some ⟨B, 0, none⟩), .pointer (some ⟨C, 0, none⟩)] (enters_ Try.func36 (by kernel_rfl) rfl) g 0 l.length c l W (pred72 off n B C W hB hC' hcell hcell2) (Nat.le_refl _) hC.2.1 hg (row35 hC hA i35)
    refine H.mono ?_
    rintro e w' ⟨rfl, hb⟩
    exact ⟨by rw [List.take_length], hb⟩
end
def image_Holds.f (k : Nat) (l0 : List Int) (a1 : Int) (a2 : Int) : Option (Bool) := if a2 < 0 then (some false) else (if a2 > 448 then (some false) else ((chain_Blocks.f k l0).bind fun p => (some (p.1.any (holdsB a1 a2)))))
theorem image_Holds.mono : ∀ a0 a1 a2 k, LeO (image_Holds.f k a0 a1 a2) (image_Holds.f (k + 1) a0 a1 a2) := by
  intro a0 a1 a2 k
  unfold image_Holds.f
  exact LeO.ite (LeO.refl _) (LeO.ite (LeO.refl _) (LeO.bind (chain_Blocks.mono a0 k) (fun _ => LeO.refl _)))
set_option maxHeartbeats 4000000 in
theorem image_Holds.calls (k : Nat) (A0 : Option Addr) (c0 : Nat) (l0 : List Int) (a1 : Int) (a2 : Int) (r : Bool) (w : World) (hr0 : Kd.C (Kd.int .u64) w A0 l0.length l0) (hc0 : l0.length ≤ c0) (h : image_Holds.f k l0 a1 a2 = some r) :
    Calls Try.prog 20 #[.slice A0 l0.length c0, .int .i64 a1, .int .i64 a2] w fun e w' => e = .returned (.bool r) ∧ Below w.heap.size w w' := by
  have hmf : ∀ (fn : Fn) (first cap : Array Value) (w : World), (Instr.makeFunc fn first cap).run Try.prog w = .ok (.func fn first cap) w := fun _ _ _ _ => rfl
  have HR := Lib.hid hr0
  have HC := Lib.hid hc0
  clear hr0 hc0
  unfold image_Holds.f at h
  by_cases c1 : a2 < 0
  · rw [if_pos c1] at h
    obtain rfl := Option.some.inj h
    have c1b : decide (a2 < 0) = true := decide_eq_true c1
    go_enter Try.func20, Try.ntmps20
    go_wp2
    go_ret
    exact ⟨rfl, by repeat (first | exact Below.refl _ _ | apply below_alloc | apply pw_below_drewN | apply below_drew1)⟩
  rw [if_neg c1] at h
  have c1b : decide (a2 < 0) = false := decide_eq_false c1
  by_cases c2 : a2 > 448
  · rw [if_pos c2] at h
    obtain rfl := Option.some.inj h
    have c2b : decide (448 < a2) = true := decide_eq_true c2
    go_enter Try.func20, Try.ntmps20
    go_wp2
    go_ret
    exact ⟨rfl, by repeat (first | exact Below.refl _ _ | apply below_alloc | apply pw_below_drewN | apply below_drew1)⟩
  rw [if_neg c2] at h
  have c2b : decide (448 < a2) = false := decide_eq_false c2
  obtain ⟨⟨m, ok⟩, hb, hm⟩ := Option.bind_eq_some_iff.1 h
  obtain rfl := Option.some.inj hm
  have hb := Lib.hid hb
  clear h hm c1 c2
  have hW : Below w.heap.size w ((w.alloc (.cells #[.int .i64 a1] 3)).alloc (.cells #[.int .i64 a2] 3)) := below_alloc (below_alloc (Below.refl _ _) _) _
  have hB0 : ((w.alloc (.cells #[.int .i64 a1] 3)).alloc (.cells #[.int .i64 a2] 3)).cell? ⟨w.heap.size, 0, none⟩ = some (.int .i64 a1) := by
    have hh : ((w.alloc (.cells #[.int .i64 a1] 3)).alloc (.cells #[.int .i64 a2] 3)).heap[w.heap.size]? = some (.cells #[.int .i64 a1] 3 (0, 0)) := blk_grown (heap_alloc_new w _) (World.grownBy_alloc _ _ none) (by simp)
    rw [blk_cell hh]; rfl
  have hC0 : ((w.alloc (.cells #[.int .i64 a1] 3)).alloc (.cells #[.int .i64 a2] 3)).cell? ⟨w.heap.size + 1, 0, none⟩ = some (.int .i64 a2) := by
    have hh : ((w.alloc (.cells #[.int .i64 a1] 3)).alloc (.cells #[.int .i64 a2] 3)).heap[w.heap.size + 1]? = some (.cells #[.int .i64 a2] 3 (0, 0)) := by simpa using heap_alloc_new (w.alloc (.cells #[.int .i64 a1] 3)) (.cells #[.int .i64 a2] 3)
    rw [blk_cell hh]; rfl
  replace hB0 := Lib.hid hB0
  replace hC0 := Lib.hid hC0
  go_enter Try.func20, Try.ntmps20
  go_wp2_with (first
    | (go_at_call 11; (with_reducible refine (chain_Blocks.calls k _ _ l0 m ok _ ?s1 ?s2 hb.out).mono ?_); (case s1 => exact Kd.C_below HR.out hW); (case s2 => exact HC.out); rintro e w1 ⟨v, rfl, ho, hb1⟩; have hB1 := Lib.hid (pw_cell_below hb1 hB0.out); have hC1 := Lib.hid (pw_cell_below hb1 hC0.out); have hB' := Lib.hid (World.block_lt_of_cell? w1 _ hB1.out); have hC' := Lib.hid (World.block_lt_of_cell? w1 _ hC1.out); have ho := Lib.hid ho)
    | (go_at_call 35; (with_reducible refine (contains71 a1 a2 w.heap.size (w.heap.size + 1) _ v m _ ho.out hB'.out hC'.out hB1.out hC1.out).mono ?_); rintro e w2 ⟨rfl, hb2⟩))
  go_ret
  exact ⟨rfl, below_step (below_step hW hb1) hb2⟩

/-! ### image_holds: function 32 -/
def image_holds.f (k : Nat) (l0 : List Int) (a1 : Int) (a2 : Int) : Option (Int) := (chain_Blocks.f k l0).bind fun bt193 => (if bt193.2 = true then ((image_Holds.f k l0 a1 a2).bind fun t197 => (if t197 = true then (some 0) else (some 1))) else (some 6))
theorem image_holds.mono : ∀ a0 a1 a2 k, LeO (image_holds.f k a0 a1 a2) (image_holds.f (k + 1) a0 a1 a2) := by
 intro a0 a1 a2 k
 unfold image_holds.f
 repeat' first
   | (with_reducible exact chain_Blocks.mono _ _)
   | (with_reducible exact image_Holds.mono _ _ _ _)
   | (with_reducible exact LeO.refl _)
   | (with_reducible exact LeO.none _)
   | (with_reducible refine LeO.ite ?_ ?_)
   | (with_reducible refine LeO.bind ?_ (fun _ => ?_))
   | exact chain_Blocks.mono _ _
   | exact image_Holds.mono _ _ _ _
   | exact LeO.none _
   | refine LeO.ite ?_ ?_
   | refine LeO.bind ?_ (fun _ => ?_)
set_option maxHeartbeats 8000000 in
set_option maxRecDepth 100000 in
theorem image_holds.calls (k : Nat) (A0 : Option Addr) (c0 : Nat) (l0 : List Int) (a1 : Int) (a2 : Int) (r : Int) (w : World) (hr0 : Kd.C (Kd.int .u64) w A0 l0.length l0) (hc0 : l0.length ≤ c0) (h : image_holds.f k l0 a1 a2 = some r) :
  Calls Try.prog 32 #[.slice A0 l0.length c0, .int .i64 a1, .int .i64 a2] w fun e w' => e = .returned (.int .i64 r) ∧ Below w.heap.size w w' := by
 have HR0 := Aside0.mk hr0
 have HC0 := Aside0.mk hc0
 clear hr0 hc0
 have HB := Aside0.mk (Below.refl w.heap.size w)
 have H : ((chain_Blocks.f k l0).bind fun bt193 => (if bt193.2 = true then ((image_Holds.f k l0 a1 a2).bind fun t197 => (if t197 = true then (some 0) else (some 1))) else (some 6))) = some r := h
 clear h
 replace H := Option.bind_eq_some_iff.mp H
 obtain ⟨⟨t193, t194⟩, A40, H⟩ := H
 replace H : (if t194 = true then ((image_Holds.f k l0 a1 a2).bind fun t197 => (if t197 = true then (some 0) else (some 1))) else (some 6)) = some r := H
 have A4 := Aside0.mk A40
 clear A40
 by_cases c5 : t194 = true
 ·
  subst c5
  have H1 : ((image_Holds.f k l0 a1 a2).bind fun t197 => (if t197 = true then (some 0) else (some 1))) = some r := by rw [if_pos rfl] at H; exact H
  clear H
  have H := H1
  clear H1
  replace H := Option.bind_eq_some_iff.mp H
  obtain ⟨t197, A60, H⟩ := H
  replace H : (if t197 = true then (some 0) else (some 1)) = some r := H
  have A6 := Aside0.mk A60
  clear A60
  by_cases c7 : t197 = true
  ·
   subst c7
   have H1 : (some 0) = some r := by rw [if_pos rfl] at H; exact H
   clear H
   have H := H1
   clear H1
   obtain rfl := Option.some.inj H
   go_enter Try.func32, Try.ntmps32
   go_wp2_with (first | ((with_reducible refine gate_callee (f := 11) rfl ?_); refine goesL_ (some 11) rfl rfl Try.func11 (by kernel_rfl) rfl #[.slice A0 l0.length c0] rfl (by (try simp only [List.map_toArray, List.map_cons, List.map_nil]); first | done | rfl | (simp only [List.length_drop, List.length_take]; rfl)) ?_; (with_reducible refine (chain_Blocks.calls k _ _ l0 t193 true _ ?side1 ?side2 A4.out).mono ?_); (case side1 => repeat (first | exact HR0.out | (with_reducible refine Kd.C_alloc ?_ _) | (with_reducible refine Kd.C_drewN ?_ _) | (with_reducible refine Kd.C_drew ?_))); (case side2 => exact HC0.out); rintro e w8 ⟨v195, rfl, ho0, hb⟩; refine ⟨_, rfl, ?_⟩; have n0_ := Aside0.mk (Kd.R_lower ho0 (below_size (by repeat (first | (with_reducible first | exact HB.out | apply below_alloc | apply pw_below_drewN | apply below_drew1) | exact HB.out)))); have n1_ := Aside0.mk (below_step (by repeat (first | (with_reducible first | exact HB.out | apply below_alloc | apply pw_below_drewN | apply below_drew1) | exact HB.out)) hb); clear HB; have HO196 := n0_; have HB := n1_; clear n0_ n1_; (try clear hb); (try clear hb2); (try clear hk); (try clear hi); (try clear ho0)) | ((with_reducible refine gate_callee (f := 20) rfl ?_); refine goesL_ (some 19) rfl rfl Try.func20 (by kernel_rfl) rfl #[.slice A0 l0.length c0, .int .i64 a1, .int .i64 a2] rfl (by (try simp only [List.map_toArray, List.map_cons, List.map_nil]); first | done | rfl | (simp only [List.length_drop, List.length_take]; rfl)) ?_; (with_reducible refine (image_Holds.calls k _ _ l0 a1 a2 true _ ?side1 ?side2 A6.out).mono ?_); (case side1 => repeat (first | exact (Kd.C_below HR0.out HB.out) | (with_reducible refine Kd.C_alloc ?_ _) | (with_reducible refine Kd.C_drewN ?_ _) | (with_reducible refine Kd.C_drew ?_))); (case side2 => exact HC0.out); rintro e w9 ⟨rfl, hb⟩; refine ⟨_, rfl, ?_⟩; have n0_ := Aside0.mk (Kd.R_below (by (with_reducible repeat (first | apply Kd.R_alloc | apply Kd.R_drewN | apply Kd.R_drew)); exact HO196.out) hb); have n1_ := Aside0.mk (below_step (by repeat (first | (with_reducible first | exact HB.out | apply below_alloc | apply pw_below_drewN | apply below_drew1) | exact HB.out)) hb); clear HO196; clear HB; have HO196 := n0_; have HB := n1_; clear n0_ n1_; (try clear hb); (try clear hb2); (try clear hk); (try clear hi)))
   go_ret
   exact ⟨by first | rfl | (simp [errW_none, errW_some] <;> rfl) | (simp [*, errW_none, errW_some] <;> rfl), by repeat (first | (with_reducible first | exact HB.out | apply below_alloc | apply pw_below_drewN | apply below_drew1) | exact HB.out)⟩
  ·
   replace c7 := Bool.eq_false_iff.mpr c7
   subst c7
   have H1 : (some 1) = some r := by rw [if_neg (show ¬ (false = true) by decide)] at H; exact H
   clear H
   have H := H1
   clear H1
   obtain rfl := Option.some.inj H
   go_enter Try.func32, Try.ntmps32
   go_wp2_with (first | ((with_reducible refine gate_callee (f := 11) rfl ?_); refine goesL_ (some 11) rfl rfl Try.func11 (by kernel_rfl) rfl #[.slice A0 l0.length c0] rfl (by (try simp only [List.map_toArray, List.map_cons, List.map_nil]); first | done | rfl | (simp only [List.length_drop, List.length_take]; rfl)) ?_; (with_reducible refine (chain_Blocks.calls k _ _ l0 t193 true _ ?side1 ?side2 A4.out).mono ?_); (case side1 => repeat (first | exact HR0.out | (with_reducible refine Kd.C_alloc ?_ _) | (with_reducible refine Kd.C_drewN ?_ _) | (with_reducible refine Kd.C_drew ?_))); (case side2 => exact HC0.out); rintro e w10 ⟨v195, rfl, ho0, hb⟩; refine ⟨_, rfl, ?_⟩; have n0_ := Aside0.mk (Kd.R_lower ho0 (below_size (by repeat (first | (with_reducible first | exact HB.out | apply below_alloc | apply pw_below_drewN | apply below_drew1) | exact HB.out)))); have n1_ := Aside0.mk (below_step (by repeat (first | (with_reducible first | exact HB.out | apply below_alloc | apply pw_below_drewN | apply below_drew1) | exact HB.out)) hb); clear HB; have HO196 := n0_; have HB := n1_; clear n0_ n1_; (try clear hb); (try clear hb2); (try clear hk); (try clear hi); (try clear ho0)) | ((with_reducible refine gate_callee (f := 20) rfl ?_); refine goesL_ (some 19) rfl rfl Try.func20 (by kernel_rfl) rfl #[.slice A0 l0.length c0, .int .i64 a1, .int .i64 a2] rfl (by (try simp only [List.map_toArray, List.map_cons, List.map_nil]); first | done | rfl | (simp only [List.length_drop, List.length_take]; rfl)) ?_; (with_reducible refine (image_Holds.calls k _ _ l0 a1 a2 false _ ?side1 ?side2 A6.out).mono ?_); (case side1 => repeat (first | exact (Kd.C_below HR0.out HB.out) | (with_reducible refine Kd.C_alloc ?_ _) | (with_reducible refine Kd.C_drewN ?_ _) | (with_reducible refine Kd.C_drew ?_))); (case side2 => exact HC0.out); rintro e w11 ⟨rfl, hb⟩; refine ⟨_, rfl, ?_⟩; have n0_ := Aside0.mk (Kd.R_below (by (with_reducible repeat (first | apply Kd.R_alloc | apply Kd.R_drewN | apply Kd.R_drew)); exact HO196.out) hb); have n1_ := Aside0.mk (below_step (by repeat (first | (with_reducible first | exact HB.out | apply below_alloc | apply pw_below_drewN | apply below_drew1) | exact HB.out)) hb); clear HO196; clear HB; have HO196 := n0_; have HB := n1_; clear n0_ n1_; (try clear hb); (try clear hb2); (try clear hk); (try clear hi)))
   go_ret
   exact ⟨by first | rfl | (simp [errW_none, errW_some] <;> rfl) | (simp [*, errW_none, errW_some] <;> rfl), by repeat (first | (with_reducible first | exact HB.out | apply below_alloc | apply pw_below_drewN | apply below_drew1) | exact HB.out)⟩
 ·
  replace c5 := Bool.eq_false_iff.mpr c5
  subst c5
  have H1 : (some 6) = some r := by rw [if_neg (show ¬ (false = true) by decide)] at H; exact H
  clear H
  have H := H1
  clear H1
  obtain rfl := Option.some.inj H
  go_enter Try.func32, Try.ntmps32
  go_wp2_with (first | ((with_reducible refine gate_callee (f := 11) rfl ?_); refine goesL_ (some 11) rfl rfl Try.func11 (by kernel_rfl) rfl #[.slice A0 l0.length c0] rfl (by (try simp only [List.map_toArray, List.map_cons, List.map_nil]); first | done | rfl | (simp only [List.length_drop, List.length_take]; rfl)) ?_; (with_reducible refine (chain_Blocks.calls k _ _ l0 t193 false _ ?side1 ?side2 A4.out).mono ?_); (case side1 => repeat (first | exact HR0.out | (with_reducible refine Kd.C_alloc ?_ _) | (with_reducible refine Kd.C_drewN ?_ _) | (with_reducible refine Kd.C_drew ?_))); (case side2 => exact HC0.out); rintro e w12 ⟨v195, rfl, ho0, hb⟩; refine ⟨_, rfl, ?_⟩; have n0_ := Aside0.mk (Kd.R_lower ho0 (below_size (by repeat (first | (with_reducible first | exact HB.out | apply below_alloc | apply pw_below_drewN | apply below_drew1) | exact HB.out)))); have n1_ := Aside0.mk (below_step (by repeat (first | (with_reducible first | exact HB.out | apply below_alloc | apply pw_below_drewN | apply below_drew1) | exact HB.out)) hb); clear HB; have HO196 := n0_; have HB := n1_; clear n0_ n1_; (try clear hb); (try clear hb2); (try clear hk); (try clear hi); (try clear ho0)))
  go_ret
  exact ⟨by first | rfl | (simp [errW_none, errW_some] <;> rfl) | (simp [*, errW_none, errW_some] <;> rfl), by repeat (first | (with_reducible first | exact HB.out | apply below_alloc | apply pw_below_drewN | apply below_drew1) | exact HB.out)⟩

end Go.Proofs.Ytglekonhdjploab.XImageFills
