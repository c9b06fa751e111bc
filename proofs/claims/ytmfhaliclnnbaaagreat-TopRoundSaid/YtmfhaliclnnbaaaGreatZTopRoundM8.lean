import Derived.Test.YtmfhaliclnnbaaaGreatZTopRoundM1
import Derived.Test.YtmfhaliclnnbaaaGreatZTopRoundM3
import Derived.Test.YtmfhaliclnnbaaaGreatZTopRoundM5
import Derived.Test.YtmfhaliclnnbaaaGreatZTopRoundM6
import Derived.Test.YtmfhaliclnnbaaaGreatZTopRoundM7
namespace Go.Proofs.YtmfhaliclnnbaaaGreat.XTopWhole
open Go.RowKit Go.Proofs.YtmfhaliclnnbaaaGreatW.PrintWords Go.Proofs.YtmfhaliclnnbaaaGreatW.PrintLast Go.Proofs.YtmfhaliclnnbaaaGreatW.PrintMore
attribute [local go_sem] pa pi ra rn nh my o4 pb
set_option linter.unusedVariables false
set_option linter.unusedSimpArgs false
set_option maxRecDepth 100000
set_option maxHeartbeats 8000000
mutual
def be.l0 : Nat → List (S160) → List (S116) → Int → Int → Option ((List (S160)))
 | 0, _, _, _, _ => none
 | k + 1, x7, x14, x15, x16 => if x16 < x15 then (if 0 ≤ x16 then (if x16 < (x14.length : Int) then ((fd.f ((aa x14 x16).f1) ((aa x14 x16).f2)).bind fun t197 => (if x7.length < 8796093022208 then (be.l1 k (x7 ++ [(⟨(aa x14 x16).f0, t197⟩ : S160)]) 1 x14 x15 x16 ((aa x14 x16).f0) ((aa x14 x16).f1) ((aa x14 x16).f2)) else (none))) else (none)) else (none)) else (some x7)
def be.l1 : Nat → List (S160) → Int → List (S116) → Int → Int → Int → Int → Bool → Option ((List (S160)))
 | 0, _, _, _, _, _, _, _, _ => none
 | k + 1, x7, x10, x14, x15, x16, x197000, x197001, x197002 => if x10 < x197001 then (if x197002 = true then (if x7.length < 8796093022208 then (be.l1 k (x7 ++ [(⟨wrap64 (x197000 + x10), 0⟩ : S160)]) (wrap64 (x10 + 1)) x14 x15 x16 x197000 x197001 x197002) else (none)) else (be.l0 k x7 x14 x15 (wrap64 (x16 + 1)))) else (be.l0 k x7 x14 x15 (wrap64 (x16 + 1)))
end
def be.f (k : Nat) (l0 : List (S116)) (a1 : Int) (a2 : Int) : Option ((List (S160))) := (cf.f k l0 a1 a2).bind fun t192 => (be.l0 k ([] : List (S160)) t192 (t192.length : Int) 0)
def be.T5 : Bool × List (List Nat × List Nat) := (true, [([], []), ([], []), ([1], [1]), ([], []), ([3], [3]), ([], []), ([5], [5]), ([4, 6], [4, 6]), ([2, 7], [2, 7]), ([8], [8]), ([0, 9, 7], [0, 9]), ([10, 10, 0, 1, 2, 3, 4, 5, 6, 7, 8, 9, 10], [0, 10])])
def be.B5 : List Nat := [0, 0, 2, 0, 8, 0, 32, 120, 254, 510, 1023, 2047]
theorem be.tab5 : l6 .any (qbq Tryz.f140 5) = be.T5 := by kernel_rfl
theorem be.bits5 : nl be.T5.2 be.B5 = true := by kernel_rfl
theorem be.calls (k : Nat) (A0 : Option Addr) (c0 : Nat) (l0 : List (S116)) (a1 : Int) (a2 : Int) (r : List (S160)) (w : World) (hr0 : Kd.C ld w A0 l0.length l0) (hc0 : l0.length ≤ c0) (h : be.f k l0 a1 a2 = some r) : Calls Tryz.prog 140 #[.slice A0 l0.length c0, .int .i64 a1, .int .i64 a2] w fun e w' => ∃ v0_ : Value, e = .returned (v0_) ∧ Kd.R mo 160 w' w.heap.size (fun _ => True) v0_ r ∧ Below w.heap.size w w' := by
 have hu116 := Tryz.underlying116;have hu160 := Tryz.underlying160;have HR0 := am hr0;have HC0 := am hc0;clear hr0 hc0;have HB := am (Below.refl w.heap.size w);have H : ((cf.f k l0 a1 a2).bind fun t192 => (be.l0 k ([] : List (S160)) t192 (t192.length : Int) 0)) = some r := h;clear h;replace H := Option.bind_eq_some_iff.mp H;obtain ⟨t192, A40, H⟩ := H
 try dsimp only at H
 have A4 := am A40;clear A40;have H' := am H;clear H;go_enter Tryz.func140, Tryz.ntmps140;go_wp2_with (first | ((with_reducible refine ak (f := 163) rfl ?_); refine zl (some 14) Tryz.func163 #[.slice A0 l0.length c0, .int .i64 a1, .int .i64 a2] ?_; (with_reducible refine (cf.calls k _ _ l0 a1 a2 t192 _ ?side1 ?side2 A4.out).mono ?_); (case side1 => exact zc HR0.out); (case side2 => exact HC0.out); rintro e w5 ⟨v193, rfl, ho0, hb⟩; refine ⟨_, rfl, ?_⟩; have n0_ := am (Kd.R_lower ho0 (ba (zB HB))); have n1_ := zb HB hb; clear HB; have HO194 := n0_; have HB := n1_; clear n0_ n1_; (try clear hb); (try clear ho0); obtain ⟨Ao6, co6, eo6⟩ := Kd.R_slice HO194.out; subst eo6))
 go_loopg [7, 16] k (fun kq v7 v16 w' => ∃ (x7_1 : List (S160)) (x16_1 : Int), v16 = .int .i64 x16_1 ∧ Aside0 (be.l0 kq x7_1 t192 (t192.length : Int) x16_1 = some r) ∧ Aside0 (kq ≤ k) ∧ Aside0 (Kd.R mo 160 w' w.heap.size (fun _ => True) v7 x7_1) ∧ Aside0 (Kd.R ld 116 w' w.heap.size (fun _ => True) (.slice Ao6 t192.length co6) t192) ∧ Aside0 (Below w.heap.size w w'))
 case atStart => exact ⟨(([] : List (S160))), (0), zs, H', ⟨Nat.le_refl _⟩, ⟨by first | exact Kd.R_nil _ _ _ _ _ | exact Kd.N_nil _ _ _ _ _ | exact Kd.V_nil _ _ _ _ _ | exact Kd.Q_nil _ _ _ _ _ | exact Kd.S_nil _ _ _ _ _⟩, ⟨zr HO194⟩, ⟨zB HB⟩⟩
 case round =>
  clear H';obtain ⟨x7_1, x16_1, rfl, HA, HK1, HO_7, HO_14, HB⟩ := hrel;cases gk with
  | zero => exact absurd HA.out (by simp [be.l0])
  | succ k1 =>
   have H := HA.out;clear HA;simp only [be.l0] at H;by_cases c7 : x16_1 < (t192.length : Int)
   ·rw [if_pos c7] at H;have c7b0 := decide_eq_true c7;clear c7;by_cases c8 : 0 ≤ x16_1
    ·rw [if_pos c8] at H;have c8b0 := decide_eq_true c8;clear c8;by_cases c9 : x16_1 < (t192.length : Int)
     ·rw [if_pos c9] at H;have c9b0 := decide_eq_true c9;clear c9;replace H := Option.bind_eq_some_iff.mp H;obtain ⟨t197, A100, H⟩ := H
      try dsimp only at H
      have A10 := am A100;clear A100;by_cases c11 : x7_1.length < 8796093022208
      ·rw [if_pos c11] at H;have LMc11 := am c11;clear c11;obtain ⟨y198, hy198⟩ : ∃ y_ : List (S160), y_ = (x7_1 ++ [(⟨(aa t192 x16_1).f0, t197⟩ : S160)]) := ⟨_, rfl⟩;replace H : (be.l1 k1 y198 1 t192 (t192.length : Int) x16_1 ((aa t192 x16_1).f0) ((aa t192 x16_1).f1) ((aa t192 x16_1).f2)) = some r := by first | (rw [hy198]; with_reducible exact H) | (have H2_ := (Option.bind_some _ _).symm.trans H; rw [hy198]; with_reducible exact H2_) | (have H2_ := (Option.bind_some _ _).symm.trans H; with_reducible exact H2_) | with_reducible exact H | (rw [hy198]; exact H) | exact H
       have Ny198 := am hy198;clear hy198;have H' := am H;clear H;have p195 : 0 ≤ (x16_1 : Int) := zu;have q195 : x16_1 < (t192.length : Int) := zu;obtain ⟨ad195, e195, hx195_0, hx195_1, hx195_2⟩ := dx (Kd.R_reads' HO_14.out).2.2 x16_1 p195 q195;cases e195;replace p195 := eq_true p195;replace q195 := eq_true q195
       try go_wp2_with (first | ((with_reducible refine bn (N := 9) rfl ?_); refine b9 ?hg (N := 9) ?hd (cs := #[.int .i64 0, .int .i64 0, .bool false]) (t := 116) ?hr ?_; (case hd => rfl); (case hg => rfl); (case hr => first | (go_simp; done) | (go_simp; rfl)); intro gb196 hg w12 hbox hb; have n0_ := za HO_7 hb; have n1_ := am (qv (Kd.R_elderB (zr HO_14) gb196 (Nat.le_of_eq hg.symm)) hb); have n2_ := zb HB hb; have n3_ := am (hbox); have n4_ := am ((by rw [hg]; exact (ba (zB HB)) : w.heap.size ≤ gb196)); have n5_ := am ((by rw [hg]; exact (ba (zB HB)) : w.heap.size ≤ gb196)); clear HO_7; clear HO_14; clear HB; have HO_7 := n0_; have HO_14 := n1_; have HB := n2_; have BK196 := n3_; have GW196 := n4_; have GE196 := n5_; clear n0_ n1_ n2_ n3_ n4_ n5_; clear hb hbox hg; have hcz13_0 := zk BK196 0 (.int .i64 0); have hcz13_1 := zk BK196 1 (.int .i64 0); have hcz13_2 := zk BK196 2 (.bool false); have hfz13_0 := ac BK196.out 0; have hfz13_1 := ac BK196.out 1; have hfz13_2 := ac BK196.out 2))
       have n0_ : Aside0 (Kd.R mo 160 (((w12.setCell ⟨gb196, 0, none⟩ (.int .i64 ((aa t192 x16_1).f0))).setCell ⟨gb196, 1, none⟩ (.int .i64 ((aa t192 x16_1).f1))).setCell ⟨gb196, 2, none⟩ (.bool ((aa t192 x16_1).f2))) w.heap.size (fun _ => True) u7 x7_1) := ⟨by (with_reducible repeat (first | apply qa | apply qb | apply qc)); exact Kd.R_mono (Kd.R_far (p := ⟨gb196, 2, none⟩) (Kd.R_far (p := ⟨gb196, 1, none⟩) (Kd.R_far (p := ⟨gb196, 0, none⟩) (Kd.R_types HO_7.out BK196.out (by decide)) (fun _ hk => hk.2) (.int .i64 ((aa t192 x16_1).f0))) (fun _ hk => hk.2) (.int .i64 ((aa t192 x16_1).f1))) (fun _ hk => hk.2) (.bool ((aa t192 x16_1).f2))) (fun _ hk => trivial)⟩;have n1_ : Aside0 (Kd.R ld 116 (((w12.setCell ⟨gb196, 0, none⟩ (.int .i64 ((aa t192 x16_1).f0))).setCell ⟨gb196, 1, none⟩ (.int .i64 ((aa t192 x16_1).f1))).setCell ⟨gb196, 2, none⟩ (.bool ((aa t192 x16_1).f2))) w.heap.size (fun k_ => k_ ≠ gb196) (.slice (some ad195) t192.length co6) t192) := ⟨by (with_reducible repeat (first | apply qa | apply qb | apply qc)); exact Kd.R_mono (Kd.R_far (p := ⟨gb196, 2, none⟩) (Kd.R_far (p := ⟨gb196, 1, none⟩) (Kd.R_far (p := ⟨gb196, 0, none⟩) (Kd.R_mono HO_14.out (fun k_ hk => (⟨hk, hk.2⟩ : _ ∧ k_ ≠ gb196))) (fun _ hk => hk.2) (.int .i64 ((aa t192 x16_1).f0))) (fun _ hk => hk.2) (.int .i64 ((aa t192 x16_1).f1))) (fun _ hk => hk.2) (.bool ((aa t192 x16_1).f2))) (fun _ hk => hk.1.2)⟩;have n2_ : Aside0 ((((w12.setCell ⟨gb196, 0, none⟩ (.int .i64 ((aa t192 x16_1).f0))).setCell ⟨gb196, 1, none⟩ (.int .i64 ((aa t192 x16_1).f1))).setCell ⟨gb196, 2, none⟩ (.bool ((aa t192 x16_1).f2))).heap[gb196]? = some (.cells #[.int .i64 ((aa t192 x16_1).f0), .int .i64 ((aa t192 x16_1).f1), .bool ((aa t192 x16_1).f2)] 116 (0, 0))) := ⟨by (with_reducible repeat (first | refine ap ?_ _ | refine ay ?_ | refine av ?_ _)); refine da (cs := #[.int .i64 ((aa t192 x16_1).f0), .int .i64 ((aa t192 x16_1).f1), .bool false]) ?_ 2 _ rfl; (with_reducible repeat (first | refine ap ?_ _ | refine ay ?_ | refine av ?_ _)); refine da (cs := #[.int .i64 ((aa t192 x16_1).f0), .int .i64 0, .bool false]) ?_ 1 _ rfl; (with_reducible repeat (first | refine ap ?_ _ | refine ay ?_ | refine av ?_ _)); refine da (cs := #[.int .i64 0, .int .i64 0, .bool false]) ?_ 0 _ rfl; (with_reducible repeat (first | refine ap ?_ _ | refine ay ?_ | refine av ?_ _)); exact BK196.out⟩;have n3_ : Aside0 (Below w.heap.size w (((w12.setCell ⟨gb196, 0, none⟩ (.int .i64 ((aa t192 x16_1).f0))).setCell ⟨gb196, 1, none⟩ (.int .i64 ((aa t192 x16_1).f1))).setCell ⟨gb196, 2, none⟩ (.bool ((aa t192 x16_1).f2)))) := ⟨by repeat (first | (with_reducible first | exact HB.out | apply qd | apply qe | apply qf | refine ao ?_ GE196.out) | exact HB.out)⟩
       (try clear HO_7)
       (try clear HO_14)
       (try clear BK196)
       (try clear HB)
       generalize (((w12.setCell ⟨gb196, 0, none⟩ (.int .i64 ((aa t192 x16_1).f0))).setCell ⟨gb196, 1, none⟩ (.int .i64 ((aa t192 x16_1).f1))).setCell ⟨gb196, 2, none⟩ (.bool ((aa t192 x16_1).f2))) = w14 at n0_ n1_ n2_ n3_ ⊢;have HO_7 := n0_;have HO_14 := n1_;have BK196 := n2_;have HB := n3_;clear n0_ n1_ n2_ n3_;have n0_ := am (qc HO_7.out);have n1_ := am (qc HO_14.out);have n2_ := am (ay BK196.out);have n3_ := am (qf HB.out);clear HO_7;clear HO_14;clear BK196;clear HB;have HO_7 := n0_;have HO_14 := n1_;have BK196 := n2_;have HB := n3_;clear n0_ n1_ n2_ n3_;refine dy (n := 12) (S := fun w' => w'.cell? ⟨gb196, 0, none⟩ = some (.int .i64 ((aa t192 x16_1).f0)) ∧ w'.cell? ⟨gb196, 1, none⟩ = some (.int .i64 ((aa t192 x16_1).f1)) ∧ w'.cell? ⟨gb196, 2, none⟩ = some (.bool ((aa t192 x16_1).f2))) (ds := []) (onA 12 0) (by kernel_rfl) rfl rfl ⟨(af BK196.out 0).trans rfl, (af BK196.out 1).trans rfl, (af BK196.out 2).trans rfl⟩ (fun hHeld => ?_); refine ke be.tab5 be.bits5 (fun HT_ HW_ => ?_);generalize w14.drew = w15 at HO_7 HO_14 BK196 HB hHeld ⊢;refine pu 0 (some 20) (onA 12 1) HT_ (h := ?_);refine pu 1 (some 21) (onA 12 2) HT_ (h := ?_);refine pu 3 (some 23) (bA 12 11) HT_ (h := ?_);refine pu 5 (some 25) (bA 12 43) HT_ (h := ?_);refine take_ (i := 2) (N := some 22) (v := ?_) (a' := ?_) (bA 12 47) rfl rfl (ka HT_.out HW_.out (by kernel_rfl)) (fun _ _ _ h => h) (Or.inl ⟨by rfl, ?_⟩) hHeld ?_ ?_;rotate_left
       ·rintro w' ⟨s0, s1, s2⟩;go_simp
        with_reducible rfl
       rotate_left
       ·simp only [Act.put, qg, qh, qi, az, dr];rfl
       refine take_ (i := 4) (N := some 24) (v := ?_) (a' := ?_) (onA 12 6) rfl rfl (ka HT_.out HW_.out (by kernel_rfl)) (fun _ _ _ h => h) (Or.inl ⟨by rfl, ?_⟩) hHeld ?_ ?_;rotate_left
       ·rintro w' ⟨s0, s1, s2⟩;go_simp
        with_reducible rfl
       rotate_left
       ·simp only [Act.put, qg, qh, qi, az, dr];rfl
       refine take_ (i := 6) (N := some 26) (v := ?_) (a' := ?_) (onA 12 7) rfl rfl (ka HT_.out HW_.out (by kernel_rfl)) (fun _ _ _ h => h) (Or.inl ⟨by rfl, ?_⟩) hHeld ?_ ?_;rotate_left
       ·rintro w' ⟨s0, s1, s2⟩;go_simp
        with_reducible rfl
       rotate_left
       ·simp only [Act.put, qg, qh, qi, az, dr];rfl
       refine gq (i := 7) (N := some 27) (onA 12 8) rfl rfl (n7 HT_.out (by kernel_rfl)) (by decide) (fun K hK => ?_);refine dw Tryz.func84 (by kernel_rfl) rfl #[.int .i64 ((aa t192 x16_1).f1), .bool ((aa t192 x16_1).f2)] (by rfl) rfl rfl (by (try simp only [qj, qk, ql]); first | done | rfl | (simp only [qm, qn]; rfl)) ?_
       with_reducible refine (fd.calls ((aa t192 x16_1).f1) ((aa t192 x16_1).f2) t197 _ A10.out).mono ?_
       rintro e w' ⟨rfl, ⟨nd, rfl⟩⟩;refine ⟨_, rfl, ?_⟩;refine hK.out _ _ ⟨(af BK196.out 0).trans rfl, (af BK196.out 1).trans rfl, (af BK196.out 2).trans rfl⟩ (fun hHeld => ?_);clear hK K;refine i6 (a' := ?_) ?_ ?_;rotate_left
       ·show Act.put _ (some 27) _ = _;simp only [Act.put, qg, qh, qi, az, dr];rfl
       refine pu 8 (some 28) (onA 12 9) HT_ (h := ?_);refine gq (i := 9) (N := some 29) (onA 12 10) rfl rfl (n7 HT_.out (by kernel_rfl)) (by decide) (fun K hK => ?_);refine je (w1 := ?_) (v := ?_) (by rfl) rfl ?_ ?_;rotate_left 2
       ·go_simp;constructor
        ·rfl
        ·rfl
       refine hK.out _ _ ⟨(af (av BK196.out _) 0).trans rfl, (af (av BK196.out _) 1).trans rfl, (af (av BK196.out _) 2).trans rfl⟩ (fun hHeld => ?_);clear hK K;refine i6 (a' := ?_) ?_ ?_;rotate_left
       ·show Act.put _ (some 29) _ = _;simp only [Act.put, qg, qh, qi, az, dr];rfl
       refine gq (i := 10) (N := some 30) (onA 12 11) rfl rfl (n7 HT_.out (by kernel_rfl)) (by decide) (fun K hK => ?_);refine Kd.R_append_step mo (w0 := w) w.heap.size (by rfl) (.tmp 20) (.tmp 29) 59 160 (.agg #[(.int .i64 0), (.int .u64 0)]) 16 rfl Tryz.underlying59 qck rfl (by decide) (by omega) u7 x7_1 (⟨(aa t192 x16_1).f0, t197⟩ : S160) [.int .i64 ((aa t192 x16_1).f0), .int .u64 t197] (fun _ => True) (fun _ => False) rfl rfl ?aP (fun _ hk => hk.elim) ?aF ?aO ?aB ?aS ?aL ?_
       (case aP => exact qy _ _ _ (⟨(aa t192 x16_1).f0, t197⟩ : S160))
       (case aB => exact (by repeat (first | (with_reducible first | exact HB.out | apply qd | apply qe | apply qf | refine ao ?_ GE196.out) | exact HB.out)))
       (case aF => exact (fun _ _ => trivial))
       (case aO => exact (zr HO_7))
       (case aS => exact (ba (by repeat (first | (with_reducible first | exact HB.out | apply qd | apply qe | apply qf | refine ao ?_ GE196.out) | exact HB.out))))
       (case aL => have := LMc11.out; omega)
       intro v199 w16 ho hb hg hat;rw [← Ny198.out] at ho;have n0_ := am (Kd.R_over' (zr HO_14) (Kd.R_typed (zr HO_7)) (by decide) hg);have n1_ := am (gv (g := gb196) (o := .cells #[.int .i64 ((aa t192 x16_1).f0), .int .i64 ((aa t192 x16_1).f1), .bool ((aa t192 x16_1).f2)] 116 (0, 0)) (by (with_reducible repeat (first | refine ap ?_ _ | refine ay ?_ | refine av ?_ _)); exact BK196.out) hg (Kd.R_ne HO_7.out BK196.out (by decide)));have n2_ := am (hb);have n3_ := am (ho);clear HO_14;clear BK196;clear HB;clear HO_7;have HO_14 := n0_;have BK196 := n1_;have HB := n2_;have HO200 := n3_;clear n0_ n1_ n2_ n3_;clear ho hb hg hat;refine hK.out _ _ ⟨(af BK196.out 0).trans rfl, (af BK196.out 1).trans rfl, (af BK196.out 2).trans rfl⟩ (fun hHeld => ?_);clear hK K;refine i6 (a' := ?_) ?_ ?_;rotate_left
       ·show Act.put _ (some 30) _ = _;simp only [Act.put, qg, qh, qi, az, dr];rfl
       refine pu 11 (some 7) (onA 12 12) HT_ (h := ?_);refine fp (ol HT_.out (by kernel_rfl)) ?_
       try go_wp2
       go_loopg [7, 10] k1 (fun kq v7 v10 w' => ∃ (x7_2 : List (S160)) (x10_2 : Int), v10 = .int .i64 x10_2 ∧ Aside0 (be.l1 kq x7_2 x10_2 t192 (t192.length : Int) x16_1 ((aa t192 x16_1).f0) ((aa t192 x16_1).f1) ((aa t192 x16_1).f2) = some r) ∧ Aside0 (kq ≤ k1) ∧ Aside0 (Kd.R mo 160 w' w.heap.size (fun _ => True) v7 x7_2) ∧ Aside0 (Kd.R ld 116 w' w.heap.size (fun k_ => k_ ≠ gb196) (.slice (some ad195) t192.length co6) t192) ∧ Aside0 (w'.heap[gb196]? = some (.cells #[.int .i64 ((aa t192 x16_1).f0), .int .i64 ((aa t192 x16_1).f1), .bool ((aa t192 x16_1).f2)] 116 (0, 0))) ∧ Aside0 (Below w.heap.size w w'))
       case atStart => exact ⟨(y198), (1), zs, H', ⟨Nat.le_refl _⟩, ⟨zr HO200⟩, ⟨zr HO_14⟩, ⟨by (with_reducible repeat (first | refine ap ?_ _ | refine ay ?_ | refine av ?_ _)); exact BK196.out⟩, ⟨by repeat (first | (with_reducible first | exact HB.out | apply qd | apply qe | apply qf | refine ao ?_ GE196.out) | exact HB.out)⟩⟩
       case round =>
        clear H'
        try clear c7
        try clear c7b0
        try clear c8
        try clear c8b0
        try clear c9
        try clear c9b0
        try clear c11
        try clear hcz13_0
        try clear hcz13_1
        try clear hcz13_2
        try clear hfz13_0
        try clear hfz13_1
        try clear hfz13_2
        try clear hx195_0
        try clear hx195_1
        try clear hx195_2
        try clear p195
        try clear q195
        obtain ⟨x7_2, x10_2, rfl, HA, HK2, HO_7, HO_14, BK196, HB⟩ := hrel;cases gk with
        | zero => exact absurd HA.out (by simp [be.l1])
        | succ k2 =>
         have H := HA.out;clear HA;simp only [be.l1] at H;by_cases c17 : x10_2 < ((aa t192 x16_1).f1)
         ·rw [if_pos c17] at H;have c17b0 := decide_eq_true c17;clear c17
          first | (generalize hbq18 : (aa t192 x16_1).f2 = bq18 at *; replace hbq18 := hbq18.symm) | (obtain ⟨bq18, hbq18⟩ : ∃ b_ : Bool, b_ = ((aa t192 x16_1).f2) := ⟨_, rfl⟩)
          replace H : (if bq18 = true then (if x7_2.length < 8796093022208 then (be.l1 k2 (x7_2 ++ [(⟨wrap64 (((aa t192 x16_1).f0) + x10_2), 0⟩ : S160)]) (wrap64 (x10_2 + 1)) t192 (t192.length : Int) x16_1 ((aa t192 x16_1).f0) ((aa t192 x16_1).f1) bq18) else (none)) else (be.l0 k2 x7_2 t192 (t192.length : Int) (wrap64 (x16_1 + 1)))) = some r := by first | exact H | (rw [← hbq18] at H; exact H)
          have Nbq18 := am hbq18;clear hbq18
          (try rw [← Nbq18.out])
          by_cases c19 : bq18 = true
          ·subst c19;have H1 : (if x7_2.length < 8796093022208 then (be.l1 k2 (x7_2 ++ [(⟨wrap64 (((aa t192 x16_1).f0) + x10_2), 0⟩ : S160)]) (wrap64 (x10_2 + 1)) t192 (t192.length : Int) x16_1 ((aa t192 x16_1).f0) ((aa t192 x16_1).f1) true) else (none)) = some r := by rw [if_pos rfl] at H; exact H
           clear H;have H := H1;clear H1;by_cases c20 : x7_2.length < 8796093022208
           ·rw [if_pos c20] at H;have LMc20 := am c20;clear c20;obtain ⟨y201, hy201⟩ : ∃ y_ : List (S160), y_ = (x7_2 ++ [(⟨wrap64 (((aa t192 x16_1).f0) + x10_2), 0⟩ : S160)]) := ⟨_, rfl⟩;replace H : (be.l1 k2 y201 (wrap64 (x10_2 + 1)) t192 (t192.length : Int) x16_1 ((aa t192 x16_1).f0) ((aa t192 x16_1).f1) true) = some r := by first | (rw [hy201]; with_reducible exact H) | (have H2_ := (Option.bind_some _ _).symm.trans H; rw [hy201]; with_reducible exact H2_) | (have H2_ := (Option.bind_some _ _).symm.trans H; with_reducible exact H2_) | with_reducible exact H | (rw [hy201]; exact H) | exact H
            have Ny201 := am hy201;clear hy201;have H' := am H;clear H;have hcz21_0 := zk BK196 0 (.int .i64 ((aa t192 x16_1).f0));have hcz21_1 := zk BK196 1 (.int .i64 ((aa t192 x16_1).f1));have hcz21_2 := zk BK196 2 (.bool true);have hfz21_0 := ac BK196.out 0;have hfz21_1 := ac BK196.out 1;have hfz21_2 := ac BK196.out 2;go_wp2_with (first | ((with_reducible refine dn (b := .append) (xs := #[.tmp 41, .tmp 47]) rfl ?_); at_builtin; refine Kd.R_append mo (w0 := w) w.heap.size rfl (.tmp 41) (.tmp 47) 59 160 (.agg #[(.int .i64 0), (.int .u64 0)]) 16 rfl Tryz.underlying59 qck rfl (by decide) (by omega) u7 x7_2 (⟨wrap64 (((aa t192 x16_1).f0) + x10_2), 0⟩ : S160) [.int .i64 (wrap64 (((aa t192 x16_1).f0) + x10_2)), .int .u64 0] (fun _ => True) (fun _ => False) rfl rfl ?aP (fun _ hk => hk.elim) ?aF ?aO ?aB ?aS ?aL ?_; (case aP => exact qy _ _ _ (⟨wrap64 (((aa t192 x16_1).f0) + x10_2), 0⟩ : S160)); (case aB => exact (by repeat (first | (with_reducible first | exact HB.out | apply qd | apply qe | apply qf | refine ao ?_ GE196.out) | exact HB.out))); (case aF => exact (fun _ _ => trivial)); (case aO => exact (zr HO_7)); (case aS => exact (ba (by repeat (first | (with_reducible first | exact HB.out | apply qd | apply qe | apply qf | refine ao ?_ GE196.out) | exact HB.out)))); (case aL => have := LMc20.out; omega); intro v202 w22 ho hb hg hat; rw [← Ny201.out] at ho; have n0_ := am (Kd.R_over' (zr HO_14) (Kd.R_typed (zr HO_7)) (by decide) hg); have n1_ := am (gv (g := gb196) (o := .cells #[.int .i64 ((aa t192 x16_1).f0), .int .i64 ((aa t192 x16_1).f1), .bool true] 116 (0, 0)) (by (with_reducible repeat (first | refine ap ?_ _ | refine ay ?_ | refine av ?_ _)); exact BK196.out) hg (Kd.R_ne HO_7.out BK196.out (by decide))); have n2_ := am (hb); have n3_ := am (ho); clear HO_14; clear BK196; clear HB; clear HO_7; have HO_14 := n0_; have BK196 := n1_; have HB := n2_; have HO203 := n3_; clear n0_ n1_ n2_ n3_; clear ho hb hg hat))
            go_roundg k2
            case measure => have := HK1.out; have := HK2.out; omega
            case rel => exact ⟨(y201), (wrap64 (x10_2 + 1)), zs, H', ⟨by have := HK1.out; have := HK2.out; omega⟩, ⟨zr HO203⟩, ⟨zr HO_14⟩, ⟨by (with_reducible repeat (first | refine ap ?_ _ | refine ay ?_ | refine av ?_ _)); exact BK196.out⟩, ⟨by repeat (first | (with_reducible first | exact HB.out | apply qd | apply qe | apply qf | refine ao ?_ GE196.out) | exact HB.out)⟩⟩
           ·rw [if_neg c20] at H;exact absurd H (by simp)
          ·replace c19 := Bool.eq_false_iff.mpr c19;subst c19;have H1 : (be.l0 k2 x7_2 t192 (t192.length : Int) (wrap64 (x16_1 + 1))) = some r := by rw [if_neg (show ¬ (false = true) by decide)] at H; exact H
           clear H;have H := H1;clear H1;have H' := am H;clear H;have hcz23_0 := zk BK196 0 (.int .i64 ((aa t192 x16_1).f0));have hcz23_1 := zk BK196 1 (.int .i64 ((aa t192 x16_1).f1));have hcz23_2 := zk BK196 2 (.bool false);have hfz23_0 := ac BK196.out 0;have hfz23_1 := ac BK196.out 1;have hfz23_2 := ac BK196.out 2;go_wp2;go_roundg k2
           case measure => have := HK1.out; have := HK2.out; omega
           case rel => exact ⟨(x7_2), (wrap64 (x16_1 + 1)), zs, H', ⟨by have := HK1.out; have := HK2.out; omega⟩, ⟨zr HO_7⟩, ⟨by (with_reducible repeat (first | apply qa | apply qb | apply qc)); exact Kd.R_mono HO_14.out (fun _ hk => trivial)⟩, ⟨by repeat (first | (with_reducible first | exact HB.out | apply qd | apply qe | apply qf | refine ao ?_ GE196.out) | exact HB.out)⟩⟩
         ·rw [if_neg c17] at H;have c17b0 := decide_eq_false c17;clear c17;have H' := am H;clear H;have hcz24_0 := zk BK196 0 (.int .i64 ((aa t192 x16_1).f0));have hcz24_1 := zk BK196 1 (.int .i64 ((aa t192 x16_1).f1));have hcz24_2 := zk BK196 2 (.bool ((aa t192 x16_1).f2));have hfz24_0 := ac BK196.out 0;have hfz24_1 := ac BK196.out 1;have hfz24_2 := ac BK196.out 2;go_wp2;go_roundg k2
          case measure => have := HK1.out; have := HK2.out; omega
          case rel => exact ⟨(x7_2), (wrap64 (x16_1 + 1)), zs, H', ⟨by have := HK1.out; have := HK2.out; omega⟩, ⟨zr HO_7⟩, ⟨by (with_reducible repeat (first | apply qa | apply qb | apply qc)); exact Kd.R_mono HO_14.out (fun _ hk => trivial)⟩, ⟨by repeat (first | (with_reducible first | exact HB.out | apply qd | apply qe | apply qf | refine ao ?_ GE196.out) | exact HB.out)⟩⟩
      ·rw [if_neg c11] at H;exact absurd H (by simp)
     ·rw [if_neg c9] at H;exact absurd H (by simp)
    ·rw [if_neg c8] at H;exact absurd H (by simp)
   ·rw [if_neg c7] at H;have c7b0 := decide_eq_false c7;clear c7;obtain rfl := Option.some.inj H;go_wp2;go_ret;exact ⟨_, ze, by (with_reducible repeat (first | apply qa | apply qb | apply qc)); exact HO_7.out, zB HB⟩
def dp.f (k : Nat) (l0 : List Int) (a1 : Int) (l2 : List Int) : Option ((List (S160)) × Int × Int) := (gf.f a1).bind fun t204 => (if t204 = 0 then (some (([] : List (S160)), 0, 1)) else ((bi.f k l0).bind fun bt205 => (if bt205.2 = true then ((au.f k bt205.1 t204 l2).bind fun t209 => (if t209 < 0 then (some (([] : List (S160)), 0, 4)) else ((be.f k bt205.1 t209 t204).bind fun t210 => (if 0 ≤ t209 then (if t209 < (bt205.1.length : Int) then ((i9.f ((aa bt205.1 t209).f0) ((aa bt205.1 t209).f1) ((aa bt205.1 t209).f2)).bind fun t214 => (some (t210, t214, 0))) else (none)) else (none))))) else (some (([] : List (S160)), 0, 6)))))
def dp.T10 : Bool × List (List Nat × List Nat) := (true, [([], []), ([], []), ([], []), ([0, 1, 2], [0, 1, 2]), ([], []), ([], []), ([4, 5], [4, 5]), ([6], [6]), ([7, 3], [7]), ([3, 8, 0, 1, 2, 3], [3]), ([8, 9, 0, 1, 2, 3, 4, 5, 6, 7, 8, 9], [8]), ([10, 0, 1, 2, 3, 4, 5, 6, 7, 8, 9, 10], [])])
def dp.B10 : List Nat := [0, 0, 0, 7, 0, 0, 48, 112, 255, 511, 1023, 2047]
theorem dp.tab10 : l6 .any (qbq Tryz.f101 10) = dp.T10 := by kernel_rfl
theorem dp.bits10 : nl dp.T10.2 dp.B10 = true := by kernel_rfl
theorem dp.calls (k : Nat) (A0 : Option Addr) (c0 : Nat) (l0 : List Int) (a1 : Int) (A2 : Option Addr) (c2 : Nat) (l2 : List Int) (r1 : List (S160)) (r2 : Int) (r3 : Int) (w : World) (hr0 : Kd.C (Kd.int .u64) w A0 l0.length l0) (hc0 : l0.length ≤ c0) (hr2 : Kd.C (Kd.int .i64) w A2 l2.length l2) (hc2 : l2.length ≤ c2) (h : dp.f k l0 a1 l2 = some (r1, r2, r3)) : Calls Tryz.prog 101 #[.slice A0 l0.length c0, .int .i64 a1, .slice A2 l2.length c2] w fun e w' => ∃ v0_ : Value, e = .returned (.tuple #[v0_, .int .i64 r2, .int .i64 r3]) ∧ Kd.R mo 160 w' w.heap.size (fun _ => True) v0_ r1 ∧ Below w.heap.size w w' := by
 have hu116 := Tryz.underlying116;have HR0 := am hr0;have HC0 := am hc0;clear hr0 hc0;have HR2 := am hr2;have HC2 := am hc2;clear hr2 hc2;have HB := am (Below.refl w.heap.size w);have H : ((gf.f a1).bind fun t204 => (if t204 = 0 then (some (([] : List (S160)), 0, 1)) else ((bi.f k l0).bind fun bt205 => (if bt205.2 = true then ((au.f k bt205.1 t204 l2).bind fun t209 => (if t209 < 0 then (some (([] : List (S160)), 0, 4)) else ((be.f k bt205.1 t209 t204).bind fun t210 => (if 0 ≤ t209 then (if t209 < (bt205.1.length : Int) then ((i9.f ((aa bt205.1 t209).f0) ((aa bt205.1 t209).f1) ((aa bt205.1 t209).f2)).bind fun t214 => (some (t210, t214, 0))) else (none)) else (none))))) else (some (([] : List (S160)), 0, 6)))))) = some (r1, r2, r3) := h;clear h;replace H := Option.bind_eq_some_iff.mp H;obtain ⟨t204, A40, H⟩ := H
 try dsimp only at H
 have A4 := am A40;clear A40;by_cases c5 : t204 = 0
 ·rw [if_pos c5] at H;have c5b0 : (t204 == 0) = true := beq_iff_eq.mpr c5;have c5b1 : (t204 != 0) = false := bne_eq_false_iff_eq.mpr c5;clear c5;simp only [Option.some.injEq, Prod.mk.injEq] at H;obtain ⟨rfl, rfl, rfl⟩ := H;go_enter Tryz.func101, Tryz.ntmps101;go_wp2_with (first | ((with_reducible refine ak (f := 99) rfl ?_); refine zl (some 14) Tryz.func99 #[.int .i64 a1] ?_; (with_reducible refine (gf.calls a1 t204 _ A4.out).mono ?_); rintro e w' ⟨rfl, ⟨nd, rfl⟩⟩; refine ⟨_, rfl, ?_⟩))
  go_ret3;exact ⟨_, ze, by first | exact Kd.R_nil _ _ _ _ _ | exact Kd.N_nil _ _ _ _ _ | exact Kd.V_nil _ _ _ _ _ | exact Kd.Q_nil _ _ _ _ _ | exact Kd.S_nil _ _ _ _ _, zB HB⟩
 ·rw [if_neg c5] at H;have c5b0 : (t204 == 0) = false := beq_eq_false_iff_ne.mpr c5;have c5b1 : (t204 != 0) = true := bne_iff_ne.mpr c5;replace H := Option.bind_eq_some_iff.mp H;obtain ⟨⟨t205, t206⟩, A60, H⟩ := H
  try dsimp only at H
  have A6 := am A60;clear A60;by_cases c7 : t206 = true
  ·subst c7;have H1 : ((au.f k t205 t204 l2).bind fun t209 => (if t209 < 0 then (some (([] : List (S160)), 0, 4)) else ((be.f k t205 t209 t204).bind fun t210 => (if 0 ≤ t209 then (if t209 < (t205.length : Int) then ((i9.f ((aa t205 t209).f0) ((aa t205 t209).f1) ((aa t205 t209).f2)).bind fun t214 => (some (t210, t214, 0))) else (none)) else (none))))) = some (r1, r2, r3) := by rw [if_pos rfl] at H; exact H
   clear H;have H := H1;clear H1;replace H := Option.bind_eq_some_iff.mp H;obtain ⟨t209, A80, H⟩ := H
   try dsimp only at H
   have A8 := am A80;clear A80;by_cases c9 : t209 < 0
   ·rw [if_pos c9] at H;have c9b0 := decide_eq_true c9;clear c9;simp only [Option.some.injEq, Prod.mk.injEq] at H;obtain ⟨rfl, rfl, rfl⟩ := H;go_enter Tryz.func101, Tryz.ntmps101;go_wp2_with (first | ((with_reducible refine ak (f := 99) rfl ?_); refine zl (some 14) Tryz.func99 #[.int .i64 a1] ?_; (with_reducible refine (gf.calls a1 t204 _ A4.out).mono ?_); rintro e w' ⟨rfl, ⟨nd, rfl⟩⟩; refine ⟨_, rfl, ?_⟩) | ((with_reducible refine ak (f := 45) rfl ?_); refine zl (some 19) Tryz.func45 #[.slice A0 l0.length c0] ?_; (with_reducible refine (bi.calls k _ _ l0 t205 true _ ?side1 ?side2 A6.out).mono ?_); (case side1 => exact zc HR0.out); (case side2 => exact HC0.out); rintro e w10 ⟨v207, rfl, ho0, hb⟩; refine ⟨_, rfl, ?_⟩; have n0_ := am (Kd.R_lower ho0 (ba (zB HB))); have n1_ := zb HB hb; clear HB; have HO208 := n0_; have HB := n1_; clear n0_ n1_; (try clear hb); (try clear ho0); obtain ⟨Ao11, co11, eo11⟩ := Kd.R_slice HO208.out; subst eo11) | ((with_reducible refine ak (f := 139) rfl ?_); refine zl (some 27) Tryz.func139 #[.slice Ao11 t205.length co11, .int .i64 t204, .slice A2 l2.length c2] ?_; (with_reducible refine (au.calls k _ _ t205 t204 _ _ l2 t209 _ ?side1 ?side2 ?side3 ?side4 A8.out).mono ?_); (case side1 => exact zc (Kd.R_reads' HO208.out).2.2); (case side2 => exact (Kd.R_reads' HO208.out).2.1); (case side3 => exact zc (Kd.C_below HR2.out HB.out)); (case side4 => exact HC2.out); rintro e w12 ⟨rfl, hb⟩; refine ⟨_, rfl, ?_⟩; have n0_ := za HO208 hb; have n1_ := zb HB hb; replace HO208 := n0_; replace HB := n1_; clear n0_ n1_; (try clear hb)))
    go_ret3;exact ⟨_, ze, by first | exact Kd.R_nil _ _ _ _ _ | exact Kd.N_nil _ _ _ _ _ | exact Kd.V_nil _ _ _ _ _ | exact Kd.Q_nil _ _ _ _ _ | exact Kd.S_nil _ _ _ _ _, zB HB⟩
   ·rw [if_neg c9] at H;have c9b0 := decide_eq_false c9;clear c9;replace H := Option.bind_eq_some_iff.mp H;obtain ⟨t210, A130, H⟩ := H
    try dsimp only at H
    have A13 := am A130;clear A130;by_cases c14 : 0 ≤ t209
    ·rw [if_pos c14] at H;have c14b0 := decide_eq_true c14;clear c14;by_cases c15 : t209 < (t205.length : Int)
     ·rw [if_pos c15] at H;have c15b0 := decide_eq_true c15;clear c15;replace H := Option.bind_eq_some_iff.mp H;obtain ⟨t214, A160, H⟩ := H
      try dsimp only at H
      have A16 := am A160;clear A160;simp only [Option.some.injEq, Prod.mk.injEq] at H;obtain ⟨rfl, rfl, rfl⟩ := H;go_enter Tryz.func101, Tryz.ntmps101
      try go_wp2_with (first | ((with_reducible refine ak (f := 99) rfl ?_); refine zl (some 14) Tryz.func99 #[.int .i64 a1] ?_; (with_reducible refine (gf.calls a1 t204 _ A4.out).mono ?_); rintro e w' ⟨rfl, ⟨nd, rfl⟩⟩; refine ⟨_, rfl, ?_⟩) | ((with_reducible refine ak (f := 45) rfl ?_); refine zl (some 19) Tryz.func45 #[.slice A0 l0.length c0] ?_; (with_reducible refine (bi.calls k _ _ l0 t205 true _ ?side1 ?side2 A6.out).mono ?_); (case side1 => exact zc HR0.out); (case side2 => exact HC0.out); rintro e w17 ⟨v207, rfl, ho0, hb⟩; refine ⟨_, rfl, ?_⟩; have n0_ := am (Kd.R_lower ho0 (ba (zB HB))); have n1_ := zb HB hb; clear HB; have HO208 := n0_; have HB := n1_; clear n0_ n1_; (try clear hb); (try clear ho0); obtain ⟨Ao18, co18, eo18⟩ := Kd.R_slice HO208.out; subst eo18) | ((with_reducible refine ak (f := 139) rfl ?_); refine zl (some 27) Tryz.func139 #[.slice Ao18 t205.length co18, .int .i64 t204, .slice A2 l2.length c2] ?_; (with_reducible refine (au.calls k _ _ t205 t204 _ _ l2 t209 _ ?side1 ?side2 ?side3 ?side4 A8.out).mono ?_); (case side1 => exact zc (Kd.R_reads' HO208.out).2.2); (case side2 => exact (Kd.R_reads' HO208.out).2.1); (case side3 => exact zc (Kd.C_below HR2.out HB.out)); (case side4 => exact HC2.out); rintro e w19 ⟨rfl, hb⟩; refine ⟨_, rfl, ?_⟩; have n0_ := za HO208 hb; have n1_ := zb HB hb; replace HO208 := n0_; replace HB := n1_; clear n0_ n1_; (try clear hb)))
      have n0_ := am (qc HO208.out);have n1_ := am (qf HB.out);clear HO208;clear HB;have HO208 := n0_;have HB := n1_;clear n0_ n1_;have p213 : 0 ≤ (t209 : Int) := zu;have q213 : t209 < (t205.length : Int) := zu;obtain ⟨ad213, e213, hx213_0, hx213_1, hx213_2⟩ := dx (Kd.R_reads' HO208.out).2.2 t209 p213 q213;cases e213;replace p213 := eq_true p213;replace q213 := eq_true q213;refine dy (n := 12) (S := fun w' => w'.cell? (ad213.add ((t209).toNat * 3)) = some (.int .i64 ((aa t205 t209).f0)) ∧ w'.cell? ⟨(ad213.add ((t209).toNat * 3)).block, (ad213.add ((t209).toNat * 3)).off + 1, none⟩ = some (.int .i64 ((aa t205 t209).f1)) ∧ w'.cell? ⟨(ad213.add ((t209).toNat * 3)).block, (ad213.add ((t209).toNat * 3)).off + 2, none⟩ = some (.bool ((aa t205 t209).f2))) (ds := []) (onA 12 0) (by kernel_rfl) rfl rfl ⟨hx213_0, hx213_1, hx213_2⟩ (fun hHeld => ?_); refine ke dp.tab10 dp.bits10 (fun HT_ HW_ => ?_);generalize w19.drew = w20 at HO208 HB hx213_0 hx213_1 hx213_2 hHeld ⊢;refine pu 0 (some 30) (onA 12 1) HT_ (h := ?_);refine pu 1 (some 31) (onA 12 2) HT_ (h := ?_);refine pu 2 (some 32) (onA 12 3) HT_ (h := ?_);refine pu 4 (some 34) (bA 12 23) HT_ (h := ?_);refine pu 5 (some 35) (bA 12 55) HT_ (h := ?_);refine pu 6 (some 36) (bA 12 119) HT_ (h := ?_);refine take_ (i := 7) (N := some 37) (v := ?_) (a' := ?_) (bA 12 247) rfl rfl (ka HT_.out HW_.out (by kernel_rfl)) (fun _ _ _ h => h) (Or.inl ⟨by rfl, ?_⟩) hHeld ?_ ?_;rotate_left
      ·rintro w' ⟨s0, s1, s2⟩;go_simp
       with_reducible rfl
      rotate_left
      ·simp only [Act.put, qg, qh, qi, az, dr];rfl
      refine gq (i := 3) (N := some 33) (onA 12 8) rfl rfl (n7 HT_.out (by kernel_rfl)) (by decide) (fun K hK => ?_);refine dw Tryz.func140 (by kernel_rfl) rfl #[.slice (some ad213) t205.length co18, .int .i64 t209, .int .i64 t204] (by rfl) rfl rfl (by (try simp only [qj, qk, ql]); first | done | rfl | (simp only [qm, qn]; rfl)) ?_
      with_reducible refine (be.calls k _ _ t205 t209 t204 t210 _ ?side1 ?side2 A13.out).mono ?_
      (case side1 => exact zc (Kd.R_reads' HO208.out).2.2)
      (case side2 => exact (Kd.R_reads' HO208.out).2.1)
      rintro e w21 ⟨v211, rfl, ho0, hb⟩;have HS0_ := (hb.cell (qp _ _ (hHeld.1))).trans (hHeld.1);have HS1_ := (hb.cell (qp _ _ (hHeld.2.1))).trans (hHeld.2.1);have HS2_ := (hb.cell (qp _ _ (hHeld.2.2))).trans (hHeld.2.2);refine ⟨_, rfl, ?_⟩;have n0_ := za HO208 hb;have n1_ := am (Kd.R_lower ho0 (ba (zB HB)));have n2_ := zb HB hb;clear HO208;clear HB;have HO208 := n0_;have HO212 := n1_;have HB := n2_;clear n0_ n1_ n2_
      (try clear hb)
      (try clear hb2)
      (try clear hk)
      (try clear hi)
      (try clear ho0)
      refine hK.out _ _ ⟨HS0_, HS1_, HS2_⟩ (fun hHeld => ?_);clear hK K;refine i6 (a' := ?_) ?_ ?_;rotate_left
      ·show Act.put _ (some 33) _ = _;simp only [Act.put, qg, qh, qi, az, dr];rfl
      refine gq (i := 8) (N := some 38) (onA 12 9) rfl rfl (n7 HT_.out (by kernel_rfl)) (by decide) (fun K hK => ?_);refine dw Tryz.func138 (by kernel_rfl) rfl #[.agg #[.int .i64 ((aa t205 t209).f0), .int .i64 ((aa t205 t209).f1), .bool ((aa t205 t209).f2)]] (by rfl) rfl rfl (by (try simp only [qj, qk, ql]); first | done | rfl | (simp only [qm, qn]; rfl)) ?_
      with_reducible refine (i9.calls ((aa t205 t209).f0) ((aa t205 t209).f1) ((aa t205 t209).f2) t214 _ A16.out).mono ?_
      rintro e w22 ⟨rfl, hb⟩;have HS0_ := (hb.cell (qp _ _ (hHeld.1))).trans (hHeld.1);have HS1_ := (hb.cell (qp _ _ (hHeld.2.1))).trans (hHeld.2.1);have HS2_ := (hb.cell (qp _ _ (hHeld.2.2))).trans (hHeld.2.2);refine ⟨_, rfl, ?_⟩;have n0_ := za HO208 hb;have n1_ := za HO212 hb;have n2_ := zb HB hb;clear HO208;clear HO212;clear HB;have HO208 := n0_;have HO212 := n1_;have HB := n2_;clear n0_ n1_ n2_
      (try clear hb)
      (try clear hb2)
      (try clear hk)
      (try clear hi)
      refine hK.out _ _ ⟨HS0_, HS1_, HS2_⟩ (fun hHeld => ?_);clear hK K;refine i6 (a' := ?_) ?_ ?_;rotate_left
      ·show Act.put _ (some 38) _ = _;simp only [Act.put, qg, qh, qi, az, dr];rfl
      refine pu 9 (some 6) (onA 12 10) HT_ (h := ?_);refine pu 10 (some 7) (onA 12 11) HT_ (h := ?_);refine pu 11 (some 8) (onA 12 12) HT_ (h := ?_);refine fp (ol HT_.out (by kernel_rfl)) ?_
      try go_wp2
      go_ret3;exact ⟨_, ze, by (with_reducible repeat (first | apply qa | apply qb | apply qc)); exact HO212.out, zB HB⟩
     ·rw [if_neg c15] at H;exact absurd H (by simp)
    ·rw [if_neg c14] at H;exact absurd H (by simp)
  ·replace c7 := Bool.eq_false_iff.mpr c7;subst c7;have H1 : (some (([] : List (S160)), 0, 6)) = some (r1, r2, r3) := by rw [if_neg (show ¬ (false = true) by decide)] at H; exact H
   clear H;have H := H1;clear H1;simp only [Option.some.injEq, Prod.mk.injEq] at H;obtain ⟨rfl, rfl, rfl⟩ := H;go_enter Tryz.func101, Tryz.ntmps101;go_wp2_with (first | ((with_reducible refine ak (f := 99) rfl ?_); refine zl (some 14) Tryz.func99 #[.int .i64 a1] ?_; (with_reducible refine (gf.calls a1 t204 _ A4.out).mono ?_); rintro e w' ⟨rfl, ⟨nd, rfl⟩⟩; refine ⟨_, rfl, ?_⟩) | ((with_reducible refine ak (f := 45) rfl ?_); refine zl (some 19) Tryz.func45 #[.slice A0 l0.length c0] ?_; (with_reducible refine (bi.calls k _ _ l0 t205 false _ ?side1 ?side2 A6.out).mono ?_); (case side1 => exact zc HR0.out); (case side2 => exact HC0.out); rintro e w23 ⟨v207, rfl, ho0, hb⟩; refine ⟨_, rfl, ?_⟩; have n0_ := am (Kd.R_lower ho0 (ba (zB HB))); have n1_ := zb HB hb; clear HB; have HO208 := n0_; have HB := n1_; clear n0_ n1_; (try clear hb); (try clear ho0)))
   go_ret3;exact ⟨_, ze, by first | exact Kd.R_nil _ _ _ _ _ | exact Kd.N_nil _ _ _ _ _ | exact Kd.V_nil _ _ _ _ _ | exact Kd.Q_nil _ _ _ _ _ | exact Kd.S_nil _ _ _ _ _, zB HB⟩
def bu.l0 : Nat → Int → List (S116) → Int → Int → Option (Int)
 | 0, _, _, _, _ => none
 | k + 1, x3, x6, x7, x8 => if x8 < x7 then (if 0 ≤ x8 then (if x8 < (x6.length : Int) then ((ci.f ((aa x6 x8).f1)).bind fun t356 => (if t356 = true then (if x3 > 512 then (some 0) else (bu.l0 k (wrap64 (x3 + ((aa x6 x8).f1))) x6 x7 (wrap64 (x8 + 1)))) else (some 0))) else (none)) else (none)) else (some x3)
def bu.f (k : Nat) (l0 : List (S116)) : Option (Int) := bu.l0 k 0 l0 (l0.length : Int) 0
theorem bu.calls (k : Nat) (A0 : Option Addr) (c0 : Nat) (l0 : List (S116)) (r : Int) (w : World) (hr0 : Kd.C ld w A0 l0.length l0) (hc0 : l0.length ≤ c0) (h : bu.f k l0 = some r) : Calls Tryz.prog 170 #[.slice A0 l0.length c0] w fun e w' => e = .returned (.int .i64 r) ∧ Below w.heap.size w w' := by
 have hu116 := Tryz.underlying116;have HR0 := am hr0;have HC0 := am hc0;clear hr0 hc0;have HB := am (Below.refl w.heap.size w);have H : (bu.l0 k 0 l0 (l0.length : Int) 0) = some r := h;clear h;have H' := am H;clear H;go_enter Tryz.func170, Tryz.ntmps170;go_wp2;go_loopg [3, 8] k (fun kq v3 v8 w' => ∃ (x3_1 : Int) (x8_1 : Int), v3 = .int .i64 x3_1 ∧ v8 = .int .i64 x8_1 ∧ Aside0 (bu.l0 kq x3_1 l0 (l0.length : Int) x8_1 = some r) ∧ Aside0 (kq ≤ k) ∧ Aside0 (Below w.heap.size w w'))
 case atStart => exact ⟨(0), (0), zs, zs, H', ⟨Nat.le_refl _⟩, ⟨zB HB⟩⟩
 case round =>
  clear H';obtain ⟨x3_1, x8_1, rfl, rfl, HA, HK1, HB⟩ := hrel;cases gk with
  | zero => exact absurd HA.out (by simp [bu.l0])
  | succ k1 =>
   have H := HA.out;clear HA;simp only [bu.l0] at H;by_cases c2 : x8_1 < (l0.length : Int)
   ·rw [if_pos c2] at H;have c2b0 := decide_eq_true c2;clear c2;by_cases c3 : 0 ≤ x8_1
    ·rw [if_pos c3] at H;have c3b0 := decide_eq_true c3;clear c3;by_cases c4 : x8_1 < (l0.length : Int)
     ·rw [if_pos c4] at H;have c4b0 := decide_eq_true c4;clear c4;replace H := Option.bind_eq_some_iff.mp H;obtain ⟨t356, A50, H⟩ := H
      try dsimp only at H
      have A5 := am A50;clear A50;by_cases c6 : t356 = true
      ·subst c6;have H1 : (if x3_1 > 512 then (some 0) else (bu.l0 k1 (wrap64 (x3_1 + ((aa l0 x8_1).f1))) l0 (l0.length : Int) (wrap64 (x8_1 + 1)))) = some r := by rw [if_pos rfl] at H; exact H
       clear H;have H := H1;clear H1;by_cases c7 : x3_1 > 512
       ·rw [if_pos c7] at H;have c7b0 : decide (512 < x3_1) = true := decide_eq_true c7;clear c7;obtain rfl := Option.some.inj H;have p354 : 0 ≤ (x8_1 : Int) := zu;have q354 : x8_1 < (l0.length : Int) := zu;obtain ⟨ad354, e354, hx354_0, hx354_1, hx354_2⟩ := dx HR0.out x8_1 p354 q354;cases e354;replace hx354_0 := zw HB hx354_0;replace hx354_1 := zw HB hx354_1;replace hx354_2 := zw HB hx354_2;replace p354 := eq_true p354;replace q354 := eq_true q354;go_wp2_with (first | ((with_reducible refine bn (N := 5) rfl ?_); refine b9 ?hg (N := 5) ?hd (cs := #[.int .i64 0, .int .i64 0, .bool false]) (t := 116) ?hr ?_; (case hd => rfl); (case hg => rfl); (case hr => first | (go_simp; done) | (go_simp; rfl)); intro gb355 hg w8 hbox hb; have GW355 := zg HB hg; have GE355 := GW355; replace HB := zb HB hb; have BK355 := am hbox; clear hb hbox hg; have hcz9_0 := zk BK355 0 (.int .i64 0); have hcz9_1 := zk BK355 1 (.int .i64 0); have hcz9_2 := zk BK355 2 (.bool false); have hfz9_0 := ac BK355.out 0; have hfz9_1 := ac BK355.out 1; have hfz9_2 := ac BK355.out 2) | ((with_reducible refine ak (f := 125) rfl ?_); refine zl (some 14) Tryz.func125 #[.int .i64 ((aa l0 x8_1).f1)] ?_; (with_reducible refine (ci.calls ((aa l0 x8_1).f1) true _ A5.out).mono ?_); rintro e w' ⟨rfl, ⟨nd, rfl⟩⟩; refine ⟨_, rfl, ?_⟩))
        go_ret;exact ⟨ze, by repeat (first | (with_reducible first | exact HB.out | apply qd | apply qe | apply qf | refine ao ?_ GE355.out) | exact HB.out)⟩
       ·rw [if_neg c7] at H;have c7b0 : decide (512 < x3_1) = false := decide_eq_false c7;clear c7;have H' := am H;clear H;have p354 : 0 ≤ (x8_1 : Int) := zu;have q354 : x8_1 < (l0.length : Int) := zu;obtain ⟨ad354, e354, hx354_0, hx354_1, hx354_2⟩ := dx HR0.out x8_1 p354 q354;cases e354;replace hx354_0 := zw HB hx354_0;replace hx354_1 := zw HB hx354_1;replace hx354_2 := zw HB hx354_2;replace p354 := eq_true p354;replace q354 := eq_true q354;go_wp2_with (first | ((with_reducible refine bn (N := 5) rfl ?_); refine b9 ?hg (N := 5) ?hd (cs := #[.int .i64 0, .int .i64 0, .bool false]) (t := 116) ?hr ?_; (case hd => rfl); (case hg => rfl); (case hr => first | (go_simp; done) | (go_simp; rfl)); intro gb355 hg w10 hbox hb; have GW355 := zg HB hg; have GE355 := GW355; replace HB := zb HB hb; have BK355 := am hbox; clear hb hbox hg; have hcz11_0 := zk BK355 0 (.int .i64 0); have hcz11_1 := zk BK355 1 (.int .i64 0); have hcz11_2 := zk BK355 2 (.bool false); have hfz11_0 := ac BK355.out 0; have hfz11_1 := ac BK355.out 1; have hfz11_2 := ac BK355.out 2) | ((with_reducible refine ak (f := 125) rfl ?_); refine zl (some 14) Tryz.func125 #[.int .i64 ((aa l0 x8_1).f1)] ?_; (with_reducible refine (ci.calls ((aa l0 x8_1).f1) true _ A5.out).mono ?_); rintro e w' ⟨rfl, ⟨nd, rfl⟩⟩; refine ⟨_, rfl, ?_⟩))
        go_roundg k1
        case measure => have := HK1.out; omega
        case rel => exact ⟨(wrap64 (x3_1 + ((aa l0 x8_1).f1))), (wrap64 (x8_1 + 1)), zs, zs, H', ⟨by have := HK1.out; omega⟩, ⟨by repeat (first | (with_reducible first | exact HB.out | apply qd | apply qe | apply qf | refine ao ?_ GE355.out) | exact HB.out)⟩⟩
      ·replace c6 := Bool.eq_false_iff.mpr c6;subst c6;have H1 : (some 0) = some r := by rw [if_neg (show ¬ (false = true) by decide)] at H; exact H
       clear H;have H := H1;clear H1;obtain rfl := Option.some.inj H;have p354 : 0 ≤ (x8_1 : Int) := zu;have q354 : x8_1 < (l0.length : Int) := zu;obtain ⟨ad354, e354, hx354_0, hx354_1, hx354_2⟩ := dx HR0.out x8_1 p354 q354;cases e354;replace hx354_0 := zw HB hx354_0;replace hx354_1 := zw HB hx354_1;replace hx354_2 := zw HB hx354_2;replace p354 := eq_true p354;replace q354 := eq_true q354;go_wp2_with (first | ((with_reducible refine bn (N := 5) rfl ?_); refine b9 ?hg (N := 5) ?hd (cs := #[.int .i64 0, .int .i64 0, .bool false]) (t := 116) ?hr ?_; (case hd => rfl); (case hg => rfl); (case hr => first | (go_simp; done) | (go_simp; rfl)); intro gb355 hg w12 hbox hb; have GW355 := zg HB hg; have GE355 := GW355; replace HB := zb HB hb; have BK355 := am hbox; clear hb hbox hg; have hcz13_0 := zk BK355 0 (.int .i64 0); have hcz13_1 := zk BK355 1 (.int .i64 0); have hcz13_2 := zk BK355 2 (.bool false); have hfz13_0 := ac BK355.out 0; have hfz13_1 := ac BK355.out 1; have hfz13_2 := ac BK355.out 2) | ((with_reducible refine ak (f := 125) rfl ?_); refine zl (some 14) Tryz.func125 #[.int .i64 ((aa l0 x8_1).f1)] ?_; (with_reducible refine (ci.calls ((aa l0 x8_1).f1) false _ A5.out).mono ?_); rintro e w' ⟨rfl, ⟨nd, rfl⟩⟩; refine ⟨_, rfl, ?_⟩))
       go_ret;exact ⟨ze, by repeat (first | (with_reducible first | exact HB.out | apply qd | apply qe | apply qf | refine ao ?_ GE355.out) | exact HB.out)⟩
     ·rw [if_neg c4] at H;exact absurd H (by simp)
    ·rw [if_neg c3] at H;exact absurd H (by simp)
   ·rw [if_neg c2] at H;have c2b0 := decide_eq_false c2;clear c2;obtain rfl := Option.some.inj H;go_wp2;go_ret;exact ⟨ze, zB HB⟩
mutual
def bk.j0 : Nat → List (S116) → Int → Bool → Option (Int × Int × Bool)
 | 0, _, _, _ => none
 | k + 1, x0, x1, x29 => if x29 = true then (some (0, 0, false)) else (if x1 > 0 then (if 0 ≤ (wrap64 (x1 - 1)) then (if (wrap64 (x1 - 1)) < (x0.length : Int) then (bk.j1 k x0 x1 (wrap64 (x1 + 1)) (!((aa x0 (wrap64 (x1 - 1))).f2))) else (none)) else (none)) else (bk.j1 k x0 x1 (wrap64 (x1 + 1)) false))
def bk.j1 : Nat → List (S116) → Int → Int → Bool → Option (Int × Int × Bool)
 | 0, _, _, _, _ => none
 | k + 1, x0, x4, x5, x43 => if x43 = true then (if x5 < (x0.length : Int) then (if 0 ≤ x5 then (if ((aa x0 x5).f2 = true) then (some (wrap64 (x4 - 1), x5, true)) else (some (wrap64 (x4 - 1), wrap64 (x5 + 1), true))) else (none)) else (some (wrap64 (x4 - 1), x5, true))) else (if x5 < (x0.length : Int) then (if 0 ≤ x5 then (if ((aa x0 x5).f2 = true) then (some (x4, x5, true)) else (some (x4, wrap64 (x5 + 1), true))) else (none)) else (some (x4, x5, true)))
end
def bk.f (k : Nat) (l0 : List (S116)) (a1 : Int) : Option (Int × Int × Bool) := (bu.f k l0).bind fun t357 => ((bq.f k l0 t357).bind fun t358 => (if t358 = true then (if a1 < 0 then (bk.j0 k l0 a1 true) else (if a1 ≥ (l0.length : Int) then (bk.j0 k l0 a1 true) else (if 0 ≤ a1 then (if a1 < (l0.length : Int) then (bk.j0 k l0 a1 (!((aa l0 a1).f2))) else (none)) else (none)))) else (bk.j0 k l0 a1 true)))
theorem bk.calls (k : Nat) (A0 : Option Addr) (c0 : Nat) (l0 : List (S116)) (a1 : Int) (r1 : Int) (r2 : Int) (r3 : Bool) (w : World) (hr0 : Kd.C ld w A0 l0.length l0) (hc0 : l0.length ≤ c0) (h : bk.f k l0 a1 = some (r1, r2, r3)) : Calls Tryz.prog 169 #[.slice A0 l0.length c0, .int .i64 a1] w fun e w' => e = .returned (.tuple #[.int .i64 r1, .int .i64 r2, .bool r3]) ∧ Below w.heap.size w w' := by
 have HR0 := am hr0;have HC0 := am hc0;clear hr0 hc0;have HB := am (Below.refl w.heap.size w);have H : ((bu.f k l0).bind fun t357 => ((bq.f k l0 t357).bind fun t358 => (if t358 = true then (if a1 < 0 then (bk.j0 k l0 a1 true) else (if a1 ≥ (l0.length : Int) then (bk.j0 k l0 a1 true) else (if 0 ≤ a1 then (if a1 < (l0.length : Int) then (bk.j0 k l0 a1 (!((aa l0 a1).f2))) else (none)) else (none)))) else (bk.j0 k l0 a1 true)))) = some (r1, r2, r3) := h;clear h;have HC3 := am H;clear H;go_enter Tryz.func169, Tryz.ntmps169;go_upto_region 1 with (fail);go_cut [29] (fun v29 wc => ∃ (kq : Nat) (x29_2 : Bool), v29 = .bool x29_2 ∧ Aside0 (bk.j0 kq l0 a1 x29_2 = some (r1, r2, r3)) ∧ Aside0 (kq ≤ k) ∧ Aside0 (Below w.heap.size w wc))
 case first =>
  have H := HC3.out;clear HC3;replace H := Option.bind_eq_some_iff.mp H;obtain ⟨t357, A40, H⟩ := H
  try dsimp only at H
  have A4 := am A40;clear A40;replace H := Option.bind_eq_some_iff.mp H;obtain ⟨t358, A50, H⟩ := H
  try dsimp only at H
  have A5 := am A50;clear A50;by_cases c6 : t358 = true
  ·subst c6;have H1 : (if a1 < 0 then (bk.j0 k l0 a1 true) else (if a1 ≥ (l0.length : Int) then (bk.j0 k l0 a1 true) else (if 0 ≤ a1 then (if a1 < (l0.length : Int) then (bk.j0 k l0 a1 (!((aa l0 a1).f2))) else (none)) else (none)))) = some (r1, r2, r3) := by rw [if_pos rfl] at H; exact H
   clear H;have H := H1;clear H1;by_cases c7 : a1 < 0
   ·rw [if_pos c7] at H;have c7b0 := decide_eq_true c7;clear c7
    (first | rw [c7b0] | (simp only [az, dr]; rw [c7b0]) | skip)
    have H' := am H;clear H;go_wp2_with (first | ((with_reducible refine ak (f := 170) rfl ?_); refine zl (some 9) Tryz.func170 #[.slice A0 l0.length c0] ?_; (with_reducible refine (bu.calls k _ _ l0 t357 _ ?side1 ?side2 A4.out).mono ?_); (case side1 => exact zc (Kd.C_below HR0.out HB.out)); (case side2 => exact HC0.out); rintro e w8 ⟨rfl, hb⟩; refine ⟨_, rfl, ?_⟩; have n0_ := zb HB hb; replace HB := n0_; clear n0_; (try clear hb)) | ((with_reducible refine ak (f := 95) rfl ?_); refine zl (some 10) Tryz.func95 #[.slice A0 l0.length c0, .int .i64 t357] ?_; (with_reducible refine (bq.calls k _ _ l0 t357 true _ ?side1 ?side2 A5.out).mono ?_); (case side1 => exact zc (Kd.C_below HR0.out HB.out)); (case side2 => exact HC0.out); rintro e w9 ⟨rfl, hb⟩; refine ⟨_, rfl, ?_⟩; have n0_ := zb HB hb; replace HB := n0_; clear n0_; (try clear hb)))
    go_meet
    case rel => exact ⟨_, (true), zs, H', ⟨by first | omega | exact Nat.le_refl _⟩, ⟨zB HB⟩⟩
   ·rw [if_neg c7] at H;have c7b0 := decide_eq_false c7;clear c7
    (first | rw [c7b0] | (simp only [az, dr]; rw [c7b0]) | skip)
    by_cases c10 : a1 ≥ (l0.length : Int)
    ·rw [if_pos c10] at H;have c10b0 : decide ((l0.length : Int) ≤ a1) = true := decide_eq_true c10;clear c10;have H' := am H;clear H;go_wp2_with (first | ((with_reducible refine ak (f := 170) rfl ?_); refine zl (some 9) Tryz.func170 #[.slice A0 l0.length c0] ?_; (with_reducible refine (bu.calls k _ _ l0 t357 _ ?side1 ?side2 A4.out).mono ?_); (case side1 => exact zc (Kd.C_below HR0.out HB.out)); (case side2 => exact HC0.out); rintro e w11 ⟨rfl, hb⟩; refine ⟨_, rfl, ?_⟩; have n0_ := zb HB hb; replace HB := n0_; clear n0_; (try clear hb)) | ((with_reducible refine ak (f := 95) rfl ?_); refine zl (some 10) Tryz.func95 #[.slice A0 l0.length c0, .int .i64 t357] ?_; (with_reducible refine (bq.calls k _ _ l0 t357 true _ ?side1 ?side2 A5.out).mono ?_); (case side1 => exact zc (Kd.C_below HR0.out HB.out)); (case side2 => exact HC0.out); rintro e w12 ⟨rfl, hb⟩; refine ⟨_, rfl, ?_⟩; have n0_ := zb HB hb; replace HB := n0_; clear n0_; (try clear hb)))
     go_meet
     case rel => exact ⟨_, (true), zs, H', ⟨by first | omega | exact Nat.le_refl _⟩, ⟨zB HB⟩⟩
    ·rw [if_neg c10] at H;have c10b0 : decide ((l0.length : Int) ≤ a1) = false := decide_eq_false c10;clear c10;by_cases c13 : 0 ≤ a1
     ·rw [if_pos c13] at H;have c13b0 := decide_eq_true c13;clear c13;by_cases c14 : a1 < (l0.length : Int)
      ·rw [if_pos c14] at H;have c14b0 := decide_eq_true c14;clear c14;have H' := am H;clear H;go_wp2_with (first | ((with_reducible refine ak (f := 170) rfl ?_); refine zl (some 9) Tryz.func170 #[.slice A0 l0.length c0] ?_; (with_reducible refine (bu.calls k _ _ l0 t357 _ ?side1 ?side2 A4.out).mono ?_); (case side1 => exact zc (Kd.C_below HR0.out HB.out)); (case side2 => exact HC0.out); rintro e w15 ⟨rfl, hb⟩; refine ⟨_, rfl, ?_⟩; have n0_ := zb HB hb; replace HB := n0_; clear n0_; (try clear hb)) | ((with_reducible refine ak (f := 95) rfl ?_); refine zl (some 10) Tryz.func95 #[.slice A0 l0.length c0, .int .i64 t357] ?_; (with_reducible refine (bq.calls k _ _ l0 t357 true _ ?side1 ?side2 A5.out).mono ?_); (case side1 => exact zc (Kd.C_below HR0.out HB.out)); (case side2 => exact HC0.out); rintro e w16 ⟨rfl, hb⟩; refine ⟨_, rfl, ?_⟩; have n0_ := zb HB hb; replace HB := n0_; clear n0_; (try clear hb); have p359 : 0 ≤ (a1 : Int) := zu; have q359 : a1 < (l0.length : Int) := zu; obtain ⟨ad359, e359, hx359_0, hx359_1, hx359_2⟩ := dx HR0.out a1 p359 q359; cases e359; replace hx359_0 := zw HB hx359_0; replace hx359_1 := zw HB hx359_1; replace hx359_2 := zw HB hx359_2; replace p359 := eq_true p359; replace q359 := eq_true q359))
       go_meet
       case rel => exact ⟨_, (!((aa l0 a1).f2)), zs, H', ⟨by first | omega | exact Nat.le_refl _⟩, ⟨zB HB⟩⟩
      ·rw [if_neg c14] at H;exact absurd H (by simp)
     ·rw [if_neg c13] at H;exact absurd H (by simp)
  ·replace c6 := Bool.eq_false_iff.mpr c6;subst c6;have H1 : (bk.j0 k l0 a1 true) = some (r1, r2, r3) := by rw [if_neg (show ¬ (false = true) by decide)] at H; exact H
   clear H;have H := H1;clear H1;have H' := am H;clear H;go_wp2_with (first | ((with_reducible refine ak (f := 170) rfl ?_); refine zl (some 9) Tryz.func170 #[.slice A0 l0.length c0] ?_; (with_reducible refine (bu.calls k _ _ l0 t357 _ ?side1 ?side2 A4.out).mono ?_); (case side1 => exact zc (Kd.C_below HR0.out HB.out)); (case side2 => exact HC0.out); rintro e w17 ⟨rfl, hb⟩; refine ⟨_, rfl, ?_⟩; have n0_ := zb HB hb; replace HB := n0_; clear n0_; (try clear hb)) | ((with_reducible refine ak (f := 95) rfl ?_); refine zl (some 10) Tryz.func95 #[.slice A0 l0.length c0, .int .i64 t357] ?_; (with_reducible refine (bq.calls k _ _ l0 t357 false _ ?side1 ?side2 A5.out).mono ?_); (case side1 => exact zc (Kd.C_below HR0.out HB.out)); (case side2 => exact HC0.out); rintro e w18 ⟨rfl, hb⟩; refine ⟨_, rfl, ?_⟩; have n0_ := zb HB hb; replace HB := n0_; clear n0_; (try clear hb)))
   go_meet
   case rel => exact ⟨_, (true), zs, H', ⟨by first | omega | exact Nat.le_refl _⟩, ⟨zB HB⟩⟩
 case rest =>
  clear HC3
  try clear c6
  try clear c7
  try clear c7b0
  try clear c10
  try clear c10b0
  try clear c13
  try clear c13b0
  try clear c14
  try clear c14b0
  try clear hx359_0
  try clear hx359_1
  try clear hx359_2
  try clear p359
  try clear q359
  obtain ⟨kq, x29_2, rfl, HA, HJ2, HB⟩ := hcut;cases kq with
  | zero => exact absurd HA.out (by simp [bk.j0])
  | succ kj2 =>
   have H := HA.out;clear HA;simp only [bk.j0] at H;by_cases c19 : x29_2 = true
   ·subst c19;have H1 : (some (0, 0, false)) = some (r1, r2, r3) := by rw [if_pos rfl] at H; exact H
    clear H;have H := H1;clear H1;simp only [Option.some.injEq, Prod.mk.injEq] at H;obtain ⟨rfl, rfl, rfl⟩ := H;go_wp2;go_ret3;exact ⟨ze, zB HB⟩
   ·replace c19 := Bool.eq_false_iff.mpr c19;subst c19;have H1 : (if a1 > 0 then (if 0 ≤ (wrap64 (a1 - 1)) then (if (wrap64 (a1 - 1)) < (l0.length : Int) then (bk.j1 kj2 l0 a1 (wrap64 (a1 + 1)) (!((aa l0 (wrap64 (a1 - 1))).f2))) else (none)) else (none)) else (bk.j1 kj2 l0 a1 (wrap64 (a1 + 1)) false)) = some (r1, r2, r3) := by rw [if_neg (show ¬ (false = true) by decide)] at H; exact H
    clear H;have H := H1;clear H1;have HC20 := am H;clear H;go_upto_region 4 with (fail);go_cut [43] (fun v43 wc => ∃ (kq : Nat) (x43_19 : Bool), v43 = .bool x43_19 ∧ Aside0 (bk.j1 kq l0 a1 (wrap64 (a1 + 1)) x43_19 = some (r1, r2, r3)) ∧ Aside0 (kq ≤ kj2) ∧ Aside0 (Below w.heap.size w wc))
    case first =>
     have H := HC20.out;clear HC20;by_cases c21 : a1 > 0
     ·rw [if_pos c21] at H;have c21b0 : decide (0 < a1) = true := decide_eq_true c21;clear c21
      (first | rw [c21b0] | (simp only [az, dr]; rw [c21b0]) | skip)
      obtain ⟨ji22, hji22⟩ : ∃ j_ : Int, (wrap64 (a1 - 1)) = j_ := ⟨_, rfl⟩;replace H : (if 0 ≤ (ji22) then (if (ji22) < (l0.length : Int) then (bk.j1 kj2 l0 a1 (wrap64 (a1 + 1)) (!((aa l0 (ji22)).f2))) else (none)) else (none)) = some (r1, r2, r3) := by first | (rw [hji22] at H; exact H) | (simp only [hji22] at H ⊢; exact H)
      have hji22w : (IntKind.i64.wrap (a1 - 1)) = ji22 := (az _).trans hji22;by_cases c23 : 0 ≤ (ji22)
      ·rw [if_pos c23] at H;have c23b0 := decide_eq_true c23;clear c23;by_cases c24 : (ji22) < (l0.length : Int)
       ·rw [if_pos c24] at H;have c24b0 := decide_eq_true c24;clear c24;have H' := am H;clear H;have p360 : 0 ≤ ((ji22) : Int) := zu;have q360 : (ji22) < (l0.length : Int) := zu;obtain ⟨ad360, e360, hx360_0, hx360_1, hx360_2⟩ := dx HR0.out (ji22) p360 q360;cases e360;replace hx360_0 := zw HB hx360_0;replace hx360_1 := zw HB hx360_1;replace hx360_2 := zw HB hx360_2;replace p360 := eq_true p360;replace q360 := eq_true q360;go_wp2;go_meet
        case rel => exact ⟨_, (!((aa l0 (ji22)).f2)), (by first | rfl | (simp; done) | (simp only [← hji22] <;> (first | rfl | simp)) | (simp [*]; done)), (by first | exact H' | (simp only [hji22]; exact H')), ⟨by have := HJ2.out; first | omega | exact Nat.le_refl _⟩, ⟨zB HB⟩⟩
       ·rw [if_neg c24] at H;exact absurd H (by simp)
      ·rw [if_neg c23] at H;exact absurd H (by simp)
     ·rw [if_neg c21] at H;have c21b0 : decide (0 < a1) = false := decide_eq_false c21;clear c21
      (first | rw [c21b0] | (simp only [az, dr]; rw [c21b0]) | skip)
      have H' := am H;clear H;go_wp2;go_meet
      case rel => exact ⟨_, (false), zs, (by first | exact H' | ((try rw [hji22]); exact H')), ⟨by have := HJ2.out; first | omega | exact Nat.le_refl _⟩, ⟨zB HB⟩⟩
    case rest =>
     clear HC20
     try clear c6
     try clear c7
     try clear c7b0
     try clear c10
     try clear c10b0
     try clear c13
     try clear c13b0
     try clear c14
     try clear c14b0
     try clear c19
     try clear c21
     try clear c21b0
     try clear c23
     try clear c23b0
     try clear c24
     try clear c24b0
     try clear hx359_0
     try clear hx359_1
     try clear hx359_2
     try clear hx360_0
     try clear hx360_1
     try clear hx360_2
     try clear p359
     try clear p360
     try clear q359
     try clear q360
     obtain ⟨kq, x43_19, rfl, HA, HJ19, HB⟩ := hcut;cases kq with
     | zero => exact absurd HA.out (by simp [bk.j1])
     | succ kj19 =>
      have H := HA.out;clear HA;simp only [bk.j1] at H;by_cases c25 : x43_19 = true
      ·subst c25;have H1 : (if (wrap64 (a1 + 1)) < (l0.length : Int) then (if 0 ≤ (wrap64 (a1 + 1)) then (if ((aa l0 (wrap64 (a1 + 1))).f2 = true) then (some (wrap64 (a1 - 1), (wrap64 (a1 + 1)), true)) else (some (wrap64 (a1 - 1), wrap64 ((wrap64 (a1 + 1)) + 1), true))) else (none)) else (some (wrap64 (a1 - 1), (wrap64 (a1 + 1)), true))) = some (r1, r2, r3) := by rw [if_pos rfl] at H; exact H
       clear H;have H := H1;clear H1;by_cases c26 : (wrap64 (a1 + 1)) < (l0.length : Int)
       ·rw [if_pos c26] at H;have c26b0 := decide_eq_true c26;clear c26;obtain ⟨ji27, hji27⟩ : ∃ j_ : Int, (wrap64 (a1 + 1)) = j_ := ⟨_, rfl⟩;replace H : (if 0 ≤ (ji27) then (if ((aa l0 (ji27)).f2 = true) then (some (wrap64 (a1 - 1), (ji27), true)) else (some (wrap64 (a1 - 1), wrap64 ((ji27) + 1), true))) else (none)) = some (r1, r2, r3) := by first | (rw [hji27] at H; exact H) | (simp only [hji27] at H ⊢; exact H)
        (try rw [hji27] at c26b0)
        have hji27w : (IntKind.i64.wrap (a1 + 1)) = ji27 := (az _).trans hji27;by_cases c28 : 0 ≤ (ji27)
        ·rw [if_pos c28] at H;have c28b0 := decide_eq_true c28;clear c28
         first | (generalize hbq29 : (aa l0 (ji27)).f2 = bq29 at *; replace hbq29 := hbq29.symm) | (obtain ⟨bq29, hbq29⟩ : ∃ b_ : Bool, b_ = ((aa l0 (ji27)).f2) := ⟨_, rfl⟩)
         replace H : (if (bq29 = true) then (some (wrap64 (a1 - 1), (ji27), true)) else (some (wrap64 (a1 - 1), wrap64 ((ji27) + 1), true))) = some (r1, r2, r3) := by first | exact H | (rw [← hbq29] at H; exact H)
         have Nbq29 := am hbq29;clear hbq29
         (try rw [← Nbq29.out])
         by_cases c30 : (bq29 = true)
         ·subst c30;have H1 : (some (wrap64 (a1 - 1), (ji27), true)) = some (r1, r2, r3) := by rw [if_pos rfl] at H; exact H
          clear H;have H := H1;clear H1;simp only [Option.some.injEq, Prod.mk.injEq] at H;obtain ⟨rfl, rfl, rfl⟩ := H;have p361 : 0 ≤ ((ji27) : Int) := zu;have q361 : (ji27) < (l0.length : Int) := zu;obtain ⟨ad361, e361, hx361_0, hx361_1, hx361_2⟩ := dx HR0.out (ji27) p361 q361
          (try rw [← Nbq29.out] at hx361_2)
          cases e361;replace hx361_0 := zw HB hx361_0;replace hx361_1 := zw HB hx361_1;replace hx361_2 := zw HB hx361_2;replace p361 := eq_true p361;replace q361 := eq_true q361;go_wp2;go_ret3;exact ⟨by first | rfl | (simp [db, dc] <;> rfl) | (simp only [← hji27]; first | rfl | (simp [db, dc] <;> rfl)) | (simp [*, db, dc] <;> rfl), zB HB⟩
         ·replace c30 := Bool.eq_false_iff.mpr c30;subst c30;have H1 : (some (wrap64 (a1 - 1), wrap64 ((ji27) + 1), true)) = some (r1, r2, r3) := by rw [if_neg (show ¬ (false = true) by decide)] at H; exact H
          clear H;have H := H1;clear H1;simp only [Option.some.injEq, Prod.mk.injEq] at H;obtain ⟨rfl, rfl, rfl⟩ := H;have p361 : 0 ≤ ((ji27) : Int) := zu;have q361 : (ji27) < (l0.length : Int) := zu;obtain ⟨ad361, e361, hx361_0, hx361_1, hx361_2⟩ := dx HR0.out (ji27) p361 q361
          (try rw [← Nbq29.out] at hx361_2)
          cases e361;replace hx361_0 := zw HB hx361_0;replace hx361_1 := zw HB hx361_1;replace hx361_2 := zw HB hx361_2;replace p361 := eq_true p361;replace q361 := eq_true q361;go_wp2;go_ret3;exact ⟨by first | rfl | (simp [db, dc] <;> rfl) | (simp only [← hji27]; first | rfl | (simp [db, dc] <;> rfl)) | (simp [*, db, dc] <;> rfl), zB HB⟩
        ·rw [if_neg c28] at H;exact absurd H (by simp)
       ·rw [if_neg c26] at H;have c26b0 := decide_eq_false c26;clear c26;simp only [Option.some.injEq, Prod.mk.injEq] at H;obtain ⟨rfl, rfl, rfl⟩ := H;go_wp2;go_ret3;exact ⟨ze, zB HB⟩
      ·replace c25 := Bool.eq_false_iff.mpr c25;subst c25;have H1 : (if (wrap64 (a1 + 1)) < (l0.length : Int) then (if 0 ≤ (wrap64 (a1 + 1)) then (if ((aa l0 (wrap64 (a1 + 1))).f2 = true) then (some (a1, (wrap64 (a1 + 1)), true)) else (some (a1, wrap64 ((wrap64 (a1 + 1)) + 1), true))) else (none)) else (some (a1, (wrap64 (a1 + 1)), true))) = some (r1, r2, r3) := by rw [if_neg (show ¬ (false = true) by decide)] at H; exact H
       clear H;have H := H1;clear H1;by_cases c31 : (wrap64 (a1 + 1)) < (l0.length : Int)
       ·rw [if_pos c31] at H;have c31b0 := decide_eq_true c31;clear c31;obtain ⟨ji32, hji32⟩ : ∃ j_ : Int, (wrap64 (a1 + 1)) = j_ := ⟨_, rfl⟩;replace H : (if 0 ≤ (ji32) then (if ((aa l0 (ji32)).f2 = true) then (some (a1, (ji32), true)) else (some (a1, wrap64 ((ji32) + 1), true))) else (none)) = some (r1, r2, r3) := by first | (rw [hji32] at H; exact H) | (simp only [hji32] at H ⊢; exact H)
        (try rw [hji32] at c31b0)
        have hji32w : (IntKind.i64.wrap (a1 + 1)) = ji32 := (az _).trans hji32;by_cases c33 : 0 ≤ (ji32)
        ·rw [if_pos c33] at H;have c33b0 := decide_eq_true c33;clear c33
         first | (generalize hbq34 : (aa l0 (ji32)).f2 = bq34 at *; replace hbq34 := hbq34.symm) | (obtain ⟨bq34, hbq34⟩ : ∃ b_ : Bool, b_ = ((aa l0 (ji32)).f2) := ⟨_, rfl⟩)
         replace H : (if (bq34 = true) then (some (a1, (ji32), true)) else (some (a1, wrap64 ((ji32) + 1), true))) = some (r1, r2, r3) := by first | exact H | (rw [← hbq34] at H; exact H)
         have Nbq34 := am hbq34;clear hbq34
         (try rw [← Nbq34.out])
         by_cases c35 : (bq34 = true)
         ·subst c35;have H1 : (some (a1, (ji32), true)) = some (r1, r2, r3) := by rw [if_pos rfl] at H; exact H
          clear H;have H := H1;clear H1;simp only [Option.some.injEq, Prod.mk.injEq] at H;obtain ⟨rfl, rfl, rfl⟩ := H;have p362 : 0 ≤ ((ji32) : Int) := zu;have q362 : (ji32) < (l0.length : Int) := zu;obtain ⟨ad362, e362, hx362_0, hx362_1, hx362_2⟩ := dx HR0.out (ji32) p362 q362
          (try rw [← Nbq34.out] at hx362_2)
          cases e362;replace hx362_0 := zw HB hx362_0;replace hx362_1 := zw HB hx362_1;replace hx362_2 := zw HB hx362_2;replace p362 := eq_true p362;replace q362 := eq_true q362;go_wp2;go_ret3;exact ⟨by first | rfl | (simp [db, dc] <;> rfl) | (simp only [← hji32]; first | rfl | (simp [db, dc] <;> rfl)) | (simp [*, db, dc] <;> rfl), zB HB⟩
         ·replace c35 := Bool.eq_false_iff.mpr c35;subst c35;have H1 : (some (a1, wrap64 ((ji32) + 1), true)) = some (r1, r2, r3) := by rw [if_neg (show ¬ (false = true) by decide)] at H; exact H
          clear H;have H := H1;clear H1;simp only [Option.some.injEq, Prod.mk.injEq] at H;obtain ⟨rfl, rfl, rfl⟩ := H;have p362 : 0 ≤ ((ji32) : Int) := zu;have q362 : (ji32) < (l0.length : Int) := zu;obtain ⟨ad362, e362, hx362_0, hx362_1, hx362_2⟩ := dx HR0.out (ji32) p362 q362
          (try rw [← Nbq34.out] at hx362_2)
          cases e362;replace hx362_0 := zw HB hx362_0;replace hx362_1 := zw HB hx362_1;replace hx362_2 := zw HB hx362_2;replace p362 := eq_true p362;replace q362 := eq_true q362;go_wp2;go_ret3;exact ⟨by first | rfl | (simp [db, dc] <;> rfl) | (simp only [← hji32]; first | rfl | (simp [db, dc] <;> rfl)) | (simp [*, db, dc] <;> rfl), zB HB⟩
        ·rw [if_neg c33] at H;exact absurd H (by simp)
       ·rw [if_neg c31] at H;have c31b0 := decide_eq_false c31;clear c31;simp only [Option.some.injEq, Prod.mk.injEq] at H;obtain ⟨rfl, rfl, rfl⟩ := H;go_wp2;go_ret3;exact ⟨ze, zB HB⟩
end Go.Proofs.YtmfhaliclnnbaaaGreat.XTopWhole
