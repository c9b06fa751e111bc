import Derived.Test.YtmfhaliclnnbaaaGreatZTopRoundM1
import Derived.Test.YtmfhaliclnnbaaaGreatZTopRoundM3
import Derived.Test.YtmfhaliclnnbaaaGreatZTopRoundM5
namespace Go.Proofs.YtmfhaliclnnbaaaGreat.XTopWhole
open Go.RowKit Go.Proofs.YtmfhaliclnnbaaaGreatW.PrintWords Go.Proofs.YtmfhaliclnnbaaaGreatW.PrintLast Go.Proofs.YtmfhaliclnnbaaaGreatW.PrintMore
attribute [local go_sem] pa pi ra rn nh my o4 pb
set_option linter.unusedVariables false
set_option linter.unusedSimpArgs false
set_option maxRecDepth 100000
set_option maxHeartbeats 8000000
def i9.f (a0_0 : Int) (a0_1 : Int) (a0_2 : Bool) : Option (Int) := if a0_0 < 0 then (some 0) else (if a0_0 > 512 then (some 0) else (some (wrap64 ((wrap64 (a0_0 + 1)) * 8))))
theorem i9.calls (a0_0 : Int) (a0_1 : Int) (a0_2 : Bool) (r : Int) (w : World) (h : i9.f a0_0 a0_1 a0_2 = some r) : Calls Tryz.prog 138 #[.agg #[.int .i64 a0_0, .int .i64 a0_1, .bool a0_2]] w fun e w' => e = .returned (.int .i64 r) ∧ Below w.heap.size w w' := by
 have hu116 := Tryz.underlying116;have HB := am (Below.refl w.heap.size w);have H : (if a0_0 < 0 then (some 0) else (if a0_0 > 512 then (some 0) else (some (wrap64 ((wrap64 (a0_0 + 1)) * 8))))) = some r := h;clear h;by_cases c2 : a0_0 < 0
 ·rw [if_pos c2] at H;have c2b0 := decide_eq_true c2;clear c2;obtain rfl := Option.some.inj H;go_enter Tryz.func138, Tryz.ntmps138;go_wp2_with (first | ((with_reducible refine bn (N := 1) rfl ?_); refine b9 ?hg (N := 1) ?hd (cs := #[.int .i64 a0_0, .int .i64 a0_1, .bool a0_2]) (t := 116) ?hr ?_; (case hd => rfl); (case hg => rfl); (case hr => first | (go_simp; done) | (go_simp; rfl)); intro gb155 hg w3 hbox hb; have GW155 := zg HB hg; have GE155 := GW155; replace HB := zb HB hb; have BK155 := am hbox; clear hb hbox hg; have hcz4_0 := zk BK155 0 (.int .i64 a0_0); have hcz4_1 := zk BK155 1 (.int .i64 a0_1); have hcz4_2 := zk BK155 2 (.bool a0_2); have hfz4_0 := ac BK155.out 0; have hfz4_1 := ac BK155.out 1; have hfz4_2 := ac BK155.out 2))
  go_ret;exact ⟨by first | rfl | (simp [db, dc] <;> rfl) | (simp [*, db, dc] <;> (first | rfl | rw [Int.tdiv_eq_ediv_of_nonneg (by omega)])), by repeat (first | (with_reducible first | exact HB.out | apply qd | apply qe | apply qf | refine ao ?_ GE155.out) | exact HB.out)⟩
 ·rw [if_neg c2] at H;have c2b0 := decide_eq_false c2;clear c2;by_cases c5 : a0_0 > 512
  ·rw [if_pos c5] at H;have c5b0 : decide (512 < a0_0) = true := decide_eq_true c5;clear c5;obtain rfl := Option.some.inj H;go_enter Tryz.func138, Tryz.ntmps138;go_wp2_with (first | ((with_reducible refine bn (N := 1) rfl ?_); refine b9 ?hg (N := 1) ?hd (cs := #[.int .i64 a0_0, .int .i64 a0_1, .bool a0_2]) (t := 116) ?hr ?_; (case hd => rfl); (case hg => rfl); (case hr => first | (go_simp; done) | (go_simp; rfl)); intro gb155 hg w6 hbox hb; have GW155 := zg HB hg; have GE155 := GW155; replace HB := zb HB hb; have BK155 := am hbox; clear hb hbox hg; have hcz7_0 := zk BK155 0 (.int .i64 a0_0); have hcz7_1 := zk BK155 1 (.int .i64 a0_1); have hcz7_2 := zk BK155 2 (.bool a0_2); have hfz7_0 := ac BK155.out 0; have hfz7_1 := ac BK155.out 1; have hfz7_2 := ac BK155.out 2))
   go_ret;exact ⟨by first | rfl | (simp [db, dc] <;> rfl) | (simp [*, db, dc] <;> (first | rfl | rw [Int.tdiv_eq_ediv_of_nonneg (by omega)])), by repeat (first | (with_reducible first | exact HB.out | apply qd | apply qe | apply qf | refine ao ?_ GE155.out) | exact HB.out)⟩
  ·rw [if_neg c5] at H;have c5b0 : decide (512 < a0_0) = false := decide_eq_false c5;clear c5;obtain rfl := Option.some.inj H;go_enter Tryz.func138, Tryz.ntmps138;go_wp2_with (first | ((with_reducible refine bn (N := 1) rfl ?_); refine b9 ?hg (N := 1) ?hd (cs := #[.int .i64 a0_0, .int .i64 a0_1, .bool a0_2]) (t := 116) ?hr ?_; (case hd => rfl); (case hg => rfl); (case hr => first | (go_simp; done) | (go_simp; rfl)); intro gb155 hg w8 hbox hb; have GW155 := zg HB hg; have GE155 := GW155; replace HB := zb HB hb; have BK155 := am hbox; clear hb hbox hg; have hcz9_0 := zk BK155 0 (.int .i64 a0_0); have hcz9_1 := zk BK155 1 (.int .i64 a0_1); have hcz9_2 := zk BK155 2 (.bool a0_2); have hfz9_0 := ac BK155.out 0; have hfz9_1 := ac BK155.out 1; have hfz9_2 := ac BK155.out 2))
   go_ret;exact ⟨by first | rfl | (simp [db, dc] <;> rfl) | (simp [*, db, dc] <;> (first | rfl | rw [Int.tdiv_eq_ediv_of_nonneg (by omega)])), by repeat (first | (with_reducible first | exact HB.out | apply qd | apply qe | apply qf | refine ao ?_ GE155.out) | exact HB.out)⟩
section
open Go.Shelf Go.Lib Go.Proofs
def qf9 : Ren := { f := fun x => match x with | 8 => 178 | 6 => 136 | n => n, t := fun x => match x with | 22 => 93 | 23 => 116 | 25 => 174 | n => n, g := fun n => n }
theorem qlp : SlLaysH0.n6 Tryz.prog qf9 :=
  { mixed := by kernel_rfl, f6 := ⟨"slices.IndexFunc[[]darning/api.Block,darning/api.Block]", qu (by kernel_rfl), Tryz.func136.trans (congrArg some (by kernel_rfl))⟩,
    t0 := Tryz.underlying0, a0 := Tryz.isAgg0, z0 := Tryz.sizeOf0, v0 := Tryz.zeroValue0, t3 := Tryz.underlying3, a3 := Tryz.isAgg3, z3 := Tryz.sizeOf3, v3 := Tryz.zeroValue3, t4 := Tryz.underlying4, a4 := Tryz.isAgg4, z4 := Tryz.sizeOf4, v4 := Tryz.zeroValue4,
    t22 := Tryz.underlying93, a22 := Tryz.isAgg93, z22 := Tryz.sizeOf93, v22 := Tryz.zeroValue93, t25 := Tryz.underlying174, a25 := Tryz.isAgg174, z25 := Tryz.sizeOf174, v25 := Tryz.zeroValue174 }
theorem qni : SlLaysH0.n8 Tryz.prog qf9 :=
  { mixed := by kernel_rfl, f6 := qlp.f6, f8 := ⟨"slices.ContainsFunc[[]darning/api.Block,darning/api.Block]", qu (by kernel_rfl), Tryz.func178.trans (congrArg some (by kernel_rfl))⟩,
    t0 := Tryz.underlying0, a0 := Tryz.isAgg0, z0 := Tryz.sizeOf0, v0 := Tryz.zeroValue0, t3 := Tryz.underlying3, a3 := Tryz.isAgg3, z3 := Tryz.sizeOf3, v3 := Tryz.zeroValue3, t4 := Tryz.underlying4, a4 := Tryz.isAgg4, z4 := Tryz.sizeOf4, v4 := Tryz.zeroValue4,
    t22 := Tryz.underlying93, a22 := Tryz.isAgg93, z22 := Tryz.sizeOf93, v22 := Tryz.zeroValue93, t25 := Tryz.underlying174, a25 := Tryz.isAgg174, z25 := Tryz.sizeOf174, v25 := Tryz.zeroValue174 }
def rj (a : Int) : Int := if a < 0 then 0 else if a > 512 then 0 else wrap64 ((wrap64 (a + 1)) * 8)
theorem qjp (a b : Int) (c : Bool) : i9.f a b c = some (rj a) := by
  unfold i9.f rj;split
  · rfl
  · split <;> rfl
def qad (x : S116) : List Value := [.int .i64 x.f0, .int .i64 x.f1, .bool x.f2]
def qea (B C : Nat) (off n x0 x1 : Int) (w W w' : World) : Prop :=
  w'.cell? ⟨B, 0, none⟩ = some (.int .i64 off) ∧ w'.cell? ⟨C, 0, none⟩ = some (.int .i64 n) ∧ w'.cell? ⟨W.heap.size, 0, none⟩ = some (.int .i64 x0) ∧ w'.cell? ⟨W.heap.size, 1, none⟩ = some (.int .i64 x1) ∧ w'.cell? ⟨W.heap.size, 2, none⟩ = some (.bool true) ∧ Below w.heap.size w w' ∧ W.heap.size < w'.heap.size
theorem qea.below {B C : Nat} {off n x0 x1 : Int} {w W w' w1 : World} (h : qea B C off n x0 x1 w W w') (hb : Below w'.heap.size w' w1) : qea B C off n x0 x1 w W w1 := by
  obtain ⟨h1, h2, h3, h4, h5, h6, h7⟩ := h;exact ⟨d8 hb h1, d8 hb h2, d8 hb h3, d8 hb h4, d8 hb h5, qw h6 hb, Nat.lt_of_lt_of_le h7 hb.size⟩
def n5 (off n : Int) (x : S116) : Bool := x.f2 && (decide (rj x.f0 ≤ off) && decide (off ≤ wrap64 (wrap64 (wrap64 (x.f0 + x.f1) * 8) - n)))
theorem qm4 (off n : Int) (B C : Nat) (w : World) (hB : B < w.heap.size) (hC : C < w.heap.size) (hcell : w.cell? ⟨B, 0, none⟩ = some (.int .i64 off)) (hcell2 : w.cell? ⟨C, 0, none⟩ = some (.int .i64 n)) : PredBelow Tryz.prog 179 #[.pointer (some ⟨B, 0, none⟩), .pointer (some ⟨C, 0, none⟩)] (fun x : S116 => .agg (qad x).toArray) (n5 off n) w := fun W x hb => by
  have hc : W.cell? ⟨B, 0, none⟩ = some (.int .i64 off) := (hb.cell (p := ⟨B, 0, none⟩) hB).trans hcell;have hd : W.cell? ⟨C, 0, none⟩ = some (.int .i64 n) := (hb.cell (p := ⟨C, 0, none⟩) hC).trans hcell2;have hBW : B < W.heap.size := Nat.lt_of_lt_of_le hB hb.size;have hCW : C < W.heap.size := Nat.lt_of_lt_of_le hC hb.size;obtain ⟨x0, x1, x2⟩ := x;have ho := qjp x0 x1 x2;obtain ⟨v, hv⟩ : ∃ v, rj x0 = v := ⟨_, rfl⟩;rw [hv] at ho;replace ho := Lib.hid ho;show Calls Tryz.prog 179 #[.agg #[.int .i64 x0, .int .i64 x1, .bool x2], .pointer (some ⟨B, 0, none⟩), .pointer (some ⟨C, 0, none⟩)] W _;cases x2
  · go_enter Tryz.func179, Tryz.ntmps179
    go_wp2
    go_quiet (fail)
    go_wp2
    go_ret
    exact ⟨by simp [n5], by repeat (first | exact hb.alloc hb.size _ | apply qd | apply qe | apply qf)⟩
  have hS0 : qea B C off n x0 x1 w W (W.alloc (.cells #[.int .i64 x0, .int .i64 x1, .bool true] 116)).drew := by have hblk : (W.alloc (.cells #[.int .i64 x0, .int .i64 x1, .bool true] 116)).heap[W.heap.size]? = some (.cells #[.int .i64 x0, .int .i64 x1, .bool true] 116 (0, 0)) := heap_alloc_new W _;refine ⟨d8 (qd (Below.refl _ _) _) hc, d8 (qd (Below.refl _ _) _) hd, (af hblk 0).trans rfl, (af hblk 1).trans rfl, (af hblk 2).trans rfl, qf (hb.alloc hb.size _), by simp⟩
  replace hS0 := Lib.hid hS0;by_cases cv : v ≤ off
  · have cvb : decide (v ≤ off) = true := decide_eq_true cv
    clear cv
    have hfin : Hid (n5 off n ⟨x0, x1, true⟩ = decide (off ≤ wrap64 (wrap64 (wrap64 (x0 + x1) * 8) - n))) := Lib.hid (by simp only [n5]; rw [hv, cvb]; simp)
    replace hv := Lib.hid hv
    go_enter Tryz.func179, Tryz.ntmps179
    go_wp2
    refine dy (n := 21) (S := qea B C off n x0 x1 w W) (ds := []) (bA 21 0) (by kernel_rfl) rfl rfl hS0.out (fun hS => ?_)
    refine ik (i := 0) (N := some 5) (v := .pointer (some ⟨W.heap.size, 2, none⟩)) (a' := ?a1_) (bA 21 1) rfl rfl (by kernel_rfl) (fun _ _ _ h => h) (.inl ⟨by rfl, ?hy1_⟩) ?ha1_ ?h1_
    case hy1_ =>
      intro w';go_simp
      try first | rfl | exact az _ | (simp only [az]; done)
    case ha1_ => simp only [Act.put, qg, qh, qi];rfl
    refine take_ (i := 1) (N := some 6) (v := .bool true) (a' := ?a2_) (bA 21 3) rfl rfl (by kernel_rfl) (fun _ _ _ h => h) (.inl ⟨by rfl, ?hy2_⟩) hS ?ha2_ ?h2_
    case hy2_ =>
      rintro w' ⟨q1, q2, q3, q4, q5, q6, q7⟩;go_simp
      try first | rfl | exact az _ | (simp only [az]; done)
    case ha2_ => simp only [Act.put, qg, qh, qi];rfl
    refine ik (i := 2) (N := some 7) (v := .bool true) (a' := ?a3_) (bA 21 7) rfl rfl (by kernel_rfl) (fun _ _ _ h => h) (.inl ⟨by rfl, ?hy3_⟩) ?ha3_ ?h3_
    case hy3_ =>
      intro w';go_simp
      try first | rfl | exact az _ | (simp only [az]; done)
    case ha3_ => simp only [Act.put, qg, qh, qi];rfl
    refine take_ (i := 3) (N := some 8) (v := .int .i64 off) (a' := ?a4_) (bA 21 15) rfl rfl (by kernel_rfl) (fun _ _ _ h => h) (.inl ⟨by rfl, ?hy4_⟩) hS ?ha4_ ?h4_
    case hy4_ =>
      rintro w' ⟨q1, q2, q3, q4, q5, q6, q7⟩;go_simp
      try first | rfl | exact az _ | (simp only [az]; done)
    case ha4_ => simp only [Act.put, qg, qh, qi];rfl
    refine take_ (i := 4) (N := some 9) (v := .agg #[.int .i64 x0, .int .i64 x1, .bool true]) (a' := ?a5_) (bA 21 31) rfl rfl (by kernel_rfl) (fun _ _ _ h => h) (.inl ⟨by rfl, ?hy5_⟩) hS ?ha5_ ?h5_
    case hy5_ =>
      rintro w' ⟨q1, q2, q3, q4, q5, q6, q7⟩;go_simp
      try first | rfl | exact az _ | (simp only [az]; done)
    case ha5_ => simp only [Act.put, qg, qh, qi];rfl
    refine gq (i := 5) (N := some 10) (bA 21 63) rfl rfl (by kernel_rfl) (by decide) (fun K hK => ?_)
    refine dw Tryz.func138 (by kernel_rfl) rfl #[.agg #[.int .i64 x0, .int .i64 x1, .bool true]] (by rfl) rfl rfl (by simp [Act.eval]) ?_
    with_reducible refine (i9.calls x0 x1 true v _ ho.out).mono ?_
    rintro e w1 ⟨rfl, hb1⟩
    refine ⟨_, rfl, ?_⟩
    have hS1 := qea.below hS hb1
    refine hK.out _ _ hS1 (fun hS => ?_)
    clear hK K
    refine i6 (a' := ?a6_) ?ha6_ ?h6_
    case ha6_ => simp only [Act.put, qg, qh, qi];rfl
    refine ik (i := 6) (N := some 11) (v := .bool true) (a' := ?a7_) (bA 21 127) rfl rfl (by kernel_rfl) (fun _ _ _ h => h) (.inl ⟨by rfl, ?hy7_⟩) ?ha7_ ?h7_
    case hy7_ =>
      intro w';go_simp
      try first | rfl | exact az _ | (simp only [az]; done)
    case ha7_ => simp only [Act.put, qg, qh, qi];rfl
    refine ik (i := 7) (N := some 12) (v := .bool true) (a' := ?a8_) (bA 21 255) rfl rfl (by kernel_rfl) (fun _ _ _ h => h) (.inl ⟨by rfl, ?hy8_⟩) ?ha8_ ?h8_
    case hy8_ =>
      intro w';go_simp
      try first | rfl | exact az _ | (simp only [az]; done)
    case ha8_ => simp only [Act.put, qg, qh, qi];rfl
    refine ik (i := 8) (N := some 13) (v := .bool true) (a' := ?a9_) (bA 21 511) rfl rfl (by kernel_rfl) (fun _ _ _ h => h) (.inl ⟨by rfl, ?hy9_⟩) ?ha9_ ?h9_
    case hy9_ =>
      intro w';go_simp
      try first | rfl | exact az _ | (simp only [az]; done)
    case ha9_ => simp only [Act.put, qg, qh, qi];rfl
    refine take_ (i := 9) (N := some 14) (v := .int .i64 off) (a' := ?a10_) (bA 21 1023) rfl rfl (by kernel_rfl) (fun _ _ _ h => h) (.inl ⟨by rfl, ?hy10_⟩) hS ?ha10_ ?h10_
    case hy10_ =>
      rintro w' ⟨q1, q2, q3, q4, q5, q6, q7⟩;go_simp
      try first | rfl | exact az _ | (simp only [az]; done)
    case ha10_ => simp only [Act.put, qg, qh, qi];rfl
    refine ik (i := 10) (N := some 15) (v := .pointer (some ⟨W.heap.size, 0, none⟩)) (a' := ?a11_) (bA 21 2047) rfl rfl (by kernel_rfl) (fun _ _ _ h => h) (.inl ⟨by rfl, ?hy11_⟩) ?ha11_ ?h11_
    case hy11_ =>
      intro w';go_simp
      try first | rfl | exact az _ | (simp only [az]; done)
    case ha11_ => simp only [Act.put, qg, qh, qi];rfl
    refine take_ (i := 11) (N := some 16) (v := .int .i64 x0) (a' := ?a12_) (bA 21 4095) rfl rfl (by kernel_rfl) (fun _ _ _ h => h) (.inl ⟨by rfl, ?hy12_⟩) hS ?ha12_ ?h12_
    case hy12_ =>
      rintro w' ⟨q1, q2, q3, q4, q5, q6, q7⟩;go_simp
      try first | rfl | exact az _ | (simp only [az]; done)
    case ha12_ => simp only [Act.put, qg, qh, qi];rfl
    refine ik (i := 12) (N := some 17) (v := .pointer (some ⟨W.heap.size, 1, none⟩)) (a' := ?a13_) (bA 21 8191) rfl rfl (by kernel_rfl) (fun _ _ _ h => h) (.inl ⟨by rfl, ?hy13_⟩) ?ha13_ ?h13_
    case hy13_ =>
      intro w';go_simp
      try first | rfl | exact az _ | (simp only [az]; done)
    case ha13_ => simp only [Act.put, qg, qh, qi];rfl
    refine take_ (i := 13) (N := some 18) (v := .int .i64 x1) (a' := ?a14_) (bA 21 16383) rfl rfl (by kernel_rfl) (fun _ _ _ h => h) (.inl ⟨by rfl, ?hy14_⟩) hS ?ha14_ ?h14_
    case hy14_ =>
      rintro w' ⟨q1, q2, q3, q4, q5, q6, q7⟩;go_simp
      try first | rfl | exact az _ | (simp only [az]; done)
    case ha14_ => simp only [Act.put, qg, qh, qi];rfl
    refine ik (i := 14) (N := some 19) (v := .int .i64 (wrap64 (x0 + x1))) (a' := ?a15_) (bA 21 32767) rfl rfl (by kernel_rfl) (fun _ _ _ h => h) (.inl ⟨by rfl, ?hy15_⟩) ?ha15_ ?h15_
    case hy15_ =>
      intro w';go_simp
      try first | rfl | exact az _ | (simp only [az]; done)
    case ha15_ => simp only [Act.put, qg, qh, qi];rfl
    refine ik (i := 15) (N := some 20) (v := .int .i64 (wrap64 (wrap64 (x0 + x1) * 8))) (a' := ?a16_) (bA 21 65535) rfl rfl (by kernel_rfl) (fun _ _ _ h => h) (.inl ⟨by rfl, ?hy16_⟩) ?ha16_ ?h16_
    case hy16_ =>
      intro w';go_simp
      try first | rfl | exact az _ | (simp only [az]; done)
    case ha16_ => simp only [Act.put, qg, qh, qi];rfl
    refine take_ (i := 16) (N := some 21) (v := .int .i64 n) (a' := ?a17_) (bA 21 131071) rfl rfl (by kernel_rfl) (fun _ _ _ h => h) (.inl ⟨by rfl, ?hy17_⟩) hS ?ha17_ ?h17_
    case hy17_ =>
      rintro w' ⟨q1, q2, q3, q4, q5, q6, q7⟩;go_simp
      try first | rfl | exact az _ | (simp only [az]; done)
    case ha17_ => simp only [Act.put, qg, qh, qi];rfl
    refine ik (i := 17) (N := some 22) (v := .int .i64 (wrap64 (wrap64 (wrap64 (x0 + x1) * 8) - n))) (a' := ?a18_) (bA 21 262143) rfl rfl (by kernel_rfl) (fun _ _ _ h => h) (.inl ⟨by rfl, ?hy18_⟩) ?ha18_ ?h18_
    case hy18_ =>
      intro w';go_simp
      try first | rfl | exact az _ | (simp only [az]; done)
    case ha18_ => simp only [Act.put, qg, qh, qi];rfl
    refine ik (i := 18) (N := some 23) (v := .bool (decide (off ≤ wrap64 (wrap64 (wrap64 (x0 + x1) * 8) - n)))) (a' := ?a19_) (bA 21 524287) rfl rfl (by kernel_rfl) (fun _ _ _ h => h) (.inl ⟨by rfl, ?hy19_⟩) ?ha19_ ?h19_
    case hy19_ =>
      intro w';go_simp
      try first | rfl | exact az _ | (simp only [az]; done)
    case ha19_ => simp only [Act.put, qg, qh, qi];rfl
    refine ik (i := 19) (N := some 24) (v := .bool (decide (off ≤ wrap64 (wrap64 (wrap64 (x0 + x1) * 8) - n)))) (a' := ?a20_) (bA 21 1048575) rfl rfl (by kernel_rfl) (fun _ _ _ h => h) (.inl ⟨by rfl, ?hy20_⟩) ?ha20_ ?h20_
    case hy20_ =>
      intro w';go_simp
      try first | rfl | exact az _ | (simp only [az]; done)
    case ha20_ => simp only [Act.put, qg, qh, qi];rfl
    refine ik (i := 20) (N := some 4) (v := .bool (decide (off ≤ wrap64 (wrap64 (wrap64 (x0 + x1) * 8) - n)))) (a' := ?a21_) (bA 21 2097151) rfl rfl (by kernel_rfl) (fun _ _ _ h => h) (.inl ⟨by rfl, ?hy21_⟩) ?ha21_ ?h21_
    case hy21_ =>
      intro w';go_simp
      try first | rfl | exact az _ | (simp only [az]; done)
    case ha21_ => simp only [Act.put, qg, qh, qi];rfl
    refine fp (by kernel_rfl) ?_
    simp only [Act.put, qg, qh, qi, Exit.then]
    go_wp2
    go_ret
    exact ⟨by rw [hfin.out]; rfl, hS.2.2.2.2.2.1⟩
  · have cvb : decide (v ≤ off) = false := decide_eq_false cv
    clear cv
    have hfin : Hid (n5 off n ⟨x0, x1, true⟩ = false) := Lib.hid (by simp only [n5]; rw [hv, cvb]; simp)
    replace hv := Lib.hid hv
    go_enter Tryz.func179, Tryz.ntmps179
    go_wp2
    refine dy (n := 21) (S := qea B C off n x0 x1 w W) (ds := []) (bA 21 0) (by kernel_rfl) rfl rfl hS0.out (fun hS => ?_)
    refine ik (i := 0) (N := some 5) (v := .pointer (some ⟨W.heap.size, 2, none⟩)) (a' := ?a22_) (bA 21 1) rfl rfl (by kernel_rfl) (fun _ _ _ h => h) (.inl ⟨by rfl, ?hy22_⟩) ?ha22_ ?h22_
    case hy22_ =>
      intro w';go_simp
      try first | rfl | exact az _ | (simp only [az]; done)
    case ha22_ => simp only [Act.put, qg, qh, qi];rfl
    refine take_ (i := 1) (N := some 6) (v := .bool true) (a' := ?a23_) (bA 21 3) rfl rfl (by kernel_rfl) (fun _ _ _ h => h) (.inl ⟨by rfl, ?hy23_⟩) hS ?ha23_ ?h23_
    case hy23_ =>
      rintro w' ⟨q1, q2, q3, q4, q5, q6, q7⟩;go_simp
      try first | rfl | exact az _ | (simp only [az]; done)
    case ha23_ => simp only [Act.put, qg, qh, qi];rfl
    refine ik (i := 2) (N := some 7) (v := .bool true) (a' := ?a24_) (bA 21 7) rfl rfl (by kernel_rfl) (fun _ _ _ h => h) (.inl ⟨by rfl, ?hy24_⟩) ?ha24_ ?h24_
    case hy24_ =>
      intro w';go_simp
      try first | rfl | exact az _ | (simp only [az]; done)
    case ha24_ => simp only [Act.put, qg, qh, qi];rfl
    refine take_ (i := 3) (N := some 8) (v := .int .i64 off) (a' := ?a25_) (bA 21 15) rfl rfl (by kernel_rfl) (fun _ _ _ h => h) (.inl ⟨by rfl, ?hy25_⟩) hS ?ha25_ ?h25_
    case hy25_ =>
      rintro w' ⟨q1, q2, q3, q4, q5, q6, q7⟩;go_simp
      try first | rfl | exact az _ | (simp only [az]; done)
    case ha25_ => simp only [Act.put, qg, qh, qi];rfl
    refine take_ (i := 4) (N := some 9) (v := .agg #[.int .i64 x0, .int .i64 x1, .bool true]) (a' := ?a26_) (bA 21 31) rfl rfl (by kernel_rfl) (fun _ _ _ h => h) (.inl ⟨by rfl, ?hy26_⟩) hS ?ha26_ ?h26_
    case hy26_ =>
      rintro w' ⟨q1, q2, q3, q4, q5, q6, q7⟩;go_simp
      try first | rfl | exact az _ | (simp only [az]; done)
    case ha26_ => simp only [Act.put, qg, qh, qi];rfl
    refine gq (i := 5) (N := some 10) (bA 21 63) rfl rfl (by kernel_rfl) (by decide) (fun K hK => ?_)
    refine dw Tryz.func138 (by kernel_rfl) rfl #[.agg #[.int .i64 x0, .int .i64 x1, .bool true]] (by rfl) rfl rfl (by simp [Act.eval]) ?_
    with_reducible refine (i9.calls x0 x1 true v _ ho.out).mono ?_
    rintro e w1 ⟨rfl, hb1⟩
    refine ⟨_, rfl, ?_⟩
    have hS1 := qea.below hS hb1
    refine hK.out _ _ hS1 (fun hS => ?_)
    clear hK K
    refine i6 (a' := ?a27_) ?ha27_ ?h27_
    case ha27_ => simp only [Act.put, qg, qh, qi];rfl
    refine ik (i := 6) (N := some 11) (v := .bool false) (a' := ?a28_) (bA 21 127) rfl rfl (by kernel_rfl) (fun _ _ _ h => h) (.inl ⟨by rfl, ?hy28_⟩) ?ha28_ ?h28_
    case hy28_ =>
      intro w';go_simp
      try first | rfl | exact az _ | (simp only [az]; done)
    case ha28_ => simp only [Act.put, qg, qh, qi];rfl
    refine ik (i := 7) (N := some 12) (v := .bool false) (a' := ?a29_) (bA 21 255) rfl rfl (by kernel_rfl) (fun _ _ _ h => h) (.inl ⟨by rfl, ?hy29_⟩) ?ha29_ ?h29_
    case hy29_ =>
      intro w';go_simp
      try first | rfl | exact az _ | (simp only [az]; done)
    case ha29_ => simp only [Act.put, qg, qh, qi];rfl
    refine ik (i := 8) (N := some 13) (v := .bool false) (a' := ?a30_) (bA 21 511) rfl rfl (by kernel_rfl) (fun _ _ _ h => h) (.inl ⟨by rfl, ?hy30_⟩) ?ha30_ ?h30_
    case hy30_ =>
      intro w';go_simp
      try first | rfl | exact az _ | (simp only [az]; done)
    case ha30_ => simp only [Act.put, qg, qh, qi];rfl
    refine ik (i := 9) (N := some 14) (v := undef) (a' := ?a31_) (bA 21 1023) rfl rfl (by kernel_rfl) (fun _ _ _ h => h) (.inr ⟨by rfl, rfl⟩) ?ha31_ ?h31_
    case ha31_ => simp only [Act.put, qg, qh, qi];rfl
    refine ik (i := 10) (N := some 15) (v := undef) (a' := ?a32_) (bA 21 2047) rfl rfl (by kernel_rfl) (fun _ _ _ h => h) (.inr ⟨by rfl, rfl⟩) ?ha32_ ?h32_
    case ha32_ => simp only [Act.put, qg, qh, qi];rfl
    refine ik (i := 11) (N := some 16) (v := undef) (a' := ?a33_) (bA 21 4095) rfl rfl (by kernel_rfl) (fun _ _ _ h => h) (.inr ⟨by rfl, rfl⟩) ?ha33_ ?h33_
    case ha33_ => simp only [Act.put, qg, qh, qi];rfl
    refine ik (i := 12) (N := some 17) (v := undef) (a' := ?a34_) (bA 21 8191) rfl rfl (by kernel_rfl) (fun _ _ _ h => h) (.inr ⟨by rfl, rfl⟩) ?ha34_ ?h34_
    case ha34_ => simp only [Act.put, qg, qh, qi];rfl
    refine ik (i := 13) (N := some 18) (v := undef) (a' := ?a35_) (bA 21 16383) rfl rfl (by kernel_rfl) (fun _ _ _ h => h) (.inr ⟨by rfl, rfl⟩) ?ha35_ ?h35_
    case ha35_ => simp only [Act.put, qg, qh, qi];rfl
    refine ik (i := 14) (N := some 19) (v := undef) (a' := ?a36_) (bA 21 32767) rfl rfl (by kernel_rfl) (fun _ _ _ h => h) (.inr ⟨by rfl, rfl⟩) ?ha36_ ?h36_
    case ha36_ => simp only [Act.put, qg, qh, qi];rfl
    refine ik (i := 15) (N := some 20) (v := undef) (a' := ?a37_) (bA 21 65535) rfl rfl (by kernel_rfl) (fun _ _ _ h => h) (.inr ⟨by rfl, rfl⟩) ?ha37_ ?h37_
    case ha37_ => simp only [Act.put, qg, qh, qi];rfl
    refine ik (i := 16) (N := some 21) (v := undef) (a' := ?a38_) (bA 21 131071) rfl rfl (by kernel_rfl) (fun _ _ _ h => h) (.inr ⟨by rfl, rfl⟩) ?ha38_ ?h38_
    case ha38_ => simp only [Act.put, qg, qh, qi];rfl
    refine ik (i := 17) (N := some 22) (v := undef) (a' := ?a39_) (bA 21 262143) rfl rfl (by kernel_rfl) (fun _ _ _ h => h) (.inr ⟨by rfl, rfl⟩) ?ha39_ ?h39_
    case ha39_ => simp only [Act.put, qg, qh, qi];rfl
    refine ik (i := 18) (N := some 23) (v := undef) (a' := ?a40_) (bA 21 524287) rfl rfl (by kernel_rfl) (fun _ _ _ h => h) (.inr ⟨by rfl, rfl⟩) ?ha40_ ?h40_
    case ha40_ => simp only [Act.put, qg, qh, qi];rfl
    refine ik (i := 19) (N := some 24) (v := .bool false) (a' := ?a41_) (bA 21 1048575) rfl rfl (by kernel_rfl) (fun _ _ _ h => h) (.inl ⟨by rfl, ?hy41_⟩) ?ha41_ ?h41_
    case hy41_ =>
      intro w';go_simp
      try first | rfl | exact az _ | (simp only [az]; done)
    case ha41_ => simp only [Act.put, qg, qh, qi];rfl
    refine ik (i := 20) (N := some 4) (v := .bool false) (a' := ?a42_) (bA 21 2097151) rfl rfl (by kernel_rfl) (fun _ _ _ h => h) (.inl ⟨by rfl, ?hy42_⟩) ?ha42_ ?h42_
    case hy42_ =>
      intro w';go_simp
      try first | rfl | exact az _ | (simp only [az]; done)
    case ha42_ => simp only [Act.put, qg, qh, qi];rfl
    refine fp (by kernel_rfl) ?_
    simp only [Act.put, qg, qh, qi, Exit.then]
    go_wp2
    go_ret
    exact ⟨by rw [hfin.out]; rfl, hS.2.2.2.2.2.1⟩
theorem qme (off : Int) (B : Nat) (w : World) (hB : B < w.heap.size) (hcell : w.cell? ⟨B, 0, none⟩ = some (.int .i64 off)) : PredBelow Tryz.prog 137 #[.pointer (some ⟨B, 0, none⟩)] (fun x : S116 => .agg (qad x).toArray) (fun x => x.f2 && decide (rj x.f0 = off)) w := fun W x hb => by
  have hc : W.cell? ⟨B, 0, none⟩ = some (.int .i64 off) := (hb.cell (p := ⟨B, 0, none⟩) hB).trans hcell;have hBW : B < W.heap.size := Nat.lt_of_lt_of_le hB hb.size;have hne : B ≠ W.heap.size := by omega
  obtain ⟨x0, x1, x2⟩ := x;have ho := qjp x0 x1 x2;obtain ⟨v, hv⟩ : ∃ v, rj x0 = v := ⟨_, rfl⟩;rw [hv] at ho;show Calls Tryz.prog 137 #[.agg #[.int .i64 x0, .int .i64 x1, .bool x2], .pointer (some ⟨B, 0, none⟩)] W _;cases x2
  · go_enter Tryz.func137, Tryz.ntmps137
    go_wp2
    go_quiet (fail)
    go_wp2
    go_ret
    exact ⟨by simp, by repeat (first | exact hb.alloc hb.size _ | apply qd | apply qe | apply qf)⟩
  · go_enter Tryz.func137, Tryz.ntmps137
    go_wp2
    go_region_with (go_at_call 138; refine (i9.calls _ _ _ _ _ ho).mono ?_; rintro e w' ⟨rfl, hb'⟩; have hcB : w'.cell? ⟨B, 0, none⟩ = some (.int .i64 off) := (hb'.cell (p := ⟨B, 0, none⟩) (by simp; omega)).trans (by go_simp))
    all_goals (try go_wp2)
    all_goals go_ret
    all_goals exact ⟨by simp only [hv, Bool.true_and]; congr 2, qw (by repeat (first | exact hb.alloc hb.size _ | apply qf | apply qd | apply qe)) hb'⟩
theorem qln {W : World} {A : Option Addr} {l : List S116} {g : Nat} (h : Kd.C ld W A l.length l) (hA : A = some ⟨g, 0, none⟩) (i35 : Inhabited S116) : ∀ j, j < l.length → ∀ i v, (qad l[j]!)[i]? = some v → W.cell? ⟨g, 0 + j * 3 + i, none⟩ = some v := fun j hj i v hi => by
  obtain ⟨ad, e, hc⟩ := h.2.2 (by omega);rw [hA] at e;obtain rfl := Option.some.inj e;obtain ⟨c, hl, hK, hcell⟩ := hc j l[j] (List.getElem?_eq_getElem hj);have hcs := qbr hK;subst hcs;rw [getElem!_pos l j hj] at hi;have := hcell i v hi;rw [ni] at this;rw [Nat.zero_add];exact this
def r6 (off : Int) : List S116 → Nat → Int
  | [], _ => -1
  | y :: r, i => if (y.f2 && decide (rj y.f0 = off)) = true then (i : Int) else r6 off r (i + 1)
theorem qdv (off : Int) (d : S116) : ∀ (l : List S116) (i : Nat), Lib.idxByFrom (fun _ y => y.f2 && decide (rj y.f0 = off)) d l i = r6 off l i
  | [], _ => rfl
  | y :: r, i => by
    show (if (y.f2 && decide (rj y.f0 = off)) = true then (i : Int) else Lib.idxByFrom _ d r (i + 1)) = _
    rw [qdv off d r (i + 1)]
    rfl
theorem qlq (c : Nat) (f : Value) (w : World) : Calls Tryz.prog 136 #[.slice none 0 c, f] w fun e w' => e = .returned (.int .i64 (-1)) ∧ Below w.heap.size w w' := by
  go_enter Tryz.func136, Tryz.ntmps136;go_wp2;refine wp_loop_rounds 1 ?_;rw [rounds_succ];go_wp2;go_ret;exact ⟨rfl, by repeat (first | exact Below.refl _ _ | apply qd | apply qe | apply qf)⟩
theorem qnn (c : Nat) (f : Value) (w : World) : Calls Tryz.prog 178 #[.slice none 0 c, f] w fun e w' => e = .returned (.bool false) ∧ Below w.heap.size w w' := by
  go_enter Tryz.func178, Tryz.ntmps178;go_wp2_with (go_at_call 136; refine (qlq c f _).mono ?_; rintro e w' ⟨rfl, hb⟩)
  go_ret;exact ⟨rfl, by first | exact hb | exact qw (by repeat (first | exact Below.refl _ _ | apply qd | apply qe | apply qf)) hb⟩
theorem qdj {W : World} {base : Nat} {v : Value} {l : List S116} (h : Kd.R ld 116 W base (fun _ => True) v l) : (v = .slice none 0 0 ∧ l = []) ∨ ∃ g c, v = .slice (some ⟨g, 0, none⟩) l.length c ∧ g < W.heap.size := by
  obtain ⟨inner, ho⟩ := Kd.R_own h;rcases ho.2 with ⟨rfl, hn⟩ | ⟨g, cap, cur, rfl, hg, hh, _⟩
  · exact .inl ⟨rfl, List.eq_nil_of_length_eq_zero hn⟩
  · exact .inr ⟨g, cap, rfl, df hh⟩
theorem qk7 (off : Int) (B : Nat) (W : World) (v : Value) (l : List S116) (base : Nat) (h : Kd.R ld 116 W base (fun _ => True) v l) (hB : B < W.heap.size) (hcell : W.cell? ⟨B, 0, none⟩ = some (.int .i64 off)) : Calls Tryz.prog 136 #[v, .func (.func 137) #[] #[.pointer (some ⟨B, 0, none⟩)]] W fun e w' => e = .returned (.int .i64 (r6 off l 0)) ∧ Below W.heap.size W w' := by
  rcases qdj h with ⟨rfl, rfl⟩ | ⟨g, c, rfl, hg⟩
  · exact qlq 0 _ W
  · obtain ⟨A, c', e, hc, hC⟩ := Kd.R_reads h
    have hA : A = some ⟨g, 0, none⟩ := by injection e with e1 _ _; exact e1.symm
    let i35 : Inhabited S116 := ⟨⟨0, 0, false⟩⟩
    have H := AnyQ.slices_IndexFunc (P := Tryz.prog) (ρ := qf9) (α := S116) qlp 3 Tryz.isAgg116 Tryz.sizeOf116 qad (fun _ => rfl) (fun x => x.f2 && decide (rj x.f0 = off)) 137 #[.pointer (some ⟨B, 0, none⟩)] (yw Tryz.func137 (by kernel_rfl) rfl) g 0 l.length c l W (qme off B W hB hcell) (Nat.le_refl _) hC.2.1 hg (qln hC hA i35)
    refine H.mono ?_
    rintro e w' ⟨rfl, hb⟩
    refine ⟨?_, hb⟩
    rw [List.take_length]
    show Ending.returned (.int .i64 (Lib.idxByFrom _ _ l 0)) = _
    rw [qdv]
theorem qfd (off n : Int) (B C : Nat) (W : World) (v : Value) (l : List S116) (base : Nat) (h : Kd.R ld 116 W base (fun _ => True) v l) (hB : B < W.heap.size) (hC' : C < W.heap.size) (hcell : W.cell? ⟨B, 0, none⟩ = some (.int .i64 off)) (hcell2 : W.cell? ⟨C, 0, none⟩ = some (.int .i64 n)) : Calls Tryz.prog 178 #[v, .func (.func 179) #[] #[.pointer (some ⟨B, 0, none⟩), .pointer (some ⟨C, 0, none⟩)]] W fun e w' => e = .returned (.bool (l.any (n5 off n))) ∧ Below W.heap.size W w' := by
  rcases qdj h with ⟨rfl, rfl⟩ | ⟨g, c, rfl, hg⟩
  · exact qnn 0 _ W
  · obtain ⟨A, c', e, hc, hC⟩ := Kd.R_reads h
    have hA : A = some ⟨g, 0, none⟩ := by injection e with e1 _ _; exact e1.symm
    let i35 : Inhabited S116 := ⟨⟨0, 0, false⟩⟩
    have H := AnyQ.slices_ContainsFunc (P := Tryz.prog) (ρ := qf9) (α := S116) qni 3 Tryz.isAgg116 Tryz.sizeOf116 qad (fun _ => rfl) (n5 off n) 179 #[.pointer (some ⟨B, 0, none⟩), .pointer (some ⟨C, 0, none⟩)] (yw Tryz.func179 (by kernel_rfl) rfl) g 0 l.length c l W (qm4 off n B C W hB hC' hcell hcell2) (Nat.le_refl _) hC.2.1 hg (qln hC hA i35)
    refine H.mono ?_
    rintro e w' ⟨rfl, hb⟩
    exact ⟨by rw [List.take_length], hb⟩
end
def gx.f (k : Nat) (l0 : List Int) (a1 : Int) : Option (List (S116) × Int) := (bi.f k l0).bind fun p => (some (p.1, r6 a1 p.1 0))
theorem gx.calls (k : Nat) (A0 : Option Addr) (c0 : Nat) (l0 : List Int) (a1 : Int) (r1 : List (S116)) (r2 : Int) (w : World) (hr0 : Kd.C (Kd.int .u64) w A0 l0.length l0) (hc0 : l0.length ≤ c0) (h : gx.f k l0 a1 = some (r1, r2)) : Calls Tryz.prog 96 #[.slice A0 l0.length c0, .int .i64 a1] w fun e w' => ∃ v0_ : Value, e = .returned (.tuple #[v0_, .int .i64 r2]) ∧ Kd.R ld 116 w' w.heap.size (fun _ => True) v0_ r1 ∧ Below w.heap.size w w' := by
  have hmf : ∀ (fn : Fn) (first cap : Array Value) (w : World), (Instr.makeFunc fn first cap).run Tryz.prog w = .ok (.func fn first cap) w := fun _ _ _ _ => rfl;have HR := Lib.hid hr0;have HC := Lib.hid hc0;clear hr0 hc0;unfold gx.f at h;obtain ⟨⟨m, ok⟩, hb, hm⟩ := Option.bind_eq_some_iff.1 h;simp only [Option.some.injEq, Prod.mk.injEq] at hm;obtain ⟨rfl, rfl⟩ := hm;have hb := Lib.hid hb;clear h;have hW : Below w.heap.size w (w.alloc (.cells #[.int .i64 a1] 3)) := qd (Below.refl _ _) _;have hB0 : (w.alloc (.cells #[.int .i64 a1] 3)).cell? ⟨w.heap.size, 0, none⟩ = some (.int .i64 a1) := by have hh : (w.alloc (.cells #[.int .i64 a1] 3)).heap[w.heap.size]? = some (.cells #[.int .i64 a1] 3 (0, 0)) := heap_alloc_new w _;rw [af hh]; rfl
  replace hB0 := Lib.hid hB0;go_enter Tryz.func96, Tryz.ntmps96;go_wp2_with (first
    | (go_at_call 45; (with_reducible refine (bi.calls k _ _ l0 m ok _ ?s1 ?s2 hb.out).mono ?_); (case s1 => exact Kd.C_below HR.out hW); (case s2 => exact HC.out); rintro e w1 ⟨v, rfl, ho, hb1⟩; have hB1 := Lib.hid (d8 hb1 hB0.out); have hB' := Lib.hid (qp w1 _ hB1.out); have ho := Lib.hid ho)
    | (go_at_call 136; (with_reducible refine (qk7 a1 w.heap.size _ v m _ ho.out hB'.out hB1.out).mono ?_); rintro e w2 ⟨rfl, hb2⟩))
  go_ret2;exact ⟨v, rfl, Kd.R_lower (qv ho.out hb2) (by simp), qw (qw hW hb1) hb2⟩
def i5.f (k : Nat) (l0 : List Int) (a1 : Int) : Option (Bool) := (gx.f k l0 a1).bind fun bt148 => (some (decide (bt148.2 ≥ 0)))
theorem i5.calls (k : Nat) (A0 : Option Addr) (c0 : Nat) (l0 : List Int) (a1 : Int) (r : Bool) (w : World) (hr0 : Kd.C (Kd.int .u64) w A0 l0.length l0) (hc0 : l0.length ≤ c0) (h : i5.f k l0 a1 = some r) : Calls Tryz.prog 46 #[.slice A0 l0.length c0, .int .i64 a1] w fun e w' => e = .returned (.bool r) ∧ Below w.heap.size w w' := by
 have HR0 := am hr0;have HC0 := am hc0;clear hr0 hc0;have HB := am (Below.refl w.heap.size w);have H : ((gx.f k l0 a1).bind fun bt148 => (some (decide (bt148.2 ≥ 0)))) = some r := h;clear h;replace H := Option.bind_eq_some_iff.mp H;obtain ⟨⟨t148, t149⟩, A30, H⟩ := H
 try dsimp only at H
 have A3 := am A30;clear A30;obtain rfl := Option.some.inj H;go_enter Tryz.func46, Tryz.ntmps46;go_wp2_with (first | ((with_reducible refine ak (f := 96) rfl ?_); refine zl (some 10) Tryz.func96 #[.slice A0 l0.length c0, .int .i64 a1] ?_; (with_reducible refine (gx.calls k _ _ l0 a1 t148 t149 _ ?side1 ?side2 A3.out).mono ?_); (case side1 => exact zc HR0.out); (case side2 => exact HC0.out); rintro e w4 ⟨v150, rfl, ho0, hb⟩; refine ⟨_, rfl, ?_⟩; have n0_ := am (Kd.R_lower ho0 (ba (zB HB))); have n1_ := zb HB hb; clear HB; have HO151 := n0_; have HB := n1_; clear n0_ n1_; (try clear hb); (try clear ho0)))
 go_ret;exact ⟨by first | rfl | (simp [db, dc] <;> rfl) | (simp [*, db, dc] <;> (first | rfl | rw [Int.tdiv_eq_ediv_of_nonneg (by omega)])), zB HB⟩
def il.f (a0 : Int) : Option (Int) := some (wrap64 ((mx a0 0) / 4))
theorem il.calls (a0 : Int) (r : Int) (w : World) (h : il.f a0 = some r) : Calls Tryz.prog 97 #[.int .i64 a0] w fun e w' => e = .returned (.int .i64 r) ∧ Below w.heap.size w w' := by
 have HB := am (Below.refl w.heap.size w);have H : (some (wrap64 ((mx a0 0) / 4))) = some r := h;clear h;obtain ⟨ji2, hji2⟩ : ∃ j_ : Int, (mx a0 0) = j_ := ⟨_, rfl⟩;replace H : (some (wrap64 ((ji2) / 4))) = some r := by first | (rw [hji2] at H; exact H) | (simp only [hji2] at H ⊢; exact H)
 (try (have hji2l : 0 ≤ ji2 := by (rw [← hji2]; unfold mx; (repeat' split) <;> omega)))
 (try (have hji2m : 0 ≤ ji2 := by omega))
 have hji2_ : (if a0 < 0 then 0 else a0) = ji2 := hji2;obtain rfl := Option.some.inj H;go_enter Tryz.func97, Tryz.ntmps97;go_wp2;go_ret;exact ⟨by first | rfl | (simp [db, dc] <;> rfl) | (simp only [← hji2]; first | rfl | (simp [db, dc] <;> rfl)) | (simp [*, db, dc] <;> (first | rfl | rw [Int.tdiv_eq_ediv_of_nonneg (by omega)])), zB HB⟩
def kx.f (a0_0 : Int) (a0_1 : Int) (a0_2 : Int) (a0_3 : Int) : Option (Int) := (e5.f a0_0 a0_1 a0_2 a0_3).bind fun t153 => (if t153 = true then ((il.f (wrap64 (a0_0 - 1))).bind fun t154 => (some (wrap64 (t154 + 1)))) else (some 0))
theorem kx.calls (a0_0 : Int) (a0_1 : Int) (a0_2 : Int) (a0_3 : Int) (r : Int) (w : World) (h : kx.f a0_0 a0_1 a0_2 a0_3 = some r) : Calls Tryz.prog 47 #[.agg #[.int .i64 a0_0, .int .i64 a0_1, .int .i64 a0_2, .int .i64 a0_3]] w fun e w' => e = .returned (.int .i64 r) ∧ Below w.heap.size w w' := by
 obtain ⟨k0, k1, k2, k3⟩ := k4 (ny w (.cells #[.int .i64 a0_0, .int .i64 a0_1, .int .i64 a0_2, .int .i64 a0_3] 23));have BX := am (ny w (.cells #[.int .i64 a0_0, .int .i64 a0_1, .int .i64 a0_2, .int .i64 a0_3] 23));have HB := am (bt (Below.refl w.heap.size w) (.cells #[.int .i64 a0_0, .int .i64 a0_1, .int .i64 a0_2, .int .i64 a0_3] 23));unfold kx.f at h;obtain ⟨t, ht, h⟩ := Option.bind_eq_some_iff.mp h;have HM := am ht;clear ht;cases t
 · simp only [Bool.false_eq_true, if_false] at h; cases h; go_enter Tryz.func47, Tryz.ntmps47; go_wp2_with (first
 | (go_at_call 32; (with_reducible refine (e5.calls a0_0 a0_1 a0_2 a0_3 _ _ HM.out).mono ?_); rintro e w1 ⟨rfl, hb⟩; obtain ⟨j0, j1, j2, j3⟩ := k4 (ai BX.out hb); have BX1 := am (ai BX.out hb); have HB1 := am (ab HB.out hb); clear hb k0 k1 k2 k3 BX)); go_ret; exact ⟨rfl, HB1.out⟩
 · simp only [if_true] at h
   obtain ⟨q, hq, h⟩ := Option.bind_eq_some_iff.mp h
   have HQ := am hq
   cases h
   clear hq
   go_enter Tryz.func47, Tryz.ntmps47
   go_wp2_with (first
 | (go_at_call 32; (with_reducible refine (e5.calls a0_0 a0_1 a0_2 a0_3 _ _ HM.out).mono ?_); rintro e w1 ⟨rfl, hb⟩; obtain ⟨j0, j1, j2, j3⟩ := k4 (ai BX.out hb); have BX1 := am (ai BX.out hb); have HB1 := am (ab HB.out hb); clear hb k0 k1 k2 k3 BX)
   | (go_at_call 97; (with_reducible refine (il.calls _ _ _ HQ.out).mono ?_); rintro e w2 ⟨rfl, hd⟩; have HB2 := am (ab HB1.out hd); clear hd))
   go_ret
   exact ⟨rfl, HB2.out⟩
def xm.f (a0 : Int) : Option (Unit) := if a0 = 0 then (some ()) else (none)
theorem xm.calls (a0 : Int) (w : World) (h : xm.f a0 = some ()) : Calls Tryz.prog 102 #[.int .i64 a0] w fun e w' => e = .returned (.tuple #[]) ∧ Drawn0 w w' := by
 have H : (if a0 = 0 then (some ()) else (none)) = some () := h;clear h;by_cases c2 : a0 = 0
 ·rw [if_pos c2] at H;have c2b0 : (a0 == 0) = true := beq_iff_eq.mpr c2;have c2b1 : (a0 != 0) = false := bne_eq_false_iff_eq.mpr c2;clear c2;go_enter Tryz.func102, Tryz.ntmps102;go_wp2
  first | go_end0 | ((try simp only [Exit.inBlock, Exit.then]); refine bodyPost_ret (results_none rfl _ _ _) rfl ?_)
  exact ⟨zs, zd⟩
 ·rw [if_neg c2] at H;exact absurd H (by simp)
def gf.f (a0 : Int) : Option (Int) := if a0 < 1 then (some 0) else (if a0 > 448 then (some 0) else (some (wrap64 ((wrap64 (Int.tdiv (wrap64 (a0 + 7)) 8)) + 1))))
theorem gf.calls (a0 : Int) (r : Int) (w : World) (h : gf.f a0 = some r) : Calls Tryz.prog 99 #[.int .i64 a0] w fun e w' => e = .returned (.int .i64 r) ∧ Drawn0 w w' := by
 have H : (if a0 < 1 then (some 0) else (if a0 > 448 then (some 0) else (some (wrap64 ((wrap64 (Int.tdiv (wrap64 (a0 + 7)) 8)) + 1))))) = some r := h;clear h;by_cases c2 : a0 < 1
 ·rw [if_pos c2] at H;have c2b0 := decide_eq_true c2;clear c2;obtain rfl := Option.some.inj H;go_enter Tryz.func99, Tryz.ntmps99;go_wp2;go_ret;exact ⟨zs, zd⟩
 ·rw [if_neg c2] at H;have c2b0 := decide_eq_false c2;clear c2;by_cases c3 : a0 > 448
  ·rw [if_pos c3] at H;have c3b0 : decide (448 < a0) = true := decide_eq_true c3;clear c3;obtain rfl := Option.some.inj H;go_enter Tryz.func99, Tryz.ntmps99;go_wp2;go_ret;exact ⟨zs, zd⟩
  ·rw [if_neg c3] at H;have c3b0 : decide (448 < a0) = false := decide_eq_false c3;clear c3;obtain rfl := Option.some.inj H;go_enter Tryz.func99, Tryz.ntmps99;go_wp2;go_ret;exact ⟨zs, zd⟩
mutual
def aw.l0 : Nat → List (S116) → Int → List Int → List (S116) → Int → Int → Option (List Int)
 | 0, _, _, _, _, _, _ => none
 | k + 1, x0, x1, x5, x8, x9, x10 => if x10 < x9 then (if 0 ≤ x10 then (if x10 < (x8.length : Int) then (if x1 < 2 then (aw.j1 k x0 x1 x5 x10 x8 x9 x10 true ((aa x8 x10).f0) ((aa x8 x10).f1) ((aa x8 x10).f2)) else (if (aa x8 x10).f2 = true then (aw.j1 k x0 x1 x5 x10 x8 x9 x10 true ((aa x8 x10).f0) ((aa x8 x10).f1) ((aa x8 x10).f2)) else (aw.j1 k x0 x1 x5 x10 x8 x9 x10 (decide (((aa x8 x10).f1) < x1)) ((aa x8 x10).f0) ((aa x8 x10).f1) ((aa x8 x10).f2)))) else (none)) else (none)) else (some x5)
def aw.j5 : Nat → List (S116) → Int → List Int → List (S116) → Int → Int → Option (List Int)
 | 0, _, _, _, _, _, _ => none
 | k + 1, x0, x1, x5, x8, x9, x10 => aw.l0 k x0 x1 x5 x8 x9 (wrap64 (x10 + 1))
def aw.j1 : Nat → List (S116) → Int → List Int → Int → List (S116) → Int → Int → Bool → Int → Int → Bool → Option (List Int)
 | 0, _, _, _, _, _, _, _, _, _, _, _ => none
 | k + 1, x0, x1, x5, x6, x8, x9, x10, x26, x158000, x158001, x158002 => if x26 = true then (aw.j5 k x0 x1 x5 x8 x9 x10) else (if (x5.length : Int) > 0 then (if 0 < (x5.length : Int) then (if 0 ≤ (rd x5 0) then (if (rd x5 0) < (x0.length : Int) then (aw.j2 k x0 x1 x5 x6 x8 x9 x10 (decide (x158001 < ((aa x0 (rd x5 0)).f1))) x158000 x158001 x158002) else (none)) else (none)) else (none)) else (aw.j2 k x0 x1 x5 x6 x8 x9 x10 false x158000 x158001 x158002))
def aw.j2 : Nat → List (S116) → Int → List Int → Int → List (S116) → Int → Int → Bool → Int → Int → Bool → Option (List Int)
 | 0, _, _, _, _, _, _, _, _, _, _, _ => none
 | k + 1, x0, x1, x5, x6, x8, x9, x10, x41, x158000, x158001, x158002 => if x41 = true then (aw.j3 k x0 x1 ([] : List Int) x6 x8 x9 x10 x158000 x158001 x158002) else (aw.j3 k x0 x1 x5 x6 x8 x9 x10 x158000 x158001 x158002)
def aw.j3 : Nat → List (S116) → Int → List Int → Int → List (S116) → Int → Int → Int → Int → Bool → Option (List Int)
 | 0, _, _, _, _, _, _, _, _, _, _ => none
 | k + 1, x0, x1, x5, x6, x8, x9, x10, x158000, x158001, x158002 => if (x5.length : Int) = 0 then (aw.j4 k x0 x1 x5 x6 x8 x9 x10 true) else (if 0 < (x5.length : Int) then (if 0 ≤ (rd x5 0) then (if (rd x5 0) < (x0.length : Int) then (aw.j4 k x0 x1 x5 x6 x8 x9 x10 (x158001 == ((aa x0 (rd x5 0)).f1))) else (none)) else (none)) else (none))
def aw.j4 : Nat → List (S116) → Int → List Int → Int → List (S116) → Int → Int → Bool → Option (List Int)
 | 0, _, _, _, _, _, _, _, _ => none
 | k + 1, x0, x1, x5, x6, x8, x9, x10, x56 => if x56 = true then (if x5.length < 17592186044416 then (aw.j5 k x0 x1 (x5 ++ [x6]) x8 x9 x10) else (none)) else (aw.j5 k x0 x1 x5 x8 x9 x10)
end
def aw.f (k : Nat) (l0 : List (S116)) (a1 : Int) : Option (List Int) := aw.l0 k l0 a1 ([] : List Int) l0 (l0.length : Int) 0
theorem aw.calls (k : Nat) (A0 : Option Addr) (c0 : Nat) (l0 : List (S116)) (a1 : Int) (r : List Int) (w : World) (hr0 : Kd.C ld w A0 l0.length l0) (hc0 : l0.length ≤ c0) (h : aw.f k l0 a1 = some r) : Calls Tryz.prog 161 #[.slice A0 l0.length c0, .int .i64 a1] w fun e w' => ∃ v0_ : Value, e = .returned (v0_) ∧ Kd.R (Kd.int .i64) 3 w' w.heap.size (fun _ => True) v0_ r ∧ Below w.heap.size w w' := by
 have hu116 := Tryz.underlying116;have HR0 := am hr0;have HC0 := am hc0;clear hr0 hc0;have HB := am (Below.refl w.heap.size w);have H : (aw.l0 k l0 a1 ([] : List Int) l0 (l0.length : Int) 0) = some r := h;clear h;have H' := am H;clear H;go_enter Tryz.func161, Tryz.ntmps161;go_wp2
 repeat (go_quiet (fail); try go_wp2)
 go_loopg [5, 10] k (fun kq v5 v10 w' => ∃ (x5_1 : List Int) (x10_1 : Int), v10 = .int .i64 x10_1 ∧ Aside0 (aw.l0 kq l0 a1 x5_1 l0 (l0.length : Int) x10_1 = some r) ∧ Aside0 (kq ≤ k) ∧ Aside0 (Kd.R (Kd.int .i64) 3 w' w.heap.size (fun _ => True) v5 x5_1) ∧ Aside0 (Below w.heap.size w w'))
 case atStart => exact ⟨(([] : List Int)), (0), zs, H', ⟨Nat.le_refl _⟩, ⟨by first | exact Kd.R_nil _ _ _ _ _ | exact Kd.N_nil _ _ _ _ _ | exact Kd.V_nil _ _ _ _ _ | exact Kd.Q_nil _ _ _ _ _ | exact Kd.S_nil _ _ _ _ _⟩, ⟨zB HB⟩⟩
 case round =>
  clear H';obtain ⟨x5_1, x10_1, rfl, HA, HK1, HO_5, HB⟩ := hrel;cases gk with
  | zero => exact absurd HA.out (by simp [aw.l0])
  | succ k1 =>
   have H := HA.out;clear HA;simp only [aw.l0] at H;by_cases c3 : x10_1 < (l0.length : Int)
   ·rw [if_pos c3] at H;have c3b0 := decide_eq_true c3;clear c3;have HC4 := am H;clear H;go_upto_block 1 with (fail)
    repeat (go_quiet (fail); go_upto_block 1 with (fail))
    go_cut [5] (fun v5 wc => ∃ (kq : Nat) (x5_3 : List Int), Aside0 (aw.j5 kq l0 a1 x5_3 l0 (l0.length : Int) x10_1 = some r) ∧ Aside0 (kq ≤ k1) ∧ Aside0 (Kd.R (Kd.int .i64) 3 wc w.heap.size (fun _ => True) v5 x5_3) ∧ Aside0 (Below w.heap.size w wc))
    case first =>
     have H := HC4.out;clear HC4;by_cases c5 : 0 ≤ x10_1
     ·rw [if_pos c5] at H;have c5b0 := decide_eq_true c5;clear c5
      (first | rw [c5b0] | (simp only [az, dr]; rw [c5b0]) | skip)
      by_cases c6 : x10_1 < (l0.length : Int)
      ·rw [if_pos c6] at H;have c6b0 := decide_eq_true c6;clear c6;have HC7 := am H;clear H;have p156 : 0 ≤ (x10_1 : Int) := zu;have q156 : x10_1 < (l0.length : Int) := zu;obtain ⟨ad156, e156, hx156_0, hx156_1, hx156_2⟩ := dx HR0.out x10_1 p156 q156;cases e156;replace hx156_0 := zw HB hx156_0;replace hx156_1 := zw HB hx156_1;replace hx156_2 := zw HB hx156_2;replace p156 := eq_true p156;replace q156 := eq_true q156;go_upto_region 5 with (first | ((with_reducible refine bn (N := 7) rfl ?_); refine b9 ?hg (N := 7) ?hd (cs := #[.int .i64 0, .int .i64 0, .bool false]) (t := 116) ?hr ?_; (case hd => rfl); (case hg => rfl); (case hr => first | (go_simp; done) | (go_simp; rfl)); intro gb157 hg w8 hbox hb; have n0_ := za HO_5 hb; have n1_ := zb HB hb; have n2_ := am (hbox); have n3_ := am ((by rw [hg]; exact (ba (zB HB)) : w.heap.size ≤ gb157)); have n4_ := am ((by rw [hg]; exact (ba (zB HB)) : w.heap.size ≤ gb157)); clear HO_5; clear HB; have HO_5 := n0_; have HB := n1_; have BK157 := n2_; have GW157 := n3_; have GE157 := n4_; clear n0_ n1_ n2_ n3_ n4_; clear hb hbox hg; have hcz9_0 := zk BK157 0 (.int .i64 0); have hcz9_1 := zk BK157 1 (.int .i64 0); have hcz9_2 := zk BK157 2 (.bool false); have hfz9_0 := ac BK157.out 0; have hfz9_1 := ac BK157.out 1; have hfz9_2 := ac BK157.out 2))
       repeat (go_quiet (first | ((with_reducible refine bn (N := 7) rfl ?_); refine b9 ?hg (N := 7) ?hd (cs := #[.int .i64 0, .int .i64 0, .bool false]) (t := 116) ?hr ?_; (case hd => rfl); (case hg => rfl); (case hr => first | (go_simp; done) | (go_simp; rfl)); intro gb157 hg w8 hbox hb; have n0_ := za HO_5 hb; have n1_ := zb HB hb; have n2_ := am (hbox); have n3_ := am ((by rw [hg]; exact (ba (zB HB)) : w.heap.size ≤ gb157)); have n4_ := am ((by rw [hg]; exact (ba (zB HB)) : w.heap.size ≤ gb157)); clear HO_5; clear HB; have HO_5 := n0_; have HB := n1_; have BK157 := n2_; have GW157 := n3_; have GE157 := n4_; clear n0_ n1_ n2_ n3_ n4_; clear hb hbox hg; have hcz9_0 := zk BK157 0 (.int .i64 0); have hcz9_1 := zk BK157 1 (.int .i64 0); have hcz9_2 := zk BK157 2 (.bool false); have hfz9_0 := ac BK157.out 0; have hfz9_1 := ac BK157.out 1; have hfz9_2 := ac BK157.out 2)); go_upto_region 5 with (first | ((with_reducible refine bn (N := 7) rfl ?_); refine b9 ?hg (N := 7) ?hd (cs := #[.int .i64 0, .int .i64 0, .bool false]) (t := 116) ?hr ?_; (case hd => rfl); (case hg => rfl); (case hr => first | (go_simp; done) | (go_simp; rfl)); intro gb157 hg w8 hbox hb; have n0_ := za HO_5 hb; have n1_ := zb HB hb; have n2_ := am (hbox); have n3_ := am ((by rw [hg]; exact (ba (zB HB)) : w.heap.size ≤ gb157)); have n4_ := am ((by rw [hg]; exact (ba (zB HB)) : w.heap.size ≤ gb157)); clear HO_5; clear HB; have HO_5 := n0_; have HB := n1_; have BK157 := n2_; have GW157 := n3_; have GE157 := n4_; clear n0_ n1_ n2_ n3_ n4_; clear hb hbox hg; have hcz9_0 := zk BK157 0 (.int .i64 0); have hcz9_1 := zk BK157 1 (.int .i64 0); have hcz9_2 := zk BK157 2 (.bool false); have hfz9_0 := ac BK157.out 0; have hfz9_1 := ac BK157.out 1; have hfz9_2 := ac BK157.out 2)))
       (try simp only [Act.put, qg, qh, qi])
       go_cut [26] (fun v26 wc => ∃ (kq : Nat) (x26_6 : Bool), v26 = .bool x26_6 ∧ Aside0 (aw.j1 kq l0 a1 x5_1 x10_1 l0 (l0.length : Int) x10_1 x26_6 ((aa l0 x10_1).f0) ((aa l0 x10_1).f1) ((aa l0 x10_1).f2) = some r) ∧ Aside0 (kq ≤ k1) ∧ Aside0 (Kd.R (Kd.int .i64) 3 wc w.heap.size (fun _ => True) u5 x5_1) ∧ Aside0 (wc.heap[gb157]? = some (.cells #[.int .i64 ((aa l0 x10_1).f0), .int .i64 ((aa l0 x10_1).f1), .bool ((aa l0 x10_1).f2)] 116 (0, 0))) ∧ Aside0 (Below w.heap.size w wc))
       case first =>
        have H := HC7.out;clear HC7;by_cases c10 : a1 < 2
        ·rw [if_pos c10] at H;have c10b0 := decide_eq_true c10;clear c10
         (first | rw [c10b0] | (simp only [az, dr]; rw [c10b0]) | skip)
         have H' := am H;clear H;go_wp2
         repeat (go_quiet (fail); try go_wp2)
         go_meet
         case rel => exact ⟨_, (true), zs, H', ⟨by have := HK1.out; first | omega | exact Nat.le_refl _⟩, ⟨by (with_reducible repeat (first | apply qa | apply qb | apply qc)); exact Kd.R_mono (Kd.R_far (p := ⟨gb157, 2, none⟩) (Kd.R_far (p := ⟨gb157, 1, none⟩) (Kd.R_far (p := ⟨gb157, 0, none⟩) (Kd.R_types HO_5.out BK157.out (by decide)) (fun _ hk => hk.2) (.int .i64 ((aa l0 x10_1).f0))) (fun _ hk => hk.2) (.int .i64 ((aa l0 x10_1).f1))) (fun _ hk => hk.2) (.bool ((aa l0 x10_1).f2))) (fun _ hk => trivial)⟩, ⟨by (with_reducible repeat (first | refine ap ?_ _ | refine ay ?_ | refine av ?_ _)); refine da (cs := #[.int .i64 ((aa l0 x10_1).f0), .int .i64 ((aa l0 x10_1).f1), .bool false]) ?_ 2 _ rfl; (with_reducible repeat (first | refine ap ?_ _ | refine ay ?_ | refine av ?_ _)); refine da (cs := #[.int .i64 ((aa l0 x10_1).f0), .int .i64 0, .bool false]) ?_ 1 _ rfl; (with_reducible repeat (first | refine ap ?_ _ | refine ay ?_ | refine av ?_ _)); refine da (cs := #[.int .i64 0, .int .i64 0, .bool false]) ?_ 0 _ rfl; (with_reducible repeat (first | refine ap ?_ _ | refine ay ?_ | refine av ?_ _)); exact BK157.out⟩, ⟨by repeat (first | (with_reducible first | exact HB.out | apply qd | apply qe | apply qf | refine ao ?_ GE157.out) | exact HB.out)⟩⟩
        ·rw [if_neg c10] at H;have c10b0 := decide_eq_false c10;clear c10
         (first | rw [c10b0] | (simp only [az, dr]; rw [c10b0]) | skip)
         first | (generalize hbq11 : (aa l0 x10_1).f2 = bq11 at *; replace hbq11 := hbq11.symm) | (obtain ⟨bq11, hbq11⟩ : ∃ b_ : Bool, b_ = ((aa l0 x10_1).f2) := ⟨_, rfl⟩)
         replace H : (if bq11 = true then (aw.j1 k1 l0 a1 x5_1 x10_1 l0 (l0.length : Int) x10_1 true ((aa l0 x10_1).f0) ((aa l0 x10_1).f1) bq11) else (aw.j1 k1 l0 a1 x5_1 x10_1 l0 (l0.length : Int) x10_1 (decide (((aa l0 x10_1).f1) < a1)) ((aa l0 x10_1).f0) ((aa l0 x10_1).f1) bq11)) = some r := by first | exact H | (rw [← hbq11] at H; exact H)
         have Nbq11 := am hbq11;clear hbq11
         (try rw [← Nbq11.out])
         by_cases c12 : bq11 = true
         ·subst c12;have H1 : (aw.j1 k1 l0 a1 x5_1 x10_1 l0 (l0.length : Int) x10_1 true ((aa l0 x10_1).f0) ((aa l0 x10_1).f1) true) = some r := by rw [if_pos rfl] at H; exact H
          clear H;have H := H1;clear H1;have H' := am H;clear H;have hcz13_0 := zk BK157 0 (.int .i64 0);have hcz13_1 := zk BK157 1 (.int .i64 0);have hcz13_2 := zk BK157 2 (.bool false);have hfz13_0 := ac BK157.out 0;have hfz13_1 := ac BK157.out 1;have hfz13_2 := ac BK157.out 2;go_wp2
          repeat (go_quiet (fail); try go_wp2)
          go_meet
          case rel => (try simp only [← Nbq11.out]); exact ⟨_, (true), zs, H', ⟨by have := HK1.out; first | omega | exact Nat.le_refl _⟩, ⟨by (with_reducible repeat (first | apply qa | apply qb | apply qc)); exact Kd.R_mono (Kd.R_far (p := ⟨gb157, 2, none⟩) (Kd.R_far (p := ⟨gb157, 1, none⟩) (Kd.R_far (p := ⟨gb157, 0, none⟩) (Kd.R_types HO_5.out BK157.out (by decide)) (fun _ hk => hk.2) (.int .i64 ((aa l0 x10_1).f0))) (fun _ hk => hk.2) (.int .i64 ((aa l0 x10_1).f1))) (fun _ hk => hk.2) (.bool true)) (fun _ hk => trivial)⟩, ⟨by (with_reducible repeat (first | refine ap ?_ _ | refine ay ?_ | refine av ?_ _)); refine da (cs := #[.int .i64 ((aa l0 x10_1).f0), .int .i64 ((aa l0 x10_1).f1), .bool false]) ?_ 2 _ rfl; (with_reducible repeat (first | refine ap ?_ _ | refine ay ?_ | refine av ?_ _)); refine da (cs := #[.int .i64 ((aa l0 x10_1).f0), .int .i64 0, .bool false]) ?_ 1 _ rfl; (with_reducible repeat (first | refine ap ?_ _ | refine ay ?_ | refine av ?_ _)); refine da (cs := #[.int .i64 0, .int .i64 0, .bool false]) ?_ 0 _ rfl; (with_reducible repeat (first | refine ap ?_ _ | refine ay ?_ | refine av ?_ _)); exact BK157.out⟩, ⟨by repeat (first | (with_reducible first | exact HB.out | apply qd | apply qe | apply qf | refine ao ?_ GE157.out) | exact HB.out)⟩⟩
         ·replace c12 := Bool.eq_false_iff.mpr c12;subst c12;have H1 : (aw.j1 k1 l0 a1 x5_1 x10_1 l0 (l0.length : Int) x10_1 (decide (((aa l0 x10_1).f1) < a1)) ((aa l0 x10_1).f0) ((aa l0 x10_1).f1) false) = some r := by rw [if_neg (show ¬ (false = true) by decide)] at H; exact H
          clear H;have H := H1;clear H1;have H' := am H;clear H;have hcz14_0 := zk BK157 0 (.int .i64 0);have hcz14_1 := zk BK157 1 (.int .i64 0);have hcz14_2 := zk BK157 2 (.bool false);have hfz14_0 := ac BK157.out 0;have hfz14_1 := ac BK157.out 1;have hfz14_2 := ac BK157.out 2;go_wp2
          repeat (go_quiet (fail); try go_wp2)
          go_meet
          case rel => (try simp only [← Nbq11.out]); exact ⟨_, (decide (((aa l0 x10_1).f1) < a1)), zs, H', ⟨by have := HK1.out; first | omega | exact Nat.le_refl _⟩, ⟨by (with_reducible repeat (first | apply qa | apply qb | apply qc)); exact Kd.R_mono (Kd.R_far (p := ⟨gb157, 2, none⟩) (Kd.R_far (p := ⟨gb157, 1, none⟩) (Kd.R_far (p := ⟨gb157, 0, none⟩) (Kd.R_types HO_5.out BK157.out (by decide)) (fun _ hk => hk.2) (.int .i64 ((aa l0 x10_1).f0))) (fun _ hk => hk.2) (.int .i64 ((aa l0 x10_1).f1))) (fun _ hk => hk.2) (.bool false)) (fun _ hk => trivial)⟩, ⟨by (with_reducible repeat (first | refine ap ?_ _ | refine ay ?_ | refine av ?_ _)); refine da (cs := #[.int .i64 ((aa l0 x10_1).f0), .int .i64 ((aa l0 x10_1).f1), .bool false]) ?_ 2 _ rfl; (with_reducible repeat (first | refine ap ?_ _ | refine ay ?_ | refine av ?_ _)); refine da (cs := #[.int .i64 ((aa l0 x10_1).f0), .int .i64 0, .bool false]) ?_ 1 _ rfl; (with_reducible repeat (first | refine ap ?_ _ | refine ay ?_ | refine av ?_ _)); refine da (cs := #[.int .i64 0, .int .i64 0, .bool false]) ?_ 0 _ rfl; (with_reducible repeat (first | refine ap ?_ _ | refine ay ?_ | refine av ?_ _)); exact BK157.out⟩, ⟨by repeat (first | (with_reducible first | exact HB.out | apply qd | apply qe | apply qf | refine ao ?_ GE157.out) | exact HB.out)⟩⟩
       case rest =>
        clear HC7
        try clear c3
        try clear c3b0
        try clear c5
        try clear c5b0
        try clear c6
        try clear c6b0
        try clear c10
        try clear c10b0
        try clear c12
        try clear hcz13_0
        try clear hcz13_1
        try clear hcz13_2
        try clear hcz14_0
        try clear hcz14_1
        try clear hcz14_2
        try clear hcz9_0
        try clear hcz9_1
        try clear hcz9_2
        try clear hfz13_0
        try clear hfz13_1
        try clear hfz13_2
        try clear hfz14_0
        try clear hfz14_1
        try clear hfz14_2
        try clear hfz9_0
        try clear hfz9_1
        try clear hfz9_2
        try clear hx156_0
        try clear hx156_1
        try clear hx156_2
        try clear p156
        try clear q156
        obtain ⟨kq, x26_6, rfl, HA, HJ6, HO_5, BK157, HB⟩ := hcut;cases kq with
        | zero => exact absurd HA.out (by simp [aw.j1])
        | succ kj6 =>
         have H := HA.out;clear HA;simp only [aw.j1] at H;by_cases c15 : x26_6 = true
         ·subst c15;have H1 : (aw.j5 kj6 l0 a1 x5_1 l0 (l0.length : Int) x10_1) = some r := by rw [if_pos rfl] at H; exact H
          clear H;have H := H1;clear H1;have H' := am H;clear H;go_wp2
          repeat (go_quiet (fail); try go_wp2)
          go_meet
          case rel => exact ⟨_, (x5_1), H', ⟨by have := HK1.out; have := HJ6.out; first | omega | exact Nat.le_refl _⟩, ⟨zr HO_5⟩, ⟨by repeat (first | (with_reducible first | exact HB.out | apply qd | apply qe | apply qf | refine ao ?_ GE157.out) | exact HB.out)⟩⟩
         ·replace c15 := Bool.eq_false_iff.mpr c15;subst c15;have H1 : (if (x5_1.length : Int) > 0 then (if 0 < (x5_1.length : Int) then (if 0 ≤ (rd x5_1 0) then (if (rd x5_1 0) < (l0.length : Int) then (aw.j2 kj6 l0 a1 x5_1 x10_1 l0 (l0.length : Int) x10_1 (decide (((aa l0 x10_1).f1) < ((aa l0 (rd x5_1 0)).f1))) ((aa l0 x10_1).f0) ((aa l0 x10_1).f1) ((aa l0 x10_1).f2)) else (none)) else (none)) else (none)) else (aw.j2 kj6 l0 a1 x5_1 x10_1 l0 (l0.length : Int) x10_1 false ((aa l0 x10_1).f0) ((aa l0 x10_1).f1) ((aa l0 x10_1).f2))) = some r := by rw [if_neg (show ¬ (false = true) by decide)] at H; exact H
          clear H;have H := H1;clear H1;have HC16 := am H;clear H;go_upto_region 6 with (fail)
          repeat (go_quiet (fail); go_upto_region 6 with (fail))
          go_cut [41] (fun v41 wc => ∃ (kq : Nat) (x41_15 : Bool), v41 = .bool x41_15 ∧ Aside0 (aw.j2 kq l0 a1 x5_1 x10_1 l0 (l0.length : Int) x10_1 x41_15 ((aa l0 x10_1).f0) ((aa l0 x10_1).f1) ((aa l0 x10_1).f2) = some r) ∧ Aside0 (kq ≤ kj6) ∧ Aside0 (Kd.R (Kd.int .i64) 3 wc w.heap.size (fun _ => True) u5 x5_1) ∧ Aside0 (wc.heap[gb157]? = some (.cells #[.int .i64 ((aa l0 x10_1).f0), .int .i64 ((aa l0 x10_1).f1), .bool ((aa l0 x10_1).f2)] 116 (0, 0))) ∧ Aside0 (Below w.heap.size w wc))
          case first =>
           have H := HC16.out;clear HC16;by_cases c17 : (x5_1.length : Int) > 0
           ·rw [if_pos c17] at H;have c17b0 : decide (0 < (x5_1.length : Int)) = true := decide_eq_true c17;have c17b1 : decide (0 < x5_1.length) = true := decide_eq_true (by omega);clear c17
            (first | rw [c17b0] | (simp only [az, dr]; rw [c17b0]) | skip)
            by_cases c18 : 0 < (x5_1.length : Int)
            ·rw [if_pos c18] at H;have c18b0 := decide_eq_true c18;have c18b1 : decide (0 < x5_1.length) = true := decide_eq_true (by omega);clear c18;by_cases c19 : 0 ≤ (rd x5_1 0)
             ·rw [if_pos c19] at H;have c19b0 := decide_eq_true c19;clear c19;by_cases c20 : (rd x5_1 0) < (l0.length : Int)
              ·rw [if_pos c20] at H;have c20b0 := decide_eq_true c20;clear c20;have H' := am H;clear H;obtain ⟨Ao21, co21, eo21⟩ := Kd.R_slice HO_5.out;subst eo21;have hcz22_0 := zk BK157 0 (.int .i64 ((aa l0 x10_1).f0));have hcz22_1 := zk BK157 1 (.int .i64 ((aa l0 x10_1).f1));have hcz22_2 := zk BK157 2 (.bool ((aa l0 x10_1).f2));have hfz22_0 := ac BK157.out 0;have hfz22_1 := ac BK157.out 1;have hfz22_2 := ac BK157.out 2;have p158 : 0 ≤ (0 : Int) := (by omega);have q158 : 0 < (x5_1.length : Int) := zu;obtain ⟨ad158, e158, hx158_0⟩ := Kd.at_int (Kd.R_reads' HO_5.out).2.2 0 p158 q158;cases e158;have qi158 : (0 < x5_1.length) = True := eq_true (by omega)
               (try rw [show ((0 : Int)).toNat = 0 from rfl] at hx158_0)
               (try rw [Addr.add_zero'] at hx158_0)
               replace p158 := eq_true p158;replace q158 := eq_true q158;have p159 : 0 ≤ ((rd x5_1 0) : Int) := zu;have q159 : (rd x5_1 0) < (l0.length : Int) := zu;obtain ⟨ad159, e159, hx159_0, hx159_1, hx159_2⟩ := dx HR0.out (rd x5_1 0) p159 q159;obtain rfl : ad156 = ad159 := (by injection e159);replace hx159_0 := zw HB hx159_0;replace hx159_1 := zw HB hx159_1;replace hx159_2 := zw HB hx159_2;replace p159 := eq_true p159;replace q159 := eq_true q159;go_wp2
               repeat (go_quiet (fail); try go_wp2)
               go_meet
               case rel => exact ⟨_, (decide (((aa l0 x10_1).f1) < ((aa l0 (rd x5_1 0)).f1))), zs, H', ⟨by have := HK1.out; have := HJ6.out; first | omega | exact Nat.le_refl _⟩, ⟨zr HO_5⟩, ⟨by (with_reducible repeat (first | refine ap ?_ _ | refine ay ?_ | refine av ?_ _)); exact BK157.out⟩, ⟨by repeat (first | (with_reducible first | exact HB.out | apply qd | apply qe | apply qf | refine ao ?_ GE157.out) | exact HB.out)⟩⟩
              ·rw [if_neg c20] at H;exact absurd H (by simp)
             ·rw [if_neg c19] at H;exact absurd H (by simp)
            ·rw [if_neg c18] at H;exact absurd H (by simp)
           ·rw [if_neg c17] at H;have c17b0 : decide (0 < (x5_1.length : Int)) = false := decide_eq_false c17;have c17b1 : decide (0 < x5_1.length) = false := decide_eq_false (by omega);clear c17
            (first | rw [c17b0] | (simp only [az, dr]; rw [c17b0]) | skip)
            have H' := am H;clear H;obtain ⟨Ao23, co23, eo23⟩ := Kd.R_slice HO_5.out;subst eo23;go_wp2
            repeat (go_quiet (fail); try go_wp2)
            go_meet
            case rel => exact ⟨_, (false), zs, H', ⟨by have := HK1.out; have := HJ6.out; first | omega | exact Nat.le_refl _⟩, ⟨zr HO_5⟩, ⟨by (with_reducible repeat (first | refine ap ?_ _ | refine ay ?_ | refine av ?_ _)); exact BK157.out⟩, ⟨by repeat (first | (with_reducible first | exact HB.out | apply qd | apply qe | apply qf | refine ao ?_ GE157.out) | exact HB.out)⟩⟩
          case rest =>
           clear HC16
           try clear c3
           try clear c3b0
           try clear c5
           try clear c5b0
           try clear c6
           try clear c6b0
           try clear c10
           try clear c10b0
           try clear c12
           try clear c15
           try clear c17
           try clear c17b0
           try clear c17b1
           try clear c18
           try clear c18b0
           try clear c18b1
           try clear c19
           try clear c19b0
           try clear c20
           try clear c20b0
           try clear hcz13_0
           try clear hcz13_1
           try clear hcz13_2
           try clear hcz14_0
           try clear hcz14_1
           try clear hcz14_2
           try clear hcz22_0
           try clear hcz22_1
           try clear hcz22_2
           try clear hcz9_0
           try clear hcz9_1
           try clear hcz9_2
           try clear hfz13_0
           try clear hfz13_1
           try clear hfz13_2
           try clear hfz14_0
           try clear hfz14_1
           try clear hfz14_2
           try clear hfz22_0
           try clear hfz22_1
           try clear hfz22_2
           try clear hfz9_0
           try clear hfz9_1
           try clear hfz9_2
           try clear hx156_0
           try clear hx156_1
           try clear hx156_2
           try clear hx158_0
           try clear hx159_0
           try clear hx159_1
           try clear hx159_2
           try clear p156
           try clear p158
           try clear p159
           try clear q156
           try clear q158
           try clear q159
           obtain ⟨kq, x41_15, rfl, HA, HJ15, HO_5, BK157, HB⟩ := hcut;cases kq with
           | zero => exact absurd HA.out (by simp [aw.j2])
           | succ kj15 =>
            have H := HA.out;clear HA;simp only [aw.j2] at H;have HC24 := am H;clear H;go_upto_if 41 with (fail)
            repeat (go_quiet (fail); go_upto_if 41 with (fail))
            go_cut [5] (fun v5 wc => ∃ (kq : Nat) (x5_23 : List Int), Aside0 (aw.j3 kq l0 a1 x5_23 x10_1 l0 (l0.length : Int) x10_1 ((aa l0 x10_1).f0) ((aa l0 x10_1).f1) ((aa l0 x10_1).f2) = some r) ∧ Aside0 (kq ≤ kj15) ∧ Aside0 (Kd.R (Kd.int .i64) 3 wc w.heap.size (fun _ => True) v5 x5_23) ∧ Aside0 (wc.heap[gb157]? = some (.cells #[.int .i64 ((aa l0 x10_1).f0), .int .i64 ((aa l0 x10_1).f1), .bool ((aa l0 x10_1).f2)] 116 (0, 0))) ∧ Aside0 (Below w.heap.size w wc))
            case first =>
             have H := HC24.out;clear HC24;by_cases c25 : x41_15 = true
             ·subst c25;have H1 : (aw.j3 kj15 l0 a1 ([] : List Int) x10_1 l0 (l0.length : Int) x10_1 ((aa l0 x10_1).f0) ((aa l0 x10_1).f1) ((aa l0 x10_1).f2)) = some r := by rw [if_pos rfl] at H; exact H
              clear H;have H := H1;clear H1;have H' := am H;clear H;go_wp2
              repeat (go_quiet (fail); try go_wp2)
              go_meet
              case rel => exact ⟨_, (([] : List Int)), H', ⟨by have := HK1.out; have := HJ6.out; have := HJ15.out; first | omega | exact Nat.le_refl _⟩, ⟨by first | exact Kd.R_nil _ _ _ _ _ | exact Kd.N_nil _ _ _ _ _ | exact Kd.V_nil _ _ _ _ _ | exact Kd.Q_nil _ _ _ _ _ | exact Kd.S_nil _ _ _ _ _⟩, ⟨by (with_reducible repeat (first | refine ap ?_ _ | refine ay ?_ | refine av ?_ _)); exact BK157.out⟩, ⟨by repeat (first | (with_reducible first | exact HB.out | apply qd | apply qe | apply qf | refine ao ?_ GE157.out) | exact HB.out)⟩⟩
             ·replace c25 := Bool.eq_false_iff.mpr c25;subst c25;have H1 : (aw.j3 kj15 l0 a1 x5_1 x10_1 l0 (l0.length : Int) x10_1 ((aa l0 x10_1).f0) ((aa l0 x10_1).f1) ((aa l0 x10_1).f2)) = some r := by rw [if_neg (show ¬ (false = true) by decide)] at H; exact H
              clear H;have H := H1;clear H1;have H' := am H;clear H;go_wp2
              repeat (go_quiet (fail); try go_wp2)
              go_meet
              case rel => exact ⟨_, (x5_1), H', ⟨by have := HK1.out; have := HJ6.out; have := HJ15.out; first | omega | exact Nat.le_refl _⟩, ⟨zr HO_5⟩, ⟨by (with_reducible repeat (first | refine ap ?_ _ | refine ay ?_ | refine av ?_ _)); exact BK157.out⟩, ⟨by repeat (first | (with_reducible first | exact HB.out | apply qd | apply qe | apply qf | refine ao ?_ GE157.out) | exact HB.out)⟩⟩
            case rest =>
             clear HC24
             try clear c3
             try clear c3b0
             try clear c5
             try clear c5b0
             try clear c6
             try clear c6b0
             try clear c10
             try clear c10b0
             try clear c12
             try clear c15
             try clear c17
             try clear c17b0
             try clear c17b1
             try clear c18
             try clear c18b0
             try clear c18b1
             try clear c19
             try clear c19b0
             try clear c20
             try clear c20b0
             try clear c25
             try clear hcz13_0
             try clear hcz13_1
             try clear hcz13_2
             try clear hcz14_0
             try clear hcz14_1
             try clear hcz14_2
             try clear hcz22_0
             try clear hcz22_1
             try clear hcz22_2
             try clear hcz9_0
             try clear hcz9_1
             try clear hcz9_2
             try clear hfz13_0
             try clear hfz13_1
             try clear hfz13_2
             try clear hfz14_0
             try clear hfz14_1
             try clear hfz14_2
             try clear hfz22_0
             try clear hfz22_1
             try clear hfz22_2
             try clear hfz9_0
             try clear hfz9_1
             try clear hfz9_2
             try clear hx156_0
             try clear hx156_1
             try clear hx156_2
             try clear hx158_0
             try clear hx159_0
             try clear hx159_1
             try clear hx159_2
             try clear p156
             try clear p158
             try clear p159
             try clear q156
             try clear q158
             try clear q159
             obtain ⟨kq, x5_23, HA, HJ23, HO_5, BK157, HB⟩ := hcut;cases kq with
             | zero => exact absurd HA.out (by simp [aw.j3])
             | succ kj23 =>
              have H := HA.out;clear HA;simp only [aw.j3] at H;have HC26 := am H;clear H;go_upto_region 8 with (fail)
              repeat (go_quiet (fail); go_upto_region 8 with (fail))
              go_cut [56] (fun v56 wc => ∃ (kq : Nat) (x56_25 : Bool), v56 = .bool x56_25 ∧ Aside0 (aw.j4 kq l0 a1 x5_23 x10_1 l0 (l0.length : Int) x10_1 x56_25 = some r) ∧ Aside0 (kq ≤ kj23) ∧ Aside0 (Kd.R (Kd.int .i64) 3 wc w.heap.size (fun _ => True) u5 x5_23) ∧ Aside0 (wc.heap[gb157]? = some (.cells #[.int .i64 ((aa l0 x10_1).f0), .int .i64 ((aa l0 x10_1).f1), .bool ((aa l0 x10_1).f2)] 116 (0, 0))) ∧ Aside0 (Below w.heap.size w wc))
              case first =>
               have H := HC26.out;clear HC26;by_cases c27 : (x5_23.length : Int) = 0
               ·rw [if_pos c27] at H;have c27b0 : ((x5_23.length : Int) == 0) = true := beq_iff_eq.mpr c27;have c27b1 : ((x5_23.length : Int) != 0) = false := bne_eq_false_iff_eq.mpr c27;clear c27
                (first | rw [c27b0] | (simp only [az, dr]; rw [c27b0]) | skip)
                have H' := am H;clear H;obtain ⟨Ao28, co28, eo28⟩ := Kd.R_slice HO_5.out;subst eo28;go_wp2
                repeat (go_quiet (fail); try go_wp2)
                go_meet
                case rel => exact ⟨_, (true), zs, H', ⟨by have := HK1.out; have := HJ6.out; have := HJ15.out; have := HJ23.out; first | omega | exact Nat.le_refl _⟩, ⟨zr HO_5⟩, ⟨by (with_reducible repeat (first | refine ap ?_ _ | refine ay ?_ | refine av ?_ _)); exact BK157.out⟩, ⟨by repeat (first | (with_reducible first | exact HB.out | apply qd | apply qe | apply qf | refine ao ?_ GE157.out) | exact HB.out)⟩⟩
               ·rw [if_neg c27] at H;have c27b0 : ((x5_23.length : Int) == 0) = false := beq_eq_false_iff_ne.mpr c27;have c27b1 : ((x5_23.length : Int) != 0) = true := bne_iff_ne.mpr c27;have c27b2 : ¬ (x5_23 = []) := fun h_ => c27 (by rw [h_]; rfl)
                (first | rw [c27b0] | (simp only [az, dr]; rw [c27b0]) | skip)
                by_cases c29 : 0 < (x5_23.length : Int)
                ·rw [if_pos c29] at H;have c29b0 := decide_eq_true c29;have c29b1 : decide (0 < x5_23.length) = true := decide_eq_true (by omega);clear c29;by_cases c30 : 0 ≤ (rd x5_23 0)
                 ·rw [if_pos c30] at H;have c30b0 := decide_eq_true c30;clear c30;by_cases c31 : (rd x5_23 0) < (l0.length : Int)
                  ·rw [if_pos c31] at H;have c31b0 := decide_eq_true c31;clear c31;have H' := am H;clear H;obtain ⟨Ao32, co32, eo32⟩ := Kd.R_slice HO_5.out;subst eo32;have hcz33_0 := zk BK157 0 (.int .i64 ((aa l0 x10_1).f0));have hcz33_1 := zk BK157 1 (.int .i64 ((aa l0 x10_1).f1));have hcz33_2 := zk BK157 2 (.bool ((aa l0 x10_1).f2));have hfz33_0 := ac BK157.out 0;have hfz33_1 := ac BK157.out 1;have hfz33_2 := ac BK157.out 2;have p160 : 0 ≤ (0 : Int) := (by omega);have q160 : 0 < (x5_23.length : Int) := zu;obtain ⟨ad160, e160, hx160_0⟩ := Kd.at_int (Kd.R_reads' HO_5.out).2.2 0 p160 q160;cases e160;have qi160 : (0 < x5_23.length) = True := eq_true (by omega)
                   (try rw [show ((0 : Int)).toNat = 0 from rfl] at hx160_0)
                   (try rw [Addr.add_zero'] at hx160_0)
                   replace p160 := eq_true p160;replace q160 := eq_true q160;have p161 : 0 ≤ ((rd x5_23 0) : Int) := zu;have q161 : (rd x5_23 0) < (l0.length : Int) := zu;obtain ⟨ad161, e161, hx161_0, hx161_1, hx161_2⟩ := dx HR0.out (rd x5_23 0) p161 q161;obtain rfl : ad156 = ad161 := (by injection e161);replace hx161_0 := zw HB hx161_0;replace hx161_1 := zw HB hx161_1;replace hx161_2 := zw HB hx161_2;replace p161 := eq_true p161;replace q161 := eq_true q161;go_wp2
                   repeat (go_quiet (fail); try go_wp2)
                   go_meet
                   case rel => exact ⟨_, ((((aa l0 x10_1).f1) == ((aa l0 (rd x5_23 0)).f1))), zs, H', ⟨by have := HK1.out; have := HJ6.out; have := HJ15.out; have := HJ23.out; first | omega | exact Nat.le_refl _⟩, ⟨zr HO_5⟩, ⟨by (with_reducible repeat (first | refine ap ?_ _ | refine ay ?_ | refine av ?_ _)); exact BK157.out⟩, ⟨by repeat (first | (with_reducible first | exact HB.out | apply qd | apply qe | apply qf | refine ao ?_ GE157.out) | exact HB.out)⟩⟩
                  ·rw [if_neg c31] at H;exact absurd H (by simp)
                 ·rw [if_neg c30] at H;exact absurd H (by simp)
                ·rw [if_neg c29] at H;exact absurd H (by simp)
              case rest =>
               clear HC26
               try clear c3
               try clear c3b0
               try clear c5
               try clear c5b0
               try clear c6
               try clear c6b0
               try clear c10
               try clear c10b0
               try clear c12
               try clear c15
               try clear c17
               try clear c17b0
               try clear c17b1
               try clear c18
               try clear c18b0
               try clear c18b1
               try clear c19
               try clear c19b0
               try clear c20
               try clear c20b0
               try clear c25
               try clear c27
               try clear c27b0
               try clear c27b1
               try clear c27b2
               try clear c29
               try clear c29b0
               try clear c29b1
               try clear c30
               try clear c30b0
               try clear c31
               try clear c31b0
               try clear hcz13_0
               try clear hcz13_1
               try clear hcz13_2
               try clear hcz14_0
               try clear hcz14_1
               try clear hcz14_2
               try clear hcz22_0
               try clear hcz22_1
               try clear hcz22_2
               try clear hcz33_0
               try clear hcz33_1
               try clear hcz33_2
               try clear hcz9_0
               try clear hcz9_1
               try clear hcz9_2
               try clear hfz13_0
               try clear hfz13_1
               try clear hfz13_2
               try clear hfz14_0
               try clear hfz14_1
               try clear hfz14_2
               try clear hfz22_0
               try clear hfz22_1
               try clear hfz22_2
               try clear hfz33_0
               try clear hfz33_1
               try clear hfz33_2
               try clear hfz9_0
               try clear hfz9_1
               try clear hfz9_2
               try clear hx156_0
               try clear hx156_1
               try clear hx156_2
               try clear hx158_0
               try clear hx159_0
               try clear hx159_1
               try clear hx159_2
               try clear hx160_0
               try clear hx161_0
               try clear hx161_1
               try clear hx161_2
               try clear p156
               try clear p158
               try clear p159
               try clear p160
               try clear p161
               try clear q156
               try clear q158
               try clear q159
               try clear q160
               try clear q161
               obtain ⟨kq, x56_25, rfl, HA, HJ25, HO_5, BK157, HB⟩ := hcut;cases kq with
               | zero => exact absurd HA.out (by simp [aw.j4])
               | succ kj25 =>
                have H := HA.out;clear HA;simp only [aw.j4] at H;by_cases c34 : x56_25 = true
                ·subst c34;have H1 : (if x5_23.length < 17592186044416 then (aw.j5 kj25 l0 a1 (x5_23 ++ [x10_1]) l0 (l0.length : Int) x10_1) else (none)) = some r := by rw [if_pos rfl] at H; exact H
                 clear H;have H := H1;clear H1;by_cases c35 : x5_23.length < 17592186044416
                 ·rw [if_pos c35] at H;have LMc35 := am c35;clear c35;obtain ⟨y162, hy162⟩ : ∃ y_ : List Int, y_ = (x5_23 ++ [x10_1]) := ⟨_, rfl⟩;replace H : (aw.j5 kj25 l0 a1 y162 l0 (l0.length : Int) x10_1) = some r := by first | (rw [hy162]; with_reducible exact H) | (have H2_ := (Option.bind_some _ _).symm.trans H; rw [hy162]; with_reducible exact H2_) | (have H2_ := (Option.bind_some _ _).symm.trans H; with_reducible exact H2_) | with_reducible exact H | (rw [hy162]; exact H) | exact H
                  have Ny162 := am hy162;clear hy162;have H' := am H;clear H;go_wp2_with (first | ((with_reducible refine dn (b := .append) (xs := #[.tmp 57, .tmp 59]) rfl ?_); at_builtin; refine Kd.R_append (Kd.int .i64) (w0 := w) w.heap.size rfl (.tmp 57) (.tmp 59) 44 3 (.int .i64 0) 8 rfl Tryz.underlying44 uj rfl (by decide) (by omega) u5 x5_23 x10_1 [.int .i64 x10_1] (fun _ => True) (fun _ => False) rfl rfl ?aP (fun _ hk => hk.elim) ?aF ?aO ?aB ?aS ?aL ?_; (case aP => exact rfl); (case aB => exact (by repeat (first | (with_reducible first | exact HB.out | apply qd | apply qe | apply qf | refine ao ?_ GE157.out) | exact HB.out))); (case aF => exact (fun _ _ => trivial)); (case aO => exact (zr HO_5)); (case aS => exact (ba (by repeat (first | (with_reducible first | exact HB.out | apply qd | apply qe | apply qf | refine ao ?_ GE157.out) | exact HB.out)))); (case aL => have := LMc35.out; omega); intro v163 w36 ho hb hg hat; rw [← Ny162.out] at ho; have n0_ := am (gv (g := gb157) (o := .cells #[.int .i64 ((aa l0 x10_1).f0), .int .i64 ((aa l0 x10_1).f1), .bool ((aa l0 x10_1).f2)] 116 (0, 0)) (by (with_reducible repeat (first | refine ap ?_ _ | refine ay ?_ | refine av ?_ _)); exact BK157.out) hg (Kd.R_ne HO_5.out BK157.out (by decide))); have n1_ := am (hb); have n2_ := am (ho); clear BK157; clear HB; clear HO_5; have BK157 := n0_; have HB := n1_; have HO164 := n2_; clear n0_ n1_ n2_; clear ho hb hg hat))
                  repeat (go_quiet (first | ((with_reducible refine dn (b := .append) (xs := #[.tmp 57, .tmp 59]) rfl ?_); at_builtin; refine Kd.R_append (Kd.int .i64) (w0 := w) w.heap.size rfl (.tmp 57) (.tmp 59) 44 3 (.int .i64 0) 8 rfl Tryz.underlying44 uj rfl (by decide) (by omega) u5 x5_23 x10_1 [.int .i64 x10_1] (fun _ => True) (fun _ => False) rfl rfl ?aP (fun _ hk => hk.elim) ?aF ?aO ?aB ?aS ?aL ?_; (case aP => exact rfl); (case aB => exact (by repeat (first | (with_reducible first | exact HB.out | apply qd | apply qe | apply qf | refine ao ?_ GE157.out) | exact HB.out))); (case aF => exact (fun _ _ => trivial)); (case aO => exact (zr HO_5)); (case aS => exact (ba (by repeat (first | (with_reducible first | exact HB.out | apply qd | apply qe | apply qf | refine ao ?_ GE157.out) | exact HB.out)))); (case aL => have := LMc35.out; omega); intro v163 w36 ho hb hg hat; rw [← Ny162.out] at ho; have n0_ := am (gv (g := gb157) (o := .cells #[.int .i64 ((aa l0 x10_1).f0), .int .i64 ((aa l0 x10_1).f1), .bool ((aa l0 x10_1).f2)] 116 (0, 0)) (by (with_reducible repeat (first | refine ap ?_ _ | refine ay ?_ | refine av ?_ _)); exact BK157.out) hg (Kd.R_ne HO_5.out BK157.out (by decide))); have n1_ := am (hb); have n2_ := am (ho); clear BK157; clear HB; clear HO_5; have BK157 := n0_; have HB := n1_; have HO164 := n2_; clear n0_ n1_ n2_; clear ho hb hg hat)); try go_wp2_with (first | ((with_reducible refine dn (b := .append) (xs := #[.tmp 57, .tmp 59]) rfl ?_); at_builtin; refine Kd.R_append (Kd.int .i64) (w0 := w) w.heap.size rfl (.tmp 57) (.tmp 59) 44 3 (.int .i64 0) 8 rfl Tryz.underlying44 uj rfl (by decide) (by omega) u5 x5_23 x10_1 [.int .i64 x10_1] (fun _ => True) (fun _ => False) rfl rfl ?aP (fun _ hk => hk.elim) ?aF ?aO ?aB ?aS ?aL ?_; (case aP => exact rfl); (case aB => exact (by repeat (first | (with_reducible first | exact HB.out | apply qd | apply qe | apply qf | refine ao ?_ GE157.out) | exact HB.out))); (case aF => exact (fun _ _ => trivial)); (case aO => exact (zr HO_5)); (case aS => exact (ba (by repeat (first | (with_reducible first | exact HB.out | apply qd | apply qe | apply qf | refine ao ?_ GE157.out) | exact HB.out)))); (case aL => have := LMc35.out; omega); intro v163 w36 ho hb hg hat; rw [← Ny162.out] at ho; have n0_ := am (gv (g := gb157) (o := .cells #[.int .i64 ((aa l0 x10_1).f0), .int .i64 ((aa l0 x10_1).f1), .bool ((aa l0 x10_1).f2)] 116 (0, 0)) (by (with_reducible repeat (first | refine ap ?_ _ | refine ay ?_ | refine av ?_ _)); exact BK157.out) hg (Kd.R_ne HO_5.out BK157.out (by decide))); have n1_ := am (hb); have n2_ := am (ho); clear BK157; clear HB; clear HO_5; have BK157 := n0_; have HB := n1_; have HO164 := n2_; clear n0_ n1_ n2_; clear ho hb hg hat)))
                  go_meet
                  case rel => exact ⟨_, (y162), H', ⟨by have := HK1.out; have := HJ6.out; have := HJ15.out; have := HJ23.out; have := HJ25.out; first | omega | exact Nat.le_refl _⟩, ⟨zr HO164⟩, ⟨by repeat (first | (with_reducible first | exact HB.out | apply qd | apply qe | apply qf | refine ao ?_ GE157.out) | exact HB.out)⟩⟩
                 ·rw [if_neg c35] at H;exact absurd H (by simp)
                ·replace c34 := Bool.eq_false_iff.mpr c34;subst c34;have H1 : (aw.j5 kj25 l0 a1 x5_23 l0 (l0.length : Int) x10_1) = some r := by rw [if_neg (show ¬ (false = true) by decide)] at H; exact H
                 clear H;have H := H1;clear H1;have H' := am H;clear H;go_wp2
                 repeat (go_quiet (fail); try go_wp2)
                 go_meet
                 case rel => exact ⟨_, (x5_23), H', ⟨by have := HK1.out; have := HJ6.out; have := HJ15.out; have := HJ23.out; have := HJ25.out; first | omega | exact Nat.le_refl _⟩, ⟨zr HO_5⟩, ⟨by repeat (first | (with_reducible first | exact HB.out | apply qd | apply qe | apply qf | refine ao ?_ GE157.out) | exact HB.out)⟩⟩
      ·rw [if_neg c6] at H;exact absurd H (by simp)
     ·rw [if_neg c5] at H;exact absurd H (by simp)
    case rest =>
     clear HC4
     try clear c3
     try clear c3b0
     try clear c5
     try clear c5b0
     try clear c6
     try clear c6b0
     try clear c10
     try clear c10b0
     try clear c12
     try clear c15
     try clear c17
     try clear c17b0
     try clear c17b1
     try clear c18
     try clear c18b0
     try clear c18b1
     try clear c19
     try clear c19b0
     try clear c20
     try clear c20b0
     try clear c25
     try clear c27
     try clear c27b0
     try clear c27b1
     try clear c27b2
     try clear c29
     try clear c29b0
     try clear c29b1
     try clear c30
     try clear c30b0
     try clear c31
     try clear c31b0
     try clear c34
     try clear c35
     try clear hcz13_0
     try clear hcz13_1
     try clear hcz13_2
     try clear hcz14_0
     try clear hcz14_1
     try clear hcz14_2
     try clear hcz22_0
     try clear hcz22_1
     try clear hcz22_2
     try clear hcz33_0
     try clear hcz33_1
     try clear hcz33_2
     try clear hcz9_0
     try clear hcz9_1
     try clear hcz9_2
     try clear hfz13_0
     try clear hfz13_1
     try clear hfz13_2
     try clear hfz14_0
     try clear hfz14_1
     try clear hfz14_2
     try clear hfz22_0
     try clear hfz22_1
     try clear hfz22_2
     try clear hfz33_0
     try clear hfz33_1
     try clear hfz33_2
     try clear hfz9_0
     try clear hfz9_1
     try clear hfz9_2
     try clear hx156_0
     try clear hx156_1
     try clear hx156_2
     try clear hx158_0
     try clear hx159_0
     try clear hx159_1
     try clear hx159_2
     try clear hx160_0
     try clear hx161_0
     try clear hx161_1
     try clear hx161_2
     try clear p156
     try clear p158
     try clear p159
     try clear p160
     try clear p161
     try clear q156
     try clear q158
     try clear q159
     try clear q160
     try clear q161
     obtain ⟨kq, x5_3, HA, HJ3, HO_5, HB⟩ := hcut;cases kq with
     | zero => exact absurd HA.out (by simp [aw.j5])
     | succ kj3 =>
      have H := HA.out;clear HA;simp only [aw.j5] at H;have H' := am H;clear H;go_wp2
      repeat (go_quiet (fail); try go_wp2)
      go_roundg kj3
      case measure => have := HK1.out; have := HJ3.out; omega
      case rel => exact ⟨(x5_3), (wrap64 (x10_1 + 1)), zs, H', ⟨by have := HK1.out; have := HJ3.out; omega⟩, ⟨zr HO_5⟩, ⟨zB HB⟩⟩
   ·rw [if_neg c3] at H;have c3b0 := decide_eq_false c3;clear c3;obtain rfl := Option.some.inj H;go_wp2
    repeat (go_quiet (fail); try go_wp2)
    go_ret;exact ⟨_, ze, by (with_reducible repeat (first | apply qa | apply qb | apply qc)); exact HO_5.out, zB HB⟩
def lx.f (a0_0 : Int) (a0_1 : Int) (a0_2 : Bool) (l1 : List Int) : Option (Int) := if a0_0 < 0 then (some 0) else (if (wrap64 (Int.tdiv a0_0 32)) ≥ (l1.length : Int) then (some 0) else (if 0 ≤ (wrap64 (Int.tdiv a0_0 32)) then (if (wrap64 (Int.tdiv a0_0 32)) < (l1.length : Int) then (some (rd l1 (wrap64 (Int.tdiv a0_0 32)))) else (none)) else (none)))
theorem lx.calls (a0_0 : Int) (a0_1 : Int) (a0_2 : Bool) (A1 : Option Addr) (c1 : Nat) (l1 : List Int) (r : Int) (w : World) (hr1 : Kd.C (Kd.int .i64) w A1 l1.length l1) (hc1 : l1.length ≤ c1) (h : lx.f a0_0 a0_1 a0_2 l1 = some r) : Calls Tryz.prog 162 #[.agg #[.int .i64 a0_0, .int .i64 a0_1, .bool a0_2], .slice A1 l1.length c1] w fun e w' => e = .returned (.int .i64 r) ∧ Below w.heap.size w w' := by
 have hu116 := Tryz.underlying116;have HR1 := am hr1;have HC1 := am hc1;clear hr1 hc1;have HB := am (Below.refl w.heap.size w);have H : (if a0_0 < 0 then (some 0) else (if (wrap64 (Int.tdiv a0_0 32)) ≥ (l1.length : Int) then (some 0) else (if 0 ≤ (wrap64 (Int.tdiv a0_0 32)) then (if (wrap64 (Int.tdiv a0_0 32)) < (l1.length : Int) then (some (rd l1 (wrap64 (Int.tdiv a0_0 32)))) else (none)) else (none)))) = some r := h;clear h;by_cases c3 : a0_0 < 0
 ·rw [if_pos c3] at H;have c3b0 := decide_eq_true c3;clear c3;obtain rfl := Option.some.inj H;go_enter Tryz.func162, Tryz.ntmps162;go_wp2_with (first | ((with_reducible refine bn (N := 2) rfl ?_); (try (refine fe (by rfl) ?_; dsimp only)); refine b9 ?hg (N := 2) ?hd (cs := #[.int .i64 a0_0, .int .i64 a0_1, .bool a0_2]) (t := 116) ?hr ?_; (case hd => rfl); (case hg => rfl); (case hr => first | (go_simp; done) | (go_simp; rfl)); intro gb165 hg w4 hbox hb; have GW165 := zg HB hg; have GE165 := GW165; replace HB := zb HB hb; have BK165 := am hbox; clear hb hbox hg; have hcz5_0 := zk BK165 0 (.int .i64 a0_0); have hcz5_1 := zk BK165 1 (.int .i64 a0_1); have hcz5_2 := zk BK165 2 (.bool a0_2); have hfz5_0 := ac BK165.out 0; have hfz5_1 := ac BK165.out 1; have hfz5_2 := ac BK165.out 2))
  go_ret;exact ⟨ze, by repeat (first | (with_reducible first | exact HB.out | apply qd | apply qe | apply qf | refine ao ?_ GE165.out) | exact HB.out)⟩
 ·rw [if_neg c3] at H;have c3b0 := decide_eq_false c3;clear c3;by_cases c6 : (wrap64 (Int.tdiv a0_0 32)) ≥ (l1.length : Int)
  ·rw [if_pos c6] at H;have c6b0 : decide ((l1.length : Int) ≤ (wrap64 (Int.tdiv a0_0 32))) = true := decide_eq_true c6;clear c6;obtain rfl := Option.some.inj H;go_enter Tryz.func162, Tryz.ntmps162;go_wp2_with (first | ((with_reducible refine bn (N := 2) rfl ?_); (try (refine fe (by rfl) ?_; dsimp only)); refine b9 ?hg (N := 2) ?hd (cs := #[.int .i64 a0_0, .int .i64 a0_1, .bool a0_2]) (t := 116) ?hr ?_; (case hd => rfl); (case hg => rfl); (case hr => first | (go_simp; done) | (go_simp; rfl)); intro gb165 hg w7 hbox hb; have GW165 := zg HB hg; have GE165 := GW165; replace HB := zb HB hb; have BK165 := am hbox; clear hb hbox hg; have hcz8_0 := zk BK165 0 (.int .i64 a0_0); have hcz8_1 := zk BK165 1 (.int .i64 a0_1); have hcz8_2 := zk BK165 2 (.bool a0_2); have hfz8_0 := ac BK165.out 0; have hfz8_1 := ac BK165.out 1; have hfz8_2 := ac BK165.out 2))
   go_ret;exact ⟨ze, by repeat (first | (with_reducible first | exact HB.out | apply qd | apply qe | apply qf | refine ao ?_ GE165.out) | exact HB.out)⟩
  ·rw [if_neg c6] at H;have c6b0 : decide ((l1.length : Int) ≤ (wrap64 (Int.tdiv a0_0 32))) = false := decide_eq_false c6;clear c6;obtain ⟨ji9, hji9⟩ : ∃ j_ : Int, (wrap64 (Int.tdiv a0_0 32)) = j_ := ⟨_, rfl⟩;replace H : (if 0 ≤ (ji9) then (if (ji9) < (l1.length : Int) then (some (rd l1 (ji9))) else (none)) else (none)) = some r := by first | (rw [hji9] at H; exact H) | (simp only [hji9] at H ⊢; exact H)
   (try rw [hji9] at c6b0)
   have hji9w : (IntKind.i64.wrap (Int.tdiv a0_0 32)) = ji9 := (az _).trans hji9;by_cases c10 : 0 ≤ (ji9)
   ·rw [if_pos c10] at H;have c10b0 := decide_eq_true c10;clear c10;by_cases c11 : (ji9) < (l1.length : Int)
    ·rw [if_pos c11] at H;have c11b0 := decide_eq_true c11;clear c11;obtain rfl := Option.some.inj H;go_enter Tryz.func162, Tryz.ntmps162;go_wp2_with (first | ((with_reducible refine bn (N := 2) rfl ?_); (try (refine fe (by rfl) ?_; dsimp only)); refine b9 ?hg (N := 2) ?hd (cs := #[.int .i64 a0_0, .int .i64 a0_1, .bool a0_2]) (t := 116) ?hr ?_; (case hd => rfl); (case hg => rfl); (case hr => first | (go_simp; done) | (go_simp; rfl)); intro gb165 hg w12 hbox hb; have GW165 := zg HB hg; have GE165 := GW165; replace HB := zb HB hb; have BK165 := am hbox; clear hb hbox hg; have hcz13_0 := zk BK165 0 (.int .i64 a0_0); have hcz13_1 := zk BK165 1 (.int .i64 a0_1); have hcz13_2 := zk BK165 2 (.bool a0_2); have hfz13_0 := ac BK165.out 0; have hfz13_1 := ac BK165.out 1; have hfz13_2 := ac BK165.out 2; have p166 : 0 ≤ ((ji9) : Int) := zu; have q166 : (ji9) < (l1.length : Int) := zu; obtain ⟨ad166, e166, hx166_0⟩ := Kd.at_int HR1.out (ji9) p166 q166; cases e166; replace hx166_0 := zw HB hx166_0; replace p166 := eq_true p166; replace q166 := eq_true q166))
     go_ret;exact ⟨by first | rfl | (simp [db, dc] <;> rfl) | (simp only [← hji9]; first | rfl | (simp [db, dc] <;> rfl)) | (simp [*, db, dc] <;> rfl), by repeat (first | (with_reducible first | exact HB.out | apply qd | apply qe | apply qf | refine ao ?_ GE165.out) | exact HB.out)⟩
    ·rw [if_neg c11] at H;exact absurd H (by simp)
   ·rw [if_neg c10] at H;exact absurd H (by simp)
end Go.Proofs.YtmfhaliclnnbaaaGreat.XTopWhole
