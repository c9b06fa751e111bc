import Derived.Test.YtmfhaliclnnbaaaGreatZTopRoundM1
import Derived.Test.YtmfhaliclnnbaaaGreatZTopRoundM6
import Derived.Test.YtmfhaliclnnbaaaGreatZTopRoundM3
import Derived.Test.YtmfhaliclnnbaaaGreatZTopRoundM5
namespace Go.Proofs.YtmfhaliclnnbaaaGreat.XTopWhole
open Go.RowKit Go.Proofs.YtmfhaliclnnbaaaGreatW.PrintWords Go.Proofs.YtmfhaliclnnbaaaGreatW.PrintLast Go.Proofs.YtmfhaliclnnbaaaGreatW.PrintMore
attribute [local go_sem] pa pi ra rn nh my o4 pb
set_option linter.unusedVariables false
set_option linter.unusedSimpArgs false
set_option maxRecDepth 100000
set_option maxHeartbeats 8000000
mutual
def au.l0 : Nat → List (S116) → List Int → Int → List Int → Int → Int → Option (Int)
 | 0, _, _, _, _, _, _ => none
 | k + 1, x0, x2, x7, x14, x15, x16 => if x16 < x15 then (if 0 ≤ x16 then (if x16 < (x14.length : Int) then (if x7 < 0 then (au.j2 k x0 x2 (rd x14 x16) x14 x15 x16) else (if 0 ≤ (rd x14 x16) then (if (rd x14 x16) < (x0.length : Int) then ((lx.f ((aa x0 (rd x14 x16)).f0) ((aa x0 (rd x14 x16)).f1) ((aa x0 (rd x14 x16)).f2) x2).bind fun t172 => (if 0 ≤ x7 then (if x7 < (x0.length : Int) then ((lx.f ((aa x0 x7).f0) ((aa x0 x7).f1) ((aa x0 x7).f2) x2).bind fun t174 => (if t172 < t174 then (au.j1 k x0 x2 x7 (rd x14 x16) x14 x15 x16 true) else (if t172 = t174 then (au.j1 k x0 x2 x7 (rd x14 x16) x14 x15 x16 (decide (((aa x0 (rd x14 x16)).f0) < ((aa x0 x7).f0)))) else (au.j1 k x0 x2 x7 (rd x14 x16) x14 x15 x16 false)))) else (none)) else (none))) else (none)) else (none))) else (none)) else (none)) else (some x7)
def au.j2 : Nat → List (S116) → List Int → Int → List Int → Int → Int → Option (Int)
 | 0, _, _, _, _, _, _ => none
 | k + 1, x0, x2, x7, x14, x15, x16 => au.l0 k x0 x2 x7 x14 x15 (wrap64 (x16 + 1))
def au.j1 : Nat → List (S116) → List Int → Int → Int → List Int → Int → Int → Bool → Option (Int)
 | 0, _, _, _, _, _, _, _, _ => none
 | k + 1, x0, x2, x7, x9, x14, x15, x16, x55 => if x55 = true then (au.j2 k x0 x2 x9 x14 x15 x16) else (au.j2 k x0 x2 x7 x14 x15 x16)
end
def au.f (k : Nat) (l0 : List (S116)) (a1 : Int) (l2 : List Int) : Option (Int) := (aw.f k l0 a1).bind fun t167 => (au.l0 k l0 l2 (-1) t167 (t167.length : Int) 0)
def au.T7 : Bool × List (List Nat × List Nat) := (true, [([], []), ([], []), ([0, 1], [0, 1]), ([2], [2]), ([], []), ([3, 4], [3, 4]), ([], []), ([], []), ([6, 7], [6, 7]), ([8], [8]), ([], []), ([9, 10, 5], [9, 10]), ([5, 11, 0, 1, 2, 3, 4, 5], [5]), ([11, 12, 0, 1, 2, 3, 4, 5, 6, 7, 8, 9, 10, 11, 12], [11])])
def au.B7 : List Nat := [0, 0, 3, 7, 0, 31, 0, 0, 192, 448, 0, 2047, 4095, 8191]
theorem au.tab7 : l6 .any (qbq Tryz.f139 7) = au.T7 := by kernel_rfl
theorem au.bits7 : nl au.T7.2 au.B7 = true := by kernel_rfl
def au.T8 : Bool × List (List Nat × List Nat) := (true, [([], []), ([], []), ([0, 1], [0, 1]), ([2], [2]), ([3], [3]), ([3], [3]), ([4, 5, 3], [3, 4, 5]), ([6, 3, 3], [3, 6]), ([7], [7]), ([7], [7]), ([8, 9, 7], [7, 8, 9]), ([10, 7], [7, 10]), ([11, 7], [7, 11]), ([7], [7]), ([7], [7]), ([13, 14, 7], [7, 13, 14]), ([15, 7], [7, 15]), ([16, 7], [7, 16]), ([12, 17, 7], [7, 12, 17]), ([7, 18, 3], [3, 7, 18]), ([3, 19], [3, 19])])
def au.B8 : List Nat := [0, 0, 3, 7, 15, 15, 63, 127, 255, 255, 1023, 2047, 4095, 255, 255, 24831, 57599, 123135, 262143, 524287, 1048575]
theorem au.tab8 : l6 .any (qbq Tryz.f139 8) = au.T8 := by kernel_rfl
theorem au.bits8 : nl au.T8.2 au.B8 = true := by kernel_rfl
theorem au.calls (k : Nat) (A0 : Option Addr) (c0 : Nat) (l0 : List (S116)) (a1 : Int) (A2 : Option Addr) (c2 : Nat) (l2 : List Int) (r : Int) (w : World) (hr0 : Kd.C ld w A0 l0.length l0) (hc0 : l0.length ≤ c0) (hr2 : Kd.C (Kd.int .i64) w A2 l2.length l2) (hc2 : l2.length ≤ c2) (h : au.f k l0 a1 l2 = some r) : Calls Tryz.prog 139 #[.slice A0 l0.length c0, .int .i64 a1, .slice A2 l2.length c2] w fun e w' => e = .returned (.int .i64 r) ∧ Below w.heap.size w w' := by
 have hu116 := Tryz.underlying116;have HR0 := am hr0;have HC0 := am hc0;clear hr0 hc0;have HR2 := am hr2;have HC2 := am hc2;clear hr2 hc2;have HB := am (Below.refl w.heap.size w);have H : ((aw.f k l0 a1).bind fun t167 => (au.l0 k l0 l2 (-1) t167 (t167.length : Int) 0)) = some r := h;clear h;replace H := Option.bind_eq_some_iff.mp H;obtain ⟨t167, A40, H⟩ := H
 try dsimp only at H
 have A4 := am A40;clear A40;have H' := am H;clear H;go_enter Tryz.func139, Tryz.ntmps139;go_wp2_with (first | ((with_reducible refine ak (f := 161) rfl ?_); refine zl (some 14) Tryz.func161 #[.slice A0 l0.length c0, .int .i64 a1] ?_; (with_reducible refine (aw.calls k _ _ l0 a1 t167 _ ?side1 ?side2 A4.out).mono ?_); (case side1 => exact zc HR0.out); (case side2 => exact HC0.out); rintro e w5 ⟨v168, rfl, ho0, hb⟩; refine ⟨_, rfl, ?_⟩; have n0_ := am (Kd.R_lower ho0 (ba (zB HB))); have n1_ := zb HB hb; clear HB; have HO169 := n0_; have HB := n1_; clear n0_ n1_; (try clear hb); (try clear ho0); obtain ⟨Ao6, co6, eo6⟩ := Kd.R_slice HO169.out; subst eo6))
 go_loopg [7, 16] k (fun kq v7 v16 w' => ∃ (x7_1 : Int) (x16_1 : Int), v7 = .int .i64 x7_1 ∧ v16 = .int .i64 x16_1 ∧ Aside0 (au.l0 kq l0 l2 x7_1 t167 (t167.length : Int) x16_1 = some r) ∧ Aside0 (kq ≤ k) ∧ Aside0 (Kd.R (Kd.int .i64) 3 w' w.heap.size (fun _ => True) (.slice Ao6 t167.length co6) t167) ∧ Aside0 (Below w.heap.size w w'))
 case atStart => exact ⟨((-1)), (0), zs, zs, H', ⟨Nat.le_refl _⟩, ⟨zr HO169⟩, ⟨zB HB⟩⟩
 case round =>
  clear H'
  try clear c2
  obtain ⟨x7_1, x16_1, rfl, rfl, HA, HK1, HO_14, HB⟩ := hrel;cases gk with
  | zero => exact absurd HA.out (by simp [au.l0])
  | succ k1 =>
   have H := HA.out;clear HA;simp only [au.l0] at H;by_cases c7 : x16_1 < (t167.length : Int)
   ·rw [if_pos c7] at H;have c7b0 := decide_eq_true c7;clear c7;have HC8 := am H;clear H;go_upto_block 1 with (fail);go_cut [7] (fun v7 wc => ∃ (kq : Nat) (x7_7 : Int), v7 = .int .i64 x7_7 ∧ Aside0 (au.j2 kq l0 l2 x7_7 t167 (t167.length : Int) x16_1 = some r) ∧ Aside0 (kq ≤ k1) ∧ Aside0 (Kd.R (Kd.int .i64) 3 wc w.heap.size (fun _ => True) (.slice Ao6 t167.length co6) t167) ∧ Aside0 (Below w.heap.size w wc))
    case first =>
     have H := HC8.out;clear HC8;by_cases c9 : 0 ≤ x16_1
     ·rw [if_pos c9] at H;have c9b0 := decide_eq_true c9;clear c9
      (first | rw [c9b0] | (simp only [az, dr]; rw [c9b0]) | skip)
      by_cases c10 : x16_1 < (t167.length : Int)
      ·rw [if_pos c10] at H;have c10b0 := decide_eq_true c10;clear c10;by_cases c11 : x7_1 < 0
       ·rw [if_pos c11] at H;have c11b0 := decide_eq_true c11;clear c11;have H' := am H;clear H;have p170 : 0 ≤ (x16_1 : Int) := zu;have q170 : x16_1 < (t167.length : Int) := zu;obtain ⟨ad170, e170, hx170_0⟩ := Kd.at_int (Kd.R_reads' HO_14.out).2.2 x16_1 p170 q170;cases e170;replace p170 := eq_true p170;replace q170 := eq_true q170;go_wp2;go_meet
        case rel => exact ⟨_, (rd t167 x16_1), zs, H', ⟨by have := HK1.out; first | omega | exact Nat.le_refl _⟩, ⟨zr HO_14⟩, ⟨zB HB⟩⟩
       ·rw [if_neg c11] at H;have c11b0 := decide_eq_false c11;clear c11;by_cases c12 : 0 ≤ (rd t167 x16_1)
        ·rw [if_pos c12] at H;have c12b0 := decide_eq_true c12;clear c12;by_cases c13 : (rd t167 x16_1) < (l0.length : Int)
         ·rw [if_pos c13] at H;have c13b0 := decide_eq_true c13;clear c13;replace H := Option.bind_eq_some_iff.mp H;obtain ⟨t172, A140, H⟩ := H
          try dsimp only at H
          have A14 := am A140;clear A140;by_cases c15 : 0 ≤ x7_1
          ·rw [if_pos c15] at H;have c15b0 := decide_eq_true c15;clear c15;by_cases c16 : x7_1 < (l0.length : Int)
           ·rw [if_pos c16] at H;have c16b0 := decide_eq_true c16;clear c16;replace H := Option.bind_eq_some_iff.mp H;obtain ⟨t174, A170, H⟩ := H
            try dsimp only at H
            have A17 := am A170;clear A170;have HC18 := am H;clear H;have p170 : 0 ≤ (x16_1 : Int) := zu;have q170 : x16_1 < (t167.length : Int) := zu;obtain ⟨ad170, e170, hx170_0⟩ := Kd.at_int (Kd.R_reads' HO_14.out).2.2 x16_1 p170 q170;cases e170;replace p170 := eq_true p170;replace q170 := eq_true q170
            try go_wp2
            have n0_ := am (qc HO_14.out);have n1_ := am (qf HB.out);clear HO_14;clear HB;have HO_14 := n0_;have HB := n1_;clear n0_ n1_;have p171 : 0 ≤ ((rd t167 x16_1) : Int) := zu;have q171 : (rd t167 x16_1) < (l0.length : Int) := zu;obtain ⟨ad171, e171, hx171_0, hx171_1, hx171_2⟩ := dx HR0.out (rd t167 x16_1) p171 q171;have hw171_2 := hx171_2;have hw171_1 := hx171_1;have hw171_0 := hx171_0;cases e171;replace hx171_0 := zw HB hx171_0;replace hx171_1 := zw HB hx171_1;replace hx171_2 := zw HB hx171_2;replace p171 := eq_true p171;replace q171 := eq_true q171;have p173 : 0 ≤ (x7_1 : Int) := zu;have q173 : x7_1 < (l0.length : Int) := zu;obtain ⟨ad173, e173, hx173_0, hx173_1, hx173_2⟩ := dx HR0.out x7_1 p173 q173;have hw173_2 := hx173_2;have hw173_1 := hx173_1;have hw173_0 := hx173_0;obtain rfl : ad171 = ad173 := (by injection e173);replace hx173_0 := zw HB hx173_0;replace hx173_1 := zw HB hx173_1;replace hx173_2 := zw HB hx173_2;replace p173 := eq_true p173;replace q173 := eq_true q173;refine dy (n := 14) (S := fun w' => w'.cell? (ad171.add (((rd t167 x16_1)).toNat * 3)) = some (.int .i64 ((aa l0 (rd t167 x16_1)).f0)) ∧ w'.cell? ⟨(ad171.add (((rd t167 x16_1)).toNat * 3)).block, (ad171.add (((rd t167 x16_1)).toNat * 3)).off + 1, none⟩ = some (.int .i64 ((aa l0 (rd t167 x16_1)).f1)) ∧ w'.cell? ⟨(ad171.add (((rd t167 x16_1)).toNat * 3)).block, (ad171.add (((rd t167 x16_1)).toNat * 3)).off + 2, none⟩ = some (.bool ((aa l0 (rd t167 x16_1)).f2)) ∧ w'.cell? (ad171.add ((x7_1).toNat * 3)) = some (.int .i64 ((aa l0 x7_1).f0)) ∧ w'.cell? ⟨(ad171.add ((x7_1).toNat * 3)).block, (ad171.add ((x7_1).toNat * 3)).off + 1, none⟩ = some (.int .i64 ((aa l0 x7_1).f1)) ∧ w'.cell? ⟨(ad171.add ((x7_1).toNat * 3)).block, (ad171.add ((x7_1).toNat * 3)).off + 2, none⟩ = some (.bool ((aa l0 x7_1).f2))) (ds := []) (onA 14 0) (by kernel_rfl) rfl rfl ⟨(zw HB hw171_0), (zw HB hw171_1), (zw HB hw171_2), (zw HB hw173_0), (zw HB hw173_1), (zw HB hw173_2)⟩ (fun hHeld => ?_); refine ke au.tab7 au.bits7 (fun HT_ HW_ => ?_);generalize wr.drew = w19 at HO_14 HB hx171_0 hx171_1 hx171_2 hx173_0 hx173_1 hx173_2 hHeld ⊢;refine pu 0 (some 23) (onA 14 1) HT_ (h := ?_);refine pu 1 (some 24) (onA 14 2) HT_ (h := ?_);refine pu 2 (some 25) (onA 14 3) HT_ (h := ?_);refine pu 4 (some 27) (bA 14 23) HT_ (h := ?_);refine pu 6 (some 29) (bA 14 87) HT_ (h := ?_);refine pu 7 (some 30) (bA 14 215) HT_ (h := ?_);refine pu 8 (some 31) (bA 14 471) HT_ (h := ?_);refine pu 10 (some 33) (bA 14 1495) HT_ (h := ?_);refine take_ (i := 3) (N := some 26) (v := ?_) (a' := ?_) (bA 14 1503) rfl rfl (ka HT_.out HW_.out (by kernel_rfl)) (fun _ _ _ h => h) (Or.inl ⟨by rfl, ?_⟩) hHeld ?_ ?_;rotate_left
            ·rintro w' ⟨s0, s1, s2, s3, s4, s5⟩;go_simp
             with_reducible rfl
            rotate_left
            ·simp only [Act.put, qg, qh, qi, az, dr];rfl
            refine take_ (i := 9) (N := some 32) (v := ?_) (a' := ?_) (bA 14 2015) rfl rfl (ka HT_.out HW_.out (by kernel_rfl)) (fun _ _ _ h => h) (Or.inl ⟨by rfl, ?_⟩) hHeld ?_ ?_;rotate_left
            ·rintro w' ⟨s0, s1, s2, s3, s4, s5⟩;go_simp
             with_reducible rfl
            rotate_left
            ·simp only [Act.put, qg, qh, qi, az, dr];rfl
            refine gq (i := 5) (N := some 28) (onA 14 11) rfl rfl (n7 HT_.out (by kernel_rfl)) (by decide) (fun K hK => ?_);refine dw Tryz.func162 (by kernel_rfl) rfl #[.agg #[.int .i64 ((aa l0 (rd t167 x16_1)).f0), .int .i64 ((aa l0 (rd t167 x16_1)).f1), .bool ((aa l0 (rd t167 x16_1)).f2)], .slice A2 l2.length c2] (by rfl) rfl rfl (by (try simp only [qj, qk, ql]); first | done | rfl | (simp only [qm, qn]; rfl)) ?_
            with_reducible refine (lx.calls ((aa l0 (rd t167 x16_1)).f0) ((aa l0 (rd t167 x16_1)).f1) ((aa l0 (rd t167 x16_1)).f2) _ _ l2 t172 _ ?side1 ?side2 A14.out).mono ?_
            (case side1 => exact zc (Kd.C_below HR2.out HB.out))
            (case side2 => exact HC2.out)
            rintro e w20 ⟨rfl, hb⟩;refine ⟨_, rfl, ?_⟩;have n0_ := za HO_14 hb;have n1_ := zb HB hb;clear HO_14;clear HB;have HO_14 := n0_;have HB := n1_;clear n0_ n1_
            (try clear hb)
            (try clear hb2)
            (try clear hk)
            (try clear hi)
            refine hK.out _ _ ⟨(zw HB hw171_0), (zw HB hw171_1), (zw HB hw171_2), (zw HB hw173_0), (zw HB hw173_1), (zw HB hw173_2)⟩ (fun hHeld => ?_);clear hK K;refine i6 (a' := ?_) ?_ ?_;rotate_left
            ·show Act.put _ (some 28) _ = _;simp only [Act.put, qg, qh, qi, az, dr];rfl
            refine gq (i := 11) (N := some 34) (onA 14 12) rfl rfl (n7 HT_.out (by kernel_rfl)) (by decide) (fun K hK => ?_);refine dw Tryz.func162 (by kernel_rfl) rfl #[.agg #[.int .i64 ((aa l0 x7_1).f0), .int .i64 ((aa l0 x7_1).f1), .bool ((aa l0 x7_1).f2)], .slice A2 l2.length c2] (by rfl) rfl rfl (by (try simp only [qj, qk, ql]); first | done | rfl | (simp only [qm, qn]; rfl)) ?_
            with_reducible refine (lx.calls ((aa l0 x7_1).f0) ((aa l0 x7_1).f1) ((aa l0 x7_1).f2) _ _ l2 t174 _ ?side1 ?side2 A17.out).mono ?_
            (case side1 => exact zc (Kd.C_below HR2.out HB.out))
            (case side2 => exact HC2.out)
            rintro e w21 ⟨rfl, hb⟩;refine ⟨_, rfl, ?_⟩;have n0_ := za HO_14 hb;have n1_ := zb HB hb;clear HO_14;clear HB;have HO_14 := n0_;have HB := n1_;clear n0_ n1_
            (try clear hb)
            (try clear hb2)
            (try clear hk)
            (try clear hi)
            refine hK.out _ _ ⟨(zw HB hw171_0), (zw HB hw171_1), (zw HB hw171_2), (zw HB hw173_0), (zw HB hw173_1), (zw HB hw173_2)⟩ (fun hHeld => ?_);clear hK K;refine i6 (a' := ?_) ?_ ?_;rotate_left
            ·show Act.put _ (some 34) _ = _;simp only [Act.put, qg, qh, qi, az, dr];rfl
            refine pu 12 (some 10) (onA 14 13) HT_ (h := ?_);refine pu 13 (some 11) (onA 14 14) HT_ (h := ?_);refine fp (ol HT_.out (by kernel_rfl)) ?_;go_upto_region 8 with (fail);go_cut [55] (fun v55 wc => ∃ (kq : Nat) (x55_17 : Bool), v55 = .bool x55_17 ∧ Aside0 (au.j1 kq l0 l2 x7_1 (rd t167 x16_1) t167 (t167.length : Int) x16_1 x55_17 = some r) ∧ Aside0 (kq ≤ k1) ∧ Aside0 (Kd.R (Kd.int .i64) 3 wc w.heap.size (fun _ => True) (.slice (some ad170) t167.length co6) t167) ∧ Aside0 (Below w.heap.size w wc))
            case first =>
             have H := HC18.out;clear HC18;by_cases c22 : t172 < t174
             ·rw [if_pos c22] at H;have c22b0 := decide_eq_true c22;clear c22
              (first | rw [c22b0] | (simp only [az, dr]; rw [c22b0]) | skip)
              have H' := am H;clear H
              try go_wp2
              have n0_ := am (qc HO_14.out);have n1_ := am (qf HB.out);clear HO_14;clear HB;have HO_14 := n0_;have HB := n1_;clear n0_ n1_;refine dy (n := 21) (S := fun w' => True) (ds := []) (onA 21 0) (by kernel_rfl) rfl rfl trivial (fun hHeld => ?_); refine ke au.tab8 au.bits8 (fun HT_ HW_ => ?_);generalize w21.drew = w23 at HO_14 HB hHeld ⊢;refine pu 0 (some 35) (onA 21 1) HT_ (h := ?_);refine pu 1 (some 36) (onA 21 2) HT_ (h := ?_);refine pu 2 (some 37) (onA 21 3) HT_ (h := ?_);refine pu 3 (some 38) (onA 21 4) HT_ (h := ?_);refine pn 4 (some 39) (onA 21 5) HT_ (h := ?_);refine pn 5 (some 40) (onA 21 6) HT_ (h := ?_);refine pn 6 (some 41) (onA 21 7) HT_ (h := ?_);refine pn 7 (some 42) (onA 21 8) HT_ (h := ?_);refine pn 8 (some 43) (onA 21 9) HT_ (h := ?_);refine pn 9 (some 44) (onA 21 10) HT_ (h := ?_);refine pn 10 (some 45) (onA 21 11) HT_ (h := ?_);refine pn 11 (some 46) (onA 21 12) HT_ (h := ?_);refine pn 12 (some 47) (onA 21 13) HT_ (h := ?_);refine pn 13 (some 48) (onA 21 14) HT_ (h := ?_);refine pn 14 (some 49) (onA 21 15) HT_ (h := ?_);refine pn 15 (some 50) (onA 21 16) HT_ (h := ?_);refine pn 16 (some 51) (onA 21 17) HT_ (h := ?_);refine pn 17 (some 52) (onA 21 18) HT_ (h := ?_);refine pn 18 (some 53) (onA 21 19) HT_ (h := ?_);refine pn 19 (some 54) (onA 21 20) HT_ (h := ?_);refine pu 20 (some 55) (onA 21 21) HT_ (h := ?_);refine fp (ol HT_.out (by kernel_rfl)) ?_
              try go_wp2
              go_meet
              case rel => exact ⟨_, (true), zs, H', ⟨by have := HK1.out; first | omega | exact Nat.le_refl _⟩, ⟨zr HO_14⟩, ⟨zB HB⟩⟩
             ·rw [if_neg c22] at H;have c22b0 := decide_eq_false c22;clear c22
              (first | rw [c22b0] | (simp only [az, dr]; rw [c22b0]) | skip)
              by_cases c24 : t172 = t174
              ·rw [if_pos c24] at H;have c24b0 : (t172 == t174) = true := beq_iff_eq.mpr c24;have c24b1 : (t172 != t174) = false := bne_eq_false_iff_eq.mpr c24;clear c24;have H' := am H;clear H
               try go_wp2
               have n0_ := am (qc HO_14.out);have n1_ := am (qf HB.out);clear HO_14;clear HB;have HO_14 := n0_;have HB := n1_;clear n0_ n1_;have p175 : 0 ≤ ((rd t167 x16_1) : Int) := zu;have q175 : (rd t167 x16_1) < (l0.length : Int) := zu;obtain ⟨ad175, e175, hx175_0, hx175_1, hx175_2⟩ := dx HR0.out (rd t167 x16_1) p175 q175;have hw175_2 := hx175_2;have hw175_1 := hx175_1;have hw175_0 := hx175_0;obtain rfl : ad171 = ad175 := (by injection e175);replace hx175_0 := zw HB hx175_0;replace hx175_1 := zw HB hx175_1;replace hx175_2 := zw HB hx175_2;replace p175 := eq_true p175;replace q175 := eq_true q175;have p176 : 0 ≤ (x7_1 : Int) := zu;have q176 : x7_1 < (l0.length : Int) := zu;obtain ⟨ad176, e176, hx176_0, hx176_1, hx176_2⟩ := dx HR0.out x7_1 p176 q176;have hw176_2 := hx176_2;have hw176_1 := hx176_1;have hw176_0 := hx176_0;obtain rfl : ad171 = ad176 := (by injection e176);replace hx176_0 := zw HB hx176_0;replace hx176_1 := zw HB hx176_1;replace hx176_2 := zw HB hx176_2;replace p176 := eq_true p176;replace q176 := eq_true q176;refine dy (n := 21) (S := fun w' => w'.cell? (ad171.add (((rd t167 x16_1)).toNat * 3)) = some (.int .i64 ((aa l0 (rd t167 x16_1)).f0)) ∧ w'.cell? ⟨(ad171.add (((rd t167 x16_1)).toNat * 3)).block, (ad171.add (((rd t167 x16_1)).toNat * 3)).off + 1, none⟩ = some (.int .i64 ((aa l0 (rd t167 x16_1)).f1)) ∧ w'.cell? ⟨(ad171.add (((rd t167 x16_1)).toNat * 3)).block, (ad171.add (((rd t167 x16_1)).toNat * 3)).off + 2, none⟩ = some (.bool ((aa l0 (rd t167 x16_1)).f2)) ∧ w'.cell? (ad171.add ((x7_1).toNat * 3)) = some (.int .i64 ((aa l0 x7_1).f0)) ∧ w'.cell? ⟨(ad171.add ((x7_1).toNat * 3)).block, (ad171.add ((x7_1).toNat * 3)).off + 1, none⟩ = some (.int .i64 ((aa l0 x7_1).f1)) ∧ w'.cell? ⟨(ad171.add ((x7_1).toNat * 3)).block, (ad171.add ((x7_1).toNat * 3)).off + 2, none⟩ = some (.bool ((aa l0 x7_1).f2))) (ds := []) (onA 21 0) (by kernel_rfl) rfl rfl ⟨(zw HB hw175_0), (zw HB hw175_1), (zw HB hw175_2), (zw HB hw176_0), (zw HB hw176_1), (zw HB hw176_2)⟩ (fun hHeld => ?_); refine ke au.tab8 au.bits8 (fun HT_ HW_ => ?_);generalize w21.drew = w25 at HO_14 HB hx175_0 hx175_1 hx175_2 hx176_0 hx176_1 hx176_2 hHeld ⊢;refine pu 0 (some 35) (onA 21 1) HT_ (h := ?_);refine pu 1 (some 36) (onA 21 2) HT_ (h := ?_);refine pu 2 (some 37) (onA 21 3) HT_ (h := ?_);refine pu 3 (some 38) (onA 21 4) HT_ (h := ?_);refine pu 4 (some 39) (onA 21 5) HT_ (h := ?_);refine pu 5 (some 40) (onA 21 6) HT_ (h := ?_);refine pu 6 (some 41) (onA 21 7) HT_ (h := ?_);refine pu 7 (some 42) (onA 21 8) HT_ (h := ?_);refine pu 8 (some 43) (onA 21 9) HT_ (h := ?_);refine pu 9 (some 44) (onA 21 10) HT_ (h := ?_);refine pu 10 (some 45) (onA 21 11) HT_ (h := ?_);refine pu 11 (some 46) (onA 21 12) HT_ (h := ?_);refine pu 13 (some 48) (bA 21 12287) HT_ (h := ?_);refine pu 14 (some 49) (bA 21 28671) HT_ (h := ?_);refine pu 15 (some 50) (bA 21 61439) HT_ (h := ?_);refine pu 16 (some 51) (bA 21 126975) HT_ (h := ?_);refine take_ (i := 12) (N := some 47) (v := ?_) (a' := ?_) (onA 21 17) rfl rfl (ka HT_.out HW_.out (by kernel_rfl)) (fun _ _ _ h => h) (Or.inl ⟨by rfl, ?_⟩) hHeld ?_ ?_;rotate_left
               ·rintro w' ⟨s0, s1, s2, s3, s4, s5⟩;go_simp
                with_reducible rfl
               rotate_left
               ·simp only [Act.put, qg, qh, qi, az, dr];rfl
               refine take_ (i := 17) (N := some 52) (v := ?_) (a' := ?_) (onA 21 18) rfl rfl (ka HT_.out HW_.out (by kernel_rfl)) (fun _ _ _ h => h) (Or.inl ⟨by rfl, ?_⟩) hHeld ?_ ?_;rotate_left
               ·rintro w' ⟨s0, s1, s2, s3, s4, s5⟩;go_simp
                with_reducible rfl
               rotate_left
               ·simp only [Act.put, qg, qh, qi, az, dr];rfl
               refine pu 18 (some 53) (onA 21 19) HT_ (h := ?_);refine pu 19 (some 54) (onA 21 20) HT_ (h := ?_);refine pu 20 (some 55) (onA 21 21) HT_ (h := ?_);refine fp (ol HT_.out (by kernel_rfl)) ?_
               try go_wp2
               go_meet
               case rel => exact ⟨_, (decide (((aa l0 (rd t167 x16_1)).f0) < ((aa l0 x7_1).f0))), zs, H', ⟨by have := HK1.out; first | omega | exact Nat.le_refl _⟩, ⟨zr HO_14⟩, ⟨zB HB⟩⟩
              ·rw [if_neg c24] at H;have c24b0 : (t172 == t174) = false := beq_eq_false_iff_ne.mpr c24;have c24b1 : (t172 != t174) = true := bne_iff_ne.mpr c24;have H' := am H;clear H
               try go_wp2
               have n0_ := am (qc HO_14.out);have n1_ := am (qf HB.out);clear HO_14;clear HB;have HO_14 := n0_;have HB := n1_;clear n0_ n1_;refine dy (n := 21) (S := fun w' => True) (ds := []) (onA 21 0) (by kernel_rfl) rfl rfl trivial (fun hHeld => ?_); refine ke au.tab8 au.bits8 (fun HT_ HW_ => ?_);generalize w21.drew = w26 at HO_14 HB hHeld ⊢;refine pu 0 (some 35) (onA 21 1) HT_ (h := ?_);refine pu 1 (some 36) (onA 21 2) HT_ (h := ?_);refine pu 2 (some 37) (onA 21 3) HT_ (h := ?_);refine pu 3 (some 38) (onA 21 4) HT_ (h := ?_);refine pu 4 (some 39) (onA 21 5) HT_ (h := ?_);refine pu 5 (some 40) (onA 21 6) HT_ (h := ?_);refine pu 6 (some 41) (onA 21 7) HT_ (h := ?_);refine pu 7 (some 42) (onA 21 8) HT_ (h := ?_);refine pn 8 (some 43) (onA 21 9) HT_ (h := ?_);refine pn 9 (some 44) (onA 21 10) HT_ (h := ?_);refine pn 10 (some 45) (onA 21 11) HT_ (h := ?_);refine pn 11 (some 46) (onA 21 12) HT_ (h := ?_);refine pn 12 (some 47) (onA 21 13) HT_ (h := ?_);refine pn 13 (some 48) (onA 21 14) HT_ (h := ?_);refine pn 14 (some 49) (onA 21 15) HT_ (h := ?_);refine pn 15 (some 50) (onA 21 16) HT_ (h := ?_);refine pn 16 (some 51) (onA 21 17) HT_ (h := ?_);refine pn 17 (some 52) (onA 21 18) HT_ (h := ?_);refine pn 18 (some 53) (onA 21 19) HT_ (h := ?_);refine pu 19 (some 54) (onA 21 20) HT_ (h := ?_);refine pu 20 (some 55) (onA 21 21) HT_ (h := ?_);refine fp (ol HT_.out (by kernel_rfl)) ?_
               try go_wp2
               go_meet
               case rel => exact ⟨_, (false), zs, H', ⟨by have := HK1.out; first | omega | exact Nat.le_refl _⟩, ⟨zr HO_14⟩, ⟨zB HB⟩⟩
            case rest =>
             clear HC18
             try clear c2
             try clear c16
             try clear c22
             try clear c22b0
             try clear c24
             try clear c24b0
             try clear c24b1
             try clear hx175_0
             try clear hx175_1
             try clear hx175_2
             try clear hx176_0
             try clear hx176_1
             try clear hx176_2
             try clear p175
             try clear p176
             try clear q175
             try clear q176
             obtain ⟨kq, x55_17, rfl, HA, HJ17, HO_14, HB⟩ := hcut;cases kq with
             | zero => exact absurd HA.out (by simp [au.j1])
             | succ kj17 =>
              have H := HA.out;clear HA;simp only [au.j1] at H;by_cases c27 : x55_17 = true
              ·subst c27;have H1 : (au.j2 kj17 l0 l2 (rd t167 x16_1) t167 (t167.length : Int) x16_1) = some r := by rw [if_pos rfl] at H; exact H
               clear H;have H := H1;clear H1;have H' := am H;clear H;go_wp2;go_meet
               case rel => exact ⟨_, ((rd t167 x16_1)), zs, H', ⟨by have := HK1.out; have := HJ17.out; first | omega | exact Nat.le_refl _⟩, ⟨zr HO_14⟩, ⟨zB HB⟩⟩
              ·replace c27 := Bool.eq_false_iff.mpr c27;subst c27;have H1 : (au.j2 kj17 l0 l2 x7_1 t167 (t167.length : Int) x16_1) = some r := by rw [if_neg (show ¬ (false = true) by decide)] at H; exact H
               clear H;have H := H1;clear H1;have H' := am H;clear H;go_wp2;go_meet
               case rel => exact ⟨_, (x7_1), zs, H', ⟨by have := HK1.out; have := HJ17.out; first | omega | exact Nat.le_refl _⟩, ⟨zr HO_14⟩, ⟨zB HB⟩⟩
           ·rw [if_neg c16] at H;exact absurd H (by simp)
          ·rw [if_neg c15] at H;exact absurd H (by simp)
         ·rw [if_neg c13] at H;exact absurd H (by simp)
        ·rw [if_neg c12] at H;exact absurd H (by simp)
      ·rw [if_neg c10] at H;exact absurd H (by simp)
     ·rw [if_neg c9] at H;exact absurd H (by simp)
    case rest =>
     clear HC8
     try clear c2
     try clear c9
     try clear c10
     try clear c12
     try clear c13
     try clear c15
     try clear c16
     try clear c22
     try clear c22b0
     try clear c24
     try clear c24b0
     try clear c24b1
     try clear c27
     try clear hx175_0
     try clear hx175_1
     try clear hx175_2
     try clear hx176_0
     try clear hx176_1
     try clear hx176_2
     try clear p175
     try clear p176
     try clear q175
     try clear q176
     obtain ⟨kq, x7_7, rfl, HA, HJ7, HO_14, HB⟩ := hcut;cases kq with
     | zero => exact absurd HA.out (by simp [au.j2])
     | succ kj7 =>
      have H := HA.out;clear HA;simp only [au.j2] at H;have H' := am H;clear H;go_wp2;go_roundg kj7
      case measure => have := HK1.out; have := HJ7.out; omega
      case rel => exact ⟨(x7_7), (wrap64 (x16_1 + 1)), zs, zs, H', ⟨by have := HK1.out; have := HJ7.out; omega⟩, ⟨zr HO_14⟩, ⟨zB HB⟩⟩
   ·rw [if_neg c7] at H;have c7b0 := decide_eq_false c7;clear c7;obtain rfl := Option.some.inj H;go_wp2;go_ret;exact ⟨ze, zB HB⟩
def cz.l0 : Nat → Int → List (S116) → Int → Int → Option (Int)
 | 0, _, _, _, _ => none
 | k + 1, x3, x6, x7, x8 => if x8 < x7 then (if 0 ≤ x8 then (if x8 < (x6.length : Int) then ((ci.f ((aa x6 x8).f1)).bind fun t179 => (if t179 = true then (if x3 > 512 then (some 0) else (cz.l0 k (wrap64 (x3 + ((aa x6 x8).f1))) x6 x7 (wrap64 (x8 + 1)))) else (some 0))) else (none)) else (none)) else (some x3)
def cz.f (k : Nat) (l0 : List (S116)) : Option (Int) := cz.l0 k 0 l0 (l0.length : Int) 0
theorem cz.calls (k : Nat) (A0 : Option Addr) (c0 : Nat) (l0 : List (S116)) (r : Int) (w : World) (hr0 : Kd.C ld w A0 l0.length l0) (hc0 : l0.length ≤ c0) (h : cz.f k l0 = some r) : Calls Tryz.prog 174 #[.slice A0 l0.length c0] w fun e w' => e = .returned (.int .i64 r) ∧ Below w.heap.size w w' := by
 have hu116 := Tryz.underlying116;have HR0 := am hr0;have HC0 := am hc0;clear hr0 hc0;have HB := am (Below.refl w.heap.size w);have H : (cz.l0 k 0 l0 (l0.length : Int) 0) = some r := h;clear h;have H' := am H;clear H;go_enter Tryz.func174, Tryz.ntmps174;go_wp2;go_loopg [3, 8] k (fun kq v3 v8 w' => ∃ (x3_1 : Int) (x8_1 : Int), v3 = .int .i64 x3_1 ∧ v8 = .int .i64 x8_1 ∧ Aside0 (cz.l0 kq x3_1 l0 (l0.length : Int) x8_1 = some r) ∧ Aside0 (kq ≤ k) ∧ Aside0 (Below w.heap.size w w'))
 case atStart => exact ⟨(0), (0), zs, zs, H', ⟨Nat.le_refl _⟩, ⟨zB HB⟩⟩
 case round =>
  clear H';obtain ⟨x3_1, x8_1, rfl, rfl, HA, HK1, HB⟩ := hrel;cases gk with
  | zero => exact absurd HA.out (by simp [cz.l0])
  | succ k1 =>
   have H := HA.out;clear HA;simp only [cz.l0] at H;by_cases c2 : x8_1 < (l0.length : Int)
   ·rw [if_pos c2] at H;have c2b0 := decide_eq_true c2;clear c2;by_cases c3 : 0 ≤ x8_1
    ·rw [if_pos c3] at H;have c3b0 := decide_eq_true c3;clear c3;by_cases c4 : x8_1 < (l0.length : Int)
     ·rw [if_pos c4] at H;have c4b0 := decide_eq_true c4;clear c4;replace H := Option.bind_eq_some_iff.mp H;obtain ⟨t179, A50, H⟩ := H
      try dsimp only at H
      have A5 := am A50;clear A50;by_cases c6 : t179 = true
      ·subst c6;have H1 : (if x3_1 > 512 then (some 0) else (cz.l0 k1 (wrap64 (x3_1 + ((aa l0 x8_1).f1))) l0 (l0.length : Int) (wrap64 (x8_1 + 1)))) = some r := by rw [if_pos rfl] at H; exact H
       clear H;have H := H1;clear H1;by_cases c7 : x3_1 > 512
       ·rw [if_pos c7] at H;have c7b0 : decide (512 < x3_1) = true := decide_eq_true c7;clear c7;obtain rfl := Option.some.inj H;have p177 : 0 ≤ (x8_1 : Int) := zu;have q177 : x8_1 < (l0.length : Int) := zu;obtain ⟨ad177, e177, hx177_0, hx177_1, hx177_2⟩ := dx HR0.out x8_1 p177 q177;cases e177;replace hx177_0 := zw HB hx177_0;replace hx177_1 := zw HB hx177_1;replace hx177_2 := zw HB hx177_2;replace p177 := eq_true p177;replace q177 := eq_true q177;go_wp2_with (first | ((with_reducible refine bn (N := 5) rfl ?_); refine b9 ?hg (N := 5) ?hd (cs := #[.int .i64 0, .int .i64 0, .bool false]) (t := 116) ?hr ?_; (case hd => rfl); (case hg => rfl); (case hr => first | (go_simp; done) | (go_simp; rfl)); intro gb178 hg w8 hbox hb; have GW178 := zg HB hg; have GE178 := GW178; replace HB := zb HB hb; have BK178 := am hbox; clear hb hbox hg; have hcz9_0 := zk BK178 0 (.int .i64 0); have hcz9_1 := zk BK178 1 (.int .i64 0); have hcz9_2 := zk BK178 2 (.bool false); have hfz9_0 := ac BK178.out 0; have hfz9_1 := ac BK178.out 1; have hfz9_2 := ac BK178.out 2) | ((with_reducible refine ak (f := 125) rfl ?_); refine zl (some 14) Tryz.func125 #[.int .i64 ((aa l0 x8_1).f1)] ?_; (with_reducible refine (ci.calls ((aa l0 x8_1).f1) true _ A5.out).mono ?_); rintro e w' ⟨rfl, ⟨nd, rfl⟩⟩; refine ⟨_, rfl, ?_⟩))
        go_ret;exact ⟨ze, by repeat (first | (with_reducible first | exact HB.out | apply qd | apply qe | apply qf | refine ao ?_ GE178.out) | exact HB.out)⟩
       ·rw [if_neg c7] at H;have c7b0 : decide (512 < x3_1) = false := decide_eq_false c7;clear c7;have H' := am H;clear H;have p177 : 0 ≤ (x8_1 : Int) := zu;have q177 : x8_1 < (l0.length : Int) := zu;obtain ⟨ad177, e177, hx177_0, hx177_1, hx177_2⟩ := dx HR0.out x8_1 p177 q177;cases e177;replace hx177_0 := zw HB hx177_0;replace hx177_1 := zw HB hx177_1;replace hx177_2 := zw HB hx177_2;replace p177 := eq_true p177;replace q177 := eq_true q177;go_wp2_with (first | ((with_reducible refine bn (N := 5) rfl ?_); refine b9 ?hg (N := 5) ?hd (cs := #[.int .i64 0, .int .i64 0, .bool false]) (t := 116) ?hr ?_; (case hd => rfl); (case hg => rfl); (case hr => first | (go_simp; done) | (go_simp; rfl)); intro gb178 hg w10 hbox hb; have GW178 := zg HB hg; have GE178 := GW178; replace HB := zb HB hb; have BK178 := am hbox; clear hb hbox hg; have hcz11_0 := zk BK178 0 (.int .i64 0); have hcz11_1 := zk BK178 1 (.int .i64 0); have hcz11_2 := zk BK178 2 (.bool false); have hfz11_0 := ac BK178.out 0; have hfz11_1 := ac BK178.out 1; have hfz11_2 := ac BK178.out 2) | ((with_reducible refine ak (f := 125) rfl ?_); refine zl (some 14) Tryz.func125 #[.int .i64 ((aa l0 x8_1).f1)] ?_; (with_reducible refine (ci.calls ((aa l0 x8_1).f1) true _ A5.out).mono ?_); rintro e w' ⟨rfl, ⟨nd, rfl⟩⟩; refine ⟨_, rfl, ?_⟩))
        go_roundg k1
        case measure => have := HK1.out; omega
        case rel => exact ⟨(wrap64 (x3_1 + ((aa l0 x8_1).f1))), (wrap64 (x8_1 + 1)), zs, zs, H', ⟨by have := HK1.out; omega⟩, ⟨by repeat (first | (with_reducible first | exact HB.out | apply qd | apply qe | apply qf | refine ao ?_ GE178.out) | exact HB.out)⟩⟩
      ·replace c6 := Bool.eq_false_iff.mpr c6;subst c6;have H1 : (some 0) = some r := by rw [if_neg (show ¬ (false = true) by decide)] at H; exact H
       clear H;have H := H1;clear H1;obtain rfl := Option.some.inj H;have p177 : 0 ≤ (x8_1 : Int) := zu;have q177 : x8_1 < (l0.length : Int) := zu;obtain ⟨ad177, e177, hx177_0, hx177_1, hx177_2⟩ := dx HR0.out x8_1 p177 q177;cases e177;replace hx177_0 := zw HB hx177_0;replace hx177_1 := zw HB hx177_1;replace hx177_2 := zw HB hx177_2;replace p177 := eq_true p177;replace q177 := eq_true q177;go_wp2_with (first | ((with_reducible refine bn (N := 5) rfl ?_); refine b9 ?hg (N := 5) ?hd (cs := #[.int .i64 0, .int .i64 0, .bool false]) (t := 116) ?hr ?_; (case hd => rfl); (case hg => rfl); (case hr => first | (go_simp; done) | (go_simp; rfl)); intro gb178 hg w12 hbox hb; have GW178 := zg HB hg; have GE178 := GW178; replace HB := zb HB hb; have BK178 := am hbox; clear hb hbox hg; have hcz13_0 := zk BK178 0 (.int .i64 0); have hcz13_1 := zk BK178 1 (.int .i64 0); have hcz13_2 := zk BK178 2 (.bool false); have hfz13_0 := ac BK178.out 0; have hfz13_1 := ac BK178.out 1; have hfz13_2 := ac BK178.out 2) | ((with_reducible refine ak (f := 125) rfl ?_); refine zl (some 14) Tryz.func125 #[.int .i64 ((aa l0 x8_1).f1)] ?_; (with_reducible refine (ci.calls ((aa l0 x8_1).f1) false _ A5.out).mono ?_); rintro e w' ⟨rfl, ⟨nd, rfl⟩⟩; refine ⟨_, rfl, ?_⟩))
       go_ret;exact ⟨ze, by repeat (first | (with_reducible first | exact HB.out | apply qd | apply qe | apply qf | refine ao ?_ GE178.out) | exact HB.out)⟩
     ·rw [if_neg c4] at H;exact absurd H (by simp)
    ·rw [if_neg c3] at H;exact absurd H (by simp)
   ·rw [if_neg c2] at H;have c2b0 := decide_eq_false c2;clear c2;obtain rfl := Option.some.inj H;go_wp2;go_ret;exact ⟨ze, zB HB⟩
def eu.j0 : Nat → Int → Int → Bool → Option (Int)
 | 0, _, _, _ => none
 | k + 1, x0, x1, x5 => if x5 = true then (some 0) else (if (wrap64 (x0 - x1)) < 2 then (some x0) else (some x1))
def eu.f (k : Nat) (a0 : Int) (a1 : Int) : Option (Int) := if a1 < 2 then (eu.j0 k a0 a1 true) else (eu.j0 k a0 a1 (decide (a1 > a0)))
theorem eu.calls (k : Nat) (a0 : Int) (a1 : Int) (r : Int) (w : World) (h : eu.f k a0 a1 = some r) : Calls Tryz.prog 175 #[.int .i64 a0, .int .i64 a1] w fun e w' => e = .returned (.int .i64 r) ∧ Drawn0 w w' := by
 have H : (if a1 < 2 then (eu.j0 k a0 a1 true) else (eu.j0 k a0 a1 (decide (a1 > a0)))) = some r := h;clear h;have HC3 := am H;clear H;go_enter Tryz.func175, Tryz.ntmps175;go_upto_region 1 with (fail);go_cut [5] (fun v5 wc => ∃ (kq : Nat) (x5_2 : Bool), v5 = .bool x5_2 ∧ Aside0 (eu.j0 kq a0 a1 x5_2 = some r) ∧ Aside0 (kq ≤ k) ∧ Drawn0 w wc)
 case first =>
  have H := HC3.out;clear HC3;by_cases c4 : a1 < 2
  ·rw [if_pos c4] at H;have c4b0 := decide_eq_true c4;clear c4
   (first | rw [c4b0] | (simp only [az, dr]; rw [c4b0]) | skip)
   have H' := am H;clear H;go_wp2;go_meet
   case rel => exact ⟨_, (true), zs, H', ⟨by first | omega | exact Nat.le_refl _⟩, zd⟩
  ·rw [if_neg c4] at H;have c4b0 := decide_eq_false c4;clear c4
   (first | rw [c4b0] | (simp only [az, dr]; rw [c4b0]) | skip)
   have H' := am H;clear H;go_wp2;go_meet
   case rel => exact ⟨_, (decide (a1 > a0)), zs, H', ⟨by first | omega | exact Nat.le_refl _⟩, zd⟩
 case rest =>
  clear HC3
  try clear c4
  try clear c4b0
  obtain ⟨kq, x5_2, rfl, HA, HJ2, ⟨mc2, rfl⟩⟩ := hcut;cases kq with
  | zero => exact absurd HA.out (by simp [eu.j0])
  | succ kj2 =>
   have H := HA.out;clear HA;simp only [eu.j0] at H;by_cases c5 : x5_2 = true
   ·subst c5;have H1 : (some 0) = some r := by rw [if_pos rfl] at H; exact H
    clear H;have H := H1;clear H1;obtain rfl := Option.some.inj H;go_wp2;go_ret;exact ⟨zs, zd⟩
   ·replace c5 := Bool.eq_false_iff.mpr c5;subst c5;have H1 : (if (wrap64 (a0 - a1)) < 2 then (some a0) else (some a1)) = some r := by rw [if_neg (show ¬ (false = true) by decide)] at H; exact H
    clear H;have H := H1;clear H1;by_cases c6 : (wrap64 (a0 - a1)) < 2
    ·rw [if_pos c6] at H;have c6b0 := decide_eq_true c6;clear c6;obtain rfl := Option.some.inj H;go_wp2;go_ret;exact ⟨zs, zd⟩
    ·rw [if_neg c6] at H;have c6b0 := decide_eq_false c6;clear c6;obtain rfl := Option.some.inj H;go_wp2;go_ret;exact ⟨zs, zd⟩
def cf.j0 : Nat → List (S116) → Int → Int → Bool → Option ((List (S116)))
 | 0, _, _, _, _ => none
 | k + 1, x0, x1, x2, x31 => if x31 = true then (some ([] : List (S116))) else (if 0 ≤ x1 then (if x1 < (x0.length : Int) then ((eu.f k ((aa x0 x1).f1) x2).bind fun t185 => (if t185 = 0 then (some ([] : List (S116))) else ((some (([(⟨(aa x0 x1).f0, t185, true⟩ : S116)] : List (S116)) : List (S116))).bind fun y186 => (if t185 < ((aa x0 x1).f1) then (if y186.length < 5864062014805 then (some (y186 ++ [(⟨wrap64 (((aa x0 x1).f0) + t185), wrap64 (((aa x0 x1).f1) - t185), false⟩ : S116)])) else (none)) else (some y186))))) else (none)) else (none))
def cf.f (k : Nat) (l0 : List (S116)) (a1 : Int) (a2 : Int) : Option ((List (S116))) := (cz.f k l0).bind fun t180 => ((bq.f k l0 t180).bind fun t181 => (if t181 = true then (if a1 < 0 then (cf.j0 k l0 a1 a2 true) else (if a1 ≥ (l0.length : Int) then (cf.j0 k l0 a1 a2 true) else (if 0 ≤ a1 then (if a1 < (l0.length : Int) then (cf.j0 k l0 a1 a2 ((aa l0 a1).f2)) else (none)) else (none)))) else (cf.j0 k l0 a1 a2 true)))
theorem cf.calls (k : Nat) (A0 : Option Addr) (c0 : Nat) (l0 : List (S116)) (a1 : Int) (a2 : Int) (r : List (S116)) (w : World) (hr0 : Kd.C ld w A0 l0.length l0) (hc0 : l0.length ≤ c0) (h : cf.f k l0 a1 a2 = some r) : Calls Tryz.prog 163 #[.slice A0 l0.length c0, .int .i64 a1, .int .i64 a2] w fun e w' => ∃ v0_ : Value, e = .returned (v0_) ∧ Kd.R ld 116 w' w.heap.size (fun _ => True) v0_ r ∧ Below w.heap.size w w' := by
 have hu116 := Tryz.underlying116;have HR0 := am hr0;have HC0 := am hc0;clear hr0 hc0;have HB := am (Below.refl w.heap.size w);have H : ((cz.f k l0).bind fun t180 => ((bq.f k l0 t180).bind fun t181 => (if t181 = true then (if a1 < 0 then (cf.j0 k l0 a1 a2 true) else (if a1 ≥ (l0.length : Int) then (cf.j0 k l0 a1 a2 true) else (if 0 ≤ a1 then (if a1 < (l0.length : Int) then (cf.j0 k l0 a1 a2 ((aa l0 a1).f2)) else (none)) else (none)))) else (cf.j0 k l0 a1 a2 true)))) = some r := h;clear h;have HC4 := am H;clear H;go_enter Tryz.func163, Tryz.ntmps163;go_upto_region 1 with (fail);go_cut [31] (fun v31 wc => ∃ (kq : Nat) (x31_3 : Bool), v31 = .bool x31_3 ∧ Aside0 (cf.j0 kq l0 a1 a2 x31_3 = some r) ∧ Aside0 (kq ≤ k) ∧ Aside0 (Below w.heap.size w wc))
 case first =>
  have H := HC4.out;clear HC4;replace H := Option.bind_eq_some_iff.mp H;obtain ⟨t180, A50, H⟩ := H
  try dsimp only at H
  have A5 := am A50;clear A50;replace H := Option.bind_eq_some_iff.mp H;obtain ⟨t181, A60, H⟩ := H
  try dsimp only at H
  have A6 := am A60;clear A60;by_cases c7 : t181 = true
  ·subst c7;have H1 : (if a1 < 0 then (cf.j0 k l0 a1 a2 true) else (if a1 ≥ (l0.length : Int) then (cf.j0 k l0 a1 a2 true) else (if 0 ≤ a1 then (if a1 < (l0.length : Int) then (cf.j0 k l0 a1 a2 ((aa l0 a1).f2)) else (none)) else (none)))) = some r := by rw [if_pos rfl] at H; exact H
   clear H;have H := H1;clear H1;by_cases c8 : a1 < 0
   ·rw [if_pos c8] at H;have c8b0 := decide_eq_true c8;clear c8
    (first | rw [c8b0] | (simp only [az, dr]; rw [c8b0]) | skip)
    have H' := am H;clear H;go_wp2_with (first | ((with_reducible refine ak (f := 174) rfl ?_); refine zl (some 12) Tryz.func174 #[.slice A0 l0.length c0] ?_; (with_reducible refine (cz.calls k _ _ l0 t180 _ ?side1 ?side2 A5.out).mono ?_); (case side1 => exact zc (Kd.C_below HR0.out HB.out)); (case side2 => exact HC0.out); rintro e w9 ⟨rfl, hb⟩; refine ⟨_, rfl, ?_⟩; have n0_ := zb HB hb; replace HB := n0_; clear n0_; (try clear hb)) | ((with_reducible refine ak (f := 95) rfl ?_); refine zl (some 13) Tryz.func95 #[.slice A0 l0.length c0, .int .i64 t180] ?_; (with_reducible refine (bq.calls k _ _ l0 t180 true _ ?side1 ?side2 A6.out).mono ?_); (case side1 => exact zc (Kd.C_below HR0.out HB.out)); (case side2 => exact HC0.out); rintro e w10 ⟨rfl, hb⟩; refine ⟨_, rfl, ?_⟩; have n0_ := zb HB hb; replace HB := n0_; clear n0_; (try clear hb)))
    go_meet
    case rel => exact ⟨_, (true), zs, H', ⟨by first | omega | exact Nat.le_refl _⟩, ⟨zB HB⟩⟩
   ·rw [if_neg c8] at H;have c8b0 := decide_eq_false c8;clear c8
    (first | rw [c8b0] | (simp only [az, dr]; rw [c8b0]) | skip)
    by_cases c11 : a1 ≥ (l0.length : Int)
    ·rw [if_pos c11] at H;have c11b0 : decide ((l0.length : Int) ≤ a1) = true := decide_eq_true c11;clear c11;have H' := am H;clear H;go_wp2_with (first | ((with_reducible refine ak (f := 174) rfl ?_); refine zl (some 12) Tryz.func174 #[.slice A0 l0.length c0] ?_; (with_reducible refine (cz.calls k _ _ l0 t180 _ ?side1 ?side2 A5.out).mono ?_); (case side1 => exact zc (Kd.C_below HR0.out HB.out)); (case side2 => exact HC0.out); rintro e w12 ⟨rfl, hb⟩; refine ⟨_, rfl, ?_⟩; have n0_ := zb HB hb; replace HB := n0_; clear n0_; (try clear hb)) | ((with_reducible refine ak (f := 95) rfl ?_); refine zl (some 13) Tryz.func95 #[.slice A0 l0.length c0, .int .i64 t180] ?_; (with_reducible refine (bq.calls k _ _ l0 t180 true _ ?side1 ?side2 A6.out).mono ?_); (case side1 => exact zc (Kd.C_below HR0.out HB.out)); (case side2 => exact HC0.out); rintro e w13 ⟨rfl, hb⟩; refine ⟨_, rfl, ?_⟩; have n0_ := zb HB hb; replace HB := n0_; clear n0_; (try clear hb)))
     go_meet
     case rel => exact ⟨_, (true), zs, H', ⟨by first | omega | exact Nat.le_refl _⟩, ⟨zB HB⟩⟩
    ·rw [if_neg c11] at H;have c11b0 : decide ((l0.length : Int) ≤ a1) = false := decide_eq_false c11;clear c11;by_cases c14 : 0 ≤ a1
     ·rw [if_pos c14] at H;have c14b0 := decide_eq_true c14;clear c14;by_cases c15 : a1 < (l0.length : Int)
      ·rw [if_pos c15] at H;have c15b0 := decide_eq_true c15;clear c15;have H' := am H;clear H;go_wp2_with (first | ((with_reducible refine ak (f := 174) rfl ?_); refine zl (some 12) Tryz.func174 #[.slice A0 l0.length c0] ?_; (with_reducible refine (cz.calls k _ _ l0 t180 _ ?side1 ?side2 A5.out).mono ?_); (case side1 => exact zc (Kd.C_below HR0.out HB.out)); (case side2 => exact HC0.out); rintro e w16 ⟨rfl, hb⟩; refine ⟨_, rfl, ?_⟩; have n0_ := zb HB hb; replace HB := n0_; clear n0_; (try clear hb)) | ((with_reducible refine ak (f := 95) rfl ?_); refine zl (some 13) Tryz.func95 #[.slice A0 l0.length c0, .int .i64 t180] ?_; (with_reducible refine (bq.calls k _ _ l0 t180 true _ ?side1 ?side2 A6.out).mono ?_); (case side1 => exact zc (Kd.C_below HR0.out HB.out)); (case side2 => exact HC0.out); rintro e w17 ⟨rfl, hb⟩; refine ⟨_, rfl, ?_⟩; have n0_ := zb HB hb; replace HB := n0_; clear n0_; (try clear hb); have p182 : 0 ≤ (a1 : Int) := zu; have q182 : a1 < (l0.length : Int) := zu; obtain ⟨ad182, e182, hx182_0, hx182_1, hx182_2⟩ := dx HR0.out a1 p182 q182; cases e182; replace hx182_0 := zw HB hx182_0; replace hx182_1 := zw HB hx182_1; replace hx182_2 := zw HB hx182_2; replace p182 := eq_true p182; replace q182 := eq_true q182))
       go_meet
       case rel => exact ⟨_, ((aa l0 a1).f2), zs, H', ⟨by first | omega | exact Nat.le_refl _⟩, ⟨zB HB⟩⟩
      ·rw [if_neg c15] at H;exact absurd H (by simp)
     ·rw [if_neg c14] at H;exact absurd H (by simp)
  ·replace c7 := Bool.eq_false_iff.mpr c7;subst c7;have H1 : (cf.j0 k l0 a1 a2 true) = some r := by rw [if_neg (show ¬ (false = true) by decide)] at H; exact H
   clear H;have H := H1;clear H1;have H' := am H;clear H;go_wp2_with (first | ((with_reducible refine ak (f := 174) rfl ?_); refine zl (some 12) Tryz.func174 #[.slice A0 l0.length c0] ?_; (with_reducible refine (cz.calls k _ _ l0 t180 _ ?side1 ?side2 A5.out).mono ?_); (case side1 => exact zc (Kd.C_below HR0.out HB.out)); (case side2 => exact HC0.out); rintro e w18 ⟨rfl, hb⟩; refine ⟨_, rfl, ?_⟩; have n0_ := zb HB hb; replace HB := n0_; clear n0_; (try clear hb)) | ((with_reducible refine ak (f := 95) rfl ?_); refine zl (some 13) Tryz.func95 #[.slice A0 l0.length c0, .int .i64 t180] ?_; (with_reducible refine (bq.calls k _ _ l0 t180 false _ ?side1 ?side2 A6.out).mono ?_); (case side1 => exact zc (Kd.C_below HR0.out HB.out)); (case side2 => exact HC0.out); rintro e w19 ⟨rfl, hb⟩; refine ⟨_, rfl, ?_⟩; have n0_ := zb HB hb; replace HB := n0_; clear n0_; (try clear hb)))
   go_meet
   case rel => exact ⟨_, (true), zs, H', ⟨by first | omega | exact Nat.le_refl _⟩, ⟨zB HB⟩⟩
 case rest =>
  clear HC4
  try clear c7
  try clear c8
  try clear c8b0
  try clear c11
  try clear c11b0
  try clear c14
  try clear c14b0
  try clear c15
  try clear c15b0
  try clear hx182_0
  try clear hx182_1
  try clear hx182_2
  try clear p182
  try clear q182
  obtain ⟨kq, x31_3, rfl, HA, HJ3, HB⟩ := hcut;cases kq with
  | zero => exact absurd HA.out (by simp [cf.j0])
  | succ kj3 =>
   have H := HA.out;clear HA;simp only [cf.j0] at H;by_cases c20 : x31_3 = true
   ·subst c20;have H1 : (some ([] : List (S116))) = some r := by rw [if_pos rfl] at H; exact H
    clear H;have H := H1;clear H1;obtain rfl := Option.some.inj H;go_wp2;go_ret;exact ⟨_, ze, by first | exact Kd.R_nil _ _ _ _ _ | exact Kd.N_nil _ _ _ _ _ | exact Kd.V_nil _ _ _ _ _ | exact Kd.Q_nil _ _ _ _ _ | exact Kd.S_nil _ _ _ _ _, zB HB⟩
   ·replace c20 := Bool.eq_false_iff.mpr c20;subst c20;have H1 : (if 0 ≤ a1 then (if a1 < (l0.length : Int) then ((eu.f kj3 ((aa l0 a1).f1) a2).bind fun t185 => (if t185 = 0 then (some ([] : List (S116))) else ((some (([(⟨(aa l0 a1).f0, t185, true⟩ : S116)] : List (S116)) : List (S116))).bind fun y186 => (if t185 < ((aa l0 a1).f1) then (if y186.length < 5864062014805 then (some (y186 ++ [(⟨wrap64 (((aa l0 a1).f0) + t185), wrap64 (((aa l0 a1).f1) - t185), false⟩ : S116)])) else (none)) else (some y186))))) else (none)) else (none)) = some r := by rw [if_neg (show ¬ (false = true) by decide)] at H; exact H
    clear H;have H := H1;clear H1;by_cases c21 : 0 ≤ a1
    ·rw [if_pos c21] at H;have c21b0 := decide_eq_true c21;clear c21;by_cases c22 : a1 < (l0.length : Int)
     ·rw [if_pos c22] at H;have c22b0 := decide_eq_true c22;clear c22;replace H := Option.bind_eq_some_iff.mp H;obtain ⟨t185, A230, H⟩ := H
      try dsimp only at H
      have A23 := am A230;clear A230;by_cases c24 : t185 = 0
      ·rw [if_pos c24] at H;have c24b0 : (t185 == 0) = true := beq_iff_eq.mpr c24;have c24b1 : (t185 != 0) = false := bne_eq_false_iff_eq.mpr c24;clear c24;obtain rfl := Option.some.inj H;have p183 : 0 ≤ (a1 : Int) := zu;have q183 : a1 < (l0.length : Int) := zu;obtain ⟨ad183, e183, hx183_0, hx183_1, hx183_2⟩ := dx HR0.out a1 p183 q183;cases e183;replace hx183_0 := zw HB hx183_0;replace hx183_1 := zw HB hx183_1;replace hx183_2 := zw HB hx183_2;replace p183 := eq_true p183;replace q183 := eq_true q183;go_wp2_with (first | ((with_reducible refine bn (N := 7) rfl ?_); (try (refine fe (by rfl) ?_; dsimp only)); refine b9 ?hg (N := 7) ?hd (cs := #[.int .i64 0, .int .i64 0, .bool false]) (t := 116) ?hr ?_; (case hd => rfl); (case hg => rfl); (case hr => first | (go_simp; done) | (go_simp; rfl)); intro gb184 hg w25 hbox hb; have GW184 := zg HB hg; have GE184 := GW184; replace HB := zb HB hb; have BK184 := am hbox; clear hb hbox hg; have hcz26_0 := zk BK184 0 (.int .i64 0); have hcz26_1 := zk BK184 1 (.int .i64 0); have hcz26_2 := zk BK184 2 (.bool false); have hfz26_0 := ac BK184.out 0; have hfz26_1 := ac BK184.out 1; have hfz26_2 := ac BK184.out 2) | ((with_reducible refine ak (f := 175) rfl ?_); refine zl (some 39) Tryz.func175 #[.int .i64 ((aa l0 a1).f1), .int .i64 a2] ?_; (with_reducible refine (eu.calls kj3 ((aa l0 a1).f1) a2 t185 _ A23.out).mono ?_); rintro e w' ⟨rfl, ⟨nd, rfl⟩⟩; refine ⟨_, rfl, ?_⟩))
       go_ret;exact ⟨_, ze, by first | exact Kd.R_nil _ _ _ _ _ | exact Kd.N_nil _ _ _ _ _ | exact Kd.V_nil _ _ _ _ _ | exact Kd.Q_nil _ _ _ _ _ | exact Kd.S_nil _ _ _ _ _, by repeat (first | (with_reducible first | exact HB.out | apply qd | apply qe | apply qf | refine ao ?_ GE184.out) | exact HB.out)⟩
      ·rw [if_neg c24] at H;have c24b0 : (t185 == 0) = false := beq_eq_false_iff_ne.mpr c24;have c24b1 : (t185 != 0) = true := bne_iff_ne.mpr c24;obtain ⟨y186, hy186⟩ : ∃ y_ : List (S116), y_ = (([(⟨(aa l0 a1).f0, t185, true⟩ : S116)] : List (S116))) := ⟨_, rfl⟩;replace H : (if t185 < ((aa l0 a1).f1) then (if y186.length < 5864062014805 then (some (y186 ++ [(⟨wrap64 (((aa l0 a1).f0) + t185), wrap64 (((aa l0 a1).f1) - t185), false⟩ : S116)])) else (none)) else (some y186)) = some r := by first | (rw [hy186]; with_reducible exact H) | (have H2_ := (Option.bind_some _ _).symm.trans H; rw [hy186]; with_reducible exact H2_) | (have H2_ := (Option.bind_some _ _).symm.trans H; with_reducible exact H2_) | with_reducible exact H | (rw [hy186]; exact H) | exact H
       have Ny186 := am hy186;clear hy186;by_cases c27 : t185 < ((aa l0 a1).f1)
       ·rw [if_pos c27] at H;have c27b0 := decide_eq_true c27;clear c27;by_cases c28 : y186.length < 5864062014805
        ·rw [if_pos c28] at H;have LMc28 := am c28;clear c28;obtain ⟨y189, hy189⟩ : ∃ y_ : List (S116), y_ = (y186 ++ [(⟨wrap64 (((aa l0 a1).f0) + t185), wrap64 (((aa l0 a1).f1) - t185), false⟩ : S116)]) := ⟨_, rfl⟩;replace H : (some y189) = some r := by first | (rw [hy189]; with_reducible exact H) | (have H2_ := (Option.bind_some _ _).symm.trans H; rw [hy189]; with_reducible exact H2_) | (have H2_ := (Option.bind_some _ _).symm.trans H; with_reducible exact H2_) | with_reducible exact H | (rw [hy189]; exact H) | exact H
         have Ny189 := am hy189;clear hy189;obtain rfl := Option.some.inj H;have p183 : 0 ≤ (a1 : Int) := zu;have q183 : a1 < (l0.length : Int) := zu;obtain ⟨ad183, e183, hx183_0, hx183_1, hx183_2⟩ := dx HR0.out a1 p183 q183;cases e183;replace hx183_0 := zw HB hx183_0;replace hx183_1 := zw HB hx183_1;replace hx183_2 := zw HB hx183_2;replace p183 := eq_true p183;replace q183 := eq_true q183;go_wp2_with (first | ((with_reducible refine bn (N := 7) rfl ?_); (try (refine fe (by rfl) ?_; dsimp only)); refine b9 ?hg (N := 7) ?hd (cs := #[.int .i64 0, .int .i64 0, .bool false]) (t := 116) ?hr ?_; (case hd => rfl); (case hg => rfl); (case hr => first | (go_simp; done) | (go_simp; rfl)); intro gb184 hg w29 hbox hb; have GW184 := zg HB hg; have GE184 := GW184; replace HB := zb HB hb; have BK184 := am hbox; clear hb hbox hg; have hcz30_0 := zk BK184 0 (.int .i64 0); have hcz30_1 := zk BK184 1 (.int .i64 0); have hcz30_2 := zk BK184 2 (.bool false); have hfz30_0 := ac BK184.out 0; have hfz30_1 := ac BK184.out 1; have hfz30_2 := ac BK184.out 2) | ((with_reducible refine ak (f := 175) rfl ?_); refine zl (some 39) Tryz.func175 #[.int .i64 ((aa l0 a1).f1), .int .i64 a2] ?_; (with_reducible refine (eu.calls kj3 ((aa l0 a1).f1) a2 t185 _ A23.out).mono ?_); rintro e w' ⟨rfl, ⟨nd, rfl⟩⟩; refine ⟨_, rfl, ?_⟩) | ((with_reducible refine bn (N := 46) rfl ?_); (try (refine fe (by rfl) ?_; dsimp only)); refine Kd.R_lit ld _ 116 ?hg (N := 46) ?hd (xs := ([(⟨(aa l0 a1).f0, t185, true⟩ : S116)] : List (S116))) (inner := [.int .i64 ((aa l0 a1).f0), .int .i64 t185, .bool true]) (ok := fun _ => True) (okp := fun _ => True) ?hr ?hp (fun _ hk => hk) trivial (Below.refl _ _) (Nat.le_refl _) (by simp) ?_; (case hd => rfl); (case hg => rfl); (case hr => first | (go_simp; done) | (go_simp; rfl)); (case hp => exact (d6.c3 (show Kd.M ld _ _ _ (⟨(aa l0 a1).f0, t185, true⟩ : S116) [.int .i64 ((aa l0 a1).f0), .int .i64 t185, .bool true] from (vz _ _ _ (⟨(aa l0 a1).f0, t185, true⟩ : S116) )) (d6.none _ _))); intro v187 w31 ho32 hb hg_ hnew_; clear hg_ hnew_; (first | rw [← Ny186.out] at ho32 | (simp only [Int.reduceToNat] at ho32; rw [← Ny186.out] at ho32)); have n0_ := am (Kd.R_lower (Kd.R_newB ho32 (g := gb184) (o := .cells #[.int .i64 ((aa l0 a1).f0), .int .i64 ((aa l0 a1).f1), .bool ((aa l0 a1).f2)] 116 (0, 0)) (by (with_reducible repeat (first | refine ap ?_ _ | refine ay ?_ | refine av ?_ _)); refine da (cs := #[.int .i64 ((aa l0 a1).f0), .int .i64 ((aa l0 a1).f1), .bool false]) ?_ 2 _ rfl; (with_reducible repeat (first | refine ap ?_ _ | refine ay ?_ | refine av ?_ _)); refine da (cs := #[.int .i64 ((aa l0 a1).f0), .int .i64 0, .bool false]) ?_ 1 _ rfl; (with_reducible repeat (first | refine ap ?_ _ | refine ay ?_ | refine av ?_ _)); refine da (cs := #[.int .i64 0, .int .i64 0, .bool false]) ?_ 0 _ rfl; (with_reducible repeat (first | refine ap ?_ _ | refine ay ?_ | refine av ?_ _)); exact BK184.out)) (ba (by repeat (first | (with_reducible first | exact HB.out | apply qd | apply qe | apply qf | refine ao ?_ GE184.out) | exact HB.out)))); have n1_ := am (ai (g := gb184) (o := .cells #[.int .i64 ((aa l0 a1).f0), .int .i64 ((aa l0 a1).f1), .bool ((aa l0 a1).f2)] 116 (0, 0)) (by (with_reducible repeat (first | refine ap ?_ _ | refine ay ?_ | refine av ?_ _)); refine da (cs := #[.int .i64 ((aa l0 a1).f0), .int .i64 ((aa l0 a1).f1), .bool false]) ?_ 2 _ rfl; (with_reducible repeat (first | refine ap ?_ _ | refine ay ?_ | refine av ?_ _)); refine da (cs := #[.int .i64 ((aa l0 a1).f0), .int .i64 0, .bool false]) ?_ 1 _ rfl; (with_reducible repeat (first | refine ap ?_ _ | refine ay ?_ | refine av ?_ _)); refine da (cs := #[.int .i64 0, .int .i64 0, .bool false]) ?_ 0 _ rfl; (with_reducible repeat (first | refine ap ?_ _ | refine ay ?_ | refine av ?_ _)); exact BK184.out) hb); have n2_ := am (qw (by repeat (first | (with_reducible first | exact HB.out | apply qd | apply qe | apply qf | refine ao ?_ GE184.out) | exact HB.out)) hb); clear BK184; clear HB; have HO188 := n0_; have BK184 := n1_; have HB := n2_; clear n0_ n1_ n2_; clear hb ho32; have hcz33_0 := zk BK184 0 (.int .i64 ((aa l0 a1).f0)); have hcz33_1 := zk BK184 1 (.int .i64 ((aa l0 a1).f1)); have hcz33_2 := zk BK184 2 (.bool ((aa l0 a1).f2)); have hfz33_0 := ac BK184.out 0; have hfz33_1 := ac BK184.out 1; have hfz33_2 := ac BK184.out 2) | ((with_reducible refine dn (b := .append) (xs := #[.tmp 51, .tmp 61]) rfl ?_); (try (refine fe (by rfl) ?_; dsimp only)); at_builtin; refine Kd.R_append ld (w0 := w) w.heap.size rfl (.tmp 51) (.tmp 61) 93 116 (.agg #[(.int .i64 0), (.int .i64 0), (.bool false)]) 24 rfl Tryz.underlying93 qcu rfl (by decide) (by omega) v187 y186 (⟨wrap64 (((aa l0 a1).f0) + t185), wrap64 (((aa l0 a1).f1) - t185), false⟩ : S116) [.int .i64 (wrap64 (((aa l0 a1).f0) + t185)), .int .i64 (wrap64 (((aa l0 a1).f1) - t185)), .bool false] (fun k_ => k_ ≠ gb184) (fun _ => False) rfl rfl ?aP (fun _ hk => hk.elim) ?aF ?aO ?aB ?aS ?aL ?_; (case aP => exact vz _ _ _ (⟨wrap64 (((aa l0 a1).f0) + t185), wrap64 (((aa l0 a1).f1) - t185), false⟩ : S116)); (case aB => exact (by repeat (first | (with_reducible first | exact HB.out | apply qd | apply qe | apply qf | refine ao ?_ GE184.out) | exact HB.out))); (case aF => exact (fun k_ hk => Kd.freshB (g := gb184) (o := .cells #[.int .i64 ((aa l0 a1).f0), .int .i64 ((aa l0 a1).f1), .bool ((aa l0 a1).f2)] 116 (0, 0)) (by (with_reducible repeat (first | refine ap ?_ _ | refine ay ?_ | refine av ?_ _)); exact BK184.out) k_ hk)); (case aO => exact (by (with_reducible repeat (first | apply qa | apply qb | apply qc)); exact Kd.R_mono HO188.out (fun _ hk => hk.2))); (case aS => exact (ba (by repeat (first | (with_reducible first | exact HB.out | apply qd | apply qe | apply qf | refine ao ?_ GE184.out) | exact HB.out)))); (case aL => have := LMc28.out; omega); intro v190 w34 ho hb hg hat; rw [← Ny189.out] at ho; have n0_ := am (gv (g := gb184) (o := .cells #[.int .i64 ((aa l0 a1).f0), .int .i64 ((aa l0 a1).f1), .bool ((aa l0 a1).f2)] 116 (0, 0)) (by (with_reducible repeat (first | refine ap ?_ _ | refine ay ?_ | refine av ?_ _)); exact BK184.out) hg (Kd.R_away HO188.out (fun _ hk => hk.2))); have n1_ := am (hb); have n2_ := am (ho); clear BK184; clear HB; clear HO188; have BK184 := n0_; have HB := n1_; have HO191 := n2_; clear n0_ n1_ n2_; clear ho hb hg hat))
         go_ret;exact ⟨_, ze, by (with_reducible repeat (first | apply qa | apply qb | apply qc)); exact Kd.R_mono HO191.out (fun _ hk => trivial), by repeat (first | (with_reducible first | exact HB.out | apply qd | apply qe | apply qf | refine ao ?_ GE184.out) | exact HB.out)⟩
        ·rw [if_neg c28] at H;exact absurd H (by simp)
       ·rw [if_neg c27] at H;have c27b0 := decide_eq_false c27;clear c27;obtain rfl := Option.some.inj H;have p183 : 0 ≤ (a1 : Int) := zu;have q183 : a1 < (l0.length : Int) := zu;obtain ⟨ad183, e183, hx183_0, hx183_1, hx183_2⟩ := dx HR0.out a1 p183 q183;cases e183;replace hx183_0 := zw HB hx183_0;replace hx183_1 := zw HB hx183_1;replace hx183_2 := zw HB hx183_2;replace p183 := eq_true p183;replace q183 := eq_true q183;go_wp2_with (first | ((with_reducible refine bn (N := 7) rfl ?_); (try (refine fe (by rfl) ?_; dsimp only)); refine b9 ?hg (N := 7) ?hd (cs := #[.int .i64 0, .int .i64 0, .bool false]) (t := 116) ?hr ?_; (case hd => rfl); (case hg => rfl); (case hr => first | (go_simp; done) | (go_simp; rfl)); intro gb184 hg w35 hbox hb; have GW184 := zg HB hg; have GE184 := GW184; replace HB := zb HB hb; have BK184 := am hbox; clear hb hbox hg; have hcz36_0 := zk BK184 0 (.int .i64 0); have hcz36_1 := zk BK184 1 (.int .i64 0); have hcz36_2 := zk BK184 2 (.bool false); have hfz36_0 := ac BK184.out 0; have hfz36_1 := ac BK184.out 1; have hfz36_2 := ac BK184.out 2) | ((with_reducible refine ak (f := 175) rfl ?_); refine zl (some 39) Tryz.func175 #[.int .i64 ((aa l0 a1).f1), .int .i64 a2] ?_; (with_reducible refine (eu.calls kj3 ((aa l0 a1).f1) a2 t185 _ A23.out).mono ?_); rintro e w' ⟨rfl, ⟨nd, rfl⟩⟩; refine ⟨_, rfl, ?_⟩) | ((with_reducible refine bn (N := 46) rfl ?_); (try (refine fe (by rfl) ?_; dsimp only)); refine Kd.R_lit ld _ 116 ?hg (N := 46) ?hd (xs := ([(⟨(aa l0 a1).f0, t185, true⟩ : S116)] : List (S116))) (inner := [.int .i64 ((aa l0 a1).f0), .int .i64 t185, .bool true]) (ok := fun _ => True) (okp := fun _ => True) ?hr ?hp (fun _ hk => hk) trivial (Below.refl _ _) (Nat.le_refl _) (by simp) ?_; (case hd => rfl); (case hg => rfl); (case hr => first | (go_simp; done) | (go_simp; rfl)); (case hp => exact (d6.c3 (show Kd.M ld _ _ _ (⟨(aa l0 a1).f0, t185, true⟩ : S116) [.int .i64 ((aa l0 a1).f0), .int .i64 t185, .bool true] from (vz _ _ _ (⟨(aa l0 a1).f0, t185, true⟩ : S116) )) (d6.none _ _))); intro v187 w37 ho38 hb hg_ hnew_; clear hg_ hnew_; (first | rw [← Ny186.out] at ho38 | (simp only [Int.reduceToNat] at ho38; rw [← Ny186.out] at ho38)); have n0_ := am (Kd.R_lower (Kd.R_newB ho38 (g := gb184) (o := .cells #[.int .i64 ((aa l0 a1).f0), .int .i64 ((aa l0 a1).f1), .bool ((aa l0 a1).f2)] 116 (0, 0)) (by (with_reducible repeat (first | refine ap ?_ _ | refine ay ?_ | refine av ?_ _)); refine da (cs := #[.int .i64 ((aa l0 a1).f0), .int .i64 ((aa l0 a1).f1), .bool false]) ?_ 2 _ rfl; (with_reducible repeat (first | refine ap ?_ _ | refine ay ?_ | refine av ?_ _)); refine da (cs := #[.int .i64 ((aa l0 a1).f0), .int .i64 0, .bool false]) ?_ 1 _ rfl; (with_reducible repeat (first | refine ap ?_ _ | refine ay ?_ | refine av ?_ _)); refine da (cs := #[.int .i64 0, .int .i64 0, .bool false]) ?_ 0 _ rfl; (with_reducible repeat (first | refine ap ?_ _ | refine ay ?_ | refine av ?_ _)); exact BK184.out)) (ba (by repeat (first | (with_reducible first | exact HB.out | apply qd | apply qe | apply qf | refine ao ?_ GE184.out) | exact HB.out)))); have n1_ := am (ai (g := gb184) (o := .cells #[.int .i64 ((aa l0 a1).f0), .int .i64 ((aa l0 a1).f1), .bool ((aa l0 a1).f2)] 116 (0, 0)) (by (with_reducible repeat (first | refine ap ?_ _ | refine ay ?_ | refine av ?_ _)); refine da (cs := #[.int .i64 ((aa l0 a1).f0), .int .i64 ((aa l0 a1).f1), .bool false]) ?_ 2 _ rfl; (with_reducible repeat (first | refine ap ?_ _ | refine ay ?_ | refine av ?_ _)); refine da (cs := #[.int .i64 ((aa l0 a1).f0), .int .i64 0, .bool false]) ?_ 1 _ rfl; (with_reducible repeat (first | refine ap ?_ _ | refine ay ?_ | refine av ?_ _)); refine da (cs := #[.int .i64 0, .int .i64 0, .bool false]) ?_ 0 _ rfl; (with_reducible repeat (first | refine ap ?_ _ | refine ay ?_ | refine av ?_ _)); exact BK184.out) hb); have n2_ := am (qw (by repeat (first | (with_reducible first | exact HB.out | apply qd | apply qe | apply qf | refine ao ?_ GE184.out) | exact HB.out)) hb); clear BK184; clear HB; have HO188 := n0_; have BK184 := n1_; have HB := n2_; clear n0_ n1_ n2_; clear hb ho38; have hcz39_0 := zk BK184 0 (.int .i64 ((aa l0 a1).f0)); have hcz39_1 := zk BK184 1 (.int .i64 ((aa l0 a1).f1)); have hcz39_2 := zk BK184 2 (.bool ((aa l0 a1).f2)); have hfz39_0 := ac BK184.out 0; have hfz39_1 := ac BK184.out 1; have hfz39_2 := ac BK184.out 2))
        go_ret;exact ⟨_, ze, by (with_reducible repeat (first | apply qa | apply qb | apply qc)); exact Kd.R_mono HO188.out (fun _ hk => trivial), by repeat (first | (with_reducible first | exact HB.out | apply qd | apply qe | apply qf | refine ao ?_ GE184.out) | exact HB.out)⟩
     ·rw [if_neg c22] at H;exact absurd H (by simp)
    ·rw [if_neg c21] at H;exact absurd H (by simp)
end Go.Proofs.YtmfhaliclnnbaaaGreat.XTopWhole
