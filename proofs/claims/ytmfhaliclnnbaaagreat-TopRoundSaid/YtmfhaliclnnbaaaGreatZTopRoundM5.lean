import Derived.Test.YtmfhaliclnnbaaaGreatZTopRoundM4
import Derived.Test.YtmfhaliclnnbaaaGreatZTopRoundM1
import Derived.Test.YtmfhaliclnnbaaaGreatZTopRoundM3
namespace Go.Proofs.YtmfhaliclnnbaaaGreat.Sys
open Go.RowKit Go.Proofs.YtmfhaliclnnbaaaGreatW.PrintWords Go.Proofs.YtmfhaliclnnbaaaGreatW.PrintLast Go.Proofs.YtmfhaliclnnbaaaGreatW.PrintMore
open Go.Proofs.YtmfhaliclnnbaaaGreat.XTopWhole Go.Proofs.YtmfhaliclnnbaaaGreat.Pl Go.Maps
set_option linter.unusedVariables false
set_option linter.unusedSimpArgs false
set_option maxRecDepth 100000
set_option maxHeartbeats 8000000
def iv (w : World) (G M T : Nat) : Prop := w.heap[G]? = some (.cells #[.pointer (some ⟨M, 0, none⟩), .pointer (some ⟨T, 0, none⟩)] 129 (0, 0))
theorem iv.kept {w w' : World} {G M T : Nat} {S : Nat → Prop} (h : iv w G M T) (k : ah S w w') (hS : ¬ S G) : iv w' G M T := ah.of k h hS
theorem iv.below {w w' : World} {G M T : Nat} (h : iv w G M T) (hb : Below w.heap.size w w') : iv w' G M T := h.kept (ah.of_below (S := fun _ => False) hb) id
theorem iv.g0 {w : World} {G M T : Nat} (h : iv w G M T) : w.cell? ⟨G, 0, none⟩ = some (.pointer (some ⟨M, 0, none⟩)) := (af h 0).trans rfl
theorem iv.g1 {w : World} {G M T : Nat} (h : iv w G M T) : w.cell? ⟨G, 1, none⟩ = some (.pointer (some ⟨T, 0, none⟩)) := (af h 1).trans rfl
namespace Lg
def count (m : Mem) : Int := m.regs.getD 1 0
def idx (n : Int) : Int := (n + 7) / 8
def homeAt (s : Shape) (m : Mem) (i : Nat) : ip :=
 (if (Trn.get s m ((i : Int) / 8)).1.getD (i % 8) 0 < s.n then (Trn.get s m ((i : Int) / 8)).1.getD (i % 8) 0 else -1, (Trn.get s m (idx (count m) + i)).1)
def homesTo (s : Shape) (m : Mem) (k : Nat) : List ip := (List.range k).map (homeAt s m)
def homes (s : Shape) (m : Mem) : List ip × Int := if m.down then ([], 2) else (homesTo s m (count m).toNat, 0)
def Rd (s : Shape) (m : Mem) : Prop := ∀ line, 0 ≤ line → line < s.n → (Trn.get s m line).2 = 0 ∧ ∀ x ∈ (Trn.get s m line).1, 0 ≤ x ∧ x ≤ 18446744073709551615
end Lg
theorem vq (s : Shape) (m : Mem) (k : Nat) : Lg.homesTo s m (k + 1) = Lg.homesTo s m k ++ [Lg.homeAt s m k] := by simp [Lg.homesTo, List.range_succ]
theorem o0 (s : Shape) (m : Mem) (k : Nat) : (Lg.homesTo s m k).length = k := by simp [Lg.homesTo]
theorem qdl {n : Int} (h0 : 0 ≤ n) (h1 : n ≤ 1000) : nb.f n = some (Lg.idx n) := by
 unfold nb.f Lg.idx;rw [w64 (n := n + 8) (by omega), w64 (n := n + 8 - 1) (by omega), qbu (by omega), w64 (n := (n + 8 - 1) / 8) (by omega)];congr 2;omega
theorem ll {w : World} {M C L T : Nat} {s : Shape} {m : Mem} {puts : Int} (h : TurnAt w M C L T s m puts) (line : Int) : (Trn.get s m line).1.length = 8 := by
 unfold Trn.get;split
 ·rfl
 ·exact sa h.mem _ _ _
section
variable {w : World} {M C L T G : Nat} {s : Shape} {m : Mem} {puts : Int}
theorem p6 (h : MemAt w M C m) (hG : iv w G M T) : Calls Tryz.prog 60 #[.pointer (some ⟨G, 0, none⟩)] w fun e w' => e = .returned (.bool ((Nvm.reg m 1).1 != 0)) ∧ w = w' := by
 have H := am h;have g0 := hG.g0;clear h hG;generalize hr : Nvm.reg m 1 = r;have HR := am hr;clear hr;go_enter Tryz.func60, Tryz.ntmps60;go_wp2_with (first | (go_at_call 35; (with_reducible refine (jf H.out 1).mono ?_); rintro e w1 ⟨rfl, rfl⟩; rw [HR.out]))
 go_ret;exact ⟨rfl, rfl⟩
theorem uq (h : TurnAt w M C L T s m puts) (hn : 17 ≤ s.n) : Calls Tryz.prog 43 #[.pointer (some ⟨M, 0, none⟩), .pointer (some ⟨T, 0, none⟩)] w fun e w' => ∃ G, e = .returned (.pointer (some ⟨G, 0, none⟩)) ∧ iv w' G M T ∧ w.heap.size ≤ G ∧ Below w.heap.size w w' := by
 have H := am h;have d0 : decide (s.n ≤ 16) = false := decide_eq_false (by omega);clear h;go_enter Tryz.func43, Tryz.ntmps43;go_wp2_with (first | (go_at_call 90; (with_reducible refine (fc H.out).mono ?_); rintro e w1 ⟨rfl, rfl⟩))
 go_ret;exact ⟨w.heap.size, rfl, heap_alloc_new w _, Nat.le_refl _, (Below.refl _ _).alloc (Nat.le_refl _) _⟩
theorem qo {ops : Array Oper} {rest : List Oper} {o : Oper} {a : Act} {w : World} {Q : Exit → Act → World → Prop} (hg : o.guard = none) (t : TypeId) (i j : Nat) (x y : Operand) (ho : o.op = .build t #[(i, x), (j, y)]) (u v : Value) (hx : a.eval x = u) (hy : a.eval y = v) (cells : Array Value) (hb : Tryz.prog.built t [(i, u), (j, v)] = some cells)
  (h : wpList Tryz.prog ops Q rest (a.put o.dst (.agg cells)) w) : wpList Tryz.prog ops Q (o :: rest) a w :=
 ku hg t _ ho [(i, u), (j, v)] cells (by subst hx hy; simp) hb h
theorem yc (h : TurnAt w M C L T s m puts) (hG : iv w G M T) (hn : 17 ≤ s.n) (hrd : m.down = false → Lg.Rd s m) (hc : Lg.count m ≤ 14) : Calls Tryz.prog 91 #[.pointer (some ⟨G, 0, none⟩)] w fun e w' => ∃ v, e = .returned (.tuple #[v, .int .i64 (Lg.homes s m).2]) ∧ Kd.R ui 151 w' w.heap.size (fun _ => True) v (Lg.homes s m).1 ∧ Below w.heap.size w w' := by
 have H := am h;have HG := am hG;have g0 := hG.g0;have hc0 : 0 ≤ Lg.count m := (h.regs.get 1).1;have hn2 := h.ok.n2;clear h hG;cases hd : m.down
 ·have HRd := am (hrd hd);have E := am (show Lg.homes s m = (Lg.homesTo s m (Lg.count m).toNat, 0) by unfold Lg.homes; rw [hd]; rfl);have ER := am (show Nvm.reg m 1 = (Lg.count m, 0) by unfold Nvm.reg Lg.count; rw [hd]; rfl);clear hrd hd;rw [E.out];generalize hcm : Lg.count m = cm at hc hc0 ER ⊢;have HCM := am hcm;clear hcm;have HIdx := am (qdl hc0 (show cm ≤ 1000 by omega));have hix : 0 ≤ Lg.idx cm ∧ Lg.idx cm ≤ 2 := by unfold Lg.idx; omega
  have d14 : decide (cm > 14) = false := decide_eq_false (by omega);have W := am (show IntKind.i64.wrap cm = cm by rw [IntKind.wrap_i64]; omega);have W2 := am (show wrap64 cm = cm by unfold wrap64; omega);have HB := am (Below.refl w.heap.size w);go_enter Tryz.func91, Tryz.ntmps91;go_wp2_with (first | (go_at_call 35; (with_reducible refine (jf H.out.mem 1).mono ?_); rintro e w1 ⟨rfl, rfl⟩; rw [ER.out]))
  clear g0 d14;go_loopw [6, 30] (fun v i wr => ∃ k : Nat, i = .int .i64 k ∧ k ≤ cm.toNat ∧ Aside0 (Kd.R ui 151 wr w.heap.size (fun _ => True) v (Lg.homesTo s m k)) ∧ Aside0 (Below w.heap.size w wr)) (fun _ i _ => cm.toNat - (intOf i).toNat)
  case atStart => exact ⟨0, rfl, by omega, ⟨Kd.R_nil _ _ _ _ _⟩, HB⟩
  case round =>
   clear HB;obtain ⟨k, rfl, hk, HO, HB⟩ := hrel;by_cases hlt : k < cm.toNat
   ·have hlt2 : (k : Int) < cm := by omega
    have H1 := am (H.out.below HB.out);have HG1 := am (HG.out.below HB.out);have g1 := HG1.out.g1;have ha := HRd.out ((k : Int) / 8) (by omega) (by omega);have HAL := am (ll H.out ((k : Int) / 8));generalize hag : Trn.get s m ((k : Int) / 8) = ag at ha HAL;have HAG := am hag;clear hag;obtain ⟨al, ae⟩ := ag;obtain ⟨ha0, ha1⟩ := ha;have HA1 := am ha1;simp only [] at ha0;subst ha0;clear ha1;go_wp2_with (first
     | (go_at_call 39; (with_reducible refine (lc H1.out (line := (k : Int) / 8) (by omega) (by omega)).mono ?_); rintro e w2 ⟨rfl, hb2⟩; rw [HAG.out]; have HB2 := am hb2; clear hb2)
     | ((with_reducible refine bf (t := 73) (p := 8) rfl ?_); refine wpList_store_row rfl 73 (.tmp 8) (.tmp 41) rfl w2.heap.size (bb al).toArray rfl rfl 73 _ (heap_alloc_new w2 _) ?hi ?ho ?h1 ?_; (case hi => rw [List.size_toArray, an, HAL.out]; exact cj); (case ho => simp [an, HAL.out]); (case h1 => exact wa _); have BX8 := am (ju w2 bp (bb al).toArray 73); have HB3 := am (ab HB2.out (iq w2 bp (bb al).toArray 73)); have hb8 := HB2.out.size; generalize hg8 : w2.heap.size = g8 at BX8 HB3 hb8 ⊢; generalize (w2.alloc (.cells bp 73)).setRow g8 (bb al).toArray = w3 at BX8 HB3 ⊢; clear HB2 hg8))
    have hd0 := HRd.out (Lg.idx cm + (k : Int)) (by omega) (by omega);have HDL := am (ll H.out (Lg.idx cm + (k : Int)));generalize hdg : Trn.get s m (Lg.idx cm + (k : Int)) = dg at hd0 HDL;have HDG := am hdg;clear hdg;obtain ⟨dl, de⟩ := dg;obtain ⟨hd0, _⟩ := hd0;simp only [] at hd0;subst hd0;have hw55 : Aside0 (wrap64 (Lg.idx cm + (k : Int)) = Lg.idx cm + k) := ⟨by unfold wrap64; omega⟩;have H3 := am (H1.out.below HB3.out);have HG3 := am (HG1.out.below HB3.out);refine dy (n := 16) (S := fun w' => w'.cell? ⟨G, 1, none⟩ = some (.pointer (some ⟨T, 0, none⟩))) (ds := []) (onA 16 0) (by kernel_rfl) rfl rfl HG3.out.g1 (fun hHeld => ?_);refine pu 0 (some 47) (bA 16 1) (h := ?_);refine pu 1 (some 48) (bA 16 3) (h := ?_);refine pu 2 (some 49) (bA 16 7) (h := ?_);refine pu 4 (some 51) (bA 16 23) (h := ?_);refine pu 5 (some 52) (bA 16 55) (h := ?_);refine pu 7 (some 54) (bA 16 183) (h := ?_);refine tv 3 (some 50) (bA 16 191) rfl hHeld (fun w' hs => bc 79 (.tmp 49) rfl G 1 _ rfl hs _ Tryz.underlying79 rfl) (h := ?_);clear hHeld;have H4 := am H3.out.drew;have HG4 : Aside0 (iv w3.drew G M T) := ⟨HG3.out.below (rm (Below.refl _ _))⟩;have HB4 := am (bm HB3.out);have BX84 : Aside0 (w3.drew.heap[g8]? = some (.cells (bb al).toArray 73 (0, 0))) := ⟨ay BX8.out⟩;clear H3 HG3 HB3 BX8;generalize w3.drew = w4 at H4 HG4 HB4 BX84 ⊢;refine qfx (σ := Nat) 2 (bA 16 16383) (fun b => [(52, .int .i64 cm), (53, .int .i64 (Lg.idx cm)), (55, .int .i64 (Lg.idx cm + (k : Int))), (56, .tuple #[gm dl, .int .i64 0]), (46, .tuple #[gm dl, .int .i64 0]), (57, gm dl), (58, .int .i64 0), (10, .pointer (some ⟨b, 0, none⟩))]) (fun b w' => Below w4.heap.size w4 w' ∧ w'.heap[b]? = some (.cells bp 73 (0, 0)) ∧ w4.heap.size ≤ b) ?_ ?_;rotate_left
    ·intro hCont;have hb_0 := Below.refl w4.heap.size w4;refine qc3 (i := 6) (j := 13) (Ni := some 53) (Nj := some 10) (bA 16 255) (bA 16 8383) rfl rfl rfl rfl (by kernel_rfl) (by decide) (by decide) (fun K hK => ?_) (fun K hK => ?_)
     ·skip
      first
       | refine dw Tryz.func135 (by kernel_rfl) rfl #[.int .i64 (wrap64 cm)] (by rfl) rfl rfl (by simp only [List.map_toArray, List.map_cons, List.map_nil]; first | rfl | (simp only [az]; rfl)) ?_
      rw [W2.out];refine (nb.calls cm (Lg.idx cm) _ HIdx.out).mono ?_;rintro e w' ⟨rfl, ⟨nd1, rfl⟩⟩;have hb_2 := bg hb_0 nd1;refine ⟨_, rfl, ?_⟩;refine hK.out _ _ (HG4.out.below hb_2).g1 (fun hHeld => ?_);clear hK K;refine nm ?_;refine pu 8 (some 55) (bA 16 511) (h := ?_);refine qc3 (i := 9) (j := 13) (Ni := some 56) (Nj := some 10) (bA 16 1023) (bA 16 8703) rfl rfl rfl rfl (by kernel_rfl) (by decide) (by decide) (fun K hK => ?_) (fun K hK => ?_)
      ·skip
       first
        | refine dw Tryz.func39 (by kernel_rfl) rfl #[.pointer (some ⟨T, 0, none⟩), .int .i64 (wrap64 (Lg.idx cm + (k : Int)))] (by rfl) rfl rfl (by simp only [List.map_toArray, List.map_cons, List.map_nil]; first | rfl | (simp only [az]; rfl)) ?_
       rw [hw55.out];refine (lc (H4.out.below hb_2) (line := Lg.idx cm + (k : Int)) (by omega) (by omega)).mono ?_;rintro e w_3 ⟨rfl, hc_4⟩;have hb_5 := ab hb_2 hc_4;rw [HDG.out];refine ⟨_, rfl, ?_⟩;refine hK.out _ _ (HG4.out.below hb_5).g1 (fun hHeld => ?_);clear hK K;refine nm ?_;refine pu 10 (some 46) (bA 16 2047) (h := ?_);refine pu 11 (some 57) (bA 16 4095) (h := ?_);refine pu 12 (some 58) (bA 16 8191) (h := ?_);refine gq (i := 13) (N := some 10) (bA 16 16383) rfl rfl (by kernel_rfl) (by decide) (fun K hK => ?_);refine je (w1 := w_3.alloc (.cells bp 73)) (v := .pointer (some ⟨w_3.heap.size, 0, none⟩)) (by rfl) rfl ?_ ?_
       ·first | (go_simp; done) | (go_simp; rfl)
       have bx_6 := heap_alloc_new w_3 (.cells bp 73);have hg_8 := hb_5.size;have hb_7 := ab hb_5 ((Below.refl _ _).alloc (Nat.le_refl _) (.cells bp 73));refine hK.out _ _ (HG4.out.below hb_7).g1 (fun hHeld => ?_);clear hK K;refine nm ?_;exact i6 (by simp only [jn, Act.put, List.setIfInBounds_toArray, List.set_cons_zero, List.set_cons_succ, az] <;> rfl) (hCont w_3.heap.size _ ⟨hb_7, bx_6, hg_8⟩)
      ·skip;refine je (w1 := (w4.drewN nd1).alloc (.cells bp 73)) (v := .pointer (some ⟨(w4.drewN nd1).heap.size, 0, none⟩)) (by rfl) rfl ?_ ?_
       ·first | (go_simp; done) | (go_simp; rfl)
       have bx_9 := heap_alloc_new (w4.drewN nd1) (.cells bp 73);have hg_11 := hb_2.size;have hb_10 := ab hb_2 ((Below.refl _ _).alloc (Nat.le_refl _) (.cells bp 73));refine hK.out _ _ (HG4.out.below hb_10).g1 (fun hHeld => ?_);clear hK K;refine nm ?_;refine gq (i := 9) (N := some 56) (bA 16 9215) rfl rfl (by kernel_rfl) (by decide) (fun K hK => ?_)
       first
        | refine dw Tryz.func39 (by kernel_rfl) rfl #[.pointer (some ⟨T, 0, none⟩), .int .i64 (wrap64 (Lg.idx cm + (k : Int)))] (by rfl) rfl rfl (by simp only [List.map_toArray, List.map_cons, List.map_nil]; first | rfl | (simp only [az]; rfl)) ?_
       rw [hw55.out];refine (lc (H4.out.below hb_10) (line := Lg.idx cm + (k : Int)) (by omega) (by omega)).mono ?_;rintro e w_12 ⟨rfl, hc_13⟩;have hb_14 := ab hb_10 hc_13;rw [HDG.out];have bx_15 := ai bx_9 hc_13;refine ⟨_, rfl, ?_⟩;refine hK.out _ _ (HG4.out.below hb_14).g1 (fun hHeld => ?_);clear hK K;refine nm ?_;refine pu 10 (some 46) (bA 16 10239) (h := ?_);refine pu 11 (some 57) (bA 16 12287) (h := ?_);refine pu 12 (some 58) (bA 16 16383) (h := ?_);exact i6 (by simp only [jn, Act.put, List.setIfInBounds_toArray, List.set_cons_zero, List.set_cons_succ, az] <;> rfl) (hCont (w4.drewN nd1).heap.size _ ⟨hb_14, bx_15, hg_11⟩)
     ·skip;refine je (w1 := w4.alloc (.cells bp 73)) (v := .pointer (some ⟨w4.heap.size, 0, none⟩)) (by rfl) rfl ?_ ?_
      ·first | (go_simp; done) | (go_simp; rfl)
      have bx_17 := heap_alloc_new w4 (.cells bp 73);have hg_19 := hb_0.size;have hb_18 := ab hb_0 ((Below.refl _ _).alloc (Nat.le_refl _) (.cells bp 73));refine hK.out _ _ (HG4.out.below hb_18).g1 (fun hHeld => ?_);clear hK K;refine nm ?_;refine gq (i := 6) (N := some 53) (bA 16 8447) rfl rfl (by kernel_rfl) (by decide) (fun K hK => ?_)
      first
       | refine dw Tryz.func135 (by kernel_rfl) rfl #[.int .i64 (wrap64 cm)] (by rfl) rfl rfl (by simp only [List.map_toArray, List.map_cons, List.map_nil]; first | rfl | (simp only [az]; rfl)) ?_
      rw [W2.out];refine (nb.calls cm (Lg.idx cm) _ HIdx.out).mono ?_;rintro e w' ⟨rfl, ⟨nd20, rfl⟩⟩;have hb_21 := bg hb_18 nd20;have bx_22 := ai bx_17 (bg (Below.refl _ _) nd20);refine ⟨_, rfl, ?_⟩;refine hK.out _ _ (HG4.out.below hb_21).g1 (fun hHeld => ?_);clear hK K;refine nm ?_;refine pu 8 (some 55) (bA 16 8703) (h := ?_);refine gq (i := 9) (N := some 56) (bA 16 9215) rfl rfl (by kernel_rfl) (by decide) (fun K hK => ?_)
      first
       | refine dw Tryz.func39 (by kernel_rfl) rfl #[.pointer (some ⟨T, 0, none⟩), .int .i64 (wrap64 (Lg.idx cm + (k : Int)))] (by rfl) rfl rfl (by simp only [List.map_toArray, List.map_cons, List.map_nil]; first | rfl | (simp only [az]; rfl)) ?_
      rw [hw55.out];refine (lc (H4.out.below hb_21) (line := Lg.idx cm + (k : Int)) (by omega) (by omega)).mono ?_;rintro e w_24 ⟨rfl, hc_25⟩;have hb_26 := ab hb_21 hc_25;rw [HDG.out];have bx_27 := ai bx_22 hc_25;refine ⟨_, rfl, ?_⟩;refine hK.out _ _ (HG4.out.below hb_26).g1 (fun hHeld => ?_);clear hK K;refine nm ?_;refine pu 10 (some 46) (bA 16 10239) (h := ?_);refine pu 11 (some 57) (bA 16 12287) (h := ?_);refine pu 12 (some 58) (bA 16 16383) (h := ?_);exact i6 (by simp only [jn, Act.put, List.setIfInBounds_toArray, List.set_cons_zero, List.set_cons_succ, az] <;> rfl) (hCont w4.heap.size _ ⟨hb_26, bx_27, hg_19⟩)
    intro b w5 hF;obtain ⟨hb5, hbx, hbge⟩ := hF;clear H1 HG1 g1 HIdx W W2 hw55;refine i6 (a' := ?_) ?_ ?_;rotate_left
    ·simp only [jn, Act.put, List.setIfInBounds_toArray, List.set_cons_zero, List.set_cons_succ, az, dr];rfl
    refine gq (i := 14) (N := none) (bA 16 32767) rfl rfl (by kernel_rfl) (by decide) (fun K hK => ?_);refine p3 (by rfl) rfl (i7 73 (.tmp 10) (.tmp 57) rfl b 0 (bb dl) rfl rfl 73 (bb zL) hbx (by rw [an, HDL.out]; exact cj) (by rw [an, HDL.out]; decide) (ix _)) ?_;have hb6 : Below w4.heap.size w4 (w5.setRow b (spl (bb zL) 0 (bb dl)).toArray) := em hb5 hbge _;refine hK.out _ _ (HG4.out.below hb6).g1 (fun hHeld => ?_);clear hK K;refine pu 15 (some 9) (bA 16 65535) (h := ?_);refine fp (by kernel_rfl) ?_;rw [iy (bb dl) (bb zL) (by rw [an dl, HDL.out]; rfl)] at hb6 ⊢;have H6 := am (H4.out.below hb6);have HG6 := am (HG4.out.below hb6);have HB6 := am (ab HB4.out hb6);have BX86 := am (ai BX84.out hb6);have BX10 : Aside0 ((w5.setRow b (bb dl).toArray).heap[b]? = some (.cells (bb dl).toArray 73 (0, 0))) := ⟨setRow_heap _ _ _ _ _ _ hbx⟩;have hne : b ≠ g8 := by have := df BX84.out; omega
    clear H4 HG4 HB4 BX84 hb5 hbx hb6 hHeld;generalize w5.setRow b (bb dl).toArray = w6 at H6 HG6 HB6 BX86 BX10 ⊢;have g1 := HG6.out.g1;have hk8 : (k : Int) % 8 < 8 ∧ 0 ≤ (k : Int) % 8 := by omega
    have hc8 : w6.cell? ⟨g8, ((k : Int) % 8).toNat, none⟩ = some (.int .u64 (al.getD (k % 8) 0)) := by rw [show ((k : Int) % 8).toNat = k % 8 by omega, af BX86.out];simp [bb, List.getElem?_eq_getElem (show k % 8 < al.length by rw [HAL.out]; omega)]
    have hc9 : w6.cell? ⟨g8, k % 8, none⟩ = some (.int .u64 (al.getD (k % 8) 0)) := by rw [← hc8, show ((k : Int) % 8).toNat = k % 8 by omega]
    have hx := HA1.out (al.getD (k % 8) 0) (by rw [List.getD_eq_getElem?_getD, List.getElem?_eq_getElem (show k % 8 < al.length by rw [HAL.out]; omega)]; exact List.getElem_mem _);have EH : Aside0 (Lg.homeAt s m k = (if al.getD (k % 8) 0 < s.n then al.getD (k % 8) 0 else -1, dl)) := ⟨by
     unfold Lg.homeAt;rw [HAG.out, HCM.out, HDG.out]⟩
    generalize al.getD (k % 8) 0 = x at hc8 hc9 hx EH;have HO6 := am (Kd.R_below HO.out HB6.out);have HBW := am (ab HB.out HB6.out);have LM := am (o0 s m k);by_cases hxn : x < s.n
    ·have d1 : decide (x < s.n) = true := decide_eq_true hxn;go_wp2_with (first
      | (go_at_call 90; (with_reducible refine (fc H6.out).mono ?_); rintro e w7 ⟨rfl, rfl⟩)
      | ((with_reducible refine ez (.load 73 (.tmp 10)) rfl ?_); refine aq rfl 73 (.tmp 10) rfl b 0 rfl (bb dl) _ (fun j v hv => by rw [Nat.zero_add]; exact bh BX10.out j v hv) Tryz.underlying73 rfl (by rw [an, HDL.out]; exact cj) ?_)
      | ((with_reducible refine bn (N := 79) rfl ?_); refine qo rfl 151 0 1 (.tmp 77) (.tmp 78) rfl (.int .i64 (x)) (.agg (bb dl).toArray) rfl rfl (ct (x, dl)).toArray ?hb ?_; (case hb => exact ur (x) dl HDL.out))
      | ((with_reducible refine bn (N := 80) rfl ?_); refine n9 rfl (.tmp 79) rfl (x, dl) HDL.out rfl ?_)
      | ((with_reducible refine dn (b := .append) (xs := #[.tmp 76, .tmp 80]) rfl ?_); at_builtin; refine Kd.R_append ui (w0 := w) w.heap.size rfl (.tmp 76) (.tmp 80) 130 151 (.agg ie) 72 rfl Tryz.underlying130 yx rfl (by decide) (by omega) _ (Lg.homesTo s m k) (x, dl) (ct (x, dl)) (fun _ => True) (fun _ => False) rfl rfl ?aP (fun _ hk => hk.elim) ?aF HO6.out HBW.out (ba HBW.out) ?aL ?_; (case aP => exact ⟨rfl, HDL.out⟩); (case aF => exact (fun _ _ => trivial)); (case aL => have := LM.out; omega); intro v1 w8 ho hb hg hat; have HO8 := am ho; have HB8 := am hb; clear ho hb hg hat))
     have E8 : Aside0 (Lg.homesTo s m k ++ [(x, dl)] = Lg.homesTo s m (k + 1)) := ⟨by rw [vq, EH.out, if_pos hxn]⟩;go_roundw
     case rel => exact ⟨k + 1, by go_num, by omega, ⟨by rw [← E8.out]; exact HO8.out⟩, HB8⟩
     case measure => simp [intOf]; omega
    ·have d1 : decide (x < s.n) = false := decide_eq_false hxn;go_wp2_with (first
      | (go_at_call 90; (with_reducible refine (fc H6.out).mono ?_); rintro e w7 ⟨rfl, rfl⟩)
      | ((with_reducible refine ez (.load 73 (.tmp 10)) rfl ?_); refine aq rfl 73 (.tmp 10) rfl b 0 rfl (bb dl) _ (fun j v hv => by rw [Nat.zero_add]; exact bh BX10.out j v hv) Tryz.underlying73 rfl (by rw [an, HDL.out]; exact cj) ?_)
      | ((with_reducible refine bn (N := 79) rfl ?_); refine qo rfl 151 0 1 (.tmp 77) (.tmp 78) rfl (.int .i64 (-1)) (.agg (bb dl).toArray) rfl rfl (ct (-1, dl)).toArray ?hb ?_; (case hb => exact ur (-1) dl HDL.out))
      | ((with_reducible refine bn (N := 80) rfl ?_); refine n9 rfl (.tmp 79) rfl (-1, dl) HDL.out rfl ?_)
      | ((with_reducible refine dn (b := .append) (xs := #[.tmp 76, .tmp 80]) rfl ?_); at_builtin; refine Kd.R_append ui (w0 := w) w.heap.size rfl (.tmp 76) (.tmp 80) 130 151 (.agg ie) 72 rfl Tryz.underlying130 yx rfl (by decide) (by omega) _ (Lg.homesTo s m k) (-1, dl) (ct (-1, dl)) (fun _ => True) (fun _ => False) rfl rfl ?aP (fun _ hk => hk.elim) ?aF HO6.out HBW.out (ba HBW.out) ?aL ?_; (case aP => exact ⟨rfl, HDL.out⟩); (case aF => exact (fun _ _ => trivial)); (case aL => have := LM.out; omega); intro v1 w8 ho hb hg hat; have HO8 := am ho; have HB8 := am hb; clear ho hb hg hat))
     have E8 : Aside0 (Lg.homesTo s m k ++ [(-1, dl)] = Lg.homesTo s m (k + 1)) := ⟨by rw [vq, EH.out, if_neg (by omega)]⟩;go_roundw
     case rel => exact ⟨k + 1, by go_num, by omega, ⟨by rw [← E8.out]; exact HO8.out⟩, HB8⟩
     case measure => simp [intOf]; omega
   ·have hks : k = cm.toNat := by omega
    subst hks;go_wp2;go_ret2;exact ⟨_, rfl, HO.out, HB.out⟩
 ·have E := am (show Lg.homes s m = ([], 2) by unfold Lg.homes; rw [hd]; rfl);have ER := am (show Nvm.reg m 1 = (0, 2) by unfold Nvm.reg; rw [hd]; rfl);clear hrd hd;rw [E.out];go_enter Tryz.func91, Tryz.ntmps91;go_wp2_with (first | (go_at_call 35; (with_reducible refine (jf H.out.mem 1).mono ?_); rintro e w1 ⟨rfl, rfl⟩; rw [ER.out]))
  go_ret2;exact ⟨_, rfl, Kd.R_nil _ _ _ _ _, Below.refl _ _⟩
end
namespace Lg
def get (s : Shape) (m : Mem) (line : Int) : List Int × Int :=
 if line < 16 ∨ line ≥ s.n then (zL, 1)
 else if m.down then (zL, 2)
 else if mayH s.n (homes s m).1 then (match (homes s m).1.find? (fun h => h.1 == line) with | some h => (h.2, 0) | none => Trn.get s m line)
 else Trn.get s m line
end Lg
theorem qcb {h : List ip} {line : Int} {k : Nat} (hk : k < h.length) (h0 : ∀ j, j < k → (h.getD j zH).1 ≠ line) (h1 : (h.getD k zH).1 = line) : h.find? (fun h => h.1 == line) = some (h.getD k zH) := by
 rw [List.find?_eq_some_iff_getElem];have e : ∀ j (hj : j < h.length), h.getD j zH = h[j] := fun j hj => by rw [List.getD_eq_getElem?_getD, List.getElem?_eq_getElem hj]; rfl
 refine ⟨by simpa using h1, k, hk, (e k hk).symm, fun j hj => ?_⟩;have := h0 j hj;rw [e j (by omega)] at this;simpa using this
theorem qk2 {h : List ip} {line : Int} (h0 : ∀ j, j < h.length → (h.getD j zH).1 ≠ line) : h.find? (fun h => h.1 == line) = none := by
 rw [List.find?_eq_none];intro x hx;obtain ⟨j, hj, rfl⟩ := List.getElem_of_mem hx;have := h0 j hj;rw [List.getD_eq_getElem?_getD, List.getElem?_eq_getElem hj] at this;simpa using this
theorem sq {s : Shape} {m : Mem} (hn : 17 ≤ s.n) (hrd : Lg.Rd s m) (k : Nat) (hk : k ≤ 14) : ∀ x ∈ Lg.homesTo s m k, -1 ≤ x.1 ∧ x.1 < s.n := by
 intro x hx;unfold Lg.homesTo at hx;obtain ⟨i, hi, rfl⟩ := List.mem_map.1 hx;have hi2 : i < k := by simpa using hi
 unfold Lg.homeAt;have h1 := (hrd ((i : Int) / 8) (by omega) (by omega)).2;generalize (Trn.get s m ((i : Int) / 8)).1 = l at h1;have : 0 ≤ l.getD (i % 8) 0 := by
  rw [List.getD_eq_getElem?_getD];cases e : l[i % 8]? with
  | none => simp
  | some v => exact (h1 v (List.mem_of_getElem? e)).1
 dsimp only;split <;> constructor <;> omega
section
variable {w : World} {M C L T G : Nat} {s : Shape} {m : Mem} {puts : Int}
theorem xj (l : List Int) : (bb l).toArray.all (·.oneCell') = true := by simp [bb, Value.oneCell']
theorem gz {ops : Array Oper} {rest : List Oper} {o : Oper} {a : Act} {w w0 : World} {base : Nat} {Q : Exit → Act → World → Prop} (hgd : o.guard = none) (x y : Operand) (ho : o.op = .store 73 x y) (g : Nat) (vs : List Int) (hx : a.eval x = .pointer (some ⟨g, 0, none⟩)) (hy : a.eval y = .agg (bb vs).toArray) (old : Array Value) (hg : w.heap[g]? = some (.cells old 73 (0, 0))) (h8 : old.size = 8) (hl : vs.length = 8) (hb : Below base w0 w) (hge : base ≤ g) (h : ∀ wz, Aside0 (wz.heap[g]? = some (.cells (bb vs).toArray 73 (0, 0))) → Aside0 (Below base w0 wz) → wpList Tryz.prog ops Q rest (a.put o.dst undef) wz) : wpList Tryz.prog ops Q (o :: rest) a w := by
 refine wpList_store_row hgd 73 x y ho g (bb vs).toArray hx hy 73 old hg ?_ ?_ (xj _) (h _ ⟨setRow_heap _ _ _ _ _ _ hg⟩ ⟨em hb hge _⟩)
 ·rw [List.size_toArray, an, hl]; exact cj
 ·simp [an, hl, h8]
theorem kc {ops : Array Oper} {rest : List Oper} {o : Oper} {a : Act} {w : World} {Q : Exit → Act → World → Prop} (hgd : o.guard = none) (x y : Operand) (ho : o.op = .store 151 x y) (h : ip) (hx : a.eval x = .pointer (some ⟨w.heap.size, 0, none⟩)) (hy : a.eval y = .agg (ct h).toArray) (h8 : h.2.length = 8) (hh : ∀ wz, Aside0 (wz.heap[w.heap.size]? = some (.cells (ct h).toArray 151 (0, 0))) → Aside0 (Below w.heap.size w wz) → wpList Tryz.prog ops Q rest (a.put o.dst undef) wz) : wpList Tryz.prog ops Q (o :: rest) a (w.alloc (.cells ie 151)) := by
 refine wpList_store_row hgd 151 x y ho w.heap.size (ct h).toArray hx hy 151 _ (heap_alloc_new w _) ?_ ?_ (nc _) (hh _ ⟨ju w ie (ct h).toArray 151⟩ ⟨iq w ie (ct h).toArray 151⟩)
 ·rw [List.size_toArray, ca h8]; exact iz
 ·simp [ca h8]
theorem zL8 : zL.length = 8 := rfl
theorem kd (h : TurnAt w M C L T s m puts) (hG : iv w G M T) (hn : 17 ≤ s.n) (hrd : m.down = false → Lg.Rd s m) (hc : Lg.count m ≤ 14) (line : Int) : Calls Tryz.prog 61 #[.pointer (some ⟨G, 0, none⟩), .int .i64 line] w fun e w' => e = .returned (.tuple #[gm (Lg.get s m line).1, .int .i64 (Lg.get s m line).2]) ∧ Below w.heap.size w w' := by
 have BX := am (heap_alloc_new w (.cells bp 73));have H := am (h.alloc (.cells bp 73));have HG := am (hG.below ((Below.refl w.heap.size w).alloc (Nat.le_refl _) (.cells bp 73)));have HB : Aside0 (Below w.heap.size w (w.alloc (.cells bp 73))) := ⟨(Below.refl _ _).alloc (Nat.le_refl _) _⟩;have HS : Aside0 (w.heap.size < (w.alloc (.cells bp 73)).heap.size) := ⟨df BX.out⟩;have g1 := HG.out.g1;have hn2 := h.ok.n2;have HRd := am hrd;have HC := am hc;clear h hG hrd hc;by_cases lo : line < 16
 ·have E := am (show Lg.get s m line = (zL, 1) by unfold Lg.get; rw [if_pos (.inl lo)]);have d0 : decide (line < 16) = true := decide_eq_true lo;rw [E.out];go_enter Tryz.func61, Tryz.ntmps61;go_wp2_with (first | (((with_reducible refine bf (t := 73) (p := 4) rfl ?_); refine gz rfl (.tmp 4) (.tmp 25) rfl w.heap.size zL rfl rfl _ BX.out rfl zL8 HB.out (Nat.le_refl _) ?_; intro wz RX RB)))
  exact fv rfl w.heap.size 73 (bb zL) _ rfl RX.out Tryz.underlying73 rfl (by rw [an, zL8]; exact cj) rfl ⟨rfl, RB.out⟩
 ·have d0 : decide (line < 16) = false := decide_eq_false lo;by_cases hi : line ≥ s.n
  ·have E := am (show Lg.get s m line = (zL, 1) by unfold Lg.get; rw [if_pos (.inr hi)]);have d1 : decide (line ≥ s.n) = true := decide_eq_true hi;rw [E.out];go_enter Tryz.func61, Tryz.ntmps61;go_wp2_with (first
    | (go_at_call 90; (with_reducible refine (fc H.out).mono ?_); rintro e w7 ⟨rfl, rfl⟩)
    | (((with_reducible refine bf (t := 73) (p := 4) rfl ?_); refine gz rfl (.tmp 4) (.tmp 25) rfl w.heap.size zL rfl rfl _ BX.out rfl zL8 HB.out (Nat.le_refl _) ?_; intro wz RX RB)))
   exact fv rfl w.heap.size 73 (bb zL) _ rfl RX.out Tryz.underlying73 rfl (by rw [an, zL8]; exact cj) rfl ⟨rfl, RB.out⟩
  ·have d1 : decide (line ≥ s.n) = false := decide_eq_false hi;have HHm := am (yc H.out HG.out hn HRd.out HC.out);cases hd : m.down
   ·have E2 := am (show Lg.homes s m = (Lg.homesTo s m (Lg.count m).toNat, 0) by unfold Lg.homes; rw [hd]; rfl);have HBd := am (sq hn (HRd.out hd) (Lg.count m).toNat (by have := HC.out; omega));have HLen := am (o0 s m (Lg.count m).toNat);have hN14 : (Lg.count m).toNat ≤ 14 := by have := HC.out; omega
    have EG := am (show Lg.get s m line = if Lg.mayH s.n (Lg.homes s m).1 then (match (Lg.homes s m).1.find? (fun h => h.1 == line) with | some h => (h.2, 0) | none => Trn.get s m line) else Trn.get s m line by unfold Lg.get; rw [if_neg (by omega), hd]; rfl);generalize Lg.homesTo s m (Lg.count m).toNat = hs at HBd HLen E2;generalize (Lg.count m).toNat = n at HLen hN14;generalize hgt : Trn.get s m line = gt at EG;have HGT := am hgt;have hgt8 := ll H.out line;rw [hgt] at hgt8;have HG8 := am hgt8;clear hgt hgt8 hd HRd HC;obtain ⟨gl, ge⟩ := gt;have tail0 : ∀ {Rr : Prop}, Rr → Rr := fun h => h;cases hm : Lg.mayH s.n hs
    ·have E := am (show Lg.get s m line = (gl, ge) by rw [EG.out, E2.out, if_neg (by rw [hm]; decide)]);have HMy := am hm;rw [E.out];clear hm EG;go_enter Tryz.func61, Tryz.ntmps61;go_wp2_with (first
      | (go_at_call 90; (with_reducible refine (fc H.out).mono ?_); rintro e w7 ⟨rfl, rfl⟩)
      | (go_at_call 91; (with_reducible refine HHm.out.mono ?_); rintro e w2 ⟨v, rfl, hr, hb⟩; rw [E2.out] at hr; rw [E2.out]; obtain ⟨A, c, rfl⟩ := Kd.R_slice hr; have HR := am hr; clear hr; (replace BX := am (ai BX.out hb); replace HB := am (ab HB.out hb); replace H := am (H.out.below hb); replace HG := am (HG.out.below hb); clear hb g1; have g1 := HG.out.g1))
      | (go_at_call 92; (with_reducible refine (l5 _ s.n _ _ A c hs HR.out (by rw [HLen.out]; omega) (fun x hx => by have := HBd.out x hx; omega)).mono ?_); rintro e w3 ⟨rfl, hb⟩; rw [HMy.out]; have HR1 := am (Kd.R_below HR.out hb); clear HR; have HR := HR1; clear HR1; (replace BX := am (ai BX.out hb); replace HB := am (ab HB.out hb); replace H := am (H.out.below hb); replace HG := am (HG.out.below hb); clear hb g1; have g1 := HG.out.g1))
      | (go_at_call 39; (with_reducible refine (lc H.out (line := line) (by omega) (by omega)).mono ?_); rintro e w4 ⟨rfl, hb⟩; rw [HGT.out]; (replace BX := am (ai BX.out hb); replace HB := am (ab HB.out hb); replace H := am (H.out.below hb); replace HG := am (HG.out.below hb); clear hb g1; have g1 := HG.out.g1))
      | (((with_reducible refine bf (t := 73) (p := 4) rfl ?_); refine gz rfl (.tmp 4) (.tmp 61) rfl w.heap.size gl rfl rfl _ BX.out rfl HG8.out HB.out (Nat.le_refl _) ?_; intro wz RX RB)))
     exact fv rfl w.heap.size 73 (bb gl) _ rfl RX.out Tryz.underlying73 rfl (by rw [an, HG8.out]; exact cj) rfl ⟨rfl, RB.out⟩
    ·have HMy := am hm;have EM := am (show Lg.get s m line = (match hs.find? (fun h => h.1 == line) with | some h => (h.2, 0) | none => (gl, ge)) by rw [EG.out, E2.out, if_pos hm]);clear hm EG;go_enter Tryz.func61, Tryz.ntmps61;go_wp2_with (first
      | (go_at_call 90; (with_reducible refine (fc H.out).mono ?_); rintro e w7 ⟨rfl, rfl⟩)
      | (go_at_call 91; (with_reducible refine HHm.out.mono ?_); rintro e w2 ⟨v, rfl, hr, hb⟩; rw [E2.out] at hr; rw [E2.out]; obtain ⟨A, c, rfl⟩ := Kd.R_slice hr; have HR := am hr; clear hr; (replace BX := am (ai BX.out hb); replace HB := am (ab HB.out hb); replace H := am (H.out.below hb); replace HG := am (HG.out.below hb); clear hb g1; have g1 := HG.out.g1))
      | (go_at_call 92; (with_reducible refine (l5 _ s.n _ _ A c hs HR.out (by rw [HLen.out]; omega) (fun x hx => by have := HBd.out x hx; omega)).mono ?_); rintro e w3 ⟨rfl, hb⟩; rw [HMy.out]; have HR1 := am (Kd.R_below HR.out hb); clear HR; have HR := HR1; clear HR1; (replace BX := am (ai BX.out hb); replace HB := am (ab HB.out hb); replace H := am (H.out.below hb); replace HG := am (HG.out.below hb); clear hb g1; have g1 := HG.out.g1)))
     have hl14 : hs.length ≤ 14 := by rw [HLen.out]; exact hN14
     go_loopw [44] (fun i wr => ∃ k : Nat, i = .int .i64 k ∧ k ≤ hs.length ∧ Aside0 (Below w3.heap.size w3 wr) ∧ Aside0 (∀ j, j < k → (hs.getD j zH).1 ≠ line)) (fun i _ => hs.length - (intOf i).toNat)
     case atStart => exact ⟨0, rfl, by omega, ⟨Below.refl _ _⟩, ⟨fun j hj => by omega⟩⟩
     case round =>
      obtain ⟨k, rfl, hk, HBr, HNo⟩ := hrel;have hb := HBr.out;have HR1 := am (Kd.R_below HR.out hb)
      (replace BX := am (ai BX.out hb); replace HB := am (ab HB.out hb); replace H := am (H.out.below hb); replace HG := am (HG.out.below hb); clear hb g1; have g1 := HG.out.g1)
      by_cases hlt : k < hs.length
      ·have d3 : decide ((k : Int) < hs.length) = true := decide_eq_true (by omega);obtain ⟨g, ea, h8, hx⟩ := homeAt HR1.out rfl k hlt;subst ea;have HX := am hx;have H8 := am h8;have HXB := am (HBd.out (hs.getD k zH) (by rw [List.getD_eq_getElem?_getD, List.getElem?_eq_getElem hlt]; exact List.getElem_mem _));clear hx h8;generalize hxx : hs.getD k zH = x at HX H8 HXB;have HXX := am hxx;clear hxx;by_cases he : x.1 = line
       ·have d4 : decide (x.1 = line) = true := decide_eq_true he;have E := am (show Lg.get s m line = (x.2, 0) by rw [EM.out, qcb hlt HNo.out (by rw [HXX.out]; exact he), HXX.out]);go_wp2_with (first
         | ((with_reducible refine ez (.load 151 (.tmp 46)) rfl ?_); refine aq rfl 151 (.tmp 46) rfl g (k * 9) rfl (ct x) _ HX.out Tryz.underlying151 rfl (by rw [ca H8.out]; exact iz) ?_)
         | ((with_reducible refine ez (.load 73 (.tmp 52)) rfl ?_); refine aq rfl 73 (.tmp 52) rfl wr.heap.size 1 rfl (bb x.2) _ (fun j v hv => by rw [Nat.add_comm 1 j]; exact bh BZ.out (j + 1) v (by simpa [ct] using hv)) Tryz.underlying73 rfl (by rw [an, H8.out]; exact cj) ?_)
         | ((with_reducible refine bf (t := 151) (p := 9) rfl ?_); refine kc rfl (.tmp 9) (.tmp 47) rfl x rfl rfl H8.out ?_; intro w5 BZ HZ; have hz0 : w5.cell? ⟨wr.heap.size, 0, none⟩ = some (.int .i64 x.1) := (af BZ.out 0).trans rfl; have hb := HZ.out; (replace BX := am (ai BX.out hb); replace HB := am (ab HB.out hb); replace H := am (H.out.below hb); replace HG := am (HG.out.below hb); clear hb g1; have g1 := HG.out.g1))
         | (((with_reducible refine bf (t := 73) (p := 4) rfl ?_); refine gz rfl (.tmp 4) (.tmp 53) rfl w.heap.size x.2 rfl rfl _ BX.out rfl H8.out HB.out (Nat.le_refl _) ?_; intro wz RX RB)))
        rw [E.out];exact fv rfl w.heap.size 73 (bb x.2) _ rfl RX.out Tryz.underlying73 rfl (by rw [an, H8.out]; exact cj) rfl ⟨rfl, RB.out⟩
       ·have d4 : decide (x.1 = line) = false := decide_eq_false he;go_wp2_with (first
         | ((with_reducible refine ez (.load 151 (.tmp 46)) rfl ?_); refine aq rfl 151 (.tmp 46) rfl g (k * 9) rfl (ct x) _ HX.out Tryz.underlying151 rfl (by rw [ca H8.out]; exact iz) ?_)
         | ((with_reducible refine bf (t := 151) (p := 9) rfl ?_); refine kc rfl (.tmp 9) (.tmp 47) rfl x rfl rfl H8.out ?_; intro w5 BZ HZ; have hz0 : w5.cell? ⟨wr.heap.size, 0, none⟩ = some (.int .i64 x.1) := (af BZ.out 0).trans rfl; have hb := HZ.out; (replace BX := am (ai BX.out hb); replace HB := am (ab HB.out hb); replace H := am (H.out.below hb); replace HG := am (HG.out.below hb); clear hb g1; have g1 := HG.out.g1)))
        go_roundw
        case rel => exact ⟨k + 1, by go_num, by omega, ⟨ab HBr.out HZ.out⟩, ⟨fun j hj => by
         by_cases e : j = k
         ·subst e; rw [HXX.out]; exact he
         ·exact HNo.out j (by omega)⟩⟩
        case measure => simp [intOf]; omega
      ·have d3 : decide ((k : Int) < hs.length) = false := decide_eq_false (by omega);have hkk : k = hs.length := by omega
       subst hkk;have E := am (show Lg.get s m line = (gl, ge) by rw [EM.out, qk2 HNo.out]);go_wp2_with (first
        | (go_at_call 39; (with_reducible refine (lc H.out (line := line) (by omega) (by omega)).mono ?_); rintro e w4 ⟨rfl, hb⟩; rw [HGT.out]; (replace BX := am (ai BX.out hb); replace HB := am (ab HB.out hb); replace H := am (H.out.below hb); replace HG := am (HG.out.below hb); clear hb g1; have g1 := HG.out.g1))
        | (((with_reducible refine bf (t := 73) (p := 4) rfl ?_); refine gz rfl (.tmp 4) (.tmp 61) rfl w.heap.size gl rfl rfl _ BX.out rfl HG8.out HB.out (Nat.le_refl _) ?_; intro wz RX RB)))
       rw [E.out];exact fv rfl w.heap.size 73 (bb gl) _ rfl RX.out Tryz.underlying73 rfl (by rw [an, HG8.out]; exact cj) rfl ⟨rfl, RB.out⟩
   ·have E := am (show Lg.get s m line = (zL, 2) by unfold Lg.get; rw [if_neg (by omega), hd]; rfl);have E2 := am (show Lg.homes s m = ([], 2) by unfold Lg.homes; rw [hd]; rfl);rw [E.out];go_enter Tryz.func61, Tryz.ntmps61;go_wp2_with (first
     | (go_at_call 90; (with_reducible refine (fc H.out).mono ?_); rintro e w7 ⟨rfl, rfl⟩)
     | (go_at_call 91; (with_reducible refine HHm.out.mono ?_); rintro e w2 ⟨v, rfl, _, hb⟩; rw [E2.out]; have BX1 := am (ai BX.out hb); have HB1 := am (ab HB.out hb); clear BX HB hb; have BX := BX1; have HB := HB1; clear BX1 HB1)
     | (((with_reducible refine bf (t := 73) (p := 4) rfl ?_); refine gz rfl (.tmp 4) (.tmp 33) rfl w.heap.size zL rfl rfl _ BX.out rfl zL8 HB.out (Nat.le_refl _) ?_; intro wz RX RB)))
    exact fv rfl w.heap.size 73 (bb zL) _ rfl RX.out Tryz.underlying73 rfl (by rw [an, zL8]; exact cj) rfl ⟨rfl, RB.out⟩
end
section
variable {w : World} {M C L T G : Nat} {s : Shape} {m : Mem} {puts : Int}
theorem qgi (h : s.Ok) (hr : e9 m) (hv : m.regs.getD 0 0 ≤ 4611686018427387905) : mi s.n (Trn.moves m) := by
 have := h.n1;have := h.n2;have := hr.get 0;unfold mi Trn.moves;omega
theorem qkk (h : TurnAt w M C L T s m puts) : e9 (Trn.move s m).2 := by
 have hb := yr h.mayG;have n1 := h.ok.n1;have n2 := h.ok.n2;have h0 := (h.regs.get 0).1;have hv := h.mv;unfold Trn.move;split
 ·have hl := (oy h.regs (s.n + 1) s.spares (Trn.moveS s.n (Trn.moves m)).2 (Lns.get m (s.n + 1) s.spares (Trn.moveS s.n (Trn.moves m)).1).1 (by omega) (by omega) (by omega) (by omega)).1;split
  ·exact py hl 0 (by unfold Trn.moves; omega) (by unfold Trn.moves; omega)
  ·exact hl
 ·exact h.regs
theorem z8 (h : TurnAt w M C L T s m puts) : (Trn.move s m).2.regs.getD 0 0 ≤ m.regs.getD 0 0 + 1 := by
 have hb := yr h.mayG;have n1 := h.ok.n1;have n2 := h.ok.n2;unfold Trn.move;split
 ·have hl := (oy h.regs (s.n + 1) s.spares (Trn.moveS s.n (Trn.moves m)).2 (Lns.get m (s.n + 1) s.spares (Trn.moveS s.n (Trn.moves m)).1).1 (by omega) (by omega) (by omega) (by omega)).2 0 (by omega);split
  ·rcases tg (Lns.put m (s.n + 1) s.spares (Trn.moveS s.n (Trn.moves m)).2 (Lns.get m (s.n + 1) s.spares (Trn.moveS s.n (Trn.moves m)).1).1).2 0 (Trn.moves m + 1) with e | e
   ·rw [e, hl]; omega
   ·rw [e];simp only [List.getD_eq_getElem?_getD, Int.toNat_zero, List.getElem?_set] at hl ⊢;split
    ·split
     ·exact Int.le_refl _
     ·simp; have := (h.regs.get 0).1; unfold Trn.moves at *; simp only [List.getD_eq_getElem?_getD] at this; omega
    ·omega
  ·rw [hl]; omega
 ·show m.regs.getD 0 0 ≤ m.regs.getD 0 0 + 1;omega
theorem zi (h : TurnAt w M C L T s m puts) {line : Int} (h0 : 0 ≤ line) (h1 : line < s.n) (d : List Int) : (Trn.put s m puts line d).2.1.regs.getD 0 0 ≤ m.regs.getD 0 0 + 1 := by
 have n1 := h.ok.n1;have n2 := h.ok.n2;have at_ : ∀ m2 : Mem, e9 m2 → m2.regs.getD 0 0 ≤ m.regs.getD 0 0 + 1 → (Trn.putAt s m2 line d).2.regs.getD 0 0 ≤ m.regs.getD 0 0 + 1 := fun m2 hr h2 => by have hs := yp (n := s.n) (m := Trn.moves m2) (l := line) (qgi h.ok hr (by have := h.mv; omega)) h0 h1;have hl := (oy hr (s.n + 1) s.spares (gj s.n (Trn.moves m2) line) d (by omega) (by omega) (by omega) (by omega)).2 0 (by omega);unfold Trn.putAt;rw [hl];exact h2
 unfold Trn.put;split
 ·show m.regs.getD 0 0 ≤ m.regs.getD 0 0 + 1;omega
 ·split
  ·split
   ·exact at_ _ (qkk h) (z8 h)
   ·exact z8 h
  ·exact at_ m h.regs (by omega)
namespace Lg
def finish (s : Shape) : List ip → Mem → Int → Int × Mem × Int
 | [], m, puts => ((Nvm.set m 1 0).1, (Nvm.set m 1 0).2, puts)
 | x :: h, m, puts =>
  if (Trn.put s m puts x.1 x.2).1 = 0 then finish s h (Trn.put s m puts x.1 x.2).2.1 (Trn.put s m puts x.1 x.2).2.2
  else if (Trn.put s m puts x.1 x.2).1 = 3 then (0, (Trn.put s m puts x.1 x.2).2.1, (Trn.put s m puts x.1 x.2).2.2)
  else Trn.put s m puts x.1 x.2
end Lg
theorem qk9 {h : List ip} {k : Nat} (hk : k < h.length) : h.drop k = h.getD k zH :: h.drop (k + 1) := by
 rw [List.drop_eq_getElem_cons hk, List.getD_eq_getElem?_getD, List.getElem?_eq_getElem hk];rfl
theorem vo (h : TurnAt w M C L T s m puts) (hG : iv w G M T) (hng : ¬ MCT M C T G) (hs : List ip) (hv : m.regs.getD 0 0 + hs.length + 2 ≤ 4611686018427387904) (hl14 : hs.length ≤ 1000) (base : Nat) (ok : Nat → Prop) (A : Option Addr) (c : Nat) (hr : Kd.R ui 151 w base ok (.slice A hs.length c) hs) (hbase : ∀ j, base ≤ j → ¬ MCT M C T j) (hbd : ∀ x ∈ hs, 0 ≤ x.1 ∧ x.1 < s.n) : Calls Tryz.prog 93 #[.pointer (some ⟨G, 0, none⟩), .slice A hs.length c] w fun e w' => e = .returned (.int .i64 (Lg.finish s hs m puts).1) ∧ TurnAt w' M C L T s (Lg.finish s hs m puts).2.1 (Lg.finish s hs m puts).2.2 ∧ ah (MCT M C T) w w' := by
 have H := am h;have HG := am hG;have HNG := am hng;have HR := am hr;have HBs := am hbase;have HBd := am hbd;clear h hG hng hr hbase hbd;generalize hR : Lg.finish s hs m puts = RR;have HRR := am hR;clear hR;have K0 : Aside0 (ah (MCT M C T) w w) := ⟨ah.refl _ _⟩;go_enter Tryz.func93, Tryz.ntmps93;go_wp2;go_loopw [10] (fun i wr => ∃ (k : Nat) (mm : Mem) (pp : Int), i = .int .i64 k ∧ k ≤ hs.length ∧ Aside0 (TurnAt wr M C L T s mm pp) ∧ Aside0 (ah (MCT M C T) w wr) ∧ Aside0 (mm.regs.getD 0 0 ≤ m.regs.getD 0 0 + k) ∧ Aside0 (Lg.finish s (hs.drop k) mm pp = RR)) (fun i _ => hs.length - (intOf i).toNat)
 case atStart => exact ⟨0, m, puts, rfl, by omega, H, K0, ⟨by omega⟩, HRR⟩
 case round =>
  clear K0;obtain ⟨k, mm, pp, rfl, hk, H1, K1, HV1, HE⟩ := hrel;by_cases hlt : k < hs.length
  ·have d3 : decide ((k : Int) < hs.length) = true := decide_eq_true (by omega);have HR1 := am (pd HR.out K1.out HBs.out);have HG1 := am (HG.out.kept K1.out HNG.out);obtain ⟨g, ea, h8, hx⟩ := homeAt HR1.out rfl k hlt;subst ea;have HX := am hx;have H8 := am h8;have HXB := am (HBd.out (hs.getD k zH) (by rw [List.getD_eq_getElem?_getD, List.getElem?_eq_getElem hlt]; exact List.getElem_mem _));clear hx h8;have HDr := am (qk9 hlt);generalize hs.getD k zH = x at HX H8 HXB HDr;go_wp2_with (first
    | ((with_reducible refine ez (.load 151 (.tmp 12)) rfl ?_); refine aq rfl 151 (.tmp 12) rfl g (k * 9) rfl (ct x) _ HX.out Tryz.underlying151 rfl (by rw [ca H8.out]; exact iz) ?_)
    | ((with_reducible refine bf (t := 151) (p := 6) rfl ?_); refine kc rfl (.tmp 6) (.tmp 13) rfl x rfl rfl H8.out ?_; intro w5 BZ HZ))
   have H5 := am (H1.out.below HZ.out);have HG5 := am (HG1.out.below HZ.out);refine dy (n := 10) (S := fun w' => w'.cell? ⟨G, 1, none⟩ = some (.pointer (some ⟨T, 0, none⟩)) ∧ w'.heap[wr.heap.size]? = some (.cells (ct x).toArray 151 (0, 0))) (ds := [8]) (onA 10 0) (by kernel_rfl) rfl rfl ⟨HG5.out.g1, BZ.out⟩ (fun hHeld => ?_);refine pu 0 (some 14) (bA 10 1) (h := ?_);refine pu 1 (some 15) (bA 10 3) (h := ?_);refine pu 2 (some 16) (bA 10 7) (h := ?_);refine pu 4 (some 18) (bA 10 23) (h := ?_);refine pu 6 (some 20) (bA 10 87) (h := ?_);refine tv 3 (some 17) (bA 10 95) rfl hHeld (fun w' hs => bc 79 (.tmp 16) rfl G 1 _ rfl hs.1 _ Tryz.underlying79 rfl) (h := ?_);refine tv 5 (some 19) (bA 10 127) rfl hHeld (fun w' hs => bc 3 (.tmp 18) rfl wr.heap.size 0 (.int .i64 x.1) rfl ((af hs.2 0).trans rfl) _ Tryz.underlying3 rfl) (h := ?_);refine tv 7 (some 21) (bA 10 255) rfl hHeld (fun w' hs => bv 73 (.tmp 20) rfl wr.heap.size 1 rfl (bb x.2) _ (fun j v hv => by rw [Nat.add_comm 1 j]; exact bh hs.2 (j + 1) v (by simpa [ct] using hv)) Tryz.underlying73 rfl (by rw [an, H8.out]; exact cj)) (h := ?_);refine jr (i := 8) (N := some 22) (bA 10 511) rfl rfl (by kernel_rfl) (by decide) (fun K hK => ?_);refine dw Tryz.func42 (by kernel_rfl) rfl #[.pointer (some ⟨T, 0, none⟩), .int .i64 x.1, gm x.2] (by rfl) rfl rfl (by simp only [List.map_toArray, List.map_cons, List.map_nil]; rfl) ?_;refine (ut H5.out.drew (by have := HV1.out; omega) HXB.out.1 HXB.out.2 x.2 H8.out).mono ?_;rintro e w6 ⟨rfl, h6_, k6_⟩;refine ⟨_, rfl, ?_⟩;refine hK.out _ _ ?_;clear hK K hHeld;have HVx := am (zi H1.out HXB.out.1 HXB.out.2 x.2);generalize hpt : Trn.put s mm pp x.1 x.2 = pt at h6_ HVx ⊢;have HPT := am hpt;clear hpt;have H6 := am h6_;have K6 : Aside0 (ah (MCT M C T) w w6) := ⟨(K1.out.step (ah.of_below HZ.out)).step ((ah.refl (MCT M C T) w5).drew.step k6_)⟩;clear h6_ k6_;refine pu 9 (some 7) (bA 10 1023) (h := ?_);refine fp (by kernel_rfl) ?_;clear H5 HG5 BZ HZ HX HR1 H1 K1;obtain ⟨pe, m2, p2⟩ := pt;by_cases c0 : pe = 0
   ·subst c0;have E1 : Aside0 (Lg.finish s (hs.drop (k + 1)) m2 p2 = RR) := ⟨by rw [← HE.out, HDr.out, Lg.finish, HPT.out]; rfl⟩;go_wp2;go_roundw
    case rel => exact ⟨k + 1, m2, p2, by go_num, by omega, H6, K6, ⟨by have := HV1.out; have := HVx.out; dsimp only at this; omega⟩, E1⟩
    case measure => simp [intOf]; omega
   ·have b0 : (pe == 0) = false := beq_eq_false_iff_ne.2 c0;by_cases c3 : pe = 3
    ·subst c3;have E1 : Aside0 (RR = (0, m2, p2)) := ⟨by rw [← HE.out, HDr.out, Lg.finish, HPT.out]; rfl⟩;go_wp2;go_ret;rw [E1.out];exact ⟨rfl, H6.out, K6.out⟩
    ·have b3 : (pe == 3) = false := beq_eq_false_iff_ne.2 c3;have E1 : Aside0 (RR = (pe, m2, p2)) := ⟨by rw [← HE.out, HDr.out, Lg.finish, HPT.out, if_neg c0, if_neg c3]⟩;go_wp2;go_ret;rw [E1.out];exact ⟨rfl, H6.out, K6.out⟩
  ·have d3 : decide ((k : Int) < hs.length) = false := decide_eq_false (by omega);have hkk : k = hs.length := by omega
   subst hkk;have E1 : Aside0 (RR = ((Nvm.set mm 1 0).1, (Nvm.set mm 1 0).2, pp)) := ⟨by rw [← HE.out, List.drop_length]; rfl⟩;have HG1 := am (HG.out.kept K1.out HNG.out);have g0 := HG1.out.g0;go_wp2_with (first | (go_at_call 107; (with_reducible refine (lq H1.out.mem 1 0).mono ?_); rintro e w6 ⟨rfl, h6_, k6_⟩))
   go_ret;rw [E1.out];exact ⟨rfl, H1.out.step h6_ k6_ (py H1.out.regs 1 (by omega) (by omega)) (by rw [mu _ _ _ _ (by decide)]; exact H1.out.mv), K1.out.step k6_.MCT⟩
end
end Go.Proofs.YtmfhaliclnnbaaaGreat.Sys
namespace Go.Proofs.YtmfhaliclnnbaaaGreat.XTopWhole
open Go.RowKit Go.Proofs.YtmfhaliclnnbaaaGreatW.PrintWords Go.Proofs.YtmfhaliclnnbaaaGreatW.PrintLast Go.Proofs.YtmfhaliclnnbaaaGreatW.PrintMore
attribute [local go_sem] pa pi ra rn nh my o4 pb
set_option linter.unusedVariables false
set_option linter.unusedSimpArgs false
set_option maxRecDepth 100000
set_option maxHeartbeats 8000000
def bq.l0 : Nat → Int → Int → Bool → List (S116) → Int → Int → Option (Bool)
 | 0, _, _, _, _, _, _ => none
 | k + 1, x1, x5, x6, x12, x13, x14 => if x14 < x13 then (if 0 ≤ x14 then (if x14 < (x12.length : Int) then (if ((aa x12 x14).f0) = x5 then ((ci.f ((aa x12 x14).f1)).bind fun t139 => (if t139 = true then (if x6 = true then (if ((aa x12 x14).f2 = true) then (if ((aa x12 x14).f1) > (wrap64 (x1 - x5)) then (some false) else (bq.l0 k x1 (wrap64 (x5 + ((aa x12 x14).f1))) (!((aa x12 x14).f2)) x12 x13 (wrap64 (x14 + 1)))) else (some false)) else (if ((aa x12 x14).f1) > (wrap64 (x1 - x5)) then (some false) else (bq.l0 k x1 (wrap64 (x5 + ((aa x12 x14).f1))) (!((aa x12 x14).f2)) x12 x13 (wrap64 (x14 + 1))))) else (some false))) else (some false)) else (none)) else (none)) else (some (x5 == x1))
def bq.f (k : Nat) (l0 : List (S116)) (a1 : Int) : Option (Bool) := (d7.f a1).bind fun t136 => (if t136 = true then (bq.l0 k a1 0 false l0 (l0.length : Int) 0) else (some false))
theorem bq.calls (k : Nat) (A0 : Option Addr) (c0 : Nat) (l0 : List (S116)) (a1 : Int) (r : Bool) (w : World) (hr0 : Kd.C ld w A0 l0.length l0) (hc0 : l0.length ≤ c0) (h : bq.f k l0 a1 = some r) : Calls Tryz.prog 95 #[.slice A0 l0.length c0, .int .i64 a1] w fun e w' => e = .returned (.bool r) ∧ Below w.heap.size w w' := by
 have hu116 := Tryz.underlying116;have HR0 := am hr0;have HC0 := am hc0;clear hr0 hc0;have HB := am (Below.refl w.heap.size w);have H : ((d7.f a1).bind fun t136 => (if t136 = true then (bq.l0 k a1 0 false l0 (l0.length : Int) 0) else (some false))) = some r := h;clear h;replace H := Option.bind_eq_some_iff.mp H;obtain ⟨t136, A30, H⟩ := H
 try dsimp only at H
 have A3 := am A30;clear A30;by_cases c4 : t136 = true
 ·subst c4;have H1 : (bq.l0 k a1 0 false l0 (l0.length : Int) 0) = some r := by rw [if_pos rfl] at H; exact H
  clear H;have H := H1;clear H1;have H' := am H;clear H;go_enter Tryz.func95, Tryz.ntmps95;go_wp2_with (first | ((with_reducible refine ak (f := 83) rfl ?_); refine zl (some 10) Tryz.func83 #[.int .i64 a1] ?_; (with_reducible refine (d7.calls a1 true _ A3.out).mono ?_); rintro e w' ⟨rfl, ⟨nd, rfl⟩⟩; refine ⟨_, rfl, ?_⟩))
  go_loopg [5, 6, 14] k (fun kq v5 v6 v14 w' => ∃ (x5_1 : Int) (x6_1 : Bool) (x14_1 : Int), v5 = .int .i64 x5_1 ∧ v6 = .bool x6_1 ∧ v14 = .int .i64 x14_1 ∧ Aside0 (bq.l0 kq a1 x5_1 x6_1 l0 (l0.length : Int) x14_1 = some r) ∧ Aside0 (kq ≤ k) ∧ Aside0 (Below w.heap.size w w'))
  case atStart => exact ⟨(0), (false), (0), zs, zs, zs, H', ⟨Nat.le_refl _⟩, ⟨zB HB⟩⟩
  case round =>
   clear H'
   try clear c4
   obtain ⟨x5_1, x6_1, x14_1, rfl, rfl, rfl, HA, HK1, HB⟩ := hrel;cases gk with
   | zero => exact absurd HA.out (by simp [bq.l0])
   | succ k1 =>
    have H := HA.out;clear HA;simp only [bq.l0] at H;by_cases c5 : x14_1 < (l0.length : Int)
    ·rw [if_pos c5] at H;have c5b0 := decide_eq_true c5;clear c5;by_cases c6 : 0 ≤ x14_1
     ·rw [if_pos c6] at H;have c6b0 := decide_eq_true c6;clear c6;by_cases c7 : x14_1 < (l0.length : Int)
      ·rw [if_pos c7] at H;have c7b0 := decide_eq_true c7;clear c7;by_cases c8 : ((aa l0 x14_1).f0) = x5_1
       ·rw [if_pos c8] at H;have c8b0 : (((aa l0 x14_1).f0) == x5_1) = true := beq_iff_eq.mpr c8;have c8b1 : (((aa l0 x14_1).f0) != x5_1) = false := bne_eq_false_iff_eq.mpr c8;clear c8;replace H := Option.bind_eq_some_iff.mp H;obtain ⟨t139, A90, H⟩ := H
        try dsimp only at H
        have A9 := am A90;clear A90;by_cases c10 : t139 = true
        ·subst c10;have H1 : (if x6_1 = true then (if ((aa l0 x14_1).f2 = true) then (if ((aa l0 x14_1).f1) > (wrap64 (a1 - x5_1)) then (some false) else (bq.l0 k1 a1 (wrap64 (x5_1 + ((aa l0 x14_1).f1))) (!((aa l0 x14_1).f2)) l0 (l0.length : Int) (wrap64 (x14_1 + 1)))) else (some false)) else (if ((aa l0 x14_1).f1) > (wrap64 (a1 - x5_1)) then (some false) else (bq.l0 k1 a1 (wrap64 (x5_1 + ((aa l0 x14_1).f1))) (!((aa l0 x14_1).f2)) l0 (l0.length : Int) (wrap64 (x14_1 + 1))))) = some r := by rw [if_pos rfl] at H; exact H
         clear H;have H := H1;clear H1;by_cases c11 : x6_1 = true
         ·subst c11;have H1 : (if ((aa l0 x14_1).f2 = true) then (if ((aa l0 x14_1).f1) > (wrap64 (a1 - x5_1)) then (some false) else (bq.l0 k1 a1 (wrap64 (x5_1 + ((aa l0 x14_1).f1))) (!((aa l0 x14_1).f2)) l0 (l0.length : Int) (wrap64 (x14_1 + 1)))) else (some false)) = some r := by rw [if_pos rfl] at H; exact H
          clear H;have H := H1;clear H1
          first | (generalize hbq12 : (aa l0 x14_1).f2 = bq12 at *; replace hbq12 := hbq12.symm) | (obtain ⟨bq12, hbq12⟩ : ∃ b_ : Bool, b_ = ((aa l0 x14_1).f2) := ⟨_, rfl⟩)
          replace H : (if (bq12 = true) then (if ((aa l0 x14_1).f1) > (wrap64 (a1 - x5_1)) then (some false) else (bq.l0 k1 a1 (wrap64 (x5_1 + ((aa l0 x14_1).f1))) (!bq12) l0 (l0.length : Int) (wrap64 (x14_1 + 1)))) else (some false)) = some r := by first | exact H | (rw [← hbq12] at H; exact H)
          have Nbq12 := am hbq12;clear hbq12
          (try rw [← Nbq12.out])
          by_cases c13 : (bq12 = true)
          ·subst c13;have H1 : (if ((aa l0 x14_1).f1) > (wrap64 (a1 - x5_1)) then (some false) else (bq.l0 k1 a1 (wrap64 (x5_1 + ((aa l0 x14_1).f1))) (!true) l0 (l0.length : Int) (wrap64 (x14_1 + 1)))) = some r := by rw [if_pos rfl] at H; exact H
           clear H;have H := H1;clear H1;by_cases c14 : ((aa l0 x14_1).f1) > (wrap64 (a1 - x5_1))
           ·rw [if_pos c14] at H;have c14b0 : decide ((wrap64 (a1 - x5_1)) < ((aa l0 x14_1).f1)) = true := decide_eq_true c14;clear c14;obtain rfl := Option.some.inj H;have p137 : 0 ≤ (x14_1 : Int) := zu;have q137 : x14_1 < (l0.length : Int) := zu;obtain ⟨ad137, e137, hx137_0, hx137_1, hx137_2⟩ := dx HR0.out x14_1 p137 q137
            (try rw [← Nbq12.out] at hx137_2)
            cases e137;replace hx137_0 := zw HB hx137_0;replace hx137_1 := zw HB hx137_1;replace hx137_2 := zw HB hx137_2;replace p137 := eq_true p137;replace q137 := eq_true q137;go_wp2_with (first | ((with_reducible refine bn (N := 8) rfl ?_); refine b9 ?hg (N := 8) ?hd (cs := #[.int .i64 0, .int .i64 0, .bool false]) (t := 116) ?hr ?_; (case hd => rfl); (case hg => rfl); (case hr => first | (go_simp; done) | (go_simp; rfl)); intro gb138 hg w15 hbox hb; have GW138 := zg HB hg; have GE138 := GW138; replace HB := zb HB hb; have BK138 := am hbox; clear hb hbox hg; have hcz16_0 := zk BK138 0 (.int .i64 0); have hcz16_1 := zk BK138 1 (.int .i64 0); have hcz16_2 := zk BK138 2 (.bool false); have hfz16_0 := ac BK138.out 0; have hfz16_1 := ac BK138.out 1; have hfz16_2 := ac BK138.out 2) | (go_at_call 125; (with_reducible refine (ci.calls ((aa l0 x14_1).f1) true _ A9.out).mono ?_); rintro e w' ⟨rfl, ⟨nd, rfl⟩⟩))
            go_ret;exact ⟨ze, by repeat (first | (with_reducible first | exact HB.out | apply qd | apply qe | apply qf | refine ao ?_ GE138.out) | exact HB.out)⟩
           ·rw [if_neg c14] at H;have c14b0 : decide ((wrap64 (a1 - x5_1)) < ((aa l0 x14_1).f1)) = false := decide_eq_false c14;clear c14;have H' := am H;clear H;have p137 : 0 ≤ (x14_1 : Int) := zu;have q137 : x14_1 < (l0.length : Int) := zu;obtain ⟨ad137, e137, hx137_0, hx137_1, hx137_2⟩ := dx HR0.out x14_1 p137 q137
            (try rw [← Nbq12.out] at hx137_2)
            cases e137;replace hx137_0 := zw HB hx137_0;replace hx137_1 := zw HB hx137_1;replace hx137_2 := zw HB hx137_2;replace p137 := eq_true p137;replace q137 := eq_true q137;go_wp2_with (first | ((with_reducible refine bn (N := 8) rfl ?_); refine b9 ?hg (N := 8) ?hd (cs := #[.int .i64 0, .int .i64 0, .bool false]) (t := 116) ?hr ?_; (case hd => rfl); (case hg => rfl); (case hr => first | (go_simp; done) | (go_simp; rfl)); intro gb138 hg w17 hbox hb; have GW138 := zg HB hg; have GE138 := GW138; replace HB := zb HB hb; have BK138 := am hbox; clear hb hbox hg; have hcz18_0 := zk BK138 0 (.int .i64 0); have hcz18_1 := zk BK138 1 (.int .i64 0); have hcz18_2 := zk BK138 2 (.bool false); have hfz18_0 := ac BK138.out 0; have hfz18_1 := ac BK138.out 1; have hfz18_2 := ac BK138.out 2) | (go_at_call 125; (with_reducible refine (ci.calls ((aa l0 x14_1).f1) true _ A9.out).mono ?_); rintro e w' ⟨rfl, ⟨nd, rfl⟩⟩))
            go_roundg k1
            case measure => have := HK1.out; omega
            case rel => exact ⟨(wrap64 (x5_1 + ((aa l0 x14_1).f1))), (!true), (wrap64 (x14_1 + 1)), zs, zs, zs, H', ⟨by have := HK1.out; omega⟩, ⟨by repeat (first | (with_reducible first | exact HB.out | apply qd | apply qe | apply qf | refine ao ?_ GE138.out) | exact HB.out)⟩⟩
          ·replace c13 := Bool.eq_false_iff.mpr c13;subst c13;have H1 : (some false) = some r := by rw [if_neg (show ¬ (false = true) by decide)] at H; exact H
           clear H;have H := H1;clear H1;obtain rfl := Option.some.inj H;have p137 : 0 ≤ (x14_1 : Int) := zu;have q137 : x14_1 < (l0.length : Int) := zu;obtain ⟨ad137, e137, hx137_0, hx137_1, hx137_2⟩ := dx HR0.out x14_1 p137 q137
           (try rw [← Nbq12.out] at hx137_2)
           cases e137;replace hx137_0 := zw HB hx137_0;replace hx137_1 := zw HB hx137_1;replace hx137_2 := zw HB hx137_2;replace p137 := eq_true p137;replace q137 := eq_true q137;go_wp2_with (first | ((with_reducible refine bn (N := 8) rfl ?_); refine b9 ?hg (N := 8) ?hd (cs := #[.int .i64 0, .int .i64 0, .bool false]) (t := 116) ?hr ?_; (case hd => rfl); (case hg => rfl); (case hr => first | (go_simp; done) | (go_simp; rfl)); intro gb138 hg w19 hbox hb; have GW138 := zg HB hg; have GE138 := GW138; replace HB := zb HB hb; have BK138 := am hbox; clear hb hbox hg; have hcz20_0 := zk BK138 0 (.int .i64 0); have hcz20_1 := zk BK138 1 (.int .i64 0); have hcz20_2 := zk BK138 2 (.bool false); have hfz20_0 := ac BK138.out 0; have hfz20_1 := ac BK138.out 1; have hfz20_2 := ac BK138.out 2) | (go_at_call 125; (with_reducible refine (ci.calls ((aa l0 x14_1).f1) true _ A9.out).mono ?_); rintro e w' ⟨rfl, ⟨nd, rfl⟩⟩))
           go_ret;exact ⟨ze, by repeat (first | (with_reducible first | exact HB.out | apply qd | apply qe | apply qf | refine ao ?_ GE138.out) | exact HB.out)⟩
         ·replace c11 := Bool.eq_false_iff.mpr c11;subst c11;have H1 : (if ((aa l0 x14_1).f1) > (wrap64 (a1 - x5_1)) then (some false) else (bq.l0 k1 a1 (wrap64 (x5_1 + ((aa l0 x14_1).f1))) (!((aa l0 x14_1).f2)) l0 (l0.length : Int) (wrap64 (x14_1 + 1)))) = some r := by rw [if_neg (show ¬ (false = true) by decide)] at H; exact H
          clear H;have H := H1;clear H1;by_cases c21 : ((aa l0 x14_1).f1) > (wrap64 (a1 - x5_1))
          ·rw [if_pos c21] at H;have c21b0 : decide ((wrap64 (a1 - x5_1)) < ((aa l0 x14_1).f1)) = true := decide_eq_true c21;clear c21;obtain rfl := Option.some.inj H;have p137 : 0 ≤ (x14_1 : Int) := zu;have q137 : x14_1 < (l0.length : Int) := zu;obtain ⟨ad137, e137, hx137_0, hx137_1, hx137_2⟩ := dx HR0.out x14_1 p137 q137;cases e137;replace hx137_0 := zw HB hx137_0;replace hx137_1 := zw HB hx137_1;replace hx137_2 := zw HB hx137_2;replace p137 := eq_true p137;replace q137 := eq_true q137;go_wp2_with (first | ((with_reducible refine bn (N := 8) rfl ?_); refine b9 ?hg (N := 8) ?hd (cs := #[.int .i64 0, .int .i64 0, .bool false]) (t := 116) ?hr ?_; (case hd => rfl); (case hg => rfl); (case hr => first | (go_simp; done) | (go_simp; rfl)); intro gb138 hg w22 hbox hb; have GW138 := zg HB hg; have GE138 := GW138; replace HB := zb HB hb; have BK138 := am hbox; clear hb hbox hg; have hcz23_0 := zk BK138 0 (.int .i64 0); have hcz23_1 := zk BK138 1 (.int .i64 0); have hcz23_2 := zk BK138 2 (.bool false); have hfz23_0 := ac BK138.out 0; have hfz23_1 := ac BK138.out 1; have hfz23_2 := ac BK138.out 2) | (go_at_call 125; (with_reducible refine (ci.calls ((aa l0 x14_1).f1) true _ A9.out).mono ?_); rintro e w' ⟨rfl, ⟨nd, rfl⟩⟩))
           go_ret;exact ⟨ze, by repeat (first | (with_reducible first | exact HB.out | apply qd | apply qe | apply qf | refine ao ?_ GE138.out) | exact HB.out)⟩
          ·rw [if_neg c21] at H;have c21b0 : decide ((wrap64 (a1 - x5_1)) < ((aa l0 x14_1).f1)) = false := decide_eq_false c21;clear c21;have H' := am H;clear H;have p137 : 0 ≤ (x14_1 : Int) := zu;have q137 : x14_1 < (l0.length : Int) := zu;obtain ⟨ad137, e137, hx137_0, hx137_1, hx137_2⟩ := dx HR0.out x14_1 p137 q137;cases e137;replace hx137_0 := zw HB hx137_0;replace hx137_1 := zw HB hx137_1;replace hx137_2 := zw HB hx137_2;replace p137 := eq_true p137;replace q137 := eq_true q137;go_wp2_with (first | ((with_reducible refine bn (N := 8) rfl ?_); refine b9 ?hg (N := 8) ?hd (cs := #[.int .i64 0, .int .i64 0, .bool false]) (t := 116) ?hr ?_; (case hd => rfl); (case hg => rfl); (case hr => first | (go_simp; done) | (go_simp; rfl)); intro gb138 hg w24 hbox hb; have GW138 := zg HB hg; have GE138 := GW138; replace HB := zb HB hb; have BK138 := am hbox; clear hb hbox hg; have hcz25_0 := zk BK138 0 (.int .i64 0); have hcz25_1 := zk BK138 1 (.int .i64 0); have hcz25_2 := zk BK138 2 (.bool false); have hfz25_0 := ac BK138.out 0; have hfz25_1 := ac BK138.out 1; have hfz25_2 := ac BK138.out 2) | (go_at_call 125; (with_reducible refine (ci.calls ((aa l0 x14_1).f1) true _ A9.out).mono ?_); rintro e w' ⟨rfl, ⟨nd, rfl⟩⟩))
           go_roundg k1
           case measure => have := HK1.out; omega
           case rel => exact ⟨(wrap64 (x5_1 + ((aa l0 x14_1).f1))), (!((aa l0 x14_1).f2)), (wrap64 (x14_1 + 1)), zs, zs, zs, H', ⟨by have := HK1.out; omega⟩, ⟨by repeat (first | (with_reducible first | exact HB.out | apply qd | apply qe | apply qf | refine ao ?_ GE138.out) | exact HB.out)⟩⟩
        ·replace c10 := Bool.eq_false_iff.mpr c10;subst c10;have H1 : (some false) = some r := by rw [if_neg (show ¬ (false = true) by decide)] at H; exact H
         clear H;have H := H1;clear H1;obtain rfl := Option.some.inj H;have p137 : 0 ≤ (x14_1 : Int) := zu;have q137 : x14_1 < (l0.length : Int) := zu;obtain ⟨ad137, e137, hx137_0, hx137_1, hx137_2⟩ := dx HR0.out x14_1 p137 q137;cases e137;replace hx137_0 := zw HB hx137_0;replace hx137_1 := zw HB hx137_1;replace hx137_2 := zw HB hx137_2;replace p137 := eq_true p137;replace q137 := eq_true q137;go_wp2_with (first | ((with_reducible refine bn (N := 8) rfl ?_); refine b9 ?hg (N := 8) ?hd (cs := #[.int .i64 0, .int .i64 0, .bool false]) (t := 116) ?hr ?_; (case hd => rfl); (case hg => rfl); (case hr => first | (go_simp; done) | (go_simp; rfl)); intro gb138 hg w26 hbox hb; have GW138 := zg HB hg; have GE138 := GW138; replace HB := zb HB hb; have BK138 := am hbox; clear hb hbox hg; have hcz27_0 := zk BK138 0 (.int .i64 0); have hcz27_1 := zk BK138 1 (.int .i64 0); have hcz27_2 := zk BK138 2 (.bool false); have hfz27_0 := ac BK138.out 0; have hfz27_1 := ac BK138.out 1; have hfz27_2 := ac BK138.out 2) | (go_at_call 125; (with_reducible refine (ci.calls ((aa l0 x14_1).f1) false _ A9.out).mono ?_); rintro e w' ⟨rfl, ⟨nd, rfl⟩⟩))
         go_ret;exact ⟨ze, by repeat (first | (with_reducible first | exact HB.out | apply qd | apply qe | apply qf | refine ao ?_ GE138.out) | exact HB.out)⟩
       ·rw [if_neg c8] at H;have c8b0 : (((aa l0 x14_1).f0) == x5_1) = false := beq_eq_false_iff_ne.mpr c8;have c8b1 : (((aa l0 x14_1).f0) != x5_1) = true := bne_iff_ne.mpr c8;obtain rfl := Option.some.inj H;have p137 : 0 ≤ (x14_1 : Int) := zu;have q137 : x14_1 < (l0.length : Int) := zu;obtain ⟨ad137, e137, hx137_0, hx137_1, hx137_2⟩ := dx HR0.out x14_1 p137 q137;cases e137;replace hx137_0 := zw HB hx137_0;replace hx137_1 := zw HB hx137_1;replace hx137_2 := zw HB hx137_2;replace p137 := eq_true p137;replace q137 := eq_true q137;go_wp2_with (first | ((with_reducible refine bn (N := 8) rfl ?_); refine b9 ?hg (N := 8) ?hd (cs := #[.int .i64 0, .int .i64 0, .bool false]) (t := 116) ?hr ?_; (case hd => rfl); (case hg => rfl); (case hr => first | (go_simp; done) | (go_simp; rfl)); intro gb138 hg w28 hbox hb; have GW138 := zg HB hg; have GE138 := GW138; replace HB := zb HB hb; have BK138 := am hbox; clear hb hbox hg; have hcz29_0 := zk BK138 0 (.int .i64 0); have hcz29_1 := zk BK138 1 (.int .i64 0); have hcz29_2 := zk BK138 2 (.bool false); have hfz29_0 := ac BK138.out 0; have hfz29_1 := ac BK138.out 1; have hfz29_2 := ac BK138.out 2))
        go_ret;exact ⟨ze, by repeat (first | (with_reducible first | exact HB.out | apply qd | apply qe | apply qf | refine ao ?_ GE138.out) | exact HB.out)⟩
      ·rw [if_neg c7] at H;exact absurd H (by simp)
     ·rw [if_neg c6] at H;exact absurd H (by simp)
    ·rw [if_neg c5] at H;have c5b0 := decide_eq_false c5;clear c5;obtain rfl := Option.some.inj H;go_wp2;go_ret;exact ⟨ze, zB HB⟩
 ·replace c4 := Bool.eq_false_iff.mpr c4;subst c4;have H1 : (some false) = some r := by rw [if_neg (show ¬ (false = true) by decide)] at H; exact H
  clear H;have H := H1;clear H1;obtain rfl := Option.some.inj H;go_enter Tryz.func95, Tryz.ntmps95;go_wp2_with (first | ((with_reducible refine ak (f := 83) rfl ?_); refine zl (some 10) Tryz.func83 #[.int .i64 a1] ?_; (with_reducible refine (d7.calls a1 false _ A3.out).mono ?_); rintro e w' ⟨rfl, ⟨nd, rfl⟩⟩; refine ⟨_, rfl, ?_⟩))
  go_ret;exact ⟨ze, zB HB⟩
def bi.l0 : Nat → List Int → List (S116) → Int → Option ((List (S116)) × Bool)
 | 0, _, _, _ => none
 | k + 1, x0, x4, x5 => if x5 < (x0.length : Int) then (if 0 ≤ x5 then ((jx.f (rd x0 x5)).bind fun bt141 => (if bt141.2.2 = true then (if x4.length < 5864062014805 then (bi.l0 k x0 (x4 ++ [(⟨x5, bt141.1, bt141.2.1⟩ : S116)]) (wrap64 (x5 + bt141.1))) else (none)) else (some (([] : List (S116)), false)))) else (none)) else ((bq.f k x4 (x0.length : Int)).bind fun t147 => (if t147 = true then (some (x4, true)) else (some (([] : List (S116)), false))))
def bi.f (k : Nat) (l0 : List Int) : Option ((List (S116)) × Bool) := bi.l0 k l0 ([] : List (S116)) 0
theorem bi.calls (k : Nat) (A0 : Option Addr) (c0 : Nat) (l0 : List Int) (r1 : List (S116)) (r2 : Bool) (w : World) (hr0 : Kd.C (Kd.int .u64) w A0 l0.length l0) (hc0 : l0.length ≤ c0) (h : bi.f k l0 = some (r1, r2)) : Calls Tryz.prog 45 #[.slice A0 l0.length c0] w fun e w' => ∃ v0_ : Value, e = .returned (.tuple #[v0_, .bool r2]) ∧ Kd.R ld 116 w' w.heap.size (fun _ => True) v0_ r1 ∧ Below w.heap.size w w' := by
 have hu116 := Tryz.underlying116;have HR0 := am hr0;have HC0 := am hc0;clear hr0 hc0;have HB := am (Below.refl w.heap.size w);have H : (bi.l0 k l0 ([] : List (S116)) 0) = some (r1, r2) := h;clear h;have H' := am H;clear H;go_enter Tryz.func45, Tryz.ntmps45;go_wp2;go_loopg [4, 5] k (fun kq v4 v5 w' => ∃ (x4_1 : List (S116)) (x5_1 : Int), v5 = .int .i64 x5_1 ∧ Aside0 (bi.l0 kq l0 x4_1 x5_1 = some (r1, r2)) ∧ Aside0 (kq ≤ k) ∧ Aside0 (Kd.R ld 116 w' w.heap.size (fun _ => True) v4 x4_1) ∧ Aside0 (Below w.heap.size w w'))
 case atStart => exact ⟨(([] : List (S116))), (0), zs, H', ⟨Nat.le_refl _⟩, ⟨by first | exact Kd.R_nil _ _ _ _ _ | exact Kd.N_nil _ _ _ _ _ | exact Kd.V_nil _ _ _ _ _ | exact Kd.Q_nil _ _ _ _ _ | exact Kd.S_nil _ _ _ _ _⟩, ⟨zB HB⟩⟩
 case round =>
  clear H';obtain ⟨x4_1, x5_1, rfl, HA, HK1, HO_4, HB⟩ := hrel;cases gk with
  | zero => exact absurd HA.out (by simp [bi.l0])
  | succ k1 =>
   have H := HA.out;clear HA;simp only [bi.l0] at H;by_cases c2 : x5_1 < (l0.length : Int)
   ·rw [if_pos c2] at H;have c2b0 := decide_eq_true c2;clear c2;by_cases c3 : 0 ≤ x5_1
    ·rw [if_pos c3] at H;have c3b0 := decide_eq_true c3;clear c3;replace H := Option.bind_eq_some_iff.mp H;obtain ⟨⟨t141, t142, t143⟩, A40, H⟩ := H
     try dsimp only at H
     have A4 := am A40;clear A40;by_cases c5 : t143 = true
     ·subst c5;have H1 : (if x4_1.length < 5864062014805 then (bi.l0 k1 l0 (x4_1 ++ [(⟨x5_1, t141, t142⟩ : S116)]) (wrap64 (x5_1 + t141))) else (none)) = some (r1, r2) := by rw [if_pos rfl] at H; exact H
      clear H;have H := H1;clear H1;by_cases c6 : x4_1.length < 5864062014805
      ·rw [if_pos c6] at H;have LMc6 := am c6;clear c6;obtain ⟨y144, hy144⟩ : ∃ y_ : List (S116), y_ = (x4_1 ++ [(⟨x5_1, t141, t142⟩ : S116)]) := ⟨_, rfl⟩;replace H : (bi.l0 k1 l0 y144 (wrap64 (x5_1 + t141))) = some (r1, r2) := by first | (rw [hy144]; with_reducible exact H) | (have H2_ := (Option.bind_some _ _).symm.trans H; rw [hy144]; with_reducible exact H2_) | (have H2_ := (Option.bind_some _ _).symm.trans H; with_reducible exact H2_) | with_reducible exact H | (rw [hy144]; exact H) | exact H
       have Ny144 := am hy144;clear hy144;have H' := am H;clear H;have p140 : 0 ≤ (x5_1 : Int) := zu;have q140 : x5_1 < (l0.length : Int) := zu;obtain ⟨ad140, e140, hx140_0⟩ := Kd.at_int HR0.out x5_1 p140 q140;cases e140;replace hx140_0 := zw HB hx140_0;replace p140 := eq_true p140;replace q140 := eq_true q140;go_wp2_with (first | ((with_reducible refine ak (f := 94) rfl ?_); refine zl (some 18) Tryz.func94 #[.int .u64 (rd l0 x5_1)] ?_; (with_reducible refine (jx.calls (rd l0 x5_1) t141 t142 true _ A4.out).mono ?_); rintro e w' ⟨rfl, ⟨nd, rfl⟩⟩; refine ⟨_, rfl, ?_⟩) | ((with_reducible refine dn (b := .append) (xs := #[.tmp 24, .tmp 29]) rfl ?_); at_builtin; refine Kd.R_append ld (w0 := w) w.heap.size rfl (.tmp 24) (.tmp 29) 93 116 (.agg #[(.int .i64 0), (.int .i64 0), (.bool false)]) 24 rfl Tryz.underlying93 qcu rfl (by decide) (by omega) u4 x4_1 (⟨x5_1, t141, t142⟩ : S116) [.int .i64 x5_1, .int .i64 t141, .bool t142] (fun _ => True) (fun _ => False) rfl rfl ?aP (fun _ hk => hk.elim) ?aF ?aO ?aB ?aS ?aL ?_; (case aP => exact vz _ _ _ (⟨x5_1, t141, t142⟩ : S116)); (case aB => exact (zB HB)); (case aF => exact (fun _ _ => trivial)); (case aO => exact (zr HO_4)); (case aS => exact (ba (zB HB))); (case aL => have := LMc6.out; omega); intro v145 w7 ho hb hg hat; rw [← Ny144.out] at ho; have n0_ := am (hb); have n1_ := am (ho); clear HB; clear HO_4; have HB := n0_; have HO146 := n1_; clear n0_ n1_; clear ho hb hg hat))
       go_roundg k1
       case measure => have := HK1.out; omega
       case rel => exact ⟨(y144), (wrap64 (x5_1 + t141)), zs, H', ⟨by have := HK1.out; omega⟩, ⟨zr HO146⟩, ⟨zB HB⟩⟩
      ·rw [if_neg c6] at H;exact absurd H (by simp)
     ·replace c5 := Bool.eq_false_iff.mpr c5;subst c5;have H1 : (some (([] : List (S116)), false)) = some (r1, r2) := by rw [if_neg (show ¬ (false = true) by decide)] at H; exact H
      clear H;have H := H1;clear H1;simp only [Option.some.injEq, Prod.mk.injEq] at H;obtain ⟨rfl, rfl⟩ := H;have p140 : 0 ≤ (x5_1 : Int) := zu;have q140 : x5_1 < (l0.length : Int) := zu;obtain ⟨ad140, e140, hx140_0⟩ := Kd.at_int HR0.out x5_1 p140 q140;cases e140;replace hx140_0 := zw HB hx140_0;replace p140 := eq_true p140;replace q140 := eq_true q140;go_wp2_with (first | ((with_reducible refine ak (f := 94) rfl ?_); refine zl (some 18) Tryz.func94 #[.int .u64 (rd l0 x5_1)] ?_; (with_reducible refine (jx.calls (rd l0 x5_1) t141 t142 false _ A4.out).mono ?_); rintro e w' ⟨rfl, ⟨nd, rfl⟩⟩; refine ⟨_, rfl, ?_⟩))
      go_ret2;exact ⟨_, ze, by first | exact Kd.R_nil _ _ _ _ _ | exact Kd.N_nil _ _ _ _ _ | exact Kd.V_nil _ _ _ _ _ | exact Kd.Q_nil _ _ _ _ _ | exact Kd.S_nil _ _ _ _ _, zB HB⟩
    ·rw [if_neg c3] at H;exact absurd H (by simp)
   ·rw [if_neg c2] at H;have c2b0 := decide_eq_false c2;clear c2;replace H := Option.bind_eq_some_iff.mp H;obtain ⟨t147, A80, H⟩ := H
    try dsimp only at H
    have A8 := am A80;clear A80;by_cases c9 : t147 = true
    ·subst c9;have H1 : (some (x4_1, true)) = some (r1, r2) := by rw [if_pos rfl] at H; exact H
     clear H;have H := H1;clear H1;simp only [Option.some.injEq, Prod.mk.injEq] at H;obtain ⟨rfl, rfl⟩ := H;obtain ⟨Ao10, co10, eo10⟩ := Kd.R_slice HO_4.out;subst eo10;go_wp2_with (first | ((with_reducible refine ak (f := 95) rfl ?_); refine zl (some 37) Tryz.func95 #[.slice Ao10 x4_1.length co10, .int .i64 (l0.length : Int)] ?_; (with_reducible refine (bq.calls k1 _ _ x4_1 (l0.length : Int) true _ ?side1 ?side2 A8.out).mono ?_); (case side1 => exact zc (Kd.R_reads' HO_4.out).2.2); (case side2 => exact (Kd.R_reads' HO_4.out).2.1); rintro e w11 ⟨rfl, hb⟩; refine ⟨_, rfl, ?_⟩; have n0_ := za HO_4 hb; have n1_ := zb HB hb; replace HO_4 := n0_; replace HB := n1_; clear n0_ n1_; (try clear hb)))
     go_ret2;exact ⟨_, ze, by (with_reducible repeat (first | apply qa | apply qb | apply qc)); exact HO_4.out, zB HB⟩
    ·replace c9 := Bool.eq_false_iff.mpr c9;subst c9;have H1 : (some (([] : List (S116)), false)) = some (r1, r2) := by rw [if_neg (show ¬ (false = true) by decide)] at H; exact H
     clear H;have H := H1;clear H1;simp only [Option.some.injEq, Prod.mk.injEq] at H;obtain ⟨rfl, rfl⟩ := H;obtain ⟨Ao12, co12, eo12⟩ := Kd.R_slice HO_4.out;subst eo12;go_wp2_with (first | ((with_reducible refine ak (f := 95) rfl ?_); refine zl (some 37) Tryz.func95 #[.slice Ao12 x4_1.length co12, .int .i64 (l0.length : Int)] ?_; (with_reducible refine (bq.calls k1 _ _ x4_1 (l0.length : Int) false _ ?side1 ?side2 A8.out).mono ?_); (case side1 => exact zc (Kd.R_reads' HO_4.out).2.2); (case side2 => exact (Kd.R_reads' HO_4.out).2.1); rintro e w13 ⟨rfl, hb⟩; refine ⟨_, rfl, ?_⟩; have n0_ := za HO_4 hb; have n1_ := zb HB hb; replace HO_4 := n0_; replace HB := n1_; clear n0_ n1_; (try clear hb)))
     go_ret2;exact ⟨_, ze, by first | exact Kd.R_nil _ _ _ _ _ | exact Kd.N_nil _ _ _ _ _ | exact Kd.V_nil _ _ _ _ _ | exact Kd.Q_nil _ _ _ _ _ | exact Kd.S_nil _ _ _ _ _, zB HB⟩
end Go.Proofs.YtmfhaliclnnbaaaGreat.XTopWhole
