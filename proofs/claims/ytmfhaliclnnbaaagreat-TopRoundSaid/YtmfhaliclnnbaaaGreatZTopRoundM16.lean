import Derived.Test.YtmfhaliclnnbaaaGreatZTopRoundM15
import Derived.Test.YtmfhaliclnnbaaaGreatZTopRoundM14
import Derived.Test.YtmfhaliclnnbaaaGreatZTopRoundM3
import Derived.Test.YtmfhaliclnnbaaaGreatZTopRoundM9
namespace Go.Proofs.YtmfhaliclnnbaaaGreat.Sys
open Go.RowKit Go.Proofs.YtmfhaliclnnbaaaGreatW.PrintWords Go.Proofs.YtmfhaliclnnbaaaGreatW.PrintLast Go.Proofs.YtmfhaliclnnbaaaGreatW.PrintMore
open Go.Proofs.YtmfhaliclnnbaaaGreat.XTopWhole Go.Proofs.YtmfhaliclnnbaaaGreat.Pl Go.Maps
set_option linter.unusedVariables false
set_option linter.unusedSimpArgs false
set_option maxRecDepth 100000
set_option maxHeartbeats 8000000
def Pn.device (p : Pn) : Nat := (16 + p.lines + 1 + p.spare).toNat
theorem qhv (M : Nat) (p : Pn) : Tryz.prog.built 104 [(0, .agg (di p).toArray), (1, .pointer (some ⟨M, 0, none⟩))] = some (qdo p M (.pointer none) 0).toArray := by kernel_rfl
def qn0 (w : World) (p : Pn) (fm rc : Int × Mem × Int) (e : Ending) (w' : World) : Prop :=
 Below w.heap.size w w' ∧
 (fm.1 = 0 → rc.1 = 0 → ∃ W M C F, e = .returned (.tuple #[.pointer (some ⟨W, 0, none⟩), .int .i64 0]) ∧ jg w' W M C p (.on (Hp.opened p rc.2.1 rc.2.2)) 0 F ∧ (∀ j, F j → w.heap.size ≤ j)) ∧
 (fm.1 = 0 → rc.1 ≠ 0 → e = .returned (.tuple #[.pointer none, .int .i64 rc.1])) ∧ (fm.1 ≠ 0 → e = .returned (.tuple #[.pointer none, .int .i64 fm.1]))
section
variable {w : World} {p : Pn}
theorem qcy (hp : p.Ok) (A : Option Addr) (c : Nat) (limits : List Int) (hl : Kd.C (Kd.int .i64) w A limits.length limits) (hc : limits.length ≤ c) (hf : FmtOk p (Nvm.fresh p.device limits)) (ho : (Hp.fmtAt p (Nvm.fresh p.device limits) p.lines.toNat).1 = 0 → (Hp.fmtAt p (Nvm.fresh p.device limits) p.lines.toNat).2.1.down = false ∧ OpenOk p (Hp.fmtAt p (Nvm.fresh p.device limits) p.lines.toNat).2.1 ∧ ((Lg.recover p.shape (Hp.fmtAt p (Nvm.fresh p.device limits) p.lines.toNat).2.1 0).1 = 0 → OpenOk2 p (Lg.recover p.shape (Hp.fmtAt p (Nvm.fresh p.device limits) p.lines.toNat).2.1 0).2.1)) : Calls Tryz.prog 17 #[kj p, .slice A limits.length c] w (qn0 w p (Hp.fmtAt p (Nvm.fresh p.device limits) p.lines.toNat) (Lg.recover p.shape (Hp.fmtAt p (Nvm.fresh p.device limits) p.lines.toNat).2.1 0)) := by
 have HMay := am (rf hp);have HDev := am (vn hp);have hdv : (16 + p.lines + 1 + p.spare) = (p.device : Int) := by have := hp.l1;have := hp.s1;unfold Pn.device;omega
 rw [hdv] at HDev;have hd1 : 1 ≤ p.device := by have := hp.l1; have := hp.s1; unfold Pn.device; omega
 have hd2 : p.device ≤ 200 := by have := hp.l2; have := hp.s2; unfold Pn.device; omega
 have HL := am hl;have HC := am hc;have HFm : Aside0 (∀ (w' : World) (M C : Nat), MemAt w' M C (Nvm.fresh p.device limits) → Calls Tryz.prog 10 #[.pointer (some ⟨M, 0, none⟩), kj p] w' fun e w'' => e = .returned (.int .i64 (Hp.fmtAt p (Nvm.fresh p.device limits) p.lines.toNat).1) ∧ MemAt w'' M C (Hp.fmtAt p (Nvm.fresh p.device limits) p.lines.toNat).2.1 ∧ ah (MC M C) w' w'') := ⟨fun w' M C h => wq h hp hf⟩;have HNw : Aside0 (∀ (w' : World), Kd.C (Kd.int .i64) w' A limits.length limits → Calls Tryz.prog 8 #[.int .i64 p.device, .slice A limits.length c] w' fun e w'' => ∃ M C, e = .returned (.pointer (some ⟨M, 0, none⟩)) ∧ MemAt w'' M C (Nvm.fresh p.device limits) ∧ w'.heap.size ≤ M ∧ w'.heap.size ≤ C ∧ Below w'.heap.size w' w'') := ⟨fun w' h => qbx w' p.device A c limits hd1 hd2 h hc⟩;have HO := am ho;have HP := am hp;clear hl hc hf ho hp hd1 hd2 hdv;generalize Nvm.fresh p.device limits = m0 at HFm HNw HO ⊢;generalize Hp.fmtAt p m0 p.lines.toNat = fm at HFm HO ⊢;generalize p.device = dv at HDev HNw;have HOpen : Aside0 (fm.1 = 0 → ∀ (w' : World) (W M C : Nat), l4 w' W p M (.pointer none) 0 → MemAt w' M C fm.2.1 → W ≠ M → W ≠ C → Calls Tryz.prog 59 #[.pointer (some ⟨W, 0, none⟩)] w' (qab w' W M C p 0 (Lg.recover p.shape fm.2.1 0))) := ⟨fun h0 w' W M C h1 h2 h3 h4 => xx h1 h2 h3 h4 HP.out (HO.out h0).1 (HO.out h0).2.1 (HO.out h0).2.2⟩;generalize Lg.recover p.shape fm.2.1 0 = rc at HOpen ⊢;clear HO;have BX : Aside0 ((w.alloc (.cells (di p).toArray 23)).heap[w.heap.size]? = some (.cells (di p).toArray 23 (0, 0))) := ⟨heap_alloc_new w _⟩;have HBx : Aside0 (Below w.heap.size w (w.alloc (.cells (di p).toArray 23))) := ⟨(Below.refl _ _).alloc (Nat.le_refl _) _⟩;go_enter Tryz.func17, Tryz.ntmps17;go_wp2_with (first
  | ((with_reducible refine ez (.load 23 (.tmp 2)) rfl ?_); refine aq rfl 23 (.tmp 2) rfl w.heap.size 0 rfl (di p) _ (fun j v hv => by rw [Nat.zero_add]; exact bh BX.out j v hv) Tryz.underlying23 rfl gp ?_)
  | (go_at_call 32; refine (e5.calls p.lines p.spare p.period p.batch true _ HMay.out).mono ?_; rintro e w1 ⟨rfl, hb⟩; have HB1 := am (ab HBx.out hb); have BX1 := am (ai BX.out hb); clear hb))
 refine dy (n := 8) (S := fun w' => w'.heap[w.heap.size]? = some (.cells (di p).toArray 23 (0, 0))) (ds := []) (onA 8 0) (by kernel_rfl) rfl rfl BX1.out (fun hHeld => ?_);refine pu 3 (some 15) (bA 8 8) (h := ?_);refine tv 0 (some 12) (bA 8 9) rfl hHeld (fun w' hs => bv 23 (.tmp 2) rfl w.heap.size 0 rfl (di p) _ (fun j v hv => by rw [Nat.zero_add]; exact bh hs j v hv) Tryz.underlying23 rfl gp) (h := ?_);refine tv 1 (some 13) (bA 8 11) rfl hHeld (fun w' hs => bv 23 (.tmp 2) rfl w.heap.size 0 rfl (di p) _ (fun j v hv => by rw [Nat.zero_add]; exact bh hs j v hv) Tryz.underlying23 rfl gp) (h := ?_);refine gq (i := 2) (N := some 14) (bA 8 15) rfl rfl (by kernel_rfl) (by decide) (fun K hK => ?_);refine dw Tryz.func9 (by kernel_rfl) rfl #[kj p] (by rfl) rfl rfl (by simp only [List.map_toArray, List.map_cons, List.map_nil]; rfl) ?_;refine (jy.calls p.lines p.spare p.period p.batch _ _ HDev.out).mono ?_;rintro e w2 ⟨rfl, hb⟩;refine ⟨_, rfl, ?_⟩;have hb2 := ab (bm (Below.refl w1.heap.size w1)) hb;have BX2 := am (ai BX1.out hb2);have HB2 := am (ab HB1.out hb2);refine hK.out _ _ BX2.out (fun hHeld => ?_);clear hK K hb hb2 hHeld;refine nm ?_;refine gq (i := 4) (N := some 16) (bA 8 31) rfl rfl (by kernel_rfl) (by decide) (fun K hK => ?_);refine dw Tryz.func8 (by kernel_rfl) rfl #[.int .i64 dv, .slice A limits.length c] (by rfl) rfl rfl (by simp only [List.map_toArray, List.map_cons, List.map_nil]; rfl) ?_;refine (HNw.out _ (Kd.C_below HL.out HB2.out)).mono ?_;rintro e w3 ⟨M, C, rfl, hm, hM, hC, hb⟩;refine ⟨_, rfl, ?_⟩;have BX3 := am (ai BX2.out hb);have HB3 := am (ab HB2.out hb);have HM3 := am hm;have hw2 := df BX2.out;have hMw : w.heap.size < M := Nat.lt_of_lt_of_le hw2 hM;have hCw : w.heap.size < C := Nat.lt_of_lt_of_le hw2 hC;refine hK.out _ _ BX3.out (fun hHeld => ?_);clear hK K hb hHeld hm hM hC hw2;refine nm ?_;refine gq (i := 5) (N := some 17) (bA 8 63) rfl rfl (by kernel_rfl) (by decide) (fun K hK => ?_);refine je (by rfl) rfl (tx 104 _ rfl [(0, .agg (di p).toArray), (1, .pointer (some ⟨M, 0, none⟩))] (by simp; exact ⟨rfl, rfl⟩) _ (qhv M p)) ?_;refine hK.out _ _ BX3.out (fun hHeld => ?_);clear hK K hHeld;refine nm ?_;refine gq (i := 6) (N := some 18) (bA 8 127) rfl rfl (by kernel_rfl) (by decide) (fun K hK => ?_);refine je (w1 := w3.alloc (.cells (qdo p M (.pointer none) 0).toArray 104)) (v := .pointer (some ⟨w3.heap.size, 0, none⟩)) (by rfl) rfl ?_ ?_
 ·first | (go_simp; done) | (go_simp; rfl)
 have hb4 : Below w3.heap.size w3 (w3.alloc (.cells (qdo p M (.pointer none) 0).toArray 104)) := (Below.refl _ _).alloc (Nat.le_refl _) _;have BX4 := am (ai BX3.out hb4);have HB4 := am (ab HB3.out hb4);have HM4 := am (HM3.out.below hb4);have HX4 : Aside0 (l4 (w3.alloc (.cells (qdo p M (.pointer none) 0).toArray 104)) w3.heap.size p M (.pointer none) 0) := ⟨heap_alloc_new w3 _⟩;have hMW : M < w3.heap.size ∧ C < w3.heap.size := HM3.out.lt;refine hK.out _ _ BX4.out (fun hHeld => ?_);clear hK K hb4 hHeld;generalize w3.alloc (.cells (qdo p M (.pointer none) 0).toArray 104) = w4 at BX4 HB4 HM4 HX4 ⊢;have hWw := HB3.out.size;generalize w3.heap.size = Wn at HX4 hMW hWw ⊢;refine nm ?_;refine pu 7 (some 6) (bA 8 255) (h := ?_);refine fp (by kernel_rfl) ?_;go_wp2;refine dy (n := 7) (S := fun w' => l4 w' Wn p M (.pointer none) 0 ∧ w'.heap[w.heap.size]? = some (.cells (di p).toArray 23 (0, 0))) (ds := [5]) (onA 7 0) (by kernel_rfl) rfl rfl ⟨HX4.out, BX4.out⟩ (fun hHeld => ?_);refine pu 0 (some 19) (bA 7 1) (h := ?_);refine pu 1 (some 20) (bA 7 3) (h := ?_);refine pu 2 (some 21) (bA 7 7) (h := ?_);refine tv 3 (some 22) (bA 7 15) rfl hHeld (fun w' hs => bc 26 (.tmp 21) rfl Wn 4 (.pointer (some ⟨M, 0, none⟩)) rfl ((af hs.1 4).trans rfl) _ Tryz.underlying26 rfl) (h := ?_);refine tv 4 (some 23) (bA 7 31) rfl hHeld (fun w' hs => bv 23 (.tmp 2) rfl w.heap.size 0 rfl (di p) _ (fun j v hv => by rw [Nat.zero_add]; exact bh hs.2 j v hv) Tryz.underlying23 rfl gp) (h := ?_);refine jr (i := 5) (N := some 24) (bA 7 63) rfl rfl (by kernel_rfl) (by decide) (fun K hK => ?_);refine dw Tryz.func10 (by kernel_rfl) rfl #[.pointer (some ⟨M, 0, none⟩), kj p] (by rfl) rfl rfl (by simp only [List.map_toArray, List.map_cons, List.map_nil]; rfl) ?_;have HM4d := am (HM4.out.below (bm (Below.refl _ _)));refine (HFm.out _ M C HM4d.out).mono ?_;rintro e w5 ⟨rfl, hm, kk⟩;refine ⟨_, rfl, ?_⟩;have HM5 := am hm;have HX5 := am (l4.kept (w := w4.drew) HX4.out kk (o7 (by omega) (by omega)));have HB5 : Aside0 (Below w.heap.size w w5) := ⟨(ab HB4.out (bm (Below.refl _ _))).trans (kk.below (by have := HB4.out.size; exact this) (fun j hj e => by rcases e with e | e <;> omega))⟩;refine hK.out _ _ ?_;clear hK K hm kk hHeld HM4d;refine nm ?_;refine pu 6 (some 7) (bA 7 127) (h := ?_);refine fp (by kernel_rfl) ?_;by_cases c0 : fm.1 = 0
 ·have HO := am (HOpen.out c0);have b0 : (fm.1 != 0) = false := bne_eq_false_iff_eq.2 c0;have C0 := am c0;clear c0;by_cases c1 : rc.1 = 0
  ·have C1 := am c1;clear c1;go_wp2_with (first
    | (go_at_call 59; (with_reducible refine (HO.out _ Wn M C HX5.out HM5.out (Nat.ne_of_gt hMW.1) (Nat.ne_of_gt hMW.2)).mono ?_); rintro e w6 hq; have hret : e = .returned (.int .i64 0) := (by rw [← C1.out]; exact hq.ret); subst hret; have HQ := am hq; clear hq))
   go_ret2;obtain ⟨F', hT, hF'⟩ := HQ.out.state (Nat.ne_of_gt hMW.1) (Nat.ne_of_gt hMW.2) (F := fun j => MC M C j ∨ j = Wn) (fun j hj => hj);rw [if_pos C1.out] at hT;have hs5 := HB5.out.size;refine ⟨HB5.out.trans (HQ.out.2.2.below hs5 (fun j hj e => by rcases e with (e | e) | e <;> omega)), fun _ _ => ⟨Wn, M, C, F', rfl, hT, fun j hj => ?_⟩, fun _ h => absurd C1.out h, fun h => absurd C0.out h⟩;rcases hF' j hj with ((e | e) | e) | e <;> omega
  ·have C1 := am c1;have b1 : (rc.1 != 0) = true := bne_iff_ne.2 c1;clear c1;go_wp2_with (first
    | (go_at_call 59; (with_reducible refine (HO.out _ Wn M C HX5.out HM5.out (Nat.ne_of_gt hMW.1) (Nat.ne_of_gt hMW.2)).mono ?_); rintro e w6 hq; have hret := hq.ret; subst hret; have HQ := am hq; clear hq))
   go_ret2;have hs5 := HB5.out.size;exact ⟨HB5.out.trans (HQ.out.2.2.below hs5 (fun j hj e => by rcases e with (e | e) | e <;> omega)), fun _ h => absurd h C1.out, fun _ _ => rfl, fun h => absurd C0.out h⟩
 ·have b0 : (fm.1 != 0) = true := bne_iff_ne.2 c0;have C0 := am c0;clear c0;go_wp2;go_ret2;exact ⟨HB5.out, fun h => absurd h C0.out, fun h => absurd h C0.out, fun _ => rfl⟩
end
structure MInv (p : Pn) (m : Mem) (l : List S116) (v : List Int) (r : Int) : Prop where
 inv : LInv p.shape m
 wd : wv p m p.lines.toNat = v
 hv : HV l v (p.lines * 8)
 rt : m.regs.getD 2 0 = r
 ri : xl l r
section
variable {p : Pn} {st : St} {m : Mem} {l : List S116} {v : List Int} {r : Int}
theorem HInv.mem (h : HInv p st l v r) : MInv p st.m l v r := ⟨h.inv, h.wd, h.hv, h.rt, h.ri⟩
theorem MInv.heap (h : MInv p m l v r) {puts : Int} {now kept : List Int} {f : Bool} (hn : now.length = ((p.lines + 3) / 4).toNat) : HInv p ⟨m, puts, now, kept, f⟩ l v r := ⟨h.inv, h.wd, h.hv, h.rt, h.ri, hn⟩
theorem MInv.rd (h : MInv p m l v r) (hu : m.down = false) : Lg.Rd p.shape m := (h.heap (puts := 0) (now := List.replicate ((p.lines + 3) / 4).toNat 0) (kept := []) (f := false) (by simp)).rd hu
theorem MInv.openOk (h : MInv p m l v r) (hp : p.Ok) (hu : m.down = false) (hb : Trn.moves m ≤ 1099511627776) : OpenOk p m :=
 ⟨by have := h.inv.ok.l.len; have : p.shape.n = 16 + p.lines := rfl; have : p.shape.spares = p.spare.toNat := rfl; have := hp.s1; omega, h.inv.ok.l.regs, h.inv.ok.l.may, hb, h.rd hu, h.inv.c14.2⟩
theorem MInv.openOk2 (h : MInv p m l v r) (hp : p.Ok) (hu : m.down = false) : OpenOk2 p m := by
 have hws : Hp.wordsTo p m p.lines.toNat = v := by rw [← h.wd]; exact qan h.inv hu _ (by have := hp.l1; omega)
 have hr := (h.heap (puts := 0) (now := List.replicate ((p.lines + 3) / 4).toNat 0) (kept := []) (f := false) (by simp)).rr hp;refine ⟨hu, h.rd hu, h.inv.c14.2, ⟨l, by rw [hws]; exact ou h.hv⟩, ?_⟩;rw [h.rt];by_cases c : r = 0
 ·exact .inl c
 ·refine .inr ⟨c, by omega, ?_⟩;rw [hws];rcases qnf (off := r) h.hv with ⟨_, b⟩ | ⟨a, b⟩
  ·exact b
  ·rcases h.ri with e | e
   ·exact absurd e c
   ·exact absurd e a
structure OpnR (p : Pn) (m : Mem) (rc : Int × Mem × Int) (l : List S116) (v : List Int) (r : Int) : Prop where
 inv : MInv p rc.2.1 l v r
 lim : ∀ j, fk rc.2.1 j = fk m j
 cut : m.cut < 0 → rc.2.1.cut = m.cut
 mv : Trn.moves m ≤ Trn.moves rc.2.1 ∧ Trn.moves rc.2.1 ≤ Trn.moves m + 14
 cln : rc.2.1.down = false → Lg.count rc.2.1 = 0 ∨ ∃ j, 0 ≤ fk m j
 res : (rc.1 = 0 ∧ rc.2.1.down = false) ∨ (rc.1 = 2 ∧ rc.2.1.down = true ∧ 0 ≤ m.cut)
theorem y6 (h : MInv p m l v r) (hp : p.Ok) (hu : m.down = false) (hb : Trn.moves m ≤ 1099511627776) (puts : Int) : OpnR p m (Lg.recover p.shape m puts) l v r := by
 obtain ⟨a, b, c⟩ := qem h.inv hu puts (by omega);refine ⟨⟨a.inv, ?_, h.hv, by rw [a.regs 2 (by omega)]; exact h.rt, h.ri⟩, a.lim, a.cut, a.mv, a.cln, c⟩;rw [← h.wd];exact yz h.inv a.inv (by have := hp.l1; omega) b
theorem un (h : MInv p m l v r) (puts : Int) : HInv p (Hp.opened p m puts) l v r := h.heap (by simp [Hp.keptTo, Hp.pages])
end
section
variable {p : Pn} {limits : List Int}
theorem mw (n : Nat) (i : Nat) : (Nvm.fresh n limits).regs.getD i 0 = 0 := by
 show (List.replicate 35 (0 : Int)).getD i 0 = 0;rw [List.getD_eq_getElem?_getD, List.getElem?_replicate];split <;> rfl
theorem qau (n i : Nat) : lnC (Nvm.fresh n limits) i = zL := by
 unfold lnC;rw [List.getD_eq_getElem?_getD];by_cases hi : i < n
 ·rw [show (Nvm.fresh n limits).cells[i]? = _ from lf n limits n i hi];rfl
 ·rw [List.getElem?_eq_none (by rw [show (Nvm.fresh n limits).cells.length = n from ga n limits n]; omega)];rfl
theorem tq (n i : Nat) : 0 ≤ fk (Nvm.fresh n limits) i → limits ≠ [] := by
 rintro h rfl;unfold fk at h;rw [List.getD_eq_getElem?_getD] at h;by_cases hi : i < n
 ·rw [show (Nvm.fresh n []).cells[i]? = _ from lf n [] n i hi, if_pos hi] at h;have e : Nvm.lim [] i = -1 := by unfold Nvm.lim; simp
  have h : 0 ≤ Nvm.lim [] i := h;omega
 ·rw [List.getElem?_eq_none (by rw [show (Nvm.fresh n []).cells.length = n from ga n [] n]; omega)] at h;exact absurd h (by decide)
theorem ww (hp : p.Ok) : MOk p.shape (Nvm.fresh p.device limits) := by
 have h1 := hp.l1;have h2 := hp.l2;have h3 := hp.s1;have h4 := hp.s2;have hd : (Nvm.fresh p.device limits).cells.length = p.device := ga _ _ _;have hn : p.shape.n = 16 + p.lines := rfl;have hs : p.shape.spares = p.spare.toNat := rfl;refine ⟨hp.shape, ⟨by omega, by omega, by omega, by rw [hd]; unfold Pn.device; omega, fun i _ => by rw [qau]; exact qlz, rfl, fun x hx => ?_, ⟨by omega, fun j j0 j1 => ?_⟩⟩, ?_⟩
 ·have : x ∈ List.replicate 35 (0 : Int) := hx;rw [(List.mem_replicate.1 this).2];decide
 ·have hz : ∀ j : Int, 0 ≤ j → rd (Lns.tableTo (Nvm.fresh p.device limits) p.shape.spares) j = 0 := fun j j0 => by
   unfold rd Lns.tableTo;rw [List.getD_eq_getElem?_getD, List.getElem?_map];by_cases c : j.toNat < p.shape.spares
   ·rw [List.getElem?_range c];exact mw _ _
   ·rw [List.getElem?_eq_none (by simpa using c)];rfl
  refine ⟨by rw [hz j j0]; omega, fun _ h => absurd (hz j j0) h⟩
 ·show (Nvm.fresh p.device limits).regs.getD 0 0 ≤ _;rw [mw];decide
structure FmtI (p : Pn) (m0 : Mem) (k : Nat) (x : Int × Mem × Int) : Prop where
 ok : MOk p.shape x.2.1
 lim : ∀ j, fk x.2.1 j = fk m0 j
 cut : x.2.1.cut = -1
 up : x.2.1.down = false
 cnt : Lg.count x.2.1 = 0
 regs : ∀ j, ((1 ≤ j ∧ j < 3) ∨ 19 ≤ j) → x.2.1.regs.getD j 0 = 0
 mv : Trn.moves x.2.1 ≤ 1
 mv0 : k = 0 → Trn.moves x.2.1 = 0
 res : (x.1 = 0 ∧ ∀ line : Nat, (line : Int) < p.lines → lgc p.shape x.2.1 (16 + (line : Int)) = if line < k then dd (Hp.firstW p) line else zL) ∨ (x.1 = 3 ∧ ∃ j, 0 ≤ fk m0 j)
theorem qnw {a b : List Int} (ha : a.length = 8) (hb : b.length = 8) (h : ∀ j, j < 8 → a.getD j 0 = b.getD j 0) : a = b := by
 refine List.ext_getElem (by rw [ha, hb]) (fun j h1 h2 => ?_);have := h j (by omega);rw [List.getD_eq_getElem?_getD, List.getElem?_eq_getElem h1, List.getD_eq_getElem?_getD, List.getElem?_eq_getElem h2] at this;exact this
theorem us (p : Pn) {k : Nat} (hp : p.Ok) (hk : (k : Int) < p.lines) : dd (Hp.firstW p) k = if k = 0 then [2 * (p.lines * 8), 0, 0, 0, 0, 0, 0, 0] else zL := by
 have hl := hp.l1;have hlen := qq p;refine qnw (fy (by omega)) (by split <;> rfl) (fun j hj => ?_);rw [r7 hj];unfold Hp.firstW;by_cases c : k * 8 + j = 0
 ·obtain rfl : k = 0 := by omega
  obtain rfl : j = 0 := by omega
  rw [List.getD_eq_getElem?_getD, List.getElem?_set_self (by rw [List.length_replicate]; omega)];rfl
 ·rw [List.getD_eq_getElem?_getD, List.getElem?_set_ne (by omega), List.getElem?_replicate];have hz : (if k * 8 + j < (p.lines * 8).toNat then some (0 : Int) else none).getD 0 = 0 := by split <;> rfl
  rw [hz];rcases j with _ | _ | _ | _ | _ | _ | _ | _ | j
  ·rw [if_neg (by omega)]; rfl
  all_goals first | omega | (split <;> rfl)
theorem qho (p : Pn) (hp : p.Ok) : W64 [2 * (p.lines * 8), 0, 0, 0, 0, 0, 0, 0] := by
 have h1 := hp.l1;have h2 := hp.l2;refine ⟨rfl, fun x hx => ?_⟩;simp only [List.mem_cons, List.not_mem_nil, or_false] at hx;omega
end
section
variable {p : Pn} {limits : List Int}
theorem qgc (s : Shape) (n : Nat) (line : Int) : lgc s (Nvm.fresh n limits) line = zL := by
 unfold lgc slc;exact qau _ _
theorem qjx (hp : p.Ok) : zL ≠ [2 * (p.lines * 8), 0, 0, 0, 0, 0, 0, 0] := by
 intro h;have := hp.l1;have h2 : (0 : Int) = 2 * (p.lines * 8) := (List.cons.inj h).1;omega
theorem qb2 (hp : p.Ok) : ∀ k : Nat, (k : Int) ≤ p.lines → FmtI p (Nvm.fresh p.device limits) k (Hp.fmtAt p (Nvm.fresh p.device limits) k)
 | 0, _ => by
  have hz : Trn.moves (Nvm.fresh p.device limits) = 0 := mw _ 0
  exact ⟨ww hp, fun _ => rfl, rfl, rfl, mw _ 1, fun j _ => mw _ j, by show Trn.moves (Nvm.fresh p.device limits) ≤ 1; omega, fun _ => hz, .inl ⟨rfl, fun line _ => qgc _ _ _⟩⟩
 | k + 1, hk => by
  have ih := qb2 hp k (by omega)
  have hl1 := hp.l1
  rw [Hp.fmtAt]
  generalize Hp.fmtAt p (Nvm.fresh p.device limits) k = x at ih
  obtain ⟨e, m, puts⟩ := x
  have iok := ih.ok
  have icut := ih.cut
  have iup := ih.up
  have imv := ih.mv
  have imv0 := ih.mv0
  have icnt := ih.cnt
  have ilim := ih.lim
  have iregs := ih.regs
  dsimp only at *
  rcases ih.res with ⟨e0, hl⟩ | ⟨e3, hj⟩
  ·dsimp only at e0 hl
   rw [if_pos e0, rb iok iup]
   dsimp only
   have hz := hl k (by omega)
   rw [if_neg (by omega)] at hz
   rw [hz, us p hp (by omega)]
   by_cases c : k = 0
   ·rw [if_pos c, if_neg (qjx hp)]
    have hP := (qca (s := p.shape) (line := 16 + (k : Int)) (d := [2 * (p.lines * 8), 0, 0, 0, 0, 0, 0, 0]) iok iup (by omega) puts (by omega) (by show 16 + (k : Int) < 16 + p.lines; omega) (qho p hp)).1
    generalize Trn.put p.shape m puts (16 + (k : Int)) [2 * (p.lines * 8), 0, 0, 0, 0, 0, 0, 0] = y at hP
    obtain ⟨e2, m2, puts2⟩ := y
    dsimp only at hP ⊢
    have hm := hP.mv
    have h0 := imv0 c
    have hup : m2.down = false := by
     rcases hP.res with ⟨_, a, _⟩ | ⟨_, a, _⟩ | ⟨_, _, a⟩
     ·exact a
     ·exact a
     ·omega
    refine ⟨⟨iok.ok, hP.l, by dsimp only; omega⟩, fun j => by rw [← ilim j]; exact hP.lim j, by show m2.cut = -1; rw [hP.cut (by omega)]; exact icut, hup, ?_, fun j hj => (hP.regs j hj).trans (iregs j hj), by dsimp only; omega, fun h => absurd h (by omega), ?_⟩
    ·show m2.regs.getD 1 0 = 0
     rw [hP.regs 1 (by omega)]
     exact icnt
    ·rcases hP.res with ⟨a, _, b⟩ | ⟨a, _, _, b⟩ | ⟨_, _, a⟩
     ·refine .inl ⟨a, fun line hline => ?_⟩
      dsimp only
      by_cases e : line = k
      ·rw [if_pos (by omega), us p hp hline, if_pos (by omega), e]
       exact b
      ·rw [if_neg (by omega), hP.oth _ (by omega) (by show 16 + (line : Int) < 16 + p.lines; omega) (by omega), hl line hline, if_neg (by omega)]
     ·obtain ⟨j, hj⟩ := b
      exact .inr ⟨a, j, by rw [← ilim j]; exact hj⟩
     ·omega
   ·rw [if_neg c, if_pos rfl]
    refine ⟨iok, ilim, icut, iup, icnt, iregs, imv, fun h => absurd h (by omega), .inl ⟨e0, fun line hline => ?_⟩⟩
    dsimp only
    rw [hl line hline]
    by_cases e : line = k
    ·rw [if_neg (by omega), if_pos (by omega), us p hp hline, if_neg (by omega)]
    ·by_cases e2 : line < k
     ·rw [if_pos e2, if_pos (by omega)]
     ·rw [if_neg e2, if_neg (by omega)]
  ·dsimp only at e3
   rw [if_neg (by omega)]
   exact ⟨iok, ilim, icut, iup, icnt, iregs, imv, fun h => absurd h (by omega), .inr ⟨e3, hj⟩⟩
theorem qjs (hp : p.Ok) : FmtOk p (Nvm.fresh p.device limits) := by
 have h0 := ww (limits := limits) hp;refine ⟨rfl, ?_, h0.l.regs, h0.l.may, fun i _ => mw _ i, fun k hk _ => ?_⟩
 ·have := h0.l.len;have : p.shape.n = 16 + p.lines := rfl;have : p.shape.spares = p.spare.toNat := rfl;have := hp.s1;omega
 ·have h := qb2 (limits := limits) hp k (by omega);have hm := h.mv;unfold Trn.moves at hm;refine ⟨h.up, fun line _ _ => ?_, by omega⟩;rw [rb h.ok h.up];exact ⟨rfl, (h.ok.lineW line).2⟩
theorem qf3 (hp : p.Ok) {x : Int × Mem × Int} (h : FmtI p (Nvm.fresh p.device limits) p.lines.toNat x) (h0 : x.1 = 0) : MInv p x.2.1 [⟨0, p.lines * 8, false⟩] (Hp.firstW p) 0 := by
 have hl1 := hp.l1;have hl2 := hp.l2;have hI : LInv p.shape x.2.1 := ⟨h.ok, .inl h.cnt⟩;refine ⟨hI, ?_, ?_, h.regs 2 (by omega), .inl rfl⟩
 ·symm;refine qfn hI _ (by rw [qq]; omega) (fun i hi => ?_);rw [pv h.cnt];rcases h.res with ⟨_, a⟩ | ⟨a, _⟩
  ·rw [a i (by omega), if_pos (by omega)]
  ·omega
 ·exact qir (W := p.lines * 8) (by unfold pj; omega)
end
section
variable {p : Pn} {st : St} {m : Mem} {s : Shape} {l : List S116} {v : List Int} {r : Int}
theorem qml (hc : m.cut = 0) : (Nvm.write m).2.down = true := by unfold Nvm.write; rw [if_pos hc]
theorem qm9 {i : Int} {d : List Int} (hd : m.down = false) (hc : m.cut = 0) (h0 : 0 ≤ i) (h1 : i < m.cells.length) : (Nvm.put m i d).1 = 2 := by
 have hh : Nvm.has m i = true := by unfold Nvm.has; simp; omega
 have hw := qml hc;unfold Nvm.put;rw [if_pos hh, hd];simp only [Bool.false_eq_true, if_false];by_cases cw : Nvm.worn m i.toNat = true
 ·rw [if_pos cw];unfold Nvm.told;rw [hw];rfl
 ·rw [if_neg cw];unfold Nvm.told;rw [show (Nvm.hit (Nvm.write m).2 i.toNat d (Nvm.write m).1).down = (Nvm.write m).2.down from rfl, hw];rfl
theorem qlr {slots slot : Int} {spares : Nat} {d : List Int} (h : LOk slots spares m) (hd : m.down = false) (hc : m.cut = 0) (h0 : 0 ≤ slot) (h1 : slot < slots) : (Lns.put m slots spares slot d).1 = 2 := by
 have hp := h.place h0 h1;have := qm9 (d := d) hd hc hp.1 hp.2;unfold Lns.put;rw [hd];simp only [Bool.false_eq_true, if_false];rw [if_neg (by omega)];exact this
theorem qnb (h : MOk s m) : (0 ≤ (Trn.moveS s.n (Trn.moves m)).1 ∧ (Trn.moveS s.n (Trn.moves m)).1 < s.n + 1) ∧ 0 ≤ (Trn.moveS s.n (Trn.moves m)).2 ∧ (Trn.moveS s.n (Trn.moves m)).2 < s.n + 1 := by
 have hg := h.g;have hgr := sd hg;have hn1 := h.ok.n1;unfold Trn.moveS;by_cases c : i8 s.n (Trn.moves m) = 0
 ·rw [if_pos c]; dsimp only; omega
 ·rw [if_neg c]; dsimp only; omega
theorem qna {line : Int} {d : List Int} (h : MOk s m) (hd : m.down = false) (hc : m.cut = 0) (puts : Int) : (Trn.put s m puts line d).1 = 2 := by
 have hs := h.slotR line;have hp := qlr (d := d) h.l hd hc hs.1 hs.2;unfold Trn.put;rw [hd];simp only [Bool.false_eq_true, if_false];by_cases c : wrap64 (puts + 1) = s.period
 ·rw [if_pos c];have hm : (Trn.move s m).1 = 2 := by
   have hr := qnb h;have hg := qcq h.l hd hr.1.1 hr.1.2;have hq := qlr (d := (Lns.get m (s.n + 1) s.spares (Trn.moveS s.n (Trn.moves m)).1).1) h.l hd hc hr.2.1 hr.2.2;unfold Trn.move;rw [if_pos (by rw [hg]), if_neg (by omega)];exact hq
  rw [if_neg (by omega)];exact hm
 ·rw [if_neg c];exact hp
theorem qla {hs : List ip} (h : LInv s m) (hu : m.down = false) (hc : Lg.count m = 0) (h0 : m.cut = 0) (hm : Lg.mayH s.n hs = true) (hn : 17 ≤ s.n) (hv : ∀ x ∈ hs, W64 x.2) (puts : Int) (hb : Trn.moves m + 40 ≤ 4611686018427387903) : (Lg.commit s hs m puts).1 = 2 ∧ ∀ line, 16 ≤ line → line < s.n → vw s (Lg.commit s hs m puts).2.1 line = vw s m line := by
 have hl := mr hm;have hlen := su hm;have hn2 := h.ok.ok.n2;have hreg : (Nvm.reg m 1).1 = 0 := by unfold Nvm.reg;rw [hu];exact hc
 unfold Lg.commit;rw [hm, hu, if_neg (by decide), if_neg (by decide), if_neg (by rw [hreg]; exact fun h => h rfl)];have hvv : ∀ x ∈ hs, (0 ≤ x.1 ∧ x.1 ≤ 18446744073709551615) ∧ W64 x.2 := fun x hx => ⟨by have := hl x hx; omega, hv x hx⟩;obtain ⟨hrv, hri⟩ := qco hlen.2 hvv hs.length (Nat.le_refl _);have hrl := Lg.rowsTo_length hs hs.length;have hI : (hs.length : Int) ≤ 8 * Lg.idx hs.length ∧ 0 ≤ Lg.idx hs.length ∧ Lg.idx hs.length ≤ 2 := by unfold Lg.idx; omega
 have hR := vm (s := s) (Lg.rowsTo hs hs.length) 0 m puts h.ok hu (by omega) hrv (by omega);have he : (Lg.putRows s (Lg.rowsTo hs hs.length) 0 m puts).1 = 2 := by
  match hq : Lg.rowsTo hs hs.length, hrl with
  | [], hrl => rw [List.length_nil] at hrl; omega
  | d :: rs, _ =>
   have := qna (line := ((0 : Nat) : Int)) (d := d) h.ok hu h0 puts;rw [Lg.putRows, if_neg (by omega)];exact this
 rw [if_neg (by omega)];refine ⟨he, fun line l0 l1 => ?_⟩;generalize Lg.rowsTo hs hs.length = R at hR hri hrl;generalize Lg.putRows s R 0 m puts = r1 at hR;obtain ⟨e1, m1, p1⟩ := r1;dsimp only at hR ⊢;have hc1 : Lg.count m1 = 0 := by rw [← hc]; exact hR.regs 1 (by omega)
 rw [pv hc1, pv hc, hR.oth line (by omega) l1 (by omega)]
theorem qnx {es : List S160} {l' : List S116} (h : HInv p st l v r) (hp : p.Ok) (hu : st.m.down = false) (hw : Hp.isWorn st.worn st.m = false) (h0 : st.m.cut = 0) (hb : Trn.moves st.m + 40 ≤ 4611686018427387903) (he : EdFit p es) : (Hp.commit p st v es).1 = 2 ∧ wv p (Hp.commit p st v es).2.m p.lines.toNat = v := by
 obtain ⟨hw1, hw2⟩ := (ky hu).1 hw;have hl1 := hp.l1;have hl2 := hp.l2;obtain ⟨l1, l2, l3⟩ := he.lines;have hwl := ov h.inv p.lines.toNat;have hm := sj hp he (Sp.apply v es);have hvals : ∀ x ∈ Hp.homesOf (Sp.lines es) (Sp.apply v es), W64 x.2 := fun x hx => by obtain ⟨i, hi, rfl⟩ := List.mem_map.1 hx;have := l3 i hi;rw [← h.wd];exact qay (by rw [s8, hwl]; omega) (uk es _ (qcn h.inv _) he.val)
 obtain ⟨a, b⟩ := qla h.inv hu hw2 h0 hm (by show 17 ≤ 16 + p.lines; omega) hvals st.puts hb;have hC := qbk h.inv hu hw2 hm (by show 17 ≤ 16 + p.lines; omega) hvals st.puts hb;unfold Hp.commit;rw [if_neg (by omega)];refine ⟨a, ?_⟩;refine (yz h.inv hC.same.inv (by omega) b).trans h.wd
end
section
variable {p : Pn} {st : St} {m m' : Mem} {s : Shape} {l : List S116} {v : List Int} {r : Int}
theorem MOk.re (h : MOk s m) (hc : m'.cells = m.cells) (hr : m'.regs = m.regs) : MOk s m' := by
 obtain ⟨c, g, w, k, a, d⟩ := m;obtain ⟨c', g', w', k', a', d'⟩ := m';dsimp only at hc hr;subst hc hr;exact ⟨h.ok, ⟨h.l.s1, h.l.s2, h.l.sp, h.l.len, h.l.val, h.l.rlen, h.l.regs, h.l.may⟩, h.mv⟩
theorem qnj (hc : m'.cells = m.cells) (hr : m'.regs = m.regs) (line : Int) : vw s m' line = vw s m line := by
 obtain ⟨c, g, w, k, a, d⟩ := m;obtain ⟨c', g', w', k', a', d'⟩ := m';dsimp only at hc hr;subst hc hr;rfl
theorem ql0 (hc : m'.cells = m.cells) (hr : m'.regs = m.regs) : ∀ k, wv p m' k = wv p m k
 | 0 => rfl
 | k + 1 => by rw [wv, wv, ql0 hc hr k, qnj hc hr]
theorem MInv.re (h : MInv p m l v r) (hc : m'.cells = m.cells) (hr : m'.regs = m.regs) : MInv p m' l v r := by
 have hv := ql0 (p := p) hc hr p.lines.toNat;refine ⟨⟨h.inv.ok.re hc hr, ?_⟩, by rw [hv]; exact h.wd, h.hv, by rw [hr]; exact h.rt, h.ri⟩;obtain ⟨c, g, w, k, a, d⟩ := m;obtain ⟨c', g', w', k', a', d'⟩ := m';dsimp only at hc hr;subst hc hr;exact h.inv.cnt
theorem qah {n : Int} (h : HInv p st l v r) (hp : p.Ok) (hb : Trn.moves st.m + 40 ≤ 4611686018427387903) (hu : st.m.down = false) (hw : Hp.isWorn st.worn st.m = false) (hz : ij n ≠ 0) {j : Int} (j0 : 0 ≤ j) (j1 : j < l.length) (hj : OkB l (ij n) j) : ∃ c e off st', qa2 l c (ij n) ∧ Hp.AllocR p st n e off st' ∧ ComO p st e st' l v r (crv l c (ij n)) (app v (eds (aa l c) (ij n))) ∧ off = if e = 0 then ((aa l c).f0 + 1) * 8 else 0 := by
 have hws := h.ws hp hu;obtain ⟨a, ha, hr⟩ := qgb (n := n) (counts := st.now) h.hv (by have := qfr h.hv.1; omega);rcases hr with ⟨e, _⟩ | ⟨_, hno, rfl⟩ | ⟨_, c, can, rfl⟩
 ·exact absurd e hz
 ·exact absurd hj (hno j j0 j1)
 ·have hg := js h.hv (sx can.2.1 can.2.2.1);have hnr := qjf n;have hin := qmo (b := aa l c) can.2.2.2.2 hg.2.1 (need := ij n) (by omega);have htk := qed can.2.2.2.2 hg.2.1;have hel := qlc (b := aa l c) (need := ij n) htk.1;have hef : EdFit p (eds (aa l c) (ij n)) := qas (by unfold eds; simp) (by split at hel <;> omega) _ hg.1 (fun e he => by have := hin e he; omega) (qf8 _ _);have hC := qep h hp hu hw hb hef (qmm h.hv can) (qeg can h.ri);exact ⟨c, _, _, _, can, .inr (.inr (.inr (.inr ⟨_, _, _, hu, y5 _, hz, hw, hef.ok, by rw [hws]; exact ha, by rw [hws], by rw [hws], rfl⟩))), hC, rfl⟩
theorem ComO.quiet {e : Int} {st' : St} {l' : List S116} {v' : List Int} (h : ComO p st e st' l v r l' v') (hc : st.m.cut < 0) (hl : ∀ j, fk st.m j < 0) : e = 0 ∧ st'.m.down = false ∧ HInv p st' l' v' r := by
 have h0 : e = 0 := by
  rcases h.kind with e | e | e
  ·exact e
  ·have := h.cutd (h.two.1 e);omega
  ·obtain ⟨j, hj⟩ := h.three e;have := hl j;omega
 refine ⟨h0, ?_, ?_⟩
 ·by_cases c : st'.m.down = true
  ·have := h.two.2 c;omega
  ·exact qny c
 ·rcases h.eff with ⟨_, a⟩ | ⟨a, _⟩ | ⟨a, _⟩
  ·exact a
  ·exact absurd h0 a
  ·omega
structure Quiet (st : St) : Prop where
 up : st.m.down = false
 cut : st.m.cut < 0
 lim : ∀ j, fk st.m j < 0
 fr : Hp.isWorn st.worn st.m = false
theorem Kp.quiet {st' : St} (h : Kp st st') (q : Quiet st) (hu : st'.m.down = false) : Quiet st' := by
 refine ⟨hu, by rw [h.cut q.cut]; exact q.cut, fun j => by rw [h.lim]; exact q.lim j, ?_⟩;rcases h.fresh q.fr hu with e | ⟨j, hj⟩
 ·exact e
 ·have := q.lim j;omega
def opA : S39 := ⟨1, 0, 9, 0, []⟩
def opC : S39 := ⟨7, 0, 0, 0, []⟩
def opF : S39 := ⟨2, 8, 0, 0, []⟩
def opS : S39 := ⟨8, 0, 0, 0, []⟩
def opR : S39 := ⟨3, 8, 9, 0, []⟩
theorem qdt {W : Int} (hp : p.Ok) {st0 : St} (h0 : HInv p st0 [⟨0, W, false⟩] v 0) (q0 : Quiet st0) (hm : Trn.moves st0.m ≤ 1000) : ∃ st1 st2 st3 bs, TwR p (.on st0) opA 0 8 [] (.on st1) ∧ TwR p (.on st1) opC 0 0 [] (.on { st1 with m := Nvm.cutAt st1.m 0 0 }) ∧ TwR p (.on { st1 with m := Nvm.cutAt st1.m 0 0 }) opF 2 0 [] (.on st2) ∧ TwR p (.on st2) opS 0 0 [] (.on st3) ∧ TwR p (.on st3) opR 0 0 bs (.on st3) ∧ bs.length = 9 := by
 have hW : W = p.lines * 8 := by have := h0.hv.1.2;have h : (0 : Int) + W = p.lines * 8 := this.2.2.2.2.2;omega
 have hl1 := hp.l1;obtain ⟨c, e1, off, st1, can, hA, hC, hoff⟩ := qah (n := 9) h0 hp (by omega) q0.up q0.fr (by decide) (j := 0) (by omega) (by simp) ⟨rfl, by show ij 9 ≤ W; rw [show ij 9 = 3 from by decide]; omega⟩;obtain ⟨rfl, hu1, h1⟩ := hC.quiet q0.cut q0.lim;have hc : c = 0 := by have h2 := can.2.1;have h3 := can.2.2.1;simp at h3;omega
 subst hc;rw [if_pos rfl] at hoff;have hoff : off = 8 := hoff;subst hoff;have hq1 := hC.kp.quiet q0 hu1;have hmv1 := hC.kp.mv;rw [show ij 9 = 3 from by decide] at *;have htk := qed can.2.2.2.2 (by show 2 ≤ W; omega);have hb : (⟨0, tk W 3, true⟩ : S116) ∈ crv [⟨0, W, false⟩] 0 3 := (qe1 (by omega) (by simp)).2 (.inr (.inl List.mem_cons_self));have htk3 : 3 ≤ tk W 3 := htk.2.2.2.2;generalize crv [⟨0, W, false⟩] 0 3 = l1 at h1 hb;generalize app v _ = v1 at h1;have hw2 : HInv p { st1 with m := Nvm.cutAt st1.m 0 0 } l1 v1 0 := (MInv.re (m' := Nvm.cutAt st1.m 0 0) h1.mem rfl rfl).heap h1.now;have hu2 : (Nvm.cutAt st1.m 0 0).down = false := hu1;have hmv2 : Trn.moves (Nvm.cutAt st1.m 0 0) = Trn.moves st1.m := rfl;have hfr2 : Hp.isWorn st1.worn (Nvm.cutAt st1.m 0 0) = false := (ky hu2).2 ((ky hu1).1 hq1.fr);obtain ⟨i, i0, i1, hi⟩ := qch hb;have hcu : (aa l1 i).f2 = true := by rw [hi]
 have ho : (8 : Int) = ((aa l1 i).f0 + 1) * 8 := by rw [hi]; rfl
 have hlen := qfr h1.hv.1;have ha := qgr h1.hv (by omega) i0 i1 hcu ho;have can2 := qjw h1.hv.1 ⟨i0, i1⟩ hcu;have ft := tr (l := l1) (i := i) ⟨i0, i1⟩;have hg := js h1.hv (sx ft.1 (by omega));have hcg := js h1.hv (sx i0 i1);have hef : EdFit p [⟨(aa l1 (fa l1 i)).f0, l7 (dh (mM l1 i)) false⟩] := qas (by simp) (by simp) (aa l1 (fa l1 i)).f0 hg.1 (fun e he => by rw [List.mem_singleton.1 he]; dsimp only; omega) (fun e he => by rw [List.mem_singleton.1 he]; exact qiv _);have hC2 := qep hw2 hp hu2 hfr2 (by dsimp only; omega) hef (qlf h1.hv can2) (.inl rfl);obtain ⟨z1, z2⟩ := qnx (l' := l1) hw2 hp hu2 hfr2 rfl (by dsimp only; omega) hef;have hws := hw2.ws hp hu2;generalize hst2 : Hp.commit p { st1 with m := Nvm.cutAt st1.m 0 0 } v1 [⟨(aa l1 (fa l1 i)).f0, l7 (dh (mM l1 i)) false⟩] = cm at hC2 z1 z2;obtain ⟨e2, st2⟩ := cm;dsimp only at hC2 z1 z2;subst z1;have hM2 : MInv p st2.m l1 v1 0 := by
  have hx : LInv p.shape st2.m ∧ st2.m.regs.getD 2 0 = 0 := by
   rcases hC2.eff with ⟨e, _⟩ | ⟨_, e⟩ | ⟨_, e⟩
   ·omega
   ·exact ⟨e.inv, e.rt⟩
   ·exact ⟨e.inv, e.rt⟩
  exact ⟨hx.1, z2, h1.hv, hx.2, .inl rfl⟩
 have hM2p : MInv p (Nvm.power st2.m) l1 v1 0 := hM2.re rfl rfl;have hmv3 := hC2.kp.mv;dsimp only at hmv3;have hmp : Trn.moves (Nvm.power st2.m) = Trn.moves st2.m := rfl;have hO := y6 hM2p hp rfl (by omega) 0;have hOk := hM2p.openOk hp rfl (by omega);generalize hrc : Lg.recover p.shape (Nvm.power st2.m) 0 = rc at hO;have hr0 : rc.1 = 0 ∧ rc.2.1.down = false := by
  rcases hO.res with e | ⟨_, _, e⟩
  ·exact e
  ·exact absurd (show (0 : Int) ≤ -1 from e) (by decide)
 have h3 := un hO.inv rc.2.2;have hu3 : (Hp.opened p rc.2.1 rc.2.2).m.down = false := hr0.2;have hws3 := h3.ws hp hu3;refine ⟨st1, st2, Hp.opened p rc.2.1 rc.2.2, rdB v1 8 (9 : Int).toNat, .inr (.inr (.inr ⟨by decide, by decide, _, _, rfl, rfl, h0.stOk (by omega), .inl ⟨rfl, rfl, hA⟩⟩)), .inl ⟨rfl, rfl, rfl, rfl, rfl⟩,
  .inr (.inr (.inr ⟨by decide, by decide, _, _, rfl, rfl, hw2.stOk (by dsimp only; omega), .inr (.inl ⟨rfl, rfl, rfl, .inr (.inr (.inr (.inr ⟨_, hu2, ?_, hfr2, hef.ok, by rw [hws]; exact ha, by rw [hws, hst2], by rw [hws, hst2]⟩)))⟩)⟩)),
  .inr (.inl ⟨rfl, rfl, rfl, hOk, fun _ => ?_, ?_, ?_⟩),
  .inr (.inr (.inr ⟨by decide, by decide, _, _, rfl, rfl, h3.stOk ?_, .inr (.inr (.inl ⟨rfl, rfl, rfl, .inr (.inr ⟨hu3, rfl, ?_⟩)⟩))⟩)), qj4 _ _ _⟩
 ·rw [qm5 hw2 hp];decide
 ·rw [show (TS.on st2).mem = st2.m from rfl, hrc];exact hO.inv.openOk2 hp hr0.2
 ·rw [show (TS.on st2).mem = st2.m from rfl, hrc];exact hr0.1.symm
 ·rw [show (TS.on st2).mem = st2.m from rfl, hrc, if_pos hr0.1]
 ·have := hO.mv;show Trn.moves rc.2.1 + 40 ≤ _;omega
 ·rw [hws3];exact qlh h1.hv (by decide) ⟨_, hb, rfl, Int.le_refl 8, by show (8 : Int) ≤ (0 + tk W 3) * 8 - 9; omega⟩
end
def iu (m : Mem) : Int := (m.cells.map (·.wear)).sum
structure Bare (m : Mem) : Prop where
 up : m.down = false
 cut : m.cut < 0
 lim : ∀ j, fk m j < 0
 w0 : ∀ c ∈ m.cells, 0 ≤ c.wear
theorem qf7 (d : Cell) : ∀ (l : List Cell) (i : Nat) (c : Cell), i < l.length → ((l.set i c).map (·.wear)).sum = (l.map (·.wear)).sum - (l.getD i d).wear + c.wear
 | [], i, c, h => absurd h (Nat.not_lt_zero _)
 | x :: l, 0, c, h => by
  show c.wear + _ = x.wear + _ - x.wear + c.wear
  omega
 | x :: l, i + 1, c, h => by
  have := qf7 d l i c (Nat.lt_of_succ_lt_succ h)
  show x.wear + ((l.set i c).map (·.wear)).sum = x.wear + (l.map (·.wear)).sum - (l.getD i d).wear + c.wear
  omega
theorem s9 : ∀ (l : List Cell), (∀ c ∈ l, 0 ≤ c.wear) → 0 ≤ (l.map (·.wear)).sum ∧ ∀ c ∈ l, c.wear ≤ (l.map (·.wear)).sum
 | [], h => ⟨Int.le_refl _, fun c hc => absurd hc List.not_mem_nil⟩
 | x :: l, h => by
  obtain ⟨a, b⟩ := s9 l (fun c hc => h c (List.mem_cons_of_mem _ hc))
  have hx := h x List.mem_cons_self
  have e : ((x :: l).map (·.wear)).sum = x.wear + (l.map (·.wear)).sum := rfl
  rw [e]
  refine ⟨by omega, fun c hc => ?_⟩
  rcases List.mem_cons.1 hc with rfl | hc
  ·omega
  ·have := b c hc
   omega
section
variable {m : Mem} {s : Shape} {p : Pn} {K N : Int} {puts : Int}
theorem qn1 {i : Int} (l : List Int) (h : Bare m) (h0 : 0 ≤ i) (h1 : i < m.cells.length) (hN : iu m < 4611686018427387904) : ∃ m', Nvm.put m i l = (0, m') ∧ Bare m' ∧ m'.cells.length = m.cells.length ∧ m'.regs = m.regs ∧ iu m' = iu m + 1 := by
 have hh : Nvm.has m i = true := by unfold Nvm.has; simp; omega
 have hlt : i.toNat < m.cells.length := by omega
 have hl := h.lim i.toNat;rw [qb6 hlt] at hl;have hw : Nvm.worn m i.toNat = false := by unfold Nvm.worn; rw [decide_eq_false (by omega)]; rfl
 have hm : m.cells.getD i.toNat ⟨zL, 0, 0⟩ ∈ m.cells := by rw [List.getD_eq_getElem?_getD, List.getElem?_eq_getElem hlt];exact List.getElem_mem hlt
 have hc0 := h.w0 _ hm;have hc1 := (s9 m.cells h.w0).2 _ hm;have hW : Nvm.write m = (-1, { m with writes := wrap64 (m.writes + 1) }) := by have := h.cut;unfold Nvm.write;rw [if_neg (by omega), if_neg (by omega)]
 have hwr : wrap64 ((m.cells.getD i.toNat ⟨zL, 0, 0⟩).wear + 1) = (m.cells.getD i.toNat ⟨zL, 0, 0⟩).wear + 1 := w64 (by unfold iu at hN; omega);refine ⟨Nvm.hit { m with writes := wrap64 (m.writes + 1) } i.toNat l (-1), ?_, ?_, ?_, rfl, ?_⟩
 ·unfold Nvm.put;rw [if_pos hh, if_neg (show ¬ m.down = true by rw [h.up]; decide), hw, hW];have hu : (Nvm.hit { m with writes := wrap64 (m.writes + 1) } i.toNat l (-1)).down = false := h.up;have ht : Nvm.told (Nvm.hit { m with writes := wrap64 (m.writes + 1) } i.toNat l (-1)) false = 0 := by unfold Nvm.told;rw [hu];rfl
  rw [if_neg (by decide)];dsimp only;rw [ht]
 ·refine ⟨h.up, h.cut, fun j => ?_, fun c hc => ?_⟩
  ·have := h.lim j;unfold fk Nvm.hit;dsimp only;by_cases e : j = i.toNat
   ·subst e;rw [p7 hlt];exact hl
   ·rw [getD_set_ne e];exact this
  ·unfold Nvm.hit at hc;dsimp only at hc;rcases List.mem_or_eq_of_mem_set hc with e | e
   ·exact h.w0 c e
   ·rw [e];dsimp only;rw [hwr];omega
 ·unfold Nvm.hit;exact List.length_set
 ·unfold iu Nvm.hit;dsimp only;rw [qf7 ⟨zL, 0, 0⟩ _ _ _ hlt];dsimp only;rw [hwr];omega
theorem qno {i : Int} (v : Int) (h : Bare m) (h0 : 0 ≤ i) (h1 : i < 35) : ∃ m', Nvm.set m i v = (0, m') ∧ Bare m' ∧ m'.cells = m.cells ∧ m'.regs = m.regs.set i.toNat v := by
 have hS := vl (m := m) (v := v) h.up h0 h1;generalize Nvm.set m i v = x at hS;obtain ⟨e, m'⟩ := x;dsimp only at hS;have hc := h.cut;have he : e = 0 ∧ m'.down = false ∧ m'.regs = m.regs.set i.toNat v := by
  rcases hS.res with a | ⟨_, _, _, a⟩
  ·exact a
  ·omega
 refine ⟨m', by rw [he.1], ⟨he.2.1, by rw [hS.cut hc]; exact hc, fun j => by rw [jw hS.cells]; exact h.lim j, by rw [hS.cells]; exact h.w0⟩, hS.cells, he.2.2⟩
theorem ul {m m' : Mem} (h : m'.cells = m.cells) : iu m' = iu m := by unfold iu; rw [h]
theorem qm0 {slots k : Int} {spares : Nat} (l : List Int) (h : Bare m) (hl : (m.cells.length : Int) = slots + spares) (h0 : 0 ≤ k) (h1 : k < slots) (hN : iu m < 4611686018427387904) : ∃ m', Lns.put m slots spares k l = (0, m') ∧ Bare m' ∧ m'.cells.length = m.cells.length ∧ m'.regs = m.regs ∧ iu m' = iu m + 1 := by
 have hr := qb3 (t := Lns.tableTo m spares) h0 h1;rw [dq] at hr;obtain ⟨m', a, b⟩ := qn1 l h hr.1 (by omega) hN;refine ⟨m', ?_, b⟩;unfold Lns.put;rw [h.up, a];rfl
structure Wr (s : Shape) (K N : Int) (m : Mem) (puts : Int) : Prop where
 b : Bare m
 len : (m.cells.length : Int) = s.n + 1 + s.spares
 rlen : m.regs.length = 35
 r0 : 0 ≤ Trn.moves m
 eq : iu m = (1 + s.period) * Trn.moves m + puts + K
 le : iu m ≤ N
 pu : 0 ≤ puts ∧ puts < s.period
theorem Wr.mv (h : Wr s K N m puts) (hK : 0 ≤ K) : Trn.moves m ≤ N := by
 have := Int.mul_le_mul_of_nonneg_right (show 1 ≤ 1 + s.period by have := h.pu; omega) h.r0;have := h.eq;have := h.le;have := h.pu;omega
theorem Wr.g (h : Wr s K N m puts) (ok : s.Ok) (hK : 0 ≤ K) (hN : N ≤ 1125899906842624) : mi s.n (Trn.moves m) := by
 have := h.mv hK;have := h.r0;exact ⟨ok.n1, by have := ok.n2; omega, this, by omega⟩
theorem Wr.grow {N' : Int} (h : Wr s K N m puts) (hN : N ≤ N') : Wr s K N' m puts := ⟨h.b, h.len, h.rlen, h.r0, h.eq, Int.le_trans h.le hN, h.pu⟩
theorem qmq (h : Wr s K N m puts) (ok : s.Ok) (hK : 0 ≤ K) (hN : N ≤ 1125899906842624) (line : Int) (d : List Int) : ∃ m' puts', Trn.put s m puts line d = (0, m', puts') ∧ Wr s K (N + 2) m' puts' := by
 have hg := h.g ok hK hN;have hle := h.le;have heq := h.eq;have hpu := h.pu;have hp2 := ok.p2;have hlen := h.len;have hd : ¬ m.down = true := by rw [h.b.up]; decide
 unfold Trn.put;rw [if_neg hd, w64 (n := puts + 1) (by omega)];by_cases c : puts + 1 = s.period
 ·rw [if_pos c];have hms := yr hg;have hr := qb3 (t := Lns.tableTo m s.spares) hms.1.1 hms.1.2;rw [dq] at hr;obtain ⟨m1, a1, b1, l1, r1, w1⟩ := qm0 (k := (Trn.moveS s.n (Trn.moves m)).2) (Lns.get m (s.n + 1) s.spares (Trn.moveS s.n (Trn.moves m)).1).1 h.b h.len hms.2.1 hms.2.2 (by omega);obtain ⟨m2, a2, b2, c2, r2⟩ := qno (i := 0) (Trn.moves m + 1) b1 (by omega) (by omega);have hget : (Lns.get m (s.n + 1) s.spares (Trn.moveS s.n (Trn.moves m)).1).2 = 0 := by unfold Lns.get Nvm.get;rw [if_neg hd, if_pos (show Nvm.has m _ = true by unfold Nvm.has; simp; omega), if_neg hd]
  have hmove : Trn.move s m = (0, m2) := by unfold Trn.move;rw [if_pos hget, a1, if_pos rfl, a2]
  have hmv2 : Trn.moves m2 = Trn.moves m + 1 := by unfold Trn.moves;rw [r2, r1, List.getD_eq_getElem?_getD, show (0 : Int).toNat = 0 from rfl, List.getElem?_set_self (by have := h.rlen; omega)];rfl
  have hw2 : iu m2 = iu m + 1 := by rw [ul c2]; exact w1
  have hg2 : mi s.n (Trn.moves m2) := by have := h.mv hK;rw [hmv2];exact ⟨hg.1, hg.2.1, by have := hg.2.2.1; omega, by omega⟩
  have hsl := qcf (l := line) hg2;obtain ⟨m3, a3, b3, l3, r3, w3⟩ := qm0 (k := gj s.n (Trn.moves m2) line) d b2 (by rw [c2, l1]; exact h.len) (by omega) (by omega) (by omega);have hpa : Trn.putAt s m2 line d = (0, m3) := a3;have hmv3 : Trn.moves m3 = Trn.moves m + 1 := by rw [← hmv2];unfold Trn.moves;rw [r3]
  rw [hmove, if_pos rfl, hpa];refine ⟨m3, 0, rfl, b3, by rw [l3, c2, l1]; exact h.len, by rw [r3, r2, r1, List.length_set]; exact h.rlen, by rw [hmv3]; have := h.r0; omega, ?_, by omega, by omega⟩;rw [w3, hw2, heq, hmv3, Int.mul_add, Int.mul_one];omega
 ·rw [if_neg c];have hsl := qcf (l := line) hg;obtain ⟨m3, a3, b3, l3, r3, w3⟩ := qm0 (k := gj s.n (Trn.moves m) line) d h.b h.len (by omega) (by omega) (by omega);have hpa : Trn.putAt s m line d = (0, m3) := a3;have hmv3 : Trn.moves m3 = Trn.moves m := by unfold Trn.moves;rw [r3]
  rw [hpa];refine ⟨m3, puts + 1, rfl, b3, by rw [l3]; exact h.len, by rw [r3]; exact h.rlen, by rw [hmv3]; exact h.r0, ?_, by omega, by omega⟩;rw [w3, hmv3];omega
theorem wset (h : Wr s K N m puts) {i : Int} (hi : i.toNat ≠ 0) (v : Int) : Wr s K N (Nvm.set m i v).2 puts ∧ (0 ≤ i → i < 35 → (Nvm.set m i v).1 = 0) := by
 by_cases c : 0 ≤ i ∧ i < 35
 ·obtain ⟨m', a, b, c1, r⟩ := qno v h.b c.1 c.2;rw [a];have hm : Trn.moves m' = Trn.moves m := by unfold Trn.moves;rw [r, List.getD_eq_getElem?_getD, List.getElem?_set_ne hi, List.getD_eq_getElem?_getD]
  exact ⟨⟨b, by rw [c1]; exact h.len, by rw [r, List.length_set]; exact h.rlen, by rw [hm]; exact h.r0, by rw [hm, ul c1]; exact h.eq, by rw [ul c1]; exact h.le, h.pu⟩, fun _ _ => rfl⟩
 ·have hh : Nvm.hasReg i = false := by
   unfold Nvm.hasReg;by_cases c0 : 0 ≤ i
   ·rw [decide_eq_true (show i ≥ 0 from c0), decide_eq_false (show ¬ i < 35 from fun e => c ⟨c0, e⟩)]; rfl
   ·rw [decide_eq_false (show ¬ i ≥ 0 from c0)]; rfl
  unfold Nvm.set;rw [hh];exact ⟨h, fun a b => absurd ⟨a, b⟩ c⟩
theorem qfu (ok : s.Ok) (hK : 0 ≤ K) : ∀ (hs : List ip) (N : Int) (m : Mem) (puts : Int), Wr s K N m puts → N + 2 * hs.length ≤ 1125899906842624 → ∃ m' puts', Lg.finish s hs m puts = (0, m', puts') ∧ Wr s K (N + 2 * hs.length) m' puts'
 | [], N, m, puts, h, hN => by
  obtain ⟨a, b⟩ := wset h (i := 1) (by decide) 0
  have b := b (by decide) (by decide)
  refine ⟨_, _, by unfold Lg.finish; rw [b], a.grow (by simp)⟩
 | x :: hs, N, m, puts, h, hN => by
  rw [List.length_cons] at hN ⊢
  obtain ⟨m1, p1, a, b⟩ := qmq h ok hK (by omega) x.1 x.2
  obtain ⟨m2, p2, a2, b2⟩ := qfu ok hK hs (N + 2) m1 p1 b (by omega)
  refine ⟨m2, p2, ?_, b2.grow (by omega)⟩
  unfold Lg.finish
  rw [a, if_pos rfl]
  exact a2
theorem qll (ok : s.Ok) (hK : 0 ≤ K) : ∀ (r : List (List Int)) (i : Nat) (N : Int) (m : Mem) (puts : Int), Wr s K N m puts → N + 2 * r.length ≤ 1125899906842624 → ∃ m' puts', Lg.putRows s r i m puts = (0, m', puts') ∧ Wr s K (N + 2 * r.length) m' puts'
 | [], i, N, m, puts, h, hN => ⟨m, puts, rfl, h.grow (by simp)⟩
 | x :: r, i, N, m, puts, h, hN => by
  rw [List.length_cons] at hN ⊢
  obtain ⟨m1, p1, a, b⟩ := qmq h ok hK (by omega) i x
  obtain ⟨m2, p2, a2, b2⟩ := qll ok hK r (i + 1) (N + 2) m1 p1 b (by omega)
  refine ⟨m2, p2, ?_, b2.grow (by omega)⟩
  unfold Lg.putRows
  rw [a, if_pos rfl]
  exact a2
theorem qku (ok : s.Ok) (hK : 0 ≤ K) (hN : N + 100 ≤ 1125899906842624) (hs : List ip) (h : Wr s K N m puts) : Wr s K (N + 100) (Lg.commit s hs m puts).2.1 (Lg.commit s hs m puts).2.2 := by
 unfold Lg.commit;by_cases c : (!Lg.mayH s.n hs) = true
 ·rw [if_pos c];exact h.grow (by omega)
 rw [if_neg c];have hm : Lg.mayH s.n hs = true := by simpa using c
 have hl := su hm;by_cases c : m.down = true
 ·rw [if_pos c];exact h.grow (by omega)
 rw [if_neg c];by_cases c : (Nvm.reg m 1).1 ≠ 0
 ·rw [if_pos c];exact h.grow (by omega)
 rw [if_neg c];have hrl := Lg.rowsTo_length hs hs.length;have hI : Lg.idx hs.length ≤ 2 := by unfold Lg.idx; omega
 obtain ⟨m1, p1, a, b⟩ := qll ok hK (Lg.rowsTo hs hs.length) 0 N m puts h (by omega);rw [a, if_pos rfl];dsimp only;unfold Lg.sealed;obtain ⟨b1, b2⟩ := wset b (i := 1) (by decide) hs.length;rw [b2 (by decide) (by decide), if_pos rfl];obtain ⟨m2, p2, a2, c2⟩ := qfu ok hK hs _ _ p1 b1 (by omega);rw [a2];exact c2.grow (by omega)
theorem qip (b : Int) : ∀ (ls : List Int) (st : St), Wr s K N st.m st.puts → (∀ i ∈ ls, 0 ≤ i) → Wr s K N (Hp.noteAll b ls st).2.m (Hp.noteAll b ls st).2.puts
 | [], st, h, _ => h
 | i :: ls, st, h, hl => by
  have hi := hl i List.mem_cons_self
  have hls : ∀ j ∈ ls, 0 ≤ j := fun j hj => hl j (List.mem_cons_of_mem _ hj)
  unfold Hp.noteAll
  split
  ·have hw := (wset h (i := 19 + i / 4) (by omega) (IntKind.u64.wrap (Cnt.note b st.now st.kept (i / 4).toNat).1)).1
   split
   ·exact qip b ls _ hw hls
   ·exact hw
  ·exact qip b ls _ h hls
theorem qda {st : St} (hp : p.Ok) (hK : 0 ≤ K) (hN : N + 100 ≤ 1125899906842624) (ws : List Int) (es : List S160) (h : Wr p.shape K N st.m st.puts) : Wr p.shape K (N + 100) (Hp.commit p st ws es).2.m (Hp.commit p st ws es).2.puts := by
 have hw := qku hp.shape hK hN (Hp.homesOf (Sp.lines es) (Sp.apply ws es)) h;unfold Hp.commit;split
 ·refine qip _ _ _ hw (fun i hi => ?_);obtain ⟨e, _, h2, rfl⟩ := te hi;omega
 ·exact hw
theorem qm8 (hp : p.Ok) {m : Mem} (h : Wr p.shape 0 0 m 0) : ∀ k : Nat, k ≤ 64 → Wr p.shape 0 (2 * k) (Hp.fmtAt p m k).2.1 (Hp.fmtAt p m k).2.2
 | 0, _ => h
 | k + 1, hk => by
  have ih := qm8 hp h k (by omega)
  rw [Hp.fmtAt]
  split
  ·split
   ·exact ih.grow (by omega)
   ·obtain ⟨m1, p1, a, b⟩ := qmq ih hp.shape (Int.le_refl 0) (by omega) (16 + (k : Int)) (dd (Hp.firstW p) k)
    rw [a]
    exact b.grow (by omega)
  ·exact ih.grow (by omega)
theorem qm6 (hp : p.Ok) : Wr p.shape 0 0 (Nvm.fresh p.device []) 0 := by
 have h0 := ww (limits := []) hp;have hz : Trn.moves (Nvm.fresh p.device []) = 0 := mw _ 0;have hs : iu (Nvm.fresh p.device []) = 0 := by
  unfold iu Nvm.fresh Nvm.freshTo;dsimp only;rw [List.map_map];generalize List.range p.device = r
  induction r with
  | nil => rfl
  | cons a r ih => rw [List.map_cons, List.sum_cons, ih]; rfl
 refine ⟨⟨rfl, by show (-1 : Int) < 0; decide, fun j => ?_, fun c hc => ?_⟩, h0.l.len, h0.l.rlen, by omega, by rw [hz, hs]; omega, by omega, by have := hp.shape.p1; omega⟩
 ·unfold fk Nvm.fresh Nvm.freshTo;dsimp only;rw [List.getD_eq_getElem?_getD, List.getElem?_map];by_cases hj : j < p.device
  ·rw [List.getElem?_range hj];dsimp only [Option.map, Option.getD];rw [if_pos hj];exact (by decide : (-1 : Int) < 0)
  ·rw [List.getElem?_eq_none (by simpa using hj)];exact (by decide : (-1 : Int) < 0)
 ·unfold Nvm.fresh Nvm.freshTo at hc;obtain ⟨i, _, rfl⟩ := List.mem_map.1 hc;exact Int.le_refl 0
end
structure NewS (p : Pn) (limits : List Int) (st : St) : Prop where
 inv : HInv p st [⟨0, p.lines * 8, false⟩] (Hp.firstW p) 0
 up : st.m.down = false
 cut : st.m.cut = -1
 mv : Trn.moves st.m ≤ 15
 lim : ∀ j, 0 ≤ fk st.m j → limits ≠ []
 fr : Hp.isWorn st.worn st.m = false ∨ limits ≠ []
def qnl (w : World) (p : Pn) (limits : List Int) (e : Ending) (w' : World) : Prop :=
 Below w.heap.size w w' ∧ ((∃ W M C F st, e = .returned (.tuple #[.pointer (some ⟨W, 0, none⟩), .int .i64 0]) ∧ jg w' W M C p (.on st) 0 F ∧ (∀ j, F j → w.heap.size ≤ j) ∧ NewS p limits st) ∨ (∃ n : Int, n ≠ 0 ∧ e = .returned (.tuple #[.pointer none, .int .i64 n]) ∧ limits ≠ []))
section
variable {w : World} {p : Pn} {limits : List Int}
theorem NewS.quiet {st : St} (h : NewS p [] st) : Quiet st :=
 ⟨h.up, by rw [h.cut]; decide, fun j => by
  rcases Int.lt_or_le (fk st.m j) 0 with e | e
  ·exact e
  ·exact absurd rfl (h.lim j e), h.fr.resolve_right (fun e => e rfl)⟩
theorem qlj (hp : p.Ok) (A : Option Addr) (c : Nat) (hl : Kd.C (Kd.int .i64) w A limits.length limits) (hc : limits.length ≤ c) : Calls Tryz.prog 17 #[kj p, .slice A limits.length c] w (qnl w p limits) := by
 have hF := qb2 (limits := limits) hp p.lines.toNat (by have := hp.l1; omega);have hmv := hF.mv;have hi := qf3 (limits := limits) hp hF;refine (qcy hp A c limits hl hc (qjs hp) (fun h0 => ⟨hF.up, (hi h0).openOk hp hF.up (by omega), fun hr => (y6 (hi h0) hp hF.up (by omega) 0).inv.openOk2 hp ?_⟩)).mono ?_
 ·rcases (y6 (hi h0) hp hF.up (by omega) 0).res with e | ⟨e, _⟩
  ·exact e.2
  ·omega
 ·intro e w' h;obtain ⟨hb, k1, k2, k3⟩ := h;refine ⟨hb, ?_⟩;generalize Hp.fmtAt p (Nvm.fresh p.device limits) p.lines.toNat = fm at *;by_cases h0 : fm.1 = 0
  ·left;have hO := y6 (hi h0) hp hF.up (by omega) 0;generalize Lg.recover p.shape fm.2.1 0 = rc at *;have hr : rc.1 = 0 ∧ rc.2.1.down = false := by
    rcases hO.res with e | ⟨_, _, e⟩
    ·exact e
    ·have := hF.cut;omega
   obtain ⟨W, M, C, F, a, b, c⟩ := k1 h0 hr.1;have hcut := hF.cut;have hm := hO.mv;have hlim : ∀ j, 0 ≤ fk rc.2.1 j → limits ≠ [] := fun j hj => by rw [hO.lim, hF.lim] at hj;exact tq _ _ hj
   refine ⟨W, M, C, F, _, a, b, c, un hO.inv _, hr.2, ?_, ?_, hlim, ?_⟩
   ·show rc.2.1.cut = -1;rw [hO.cut (by omega)];exact hcut
   ·show Trn.moves rc.2.1 ≤ 15;omega
   ·rcases hO.cln hr.2 with e | ⟨j, hj⟩
    ·exact .inl ((ky hr.2).2 ⟨rfl, e⟩)
    ·exact .inr (by rw [hF.lim] at hj; exact tq _ _ hj)
  ·right;refine ⟨fm.1, h0, k3 h0, ?_⟩;rcases hF.res with ⟨e, _⟩ | ⟨_, j, hj⟩
   ·exact absurd e h0
   ·exact tq _ _ hj
end
section
variable {p : Pn} {st : St} {l : List S116} {v : List Int} {r K N : Int}
theorem qjg {n e off : Int} {st' : St} (h : Hp.AllocR p st n e off st') (hp : p.Ok) (hK : 0 ≤ K) (hN : N + 100 ≤ 1125899906842624) (w : Wr p.shape K N st.m st.puts) : Wr p.shape K (N + 100) st'.m st'.puts := by
 rcases h with ⟨_, _, _, rfl⟩ | ⟨_, _, _, _, rfl⟩ | ⟨_, _, _, _, _, _, _, rfl⟩ | ⟨_, _, _, _, _, _, _, _, _, rfl, _⟩ | ⟨_, es, _, _, _, _, _, _, _, _, rfl, _⟩
 ·exact w.grow (by omega)
 ·exact w.grow (by omega)
 ·exact w.grow (by omega)
 ·exact w.grow (by omega)
 ·exact qda hp hK hN _ _ w
theorem qds {W : Int} (hp : p.Ok) (h : HInv p st [⟨0, W, false⟩] v 0) (q : Quiet st) (hK : 0 ≤ K) (hN : N + 100 ≤ 1125899906842624) (w : Wr p.shape K N st.m st.puts) : ∃ st' l' v', Hp.DoR p st ⟨1, 0, 8, 0, []⟩ 0 8 [] st' ∧ HInv p st' l' v' 0 ∧ Quiet st' ∧ Wr p.shape K (N + 100) st'.m st'.puts ∧ uw l' 8 1 := by
 have hW : W = p.lines * 8 := by have := h.hv.1.2;have h : (0 : Int) + W = p.lines * 8 := this.2.2.2.2.2;omega
 have hl1 := hp.l1;have hmv := w.mv hK;obtain ⟨c, e1, off, st1, can, hA, hC, hoff⟩ := qah (n := 8) h hp (by omega) q.up q.fr (by decide) (j := 0) (by omega) (by simp) ⟨rfl, by show ij 8 ≤ W; rw [show ij 8 = 2 from by decide]; omega⟩;obtain ⟨rfl, hu1, h1⟩ := hC.quiet q.cut q.lim;have hc : c = 0 := by have h2 := can.2.1;have h3 := can.2.2.1;simp at h3;omega
 subst hc;rw [if_pos rfl] at hoff;have hoff : off = 8 := hoff;subst hoff;have hq1 := hC.kp.quiet q hu1;rw [show ij 8 = 2 from by decide] at *;have htk := qed can.2.2.2.2 (by show 2 ≤ W; omega);have hb : (⟨0, tk W 2, true⟩ : S116) ∈ crv [⟨0, W, false⟩] 0 2 := (qe1 (by omega) (by simp)).2 (.inr (.inl List.mem_cons_self));have htk3 : 2 ≤ tk W 2 := htk.2.2.2.2;exact ⟨st1, _, _, .inl ⟨rfl, rfl, hA⟩, h1, hq1, qjg hA hp hK hN w, by decide, by decide, _, hb, rfl, by show ((0 : Int) + 1) * 8 ≤ 8; decide, by show (8 : Int) ≤ (0 + tk W 2) * 8 - 1; omega⟩
theorem qdc {b : Int} (hp : p.Ok) (h : HInv p st l v r) (q : Quiet st) (hK : 0 ≤ K) (hN : N + 100 ≤ 1125899906842624) (w : Wr p.shape K N st.m st.puts) (hin : uw l 8 1) (hb : 0 ≤ b ∧ b ≤ 255) : ∃ st' v', Hp.DoR p st ⟨4, 8, 0, 0, [b]⟩ 0 0 [] st' ∧ HInv p st' l v' r ∧ Quiet st' ∧ Wr p.shape K (N + 100) st'.m st'.puts ∧ Trn.moves st.m ≤ Trn.moves st'.m := by
 have hws := h.ws hp q.up;have hmv := w.mv hK;have hB : Bys [b] := by
  intro j;unfold rd;rw [List.getD_eq_getElem?_getD];by_cases hj : j.toNat = 0
  ·rw [hj];exact hb
  ·rw [List.getElem?_eq_none (by simp; omega)];exact ⟨Int.le_refl 0, by decide⟩
 rcases qht (o := 8) h.hv hB with ⟨hno, _⟩ | ⟨_, es, ha, hap, hlen, hnil, hed⟩
 ·exact absurd hin hno
 ·have hne : es ≠ [] := fun e => by cases hnil.1 e
  obtain ⟨e0, he0⟩ := List.exists_mem_of_ne_nil es hne;have h00 := hed e0 he0;have hef : EdFit p es := qas hne (by omega) (8 / 8) h00.1 (fun e he => by have := hed e he; omega) (fun e he => by have := hed e he; omega);have hC := qep h hp q.up q.fr (by omega) hef (l' := l) (by rw [hap]; exact qhi h.hv hB hin) h.ri;have hw2 := qda hp hK hN v es w;have hkp := hC.kp;obtain ⟨h0, hu, hi⟩ := hC.quiet q.cut q.lim;generalize hcm : Hp.commit p st v es = cm at h0 hu hi hw2 hkp;obtain ⟨e, st'⟩ := cm;dsimp only at h0 hu hi hw2 hkp;subst h0;refine ⟨st', _, .inr (.inr (.inr (.inl ⟨rfl, rfl, rfl, .inr (.inr (.inr (.inr ⟨es, q.up, q.fr, hef.ok, by rw [hws]; exact ha, by rw [hws, hcm], by rw [hws, hcm]⟩)))⟩))), hi, hkp.quiet q hu, hw2, hkp.mv.1⟩
end
theorem qhb {s : Shape} {K N N' : Int} {m m' : Mem} {puts puts' : Int} (h : Wr s K N m puts) (h' : Wr s K N' m' puts') (hp : s.period ≤ 4) (hm : Trn.moves m ≤ Trn.moves m') : Int.tdiv (iu m' - iu m - (Trn.moves m' - Trn.moves m)) s.period - 1 ≤ Trn.moves m' - Trn.moves m ∧ Trn.moves m' - Trn.moves m ≤ Int.tdiv (iu m' - iu m - (Trn.moves m' - Trn.moves m)) s.period + 1 := by
 rw [h.eq, h'.eq];have a := h.pu;have b := h'.pu;have h1 : s.period = 1 ∨ s.period = 2 ∨ s.period = 3 ∨ s.period = 4 := by omega
 generalize Trn.moves m = x at *;generalize Trn.moves m' = y at *;obtain ⟨d, rfl⟩ : ∃ d : Nat, y = x + d := ⟨(y - x).toNat, by omega⟩;have key : ∀ P : Int, P = s.period → ∀ t : Int, t = P * d + (puts' - puts) → (0 ≤ t → t / P - 1 ≤ d ∧ d ≤ t / P + 1) → (t < 0 → (d : Int) = 0 ∧ Int.tdiv t P = 0) → Int.tdiv t P - 1 ≤ d ∧ d ≤ Int.tdiv t P + 1 := fun P _ t _ f g => by
  by_cases c : 0 ≤ t
  ·rw [Int.tdiv_eq_ediv_of_nonneg c];exact f c
  ·obtain ⟨e, e2⟩ := g (by omega);rw [e2];omega
 have hx : x + (d : Int) - x = d := by omega
 rw [hx];rcases h1 with e | e | e | e
 all_goals rw [e] at a b ⊢
 all_goals refine key _ e.symm _ (by omega) (fun _ => by omega) (fun c => ?_)
 all_goals obtain ⟨hd, ht⟩ : (d : Int) = 0 ∧ ((puts' - puts = -1) ∨ (puts' - puts = -2) ∨ (puts' - puts = -3)) := by omega
 all_goals refine ⟨hd, ?_⟩
 ·omega
 all_goals
  rcases ht with ht | ht | ht
  all_goals first
   | (rw [show (1 + 2) * (x + (d : Int)) + puts' + K - ((1 + 2) * x + puts + K) - d = -1 by omega]; decide)
   | (rw [show (1 + 3) * (x + (d : Int)) + puts' + K - ((1 + 3) * x + puts + K) - d = -1 by omega]; decide)
   | (rw [show (1 + 3) * (x + (d : Int)) + puts' + K - ((1 + 3) * x + puts + K) - d = -2 by omega]; decide)
   | (rw [show (1 + 4) * (x + (d : Int)) + puts' + K - ((1 + 4) * x + puts + K) - d = -1 by omega]; decide)
   | (rw [show (1 + 4) * (x + (d : Int)) + puts' + K - ((1 + 4) * x + puts + K) - d = -2 by omega]; decide)
   | (rw [show (1 + 4) * (x + (d : Int)) + puts' + K - ((1 + 4) * x + puts + K) - d = -3 by omega]; decide)
   | omega
theorem qg7 {p : Pn} (hp : p.Ok) : (Hp.fmtAt p (Nvm.fresh p.device []) p.lines.toNat).1 = 0 ∧ (Hp.fmtAt p (Nvm.fresh p.device []) p.lines.toNat).2.1.down = false ∧ OpenOk p (Hp.fmtAt p (Nvm.fresh p.device []) p.lines.toNat).2.1 ∧ ∃ m, Lg.recover p.shape (Hp.fmtAt p (Nvm.fresh p.device []) p.lines.toNat).2.1 0 = (0, m, 0) ∧ OpenOk2 p m ∧ HInv p (Hp.opened p m 0) [⟨0, p.lines * 8, false⟩] (Hp.firstW p) 0 ∧ Quiet (Hp.opened p m 0) ∧ ∃ K, 0 ≤ K ∧ K ≤ 1000 ∧ Wr p.shape K 200 m 0 := by
 have hl1 := hp.l1;have hl2 := hp.l2;have hF := qb2 (limits := []) hp p.lines.toNat (by omega);have hw := qm8 hp (qm6 hp) p.lines.toNat (by omega);have hmv := hF.mv;have hi := qf3 (limits := []) hp hF;generalize Hp.fmtAt p (Nvm.fresh p.device []) p.lines.toNat = fm at *;obtain ⟨e, m, puts⟩ := fm;dsimp only at hw hmv hi ⊢;have h0 : e = 0 := by
  rcases hF.res with ⟨e, _⟩ | ⟨_, j, hj⟩
  ·exact e
  ·exact absurd rfl (tq _ _ hj)
 have hu := hF.up;have hcnt := hF.cnt;dsimp only at hu hcnt;have hm := hi h0;have hrc : Lg.recover p.shape m 0 = (0, m, 0) := by unfold Lg.recover Lg.homes;rw [hu, hcnt];rfl
 have hO := (hm.openOk2 hp hu);refine ⟨h0, hu, hm.openOk hp hu (by omega), m, hrc, hO, un hm 0, ⟨hu, hw.b.cut, hw.b.lim, ?_⟩, puts, hw.pu.1, by have := hw.pu; have := hp.shape.p2; omega, ⟨hw.b, hw.len, hw.rlen, hw.r0, ?_, ?_, by have := hp.shape.p1; omega⟩⟩
 ·exact (ky hu).2 ⟨rfl, hcnt⟩
 ·rw [hw.eq];omega
 ·have := hw.le;omega
def mz (m : Mem) (k : Nat) : Int := ((m.cells.take k).map (·.wear)).sum
theorem qhg {m : Mem} (h : ∀ c ∈ m.cells, 0 ≤ c.wear) (k : Nat) : 0 ≤ mz m k ∧ mz m k ≤ iu m := by
 have h1 := (s9 (m.cells.take k) (fun c hc => h c (List.mem_of_mem_take hc))).1;have h2 := (s9 (m.cells.drop k) (fun c hc => h c (List.mem_of_mem_drop hc))).1;have h3 : iu m = mz m k + ((m.cells.drop k).map (·.wear)).sum := by unfold iu mz;rw [← List.sum_append, ← List.map_append, List.take_append_drop]
 unfold mz at h3 ⊢;omega
theorem qc8 {m : Mem} {k : Nat} (hk : k < m.cells.length) : mz m (k + 1) = mz m k + Nvm.wear m k := by
 have hh : Nvm.has m k = true := by unfold Nvm.has; simp; omega
 unfold mz Nvm.wear;rw [hh, if_pos rfl, List.take_succ_eq_append_getElem hk, List.map_append, List.sum_append, Int.toNat_natCast, List.getD_eq_getElem?_getD, List.getElem?_eq_getElem hk];simp
theorem q9 {w : World} {M C : Nat} {m : Mem} (h : MemAt w M C m) (hw : ∀ c ∈ m.cells, 0 ≤ c.wear) (hN : iu m ≤ 1125899906842624) : Calls Tryz.prog 13 #[.pointer (some ⟨M, 0, none⟩)] w fun e w' => e = .returned (.int .i64 (iu m)) ∧ w = w' := by
 have H := am h;have hf := h.few;have HW := am (fun k => qhg hw k);have HN := am hN;clear h hw hN;go_enter Tryz.func13, Tryz.ntmps13;go_wp2_with (first
  | (go_at_call 56; (with_reducible refine (nz H.out).mono ?_); rintro e w1 ⟨rfl, rfl⟩))
 go_loopw [3, 7] (fun v i wr => ∃ k : Nat, i = .int .i64 k ∧ k ≤ m.cells.length ∧ v = .int .i64 (mz m k) ∧ w = wr) (fun _ i _ => m.cells.length - (intOf i).toNat)
 case atStart => exact ⟨0, rfl, by omega, rfl, rfl⟩
 case round =>
  obtain ⟨k, rfl, hk, rfl, rfl⟩ := hrel;by_cases hlt : k < m.cells.length
  ·have d3 : decide ((k : Int) < m.cells.length) = true := decide_eq_true (by omega);have d3n : decide (k < m.cells.length) = true := decide_eq_true hlt;have hs := qc8 hlt;have hb := HW.out (k + 1);have HLT := am hlt;have hwr : wrap64 (mz m k + Nvm.wear m k) = mz m (k + 1) := by rw [← hs]; exact w64 (by have := HN.out; omega)
   have HWr := am hwr;clear hs hb hwr hlt;go_wp2_with (first
    | (go_at_call 57; (with_reducible refine (qfh H.out _).mono ?_); rintro e w2 ⟨rfl, rfl⟩))
   rw [HWr.out];go_roundw
   case rel => exact ⟨k + 1, by go_num, HLT.out, rfl, trivial⟩
   case measure => have := HLT.out; simp [intOf]; omega
  ·have hkk : k = m.cells.length := by omega
   subst hkk;have d3 : decide ((m.cells.length : Int) < m.cells.length) = false := decide_eq_false (by omega);have d3n : decide (m.cells.length < m.cells.length) = false := decide_eq_false (by omega);have HE : Aside0 (mz m m.cells.length = iu m) := ⟨by unfold mz iu; rw [List.take_length]⟩;go_wp2;go_ret;exact ⟨by rw [HE.out]; rfl, rfl⟩
def pnA : Pn := ⟨4, 1, 2, 2⟩
theorem uv : pnA.Ok := ⟨by decide, by decide, by decide, by decide, by decide, by decide, by decide, by decide⟩
theorem qnh (w : World) : Kd.C (Kd.int .u8) w none 0 [] := ⟨rfl, by decide, fun h => absurd h (Nat.lt_irrefl 0)⟩
theorem qlx (w : World) : Kd.C (Kd.int .i64) w none 0 [] := ⟨rfl, by decide, fun h => absurd h (Nat.lt_irrefl 0)⟩
theorem qmp {w : World} {W M C : Nat} {s s' : TS} {cost : Int} {F : Nat → Prop} {p : Pn} (h : jg w W M C p s cost F) (hp : p.Ok) (op : S39) (h4 : op.f4 = []) {e off : Int} {bs : List Int} (hr : TwR p s op e off bs s') : Calls Tryz.prog 21 #[.pointer (some ⟨W, 0, none⟩), .agg #[.int .i64 op.f0, .int .i64 op.f1, .int .i64 op.f2, .int .i64 op.f3, .slice none 0 0]] w (xz w W M C p (wrap64 (s'.mem.writes - s.mem.writes)) F e off bs s') := by
 have := qgy h op none 0 (by rw [h4]; exact qnh w) (by rw [h4]; exact Nat.le_refl 0) hp hr;unfold opV at this;rw [h4] at this;exact this
structure Stands (w0 w : World) (W M C : Nat) (p : Pn) (s : TS) (F : Nat → Prop) : Prop where
 tw : ∃ cost, jg w W M C p s cost F
 far : ∀ j, F j → w0.heap.size ≤ j
 below : Below w0.heap.size w0 w
theorem Stands.step {w0 w w' : World} {W M C : Nat} {p : Pn} {s s' : TS} {F F' : Nat → Prop} {cost : Int} (h : Stands w0 w W M C p s F) (ht : jg w' W M C p s' cost F') (kk : ah F w w') (hf : ∀ j, F' j → F j ∨ w.heap.size ≤ j) : Stands w0 w' W M C p s' F' :=
 ⟨⟨_, ht⟩, fun j hj => (hf j hj).elim (h.far j) (fun e => Nat.le_trans h.below.size e), h.below.trans (kk.below h.below.size (fun j hj e => by have := h.far j e; omega))⟩
theorem Stands.on {w0 w w' : World} {W M C : Nat} {p : Pn} {s : TS} {F : Nat → Prop} (h : Stands w0 w W M C p s F) (hb : Below w.heap.size w w') : Stands w0 w' W M C p s F := by
 obtain ⟨c, ht⟩ := h.tw;exact h.step (ht.below hb) (ah.of_below hb) (fun j hj => .inl hj)
def oa (w : World) (F : Nat → Prop) (g : Nat) (cs : List Value) : Prop := w.heap[g]? = some (.cells cs.toArray 36 (0, 0)) ∧ ¬ F g
theorem oa.step {w w' : World} {F F' : Nat → Prop} {g : Nat} {cs : List Value} (h : oa w F g cs) (kk : ah F w w') (hf : ∀ j, F' j → F j ∨ w.heap.size ≤ j) : oa w' F' g cs :=
 ⟨kk.of h.1 h.2, fun e => (hf g e).elim h.2 (fun e => by have := df h.1; omega)⟩
theorem oa.on {w w' : World} {F : Nat → Prop} {g : Nat} {cs : List Value} (h : oa w F g cs) (hb : Below w.heap.size w w') : oa w' F g cs := ⟨ai h.1 hb, h.2⟩
theorem oa.new {w w' : World} {W M C : Nat} {p : Pn} {s : TS} {F : Nat → Prop} {cs : List Value} {w0 : World} (h : Stands w0 w W M C p s F) (hb : w'.heap[w.heap.size]? = some (.cells cs.toArray 36 (0, 0))) : oa w' F w.heap.size cs := by
 obtain ⟨c, ht⟩ := h.tw;exact ⟨hb, fun e => by have := ht.lt _ e; omega⟩
theorem qix {w0 w : World} {W M C : Nat} {s s' : TS} {F : Nat → Prop} {p : Pn} (h : Stands w0 w W M C p s F) (hp : p.Ok) (op : S39) (h4 : op.f4 = []) {e off : Int} {bs : List Int} (hr : TwR p s op e off bs s') : Calls Tryz.prog 21 #[.pointer (some ⟨W, 0, none⟩), .agg #[.int .i64 op.f0, .int .i64 op.f1, .int .i64 op.f2, .int .i64 op.f3, .slice none 0 0]] w fun x w' => ∃ A c F', x = .returned (.agg #[.int .i64 e, .int .i64 off, .slice A bs.length c]) ∧ Stands w0 w' W M C p s' F' ∧ ah F w w' ∧ ∀ j, F' j → F j ∨ w.heap.size ≤ j := by
 obtain ⟨c, ht⟩ := h.tw;refine (qmp ht hp op h4 hr).mono ?_;rintro x w' ⟨d, F', rfl, ho, ht', kk, hf⟩;obtain ⟨A, c', rfl⟩ := Kd.R_slice ho;exact ⟨A, c', F', rfl, h.step ht' kk hf, kk, hf⟩
theorem qec (w : World) : Calls Tryz.prog 15 #[] w fun e w' => e = .returned (.bool true) ∧ Below w.heap.size w w' := by
 have HN : Aside0 (∀ w', Calls Tryz.prog 17 #[.agg #[.int .i64 4, .int .i64 1, .int .i64 2, .int .i64 2], .slice none 0 0] w' (qnl w' pnA [])) := ⟨fun w' => qlj (p := pnA) uv none 0 (qlx w') (Nat.le_refl 0)⟩;go_enter Tryz.func15, Tryz.ntmps15;go_wp2_with (first
  | (go_at_call 17; (with_reducible refine (HN.out _).mono ?_); rintro e w1 ⟨hb, ⟨W, M, C, F, st0, rfl, ht, hF, hs⟩ | ⟨n, hn, rfl, hl⟩⟩)
  )
 ·obtain ⟨st1, st2, st3, bs, r1, r2, r3, r4, r5, hbs⟩ := qdt uv hs.inv hs.quiet (by have := hs.mv; omega);have S1 := am (Stands.mk (w0 := w) ⟨_, ht⟩ hF hb);have A1 : Aside0 (∀ w' F', Stands w w' W M C pnA (.on st0) F' → Calls Tryz.prog 21 #[.pointer (some ⟨W, 0, none⟩), .agg #[.int .i64 1, .int .i64 0, .int .i64 9, .int .i64 0, .slice none 0 0]] w' fun x w'' => ∃ A c F'', x = .returned (.agg #[.int .i64 0, .int .i64 8, .slice A 0 c]) ∧ Stands w w'' W M C pnA (.on st1) F'' ∧ ah F' w' w'' ∧ ∀ j, F'' j → F' j ∨ w'.heap.size ≤ j) := ⟨fun w' F' h => qix h uv opA rfl r1⟩;have A2 : Aside0 (∀ w' F', Stands w w' W M C pnA (.on st1) F' → Calls Tryz.prog 21 #[.pointer (some ⟨W, 0, none⟩), .agg #[.int .i64 7, .int .i64 0, .int .i64 0, .int .i64 0, .slice none 0 0]] w' fun x w'' => ∃ A c F'', x = .returned (.agg #[.int .i64 0, .int .i64 0, .slice A 0 c]) ∧ Stands w w'' W M C pnA (.on { st1 with m := Nvm.cutAt st1.m 0 0 }) F'' ∧ ah F' w' w'' ∧ ∀ j, F'' j → F' j ∨ w'.heap.size ≤ j) := ⟨fun w' F' h => qix h uv opC rfl r2⟩;generalize TS.on { st1 with m := Nvm.cutAt st1.m 0 0 } = s2 at A2 r3;have A3 : Aside0 (∀ w' F', Stands w w' W M C pnA s2 F' → Calls Tryz.prog 21 #[.pointer (some ⟨W, 0, none⟩), .agg #[.int .i64 2, .int .i64 8, .int .i64 0, .int .i64 0, .slice none 0 0]] w' fun x w'' => ∃ A c F'', x = .returned (.agg #[.int .i64 2, .int .i64 0, .slice A 0 c]) ∧ Stands w w'' W M C pnA (.on st2) F'' ∧ ah F' w' w'' ∧ ∀ j, F'' j → F' j ∨ w'.heap.size ≤ j) := ⟨fun w' F' h => qix h uv opF rfl r3⟩;have A4 : Aside0 (∀ w' F', Stands w w' W M C pnA (.on st2) F' → Calls Tryz.prog 21 #[.pointer (some ⟨W, 0, none⟩), .agg #[.int .i64 8, .int .i64 0, .int .i64 0, .int .i64 0, .slice none 0 0]] w' fun x w'' => ∃ A c F'', x = .returned (.agg #[.int .i64 0, .int .i64 0, .slice A 0 c]) ∧ Stands w w'' W M C pnA (.on st3) F'' ∧ ah F' w' w'' ∧ ∀ j, F'' j → F' j ∨ w'.heap.size ≤ j) := ⟨fun w' F' h => qix h uv opS rfl r4⟩;have A5 : Aside0 (∀ w' F', Stands w w' W M C pnA (.on st3) F' → Calls Tryz.prog 21 #[.pointer (some ⟨W, 0, none⟩), .agg #[.int .i64 3, .int .i64 8, .int .i64 9, .int .i64 0, .slice none 0 0]] w' fun x w'' => ∃ A c F'', x = .returned (.agg #[.int .i64 0, .int .i64 0, .slice A 9 c]) ∧ Stands w w'' W M C pnA (.on st3) F'' ∧ ah F' w' w'' ∧ ∀ j, F'' j → F' j ∨ w'.heap.size ≤ j) := ⟨fun w' F' h => by have := qix h uv opR rfl r5; rw [hbs] at this; exact this⟩;clear ht hF hb hs r1 r2 r3 r4 r5 hbs;go_wp2_with (first
   | (go_at_call 21; (with_reducible refine (A1.out _ _ S1.out).mono ?_); rintro x w2 ⟨A, c, F2, rfl, hs, hk, hf⟩; have S2 := am hs; clear hs hk hf)
   | ((with_reducible refine bf (t := 36) (p := 3) rfl ?_); refine dj rfl 36 (.tmp 3) (.tmp 20) rfl _ (d5 0 8 (.slice A 0 c)) rfl rfl e6 rfl rfl ?_; intro w3 BZ HZb; have S3 := am (S2.out.on HZb.out); have B1 := am (oa.new S2.out BZ.out); generalize w2.heap.size = g1 at B1 ⊢; clear S2 BZ HZb)
   | (go_at_call 21; (with_reducible refine (A2.out _ _ S3.out).mono ?_); rintro x w4 ⟨A, c, F4, rfl, hs, hk, hf⟩; have S4 := am hs; have B2 := am (B1.out.step hk hf); clear hs hk hf B1)
   | (go_at_call 21; (with_reducible refine (A3.out _ _ S4.out).mono ?_); rintro x w5 ⟨A, c, F5, rfl, hs, hk, hf⟩; have S5 := am hs; have B3 := am (B2.out.step hk hf); clear hs hk hf B2)
   | ((with_reducible refine bf (t := 36) (p := 4) rfl ?_); refine dj rfl 36 (.tmp 4) (.tmp 26) rfl _ (d5 2 0 (.slice A 0 c)) rfl rfl e6 rfl rfl ?_; intro w6 BZ HZb; have S6 := am (S5.out.on HZb.out); have B4 := am (B3.out.on HZb.out); have D4 := am (oa.new S5.out BZ.out); generalize w5.heap.size = g2 at D4 ⊢; clear S5 BZ HZb B3)
   | (go_at_call 21; (with_reducible refine (A4.out _ _ S6.out).mono ?_); rintro x w7 ⟨A, c, F7, rfl, hs, hk, hf⟩; have S7 := am hs; have B5 := am (B4.out.step hk hf); have D5 := am (D4.out.step hk hf); clear hs hk hf B4 D4)
   | ((with_reducible refine bf (t := 36) (p := 5) rfl ?_); refine dj rfl 36 (.tmp 5) (.tmp 29) rfl _ (d5 0 0 (.slice A 0 c)) rfl rfl e6 rfl rfl ?_; intro w8 BZ HZb; have S8 := am (S7.out.on HZb.out); have B6 := am (B5.out.on HZb.out); have D6 := am (D5.out.on HZb.out); have E6 := am (oa.new S7.out BZ.out); generalize w7.heap.size = g3 at E6 ⊢; clear S7 BZ HZb B5 D5)
   | (go_at_call 21; (with_reducible refine (A5.out _ _ S8.out).mono ?_); rintro x w9 ⟨A, c, F9, rfl, hs, hk, hf⟩; have S9 := am hs; have B7 := am (B6.out.step hk hf); have D7 := am (D6.out.step hk hf); have E7 := am (E6.out.step hk hf); clear hs hk hf B6 D6 E6)
   | ((with_reducible refine bf (t := 36) (p := 6) rfl ?_); refine dj rfl 36 (.tmp 6) (.tmp 32) rfl _ (d5 0 0 (.slice A 9 c)) rfl rfl e6 rfl rfl ?_; intro w10 BZ HZb; have S10 := am (S9.out.on HZb.out); have B8 := am (B7.out.on HZb.out); have D8 := am (D7.out.on HZb.out); have E8 := am (E7.out.on HZb.out); have G8 := am (oa.new S9.out BZ.out); generalize w9.heap.size = g4 at G8 ⊢; clear S9 BZ HZb B7 D7 E7; have k1 : w10.cell? ⟨g1, 1, none⟩ = some (.int .i64 8) := (af B8.out.1 1).trans rfl; have k2 : w10.cell? ⟨g2, 0, none⟩ = some (.int .i64 2) := (af D8.out.1 0).trans rfl; have k3 : w10.cell? ⟨g3, 0, none⟩ = some (.int .i64 0) := (af E8.out.1 0).trans rfl; have k4 : w10.cell? ⟨g4, 2, none⟩ = some (.slice A 9 c) := (af G8.out.1 2).trans rfl))
  go_ret;exact ⟨rfl, S10.out.below⟩
 ·exact absurd rfl hl

section
variable {w0 w : World} {W M C : Nat} {p : Pn} {st : St} {F : Nat → Prop} {l : List S116} {v : List Int} {r : Int}
end
theorem qii (a b c d : Int) : ∃ p : Pn, p.Ok ∧ p.lines ≤ 24 ∧ p.period ≤ 30 ∧ ja.f a b c d = some (p.lines, p.spare, p.period, p.batch) := by
 refine ⟨⟨1 + a % 18446744073709551616 % 24, b % 18446744073709551616 % 17, 1 + c % 18446744073709551616 % 30, 1 + d % 18446744073709551616 % 10⟩, ⟨by dsimp only; omega, by dsimp only; omega, by dsimp only; omega, by dsimp only; omega, by dsimp only; omega, by dsimp only; omega, by dsimp only; omega, by dsimp only; omega⟩, by dsimp only; omega, by dsimp only; omega, ?_⟩;unfold ja.f ii.f;rw [qju a 24 (by decide) (by decide), qju b 17 (by decide) (by decide), qju c 30 (by decide) (by decide), qju d 10 (by decide) (by decide), w64 (n := 1 + a % 18446744073709551616 % 24) (by omega), w64 (n := 1 + c % 18446744073709551616 % 30) (by omega), w64 (n := 1 + d % 18446744073709551616 % 10) (by omega)];rfl
def qlu (a b c d : Int) : List Value := [.int .i64 a, .int .i64 b, .int .i64 c, .int .i64 d]
theorem qib (p : Pn) : ∀ v ∈ [Value.int .i64 p.lines, .int .i64 p.spare, .int .i64 p.period, .int .i64 p.batch], v.oneCell' = true := by
 intro v hv;simp only [List.mem_cons, List.not_mem_nil, or_false] at hv;rcases hv with rfl | rfl | rfl | rfl <;> rfl
theorem qjd {w3 : World} {g : Nat} {p p2 : Pn} {x : Int} (h : w3.heap[g]? = some (.cells [Value.int .i64 p.lines, .int .i64 p.spare, .int .i64 p.period, .int .i64 p.batch].toArray 23 (0, 0))) (e : p2.lines = p.lines ∧ p2.spare = 0 ∧ p2.period = x ∧ p2.batch = p.batch) : ((w3.setCell ⟨g, 1, none⟩ (.int .i64 0)).setCell ⟨g, 2, none⟩ (.int .i64 x)).heap[g]? = some (.cells (di p2).toArray 23 (0, 0)) := by
 obtain ⟨e1, e2, e3, e4⟩ := e;rw [heap_setCell_same _ _ _ _ _ _ (heap_setCell_same _ _ _ _ _ _ h)];unfold di;rw [e1, e2, e3, e4];rfl
theorem yj {ops : Array Oper} {rest : List Oper} {o : Oper} {a : Act} {w : World} {Q : Exit → Act → World → Prop} (hg : o.guard = none) (x : Operand) (ho : o.op = .buildSlice 34 1 #[(0, x)]) (v : Int) (hx : a.eval x = .int .u8 v) (h : wpList Tryz.prog ops Q rest (a.put o.dst (.slice (some ⟨w.heap.size, 0, none⟩) 1 1)) (w.alloc (.cells [Value.int .u8 v].toArray 5))) : wpList Tryz.prog ops Q (o :: rest) a w := by
 obtain ⟨i0, hi, hz0, hz1, hz2⟩ := info_parts qlo;refine wpList_buildSlice hg 34 5 1 #[(0, x)] ho #[.int .u8 v] i0 _ Tryz.underlying34 hi hz0 (by rw [hz1]; decide) (by rw [hz1]; decide) ?_ h;rw [hz1, show (#[(0, x)].map fun (i, x) => (i, a.eval x)).toList = [(0, a.eval x)] by simp, hx]
 kernel_rfl
theorem qit {w w' : World} (v : Int) (h : w'.heap[w.heap.size]? = some (.cells [Value.int .u8 v].toArray 5 (0, 0))) : Kd.C (Kd.int .u8) w' (some ⟨w.heap.size, 0, none⟩) 1 [v] := by
 refine ⟨rfl, by decide, fun _ => ⟨_, rfl, fun j p hp => ?_⟩⟩;cases j with
 | zero =>
  cases hp;refine ⟨[.int .u8 v], rfl, rfl, fun i u hu => ?_⟩;cases i with
  | zero => cases hu; exact (af h 0).trans rfl
  | succ i => cases hu
 | succ j => cases hp
theorem qjb (gy : Nat) : Tryz.prog.built 39 [(0, .int .i64 4), (1, .int .i64 8), (4, .slice (some ⟨gy, 0, none⟩) 1 1)] = some #[.int .i64 4, .int .i64 8, .int .i64 0, .int .i64 0, .slice (some ⟨gy, 0, none⟩) 1 1] := by kernel_rfl
structure RoundI (w wr : World) (b : Bl) (p : Pn) (st1 : St) (l1 : List S116) (K : Int) (k : Nat) : Prop where
 ex : ∃ st v, HeapAt wr b p st ∧ HInv p st l1 v 0 ∧ Quiet st ∧ Wr p.shape K (10000 + 100 * k) st.m st.puts ∧ Trn.moves st1.m ≤ Trn.moves st.m
 bx : wr.heap[w.heap.size]? = some (.cells (di p).toArray 23 (0, 0))
 bl : Below w.heap.size w wr
theorem RoundI.on {w wr w' : World} {b : Bl} {p : Pn} {st1 : St} {l1 : List S116} {K : Int} {k : Nat} (h : RoundI w wr b p st1 l1 K k) (hb : Below wr.heap.size wr w') : RoundI w w' b p st1 l1 K k := by
 obtain ⟨st, v, h1, h2⟩ := h.ex;exact ⟨⟨st, v, h1.below hb, h2⟩, ai h.bx hb, ab h.bl hb⟩
theorem RoundI.step {w wr : World} {b : Bl} {p : Pn} {st1 : St} {l1 : List S116} {K : Int} {k : Nat} (h : RoundI w wr b p st1 l1 K k) (hp : p.Ok) (hK : 0 ≤ K) (hin : uw l1 8 1) (hk : k ≤ 1000) (far : ∀ j, b.All j → w.heap.size < j) {y : Int} (hy : 0 ≤ y ∧ y ≤ 255) {A : Option Addr} {c : Nat} (hr : Kd.C (Kd.int .u8) wr A 1 [y]) (hc : 1 ≤ c) : Calls Tryz.prog 12 #[.pointer (some ⟨b.H, 0, none⟩), .agg #[.int .i64 4, .int .i64 8, .int .i64 0, .int .i64 0, .slice A 1 c]] wr fun x w' => ∃ A' c', x = .returned (.agg #[.int .i64 0, .int .i64 0, .slice A' 0 c']) ∧ RoundI w w' b p st1 l1 K (k + 1) := by
 obtain ⟨st, v, h1, h2, h3, h4, h5⟩ := h.ex;obtain ⟨st', v', hd, hi, hq, hw, hm⟩ := qdc hp h2 h3 hK (by omega) h4 hin hy;refine (xo h1 hp (h2.stOk (by have := h4.mv hK; omega)) ⟨4, 8, 0, 0, [y]⟩ A c hr hc 0 0 [] st' hd).mono ?_;rintro x w' ⟨d, rfl, ho, ht, kk⟩;obtain ⟨A', c', rfl⟩ := Kd.R_slice ho;exact ⟨A', c', rfl, ⟨st', v', ht, hi, hq, hw.grow (by omega), by omega⟩, kk.of h.bx (fun e => by have := far _ (.inl e); omega), h.bl.trans (kk.below h.bl.size (fun j hj e => by have := far _ (.inl e); omega))⟩
theorem TopRound_walk (w : World) (a b c d n : Int) : Calls Tryz.prog 3 #[.agg (qlu a b c d).toArray, .int .i64 n] w fun e w' => e = .returned (.bool true) ∧ Below w.heap.size w w' := by
 obtain ⟨p, hp, hp24, hp30, hsm⟩ := qii a b c d;obtain ⟨p2, hp2, e1, e2, e3, e4, h4⟩ : ∃ p2 : Pn, p2.Ok ∧ p2.lines = p.lines ∧ p2.spare = 0 ∧ p2.period = wrap64 (1 + Int.tmod p.period 4) ∧ p2.batch = p.batch ∧ p2.period ≤ 4 := by
  have h1 := hp.p1;have hm : Int.tmod p.period 4 = p.period % 4 := Int.tmod_eq_emod_of_nonneg (by omega);have hm2 : wrap64 (1 + Int.tmod p.period 4) = 1 + p.period % 4 := by rw [hm]; exact w64 (by omega)
  exact ⟨⟨p.lines, 0, 1 + p.period % 4, p.batch⟩, ⟨hp.l1, hp.l2, by dsimp only; omega, by dsimp only; omega, by dsimp only; omega, by dsimp only; omega, hp.b1, hp.b2⟩, rfl, rfl, hm2.symm, rfl, by dsimp only; omega⟩
 have HSm := am hsm;have HP2 := am hp2;obtain ⟨f0, fu, fo, m0, hrc, ho2, hi0, hq0, K, K0, K1, hw0⟩ := qg7 hp2;obtain ⟨st1, l1, v1, hd1, hi1, hq1, hw1, hin⟩ := qds hp2 hi0 hq0 K0 (by omega) hw0;have hd1' : 1 ≤ p2.device ∧ p2.device ≤ 200 := by have := hp2.l1; have := hp2.s1; have := hp2.l2; have := hp2.s2; unfold Pn.device; omega
 have HDev := am (vn hp2);have hdv : (16 + p2.lines + 1 + p2.spare) = (p2.device : Int) := by have := hp2.l1; have := hp2.s1; unfold Pn.device; omega
 rw [hdv] at HDev;have HNw : Aside0 (∀ w' : World, Calls Tryz.prog 8 #[.int .i64 p2.device, .slice none 0 0] w' fun e w'' => ∃ M C, e = .returned (.pointer (some ⟨M, 0, none⟩)) ∧ MemAt w'' M C (Nvm.fresh p2.device []) ∧ w'.heap.size ≤ M ∧ w'.heap.size ≤ C ∧ Below w'.heap.size w' w'') := ⟨fun w' => qbx w' p2.device none 0 [] hd1'.1 hd1'.2 (qlx w') (Nat.le_refl 0)⟩;have HFm : Aside0 (∀ (w' : World) (M C : Nat), MemAt w' M C (Nvm.fresh p2.device []) → Calls Tryz.prog 10 #[.pointer (some ⟨M, 0, none⟩), kj p2] w' fun e w'' => e = .returned (.int .i64 0) ∧ MemAt w'' M C (Hp.fmtAt p2 (Nvm.fresh p2.device []) p2.lines.toNat).2.1 ∧ ah (MC M C) w' w'') := ⟨fun w' M C h => by have := wq h hp2 (qjs hp2); rwa [f0] at this⟩;have HOp : Aside0 (∀ (w' : World) (M C : Nat), MemAt w' M C (Hp.fmtAt p2 (Nvm.fresh p2.device []) p2.lines.toNat).2.1 → Calls Tryz.prog 11 #[.pointer (some ⟨M, 0, none⟩), kj p2] w' fun e w'' => ah (MC M C) w' w'' ∧ ∃ b : Bl, b.M = M ∧ b.C = C ∧ e = .returned (.tuple #[.pointer (some ⟨b.H, 0, none⟩), .int .i64 0]) ∧ HeapAt w'' b p2 (Hp.opened p2 m0 0) ∧ ∀ j, b.All j → j = M ∨ j = C ∨ w'.heap.size ≤ j) := ⟨fun w' M C h => by
  have := zy h hp2 fu fo (fun _ => by rw [hrc]; exact ho2);rw [hrc] at this;refine this.mono ?_;rintro e w'' ⟨kk, h1, _⟩;exact ⟨kk, h1 rfl⟩⟩
 generalize Hp.fmtAt p2 (Nvm.fresh p2.device []) p2.lines.toNat = fm at HFm HOp fo fu f0 hrc;generalize Nvm.fresh p2.device [] = mf at HFm HNw;generalize p2.device = dv at HDev HNw;have HA1 : Aside0 (∀ (w' : World) (b : Bl), HeapAt w' b p2 (Hp.opened p2 m0 0) → Calls Tryz.prog 12 #[.pointer (some ⟨b.H, 0, none⟩), .agg #[.int .i64 1, .int .i64 0, .int .i64 8, .int .i64 0, .slice none 0 0]] w' fun x w'' => ∃ A c, x = .returned (.agg #[.int .i64 0, .int .i64 8, .slice A 0 c]) ∧ HeapAt w'' b p2 st1 ∧ ah b.W w' w'') := ⟨fun w' b h => by
  refine (xo h hp2 (hi0.stOk (by have := hw0.mv K0; show Trn.moves m0 + 40 ≤ _; omega)) ⟨1, 0, 8, 0, []⟩ none 0 (qnh w') (Nat.le_refl 0) 0 8 [] st1 hd1).mono ?_;rintro x w'' ⟨d, rfl, ho, ht, kk⟩;obtain ⟨A, c, rfl⟩ := Kd.R_slice ho;exact ⟨A, c, rfl, ht, kk⟩⟩
 have HI1 : Aside0 (∃ v, HInv p2 st1 l1 v 0) := ⟨v1, hi1⟩;have HQ1 := am hq1;have HW1 := am hw1;have HIn := am hin;have HK0 := am K0;have H4 := am h4;clear f0 fu fo hrc ho2 hi0 hq0 K1 hw0 hd1 hi1 hq1 hw1 hin hd1' hdv hsm hp2 K0;unfold qlu at *;have BX : Aside0 ((w.alloc (.cells [.int .i64 a, .int .i64 b, .int .i64 c, .int .i64 d].toArray 23)).heap[w.heap.size]? = some (.cells [.int .i64 a, .int .i64 b, .int .i64 c, .int .i64 d].toArray 23 (0, 0))) := ⟨heap_alloc_new w _⟩;have HB0 : Aside0 (Below w.heap.size w (w.alloc (.cells [.int .i64 a, .int .i64 b, .int .i64 c, .int .i64 d].toArray 23))) := ⟨(Below.refl _ _).alloc (Nat.le_refl _) _⟩;have HE : Aside0 (p2.lines = p.lines ∧ p2.spare = 0 ∧ p2.period = wrap64 (1 + Int.tmod p.period 4) ∧ p2.batch = p.batch) := ⟨e1, e2, e3, e4⟩;clear hp e1 e2 e3 e4 h4;go_enter Tryz.func3, Tryz.ntmps3;go_wp2_with (first
  | ((with_reducible refine ez (.load 23 (.tmp 2)) rfl ?_); refine aq rfl 23 (.tmp 2) rfl w.heap.size 0 rfl [.int .i64 a, .int .i64 b, .int .i64 c, .int .i64 d] _ (fun j v hv => by rw [Nat.zero_add]; exact bh BX.out j v hv) Tryz.underlying23 rfl gp ?_)
  | (go_at_call 7; (with_reducible refine (ja.calls a b c d p.lines p.spare p.period p.batch _ HSm.out).mono ?_); rintro e w2 ⟨rfl, hb⟩; have HB2 := am (ab HB0.out hb); have BX2 := am (ai BX.out hb); clear hb BX)
  | ((with_reducible refine bf (t := 23) (p := 2) rfl ?_); refine dk rfl 23 (.tmp 2) (.tmp 17) rfl w.heap.size 0 [.int .i64 p.lines, .int .i64 p.spare, .int .i64 p.period, .int .i64 p.batch] rfl rfl 23 [.int .i64 a, .int .i64 b, .int .i64 c, .int .i64 d] BX2.out gp (Nat.le_refl _) (qib p) ?_; rw [iy [Value.int .i64 p.lines, .int .i64 p.spare, .int .i64 p.period, .int .i64 p.batch] [.int .i64 a, .int .i64 b, .int .i64 c, .int .i64 d] rfl]; have BX3 : Aside0 ((w2.setRow w.heap.size [Value.int .i64 p.lines, .int .i64 p.spare, .int .i64 p.period, .int .i64 p.batch].toArray).heap[w.heap.size]? = some (.cells [.int .i64 p.lines, .int .i64 p.spare, .int .i64 p.period, .int .i64 p.batch].toArray 23 (0, 0))) := ⟨setRow_heap _ _ _ _ _ _ BX2.out⟩; have HB3 := am (em HB2.out (Nat.le_refl _) [Value.int .i64 p.lines, .int .i64 p.spare, .int .i64 p.period, .int .i64 p.batch].toArray); generalize w2.setRow w.heap.size _ = w3 at BX3 HB3 ⊢; have k1 : w3.cell? ⟨w.heap.size, 1, none⟩ = some (.int .i64 p.spare) := (af BX3.out 1).trans rfl; have k2 : w3.cell? ⟨w.heap.size, 2, none⟩ = some (.int .i64 p.period) := (af BX3.out 2).trans rfl; have f1 : w3.frozen? ⟨w.heap.size, 1, none⟩ = false := ac BX3.out 1; have f2 : w3.frozen? ⟨w.heap.size, 2, none⟩ = false := ac BX3.out 2; have k3 : (w3.setCell ⟨w.heap.size, 1, none⟩ (.int .i64 0)).cell? ⟨w.heap.size, 2, none⟩ = some (.int .i64 p.period) := (af (heap_setCell_same w3 w.heap.size 1 _ _ _ BX3.out) 2).trans rfl; have BX4 : Aside0 (((w3.setCell ⟨w.heap.size, 1, none⟩ (.int .i64 0)).setCell ⟨w.heap.size, 2, none⟩ (.int .i64 (wrap64 (1 + Int.tmod p.period 4)))).heap[w.heap.size]? = some (.cells (di p2).toArray 23 (0, 0))) := ⟨qjd BX3.out HE.out⟩; have HB4 := am ((HB3.out.setCell (p := ⟨w.heap.size, 1, none⟩) (Nat.le_refl _) (.int .i64 0)).setCell (p := ⟨w.heap.size, 2, none⟩) (Nat.le_refl _) (.int .i64 (wrap64 (1 + Int.tmod p.period 4)))); clear BX2 HB2 HSm HB3 BX3)
  | ((with_reducible refine ez (.load 23 (.tmp 2)) rfl ?_); refine aq rfl 23 (.tmp 2) rfl w.heap.size 0 rfl (di p2) _ (fun j v hv => by rw [Nat.zero_add]; exact bh BX4.out j v hv) Tryz.underlying23 rfl gp ?_; generalize (w3.setCell _ _).setCell _ _ = w4 at BX4 HB4 ⊢; clear k1 k2 k3 f1 f2)
  | (go_at_call 9; refine (jy.calls p2.lines p2.spare p2.period p2.batch _ _ HDev.out).mono ?_; rintro e w5 ⟨rfl, hb⟩; have HB5 := am (ab HB4.out hb); have BX5 := am (ai BX4.out hb); clear hb HB4 BX4)
  | (go_at_call 8; (with_reducible refine (HNw.out _).mono ?_); rintro e w6 ⟨M, C, rfl, hm, hM, hC, hb⟩; have BX6 := am (ai BX5.out hb); have HB6 := am (ab HB5.out hb); have HM6 := am hm; have hMw : w.heap.size < M := Nat.lt_of_lt_of_le (df BX5.out) hM; have hCw : w.heap.size < C := Nat.lt_of_lt_of_le (df BX5.out) hC; have HMC := am (And.intro hMw hCw); clear hb hm hM hC hMw hCw HB5 BX5)
  | ((with_reducible refine ez (.load 23 (.tmp 2)) rfl ?_); refine aq rfl 23 (.tmp 2) rfl w.heap.size 0 rfl (di p2) _ (fun j v hv => by rw [Nat.zero_add]; exact bh BX6.out j v hv) Tryz.underlying23 rfl gp ?_)
  | (go_at_call 10; (refine (HFm.out _ M C HM6.out).mono ?_); rintro e w7 ⟨rfl, hm, kk⟩; have BX7 := am (kk.of BX6.out (fun e => by have := HMC.out; rcases e with e | e <;> omega)); have HB7 := am (HB6.out.trans (kk.below HB6.out.size (fun j hj e => by have := HMC.out; rcases e with e | e <;> omega))); have HM7 := am hm; clear hm kk HB6 BX6 HM6)
  | ((with_reducible refine ez (.load 23 (.tmp 2)) rfl ?_); refine aq rfl 23 (.tmp 2) rfl w.heap.size 0 rfl (di p2) _ (fun j v hv => by rw [Nat.zero_add]; exact bh BX7.out j v hv) Tryz.underlying23 rfl gp ?_)
  | (go_at_call 11; (refine (HOp.out _ M C HM7.out).mono ?_); rintro e w8 ⟨kk, b, hbM, hbC, rfl, hh, hall⟩; subst hbM hbC; have BX8 := am (kk.of BX7.out (fun e => by have := HMC.out; rcases e with e | e <;> omega)); have HB8 := am (HB7.out.trans (kk.below HB7.out.size (fun j hj e => by have := HMC.out; rcases e with e | e <;> omega))); have HH8 := am hh; have HFar : Aside0 (∀ j, b.All j → w.heap.size < j) := ⟨fun j hj => by have := HMC.out; have := df BX7.out; rcases hall j hj with e | e | e <;> omega⟩; clear hh hall kk HB7 BX7 HM7)
  | (go_at_call 12; (with_reducible refine (HA1.out _ b HH8.out).mono ?_); rintro x w9 ⟨A, c', rfl, hh, kk⟩; have BX9 := am (kk.of BX8.out (fun e => by have := HFar.out _ (.inl e); omega)); have HB9 := am (HB8.out.trans (kk.below HB8.out.size (fun j hj e => by have := HFar.out _ (.inl e); omega))); have HH9 := am hh; clear hh kk HB8 BX8 HH8)
  | ((with_reducible refine bf (t := 36) (p := 8) rfl ?_); refine dj rfl 36 (.tmp 8) (.tmp 49) rfl _ (d5 0 8 (.slice A 0 c')) rfl rfl e6 rfl rfl ?_; intro w10 BZ HZb; have BX10 := am (ai BX9.out HZb.out); have HB10 := am (ab HB9.out HZb.out); have HH10 := am (HH9.out.below HZb.out); have z0 : w10.cell? ⟨w9.heap.size, 0, none⟩ = some (.int .i64 0) := (af BZ.out 0).trans rfl; clear BZ HZb BX9 HB9 HH9; generalize w9.heap.size = g8 at z0 ⊢)
  | (go_at_call 13; (with_reducible refine (q9 HH10.out.tur.mem HW1.out.b.w0 (by have := HW1.out.le; omega)).mono ?_); rintro e w11 ⟨rfl, rfl⟩)
  | (go_at_call 14; (with_reducible refine (wt HH10.out.box HH10.out.tur HQ1.out.up).mono ?_); rintro e w11 ⟨rfl, rfl⟩))
 obtain ⟨nn, hnn, hn3⟩ : ∃ nn : Nat, wrap64 ((IntKind.u64.wrap n).tmod 300) = nn ∧ nn ≤ 300 := by have h := qju n 300 (by decide) (by decide);exact ⟨(n % 18446744073709551616 % 300).toNat, by rw [h]; omega, by omega⟩
 rw [hnn];have HN3 := am hn3;have HR : Aside0 (RoundI w w10 b p2 st1 l1 K 0) := ⟨⟨by
  obtain ⟨v, hv⟩ := HI1.out;exact ⟨st1, v, HH10.out, hv, HQ1.out, HW1.out.grow (by omega), Int.le_refl _⟩, BX10.out, HB10.out⟩⟩
 clear hnn hn3 z0 BX10 HB10 HH10;go_loopw [58] (fun i wr => ∃ k : Nat, i = .int .i64 k ∧ k ≤ nn ∧ Aside0 (RoundI w wr b p2 st1 l1 K k)) (fun i _ => nn - (intOf i).toNat)
 case atStart => exact ⟨0, rfl, by omega, HR⟩
 case round =>
  clear HR;obtain ⟨k, rfl, hk, HR⟩ := hrel;by_cases hlt : k < nn
  ·have d3 : decide ((k : Int) < (nn : Int)) = true := decide_eq_true (by omega);have d3n : decide (k < nn) = true := decide_eq_true hlt;have hk3 := HN3.out;have hy : 0 ≤ IntKind.u8.wrap (k : Int) ∧ IntKind.u8.wrap (k : Int) ≤ 255 := by rw [IntKind.wrap_u8]; omega
   generalize hyy : IntKind.u8.wrap (k : Int) = y at hy;have HY := am hy;have HYy := am hyy;have HLT := am hlt;have hwk : wrap64 ((k : Int) + 1) = ((k + 1 : Nat) : Int) := by rw [w64 (by omega)]; rfl
   have HWk := am hwk;clear hy hyy hlt hwk;go_wp2_with (first
    | ((with_reducible refine bn (N := 64) rfl ?_); refine yj rfl (.tmp 63) rfl y (by rw [← HYy.out]; rfl) ?_; have BY := am (qit y (heap_alloc_new wr (.cells [Value.int .u8 y].toArray 5))); have HR1 := am (HR.out.on ((Below.refl wr.heap.size wr).alloc (Nat.le_refl _) (.cells [Value.int .u8 y].toArray 5))); generalize wr.alloc _ = w1 at BY HR1 ⊢; generalize wr.heap.size = gy at BY ⊢; clear HR)
    | ((with_reducible refine bn (N := 65) rfl ?_); refine ku rfl 39 _ rfl [(0, .int .i64 4), (1, .int .i64 8), (4, .slice (some ⟨gy, 0, none⟩) 1 1)] #[.int .i64 4, .int .i64 8, .int .i64 0, .int .i64 0, .slice (some ⟨gy, 0, none⟩) 1 1] (by simp; rfl) (qjb gy) ?_)
    | (go_at_call 12; (with_reducible refine (HR1.out.step HP2.out HK0.out HIn.out (by have := HLT.out; have := HN3.out; omega) HFar.out HY.out BY.out (Nat.le_refl 1)).mono ?_); rintro x w2 ⟨A', c2, rfl, hr⟩; have HR2 := am hr; clear hr HR1 BY)
    | ((with_reducible refine bf (t := 36) (p := 12) rfl ?_); refine dj rfl 36 (.tmp 12) (.tmp 66) rfl _ (d5 0 0 (.slice A' 0 c2)) rfl rfl e6 rfl rfl ?_; intro w3 BZ HZb; have HR3 := am (HR2.out.on HZb.out); have z0 : w3.cell? ⟨w2.heap.size, 0, none⟩ = some (.int .i64 0) := (af BZ.out 0).trans rfl; clear BZ HZb HR2; generalize w2.heap.size = g12 at z0 ⊢))
   exact ⟨⟨k + 1, congrArg _ (by omega), HLT.out, HR3⟩, by have := HLT.out; simp [intOf]; omega⟩
  ·have hkk : k = nn := by omega
   subst hkk;have d3 : decide ((k : Int) < (k : Int)) = false := decide_eq_false (by omega);have d3n : decide (k < k) = false := decide_eq_false (by omega);obtain ⟨⟨st, v, hh, hi, hq, hw, hm⟩, hbx, hbl⟩ := HR.out;obtain ⟨t1, t2⟩ := qhb HW1.out hw H4.out hm;have m1 := hw.mv HK0.out;have m2 := hw.r0;have m3 := HW1.out.r0;have m4 : 0 ≤ iu st1.m := (s9 _ HW1.out.b.w0).1;have m5 : 0 ≤ iu st.m := (s9 _ hw.b.w0).1;have m6 := hw.le;have m7 := HW1.out.le;have m8 := HW1.out.mv HK0.out;have m9 := HN3.out;have hper := HP2.out.p1;have k2 : wr.cell? ⟨w.heap.size, 2, none⟩ = some (.int .i64 p2.period) := (af hbx 2).trans rfl;have hz : ¬ p2.period = 0 := by omega
   have hz2 : (p2.period = 0) = False := eq_false hz;have hz3 : decide (p2.period = 0) = false := decide_eq_false hz;have HL := am (q9 hh.tur.mem hw.b.w0 (by omega));have HM := am (wt hh.box hh.tur hq.up);have HBl := am hbl;have m10 : p2.shape.period = p2.period := rfl;rw [m10] at t1 t2;clear hh hbx hbl hi hq hw HR;have E1 : wrap64 (iu st.m - iu st1.m) = iu st.m - iu st1.m := w64 (by omega);have E2 : wrap64 (Trn.moves st.m - Trn.moves st1.m) = Trn.moves st.m - Trn.moves st1.m := w64 (by omega);have E3 : wrap64 (iu st.m - iu st1.m - (Trn.moves st.m - Trn.moves st1.m)) = iu st.m - iu st1.m - (Trn.moves st.m - Trn.moves st1.m) := w64 (by omega);have E4 : wrap64 (Int.tdiv (iu st.m - iu st1.m - (Trn.moves st.m - Trn.moves st1.m)) p2.period) = Int.tdiv (iu st.m - iu st1.m - (Trn.moves st.m - Trn.moves st1.m)) p2.period := w64 (by omega);have T1 : decide (wrap64 (wrap64 ((wrap64 (wrap64 (iu st.m - iu st1.m) - wrap64 (Trn.moves st.m - Trn.moves st1.m))).tdiv p2.period) - 1) ≤ wrap64 (Trn.moves st.m - Trn.moves st1.m)) = true := decide_eq_true (by rw [E1, E2, E3, E4, w64 (by omega)]; exact t1);have T2 : decide (wrap64 (Trn.moves st.m - Trn.moves st1.m) ≤ wrap64 (wrap64 ((wrap64 (wrap64 (iu st.m - iu st1.m) - wrap64 (Trn.moves st.m - Trn.moves st1.m))).tdiv p2.period) + 1)) = true := decide_eq_true (by rw [E1, E2, E3, E4, w64 (by omega)]; exact t2);clear E1 E2 E3 E4 t1 t2 m1 m2 m3 m4 m5 m6 m7 m8 m9 hper m10;go_wp2_with (first
    | (go_at_call 13; (with_reducible refine HL.out.mono ?_); rintro e w11 ⟨rfl, rfl⟩)
    | (go_at_call 14; (with_reducible refine HM.out.mono ?_); rintro e w11 ⟨rfl, rfl⟩)
    | (go_at_call 15; (with_reducible refine (qec _).mono ?_); rintro e w11 ⟨rfl, hb⟩; have HBz := am (ab HBl.out hb); clear hb))
   trace "AT RET"
   all_goals first | (go_ret; exact ⟨rfl, HBz.out⟩) | exact absurd (by assumption) hz
end Go.Proofs.YtmfhaliclnnbaaaGreat.Sys
