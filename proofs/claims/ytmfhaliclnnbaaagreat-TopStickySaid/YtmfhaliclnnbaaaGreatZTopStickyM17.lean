import Derived.Test.YtmfhaliclnnbaaaGreatZTopStickyM16
import Derived.Test.YtmfhaliclnnbaaaGreatZTopStickyM15
import Derived.Test.YtmfhaliclnnbaaaGreatZTopStickyM3
import Derived.Test.YtmfhaliclnnbaaaGreatZTopStickyM10
namespace Go.Proofs.YtmfhaliclnnbaaaGreat.Sys
open Go.RowKit Go.Proofs.YtmfhaliclnnbaaaGreatW.PrintWords Go.Proofs.YtmfhaliclnnbaaaGreatW.PrintLast Go.Proofs.YtmfhaliclnnbaaaGreatW.PrintMore
open Go.Proofs.YtmfhaliclnnbaaaGreat.XTopWhole Go.Proofs.YtmfhaliclnnbaaaGreat.Pl Go.Maps
set_option linter.unusedVariables false
set_option linter.unusedSimpArgs false
set_option maxRecDepth 100000
set_option maxHeartbeats 8000000
def Pn.device (p : Pn) : Nat := (16 + p.lines + 1 + p.spare).toNat
theorem qhj (M : Nat) (p : Pn) : Tryz.prog.built 104 [(0, .agg (d5 p).toArray), (1, .pointer (some ⟨M, 0, none⟩))] = some (qc6 p M (.pointer none) 0).toArray := by kernel_rfl
def qn2 (w : World) (p : Pn) (fm rc : Int × Mem × Int) (e : Ending) (w' : World) : Prop :=
 Below w.heap.size w w' ∧
 (fm.1 = 0 → rc.1 = 0 → ∃ W M C F, e = .returned (.tuple #[.pointer (some ⟨W, 0, none⟩), .int .i64 0]) ∧ ja w' W M C p (.on (Hp.opened p rc.2.1 rc.2.2)) 0 F ∧ (∀ j, F j → w.heap.size ≤ j)) ∧
 (fm.1 = 0 → rc.1 ≠ 0 → e = .returned (.tuple #[.pointer none, .int .i64 rc.1])) ∧ (fm.1 ≠ 0 → e = .returned (.tuple #[.pointer none, .int .i64 fm.1]))
section
variable {w : World} {p : Pn}
theorem qdh (hp : p.Ok) (A : Option Addr) (c : Nat) (limits : List Int) (hl : Kd.C (Kd.int .i64) w A limits.length limits) (hc : limits.length ≤ c) (hf : FmtOk p (Nvm.fresh p.device limits)) (ho : (Hp.fmtAt p (Nvm.fresh p.device limits) p.lines.toNat).1 = 0 → (Hp.fmtAt p (Nvm.fresh p.device limits) p.lines.toNat).2.1.down = false ∧ OpenOk p (Hp.fmtAt p (Nvm.fresh p.device limits) p.lines.toNat).2.1 ∧ ((Lg.recover p.shape (Hp.fmtAt p (Nvm.fresh p.device limits) p.lines.toNat).2.1 0).1 = 0 → OpenOk2 p (Lg.recover p.shape (Hp.fmtAt p (Nvm.fresh p.device limits) p.lines.toNat).2.1 0).2.1)) : Calls Tryz.prog 17 #[mc p, .slice A limits.length c] w (qn2 w p (Hp.fmtAt p (Nvm.fresh p.device limits) p.lines.toNat) (Lg.recover p.shape (Hp.fmtAt p (Nvm.fresh p.device limits) p.lines.toNat).2.1 0)) := by
 have HMay := am (rh hp);have HDev := am (qat hp);have hdv : (16 + p.lines + 1 + p.spare) = (p.device : Int) := by have := hp.l1;have := hp.s1;unfold Pn.device;omega
 rw [hdv] at HDev;have hd1 : 1 ≤ p.device := by have := hp.l1; have := hp.s1; unfold Pn.device; omega
 have hd2 : p.device ≤ 200 := by have := hp.l2; have := hp.s2; unfold Pn.device; omega
 have HL := am hl;have HC := am hc;have HFm : Aside0 (∀ (w' : World) (M C : Nat), MemAt w' M C (Nvm.fresh p.device limits) → Calls Tryz.prog 10 #[.pointer (some ⟨M, 0, none⟩), mc p] w' fun e w'' => e = .returned (.int .i64 (Hp.fmtAt p (Nvm.fresh p.device limits) p.lines.toNat).1) ∧ MemAt w'' M C (Hp.fmtAt p (Nvm.fresh p.device limits) p.lines.toNat).2.1 ∧ aj (MC M C) w' w'') := ⟨fun w' M C h => qcu h hp hf⟩;have HNw : Aside0 (∀ (w' : World), Kd.C (Kd.int .i64) w' A limits.length limits → Calls Tryz.prog 8 #[.int .i64 p.device, .slice A limits.length c] w' fun e w'' => ∃ M C, e = .returned (.pointer (some ⟨M, 0, none⟩)) ∧ MemAt w'' M C (Nvm.fresh p.device limits) ∧ w'.heap.size ≤ M ∧ w'.heap.size ≤ C ∧ Below w'.heap.size w' w'') := ⟨fun w' h => qhv w' p.device A c limits hd1 hd2 h hc⟩;have HO := am ho;have HP := am hp;clear hl hc hf ho hp hd1 hd2 hdv;generalize Nvm.fresh p.device limits = m0 at HFm HNw HO ⊢;generalize Hp.fmtAt p m0 p.lines.toNat = fm at HFm HO ⊢;generalize p.device = dv at HDev HNw;have HOpen : Aside0 (fm.1 = 0 → ∀ (w' : World) (W M C : Nat), ko w' W p M (.pointer none) 0 → MemAt w' M C fm.2.1 → W ≠ M → W ≠ C → Calls Tryz.prog 59 #[.pointer (some ⟨W, 0, none⟩)] w' (qaf w' W M C p 0 (Lg.recover p.shape fm.2.1 0))) := ⟨fun h0 w' W M C h1 h2 h3 h4 => xv h1 h2 h3 h4 HP.out (HO.out h0).1 (HO.out h0).2.1 (HO.out h0).2.2⟩;generalize Lg.recover p.shape fm.2.1 0 = rc at HOpen ⊢;clear HO;have BX : Aside0 ((w.alloc (.cells (d5 p).toArray 23)).heap[w.heap.size]? = some (.cells (d5 p).toArray 23 (0, 0))) := ⟨heap_alloc_new w _⟩;have HBx : Aside0 (Below w.heap.size w (w.alloc (.cells (d5 p).toArray 23))) := ⟨(Below.refl _ _).alloc (Nat.le_refl _) _⟩;go_enter Tryz.func17, Tryz.ntmps17;go_wp2_with (first
  | ((with_reducible refine fc (.load 23 (.tmp 2)) rfl ?_); refine aq rfl 23 (.tmp 2) rfl w.heap.size 0 rfl (d5 p) _ (fun j v hv => by rw [Nat.zero_add]; exact bh BX.out j v hv) Tryz.underlying23 rfl ii ?_)
  | (go_at_call 32; refine (fa.calls p.lines p.spare p.period p.batch true _ HMay.out).mono ?_; rintro e w1 ⟨rfl, hb⟩; have HB1 := am (ac HBx.out hb); have BX1 := am (ai BX.out hb); clear hb))
 refine d6 (n := 8) (S := fun w' => w'.heap[w.heap.size]? = some (.cells (d5 p).toArray 23 (0, 0))) (ds := []) (onA 8 0) (by kernel_rfl) rfl rfl BX1.out (fun hHeld => ?_);refine pu 3 (some 15) (bA 8 8) (h := ?_);refine tv 0 (some 12) (bA 8 9) rfl hHeld (fun w' hs => bz 23 (.tmp 2) rfl w.heap.size 0 rfl (d5 p) _ (fun j v hv => by rw [Nat.zero_add]; exact bh hs j v hv) Tryz.underlying23 rfl ii) (h := ?_);refine tv 1 (some 13) (bA 8 11) rfl hHeld (fun w' hs => bz 23 (.tmp 2) rfl w.heap.size 0 rfl (d5 p) _ (fun j v hv => by rw [Nat.zero_add]; exact bh hs j v hv) Tryz.underlying23 rfl ii) (h := ?_);refine gq (i := 2) (N := some 14) (bA 8 15) rfl rfl (by kernel_rfl) (by decide) (fun K hK => ?_);refine dy Tryz.func9 (by kernel_rfl) rfl #[mc p] (by rfl) rfl rfl (by simp only [List.map_toArray, List.map_cons, List.map_nil]; rfl) ?_;refine (lz.calls p.lines p.spare p.period p.batch _ _ HDev.out).mono ?_;rintro e w2 ⟨rfl, hb⟩;refine ⟨_, rfl, ?_⟩;have hb2 := ac (bm (Below.refl w1.heap.size w1)) hb;have BX2 := am (ai BX1.out hb2);have HB2 := am (ac HB1.out hb2);refine hK.out _ _ BX2.out (fun hHeld => ?_);clear hK K hb hb2 hHeld;refine nm ?_;refine gq (i := 4) (N := some 16) (bA 8 31) rfl rfl (by kernel_rfl) (by decide) (fun K hK => ?_);refine dy Tryz.func8 (by kernel_rfl) rfl #[.int .i64 dv, .slice A limits.length c] (by rfl) rfl rfl (by simp only [List.map_toArray, List.map_cons, List.map_nil]; rfl) ?_;refine (HNw.out _ (Kd.C_below HL.out HB2.out)).mono ?_;rintro e w3 ⟨M, C, rfl, hm, hM, hC, hb⟩;refine ⟨_, rfl, ?_⟩;have BX3 := am (ai BX2.out hb);have HB3 := am (ac HB2.out hb);have HM3 := am hm;have hw2 := dk BX2.out;have hMw : w.heap.size < M := Nat.lt_of_lt_of_le hw2 hM;have hCw : w.heap.size < C := Nat.lt_of_lt_of_le hw2 hC;refine hK.out _ _ BX3.out (fun hHeld => ?_);clear hK K hb hHeld hm hM hC hw2;refine nm ?_;refine gq (i := 5) (N := some 17) (bA 8 63) rfl rfl (by kernel_rfl) (by decide) (fun K hK => ?_);refine je (by rfl) rfl (ud 104 _ rfl [(0, .agg (d5 p).toArray), (1, .pointer (some ⟨M, 0, none⟩))] (by simp; exact ⟨rfl, rfl⟩) _ (qhj M p)) ?_;refine hK.out _ _ BX3.out (fun hHeld => ?_);clear hK K hHeld;refine nm ?_;refine gq (i := 6) (N := some 18) (bA 8 127) rfl rfl (by kernel_rfl) (by decide) (fun K hK => ?_);refine je (w1 := w3.alloc (.cells (qc6 p M (.pointer none) 0).toArray 104)) (v := .pointer (some ⟨w3.heap.size, 0, none⟩)) (by rfl) rfl ?_ ?_
 ·first | (go_simp; done) | (go_simp; rfl)
 have hb4 : Below w3.heap.size w3 (w3.alloc (.cells (qc6 p M (.pointer none) 0).toArray 104)) := (Below.refl _ _).alloc (Nat.le_refl _) _;have BX4 := am (ai BX3.out hb4);have HB4 := am (ac HB3.out hb4);have HM4 := am (HM3.out.below hb4);have HX4 : Aside0 (ko (w3.alloc (.cells (qc6 p M (.pointer none) 0).toArray 104)) w3.heap.size p M (.pointer none) 0) := ⟨heap_alloc_new w3 _⟩;have hMW : M < w3.heap.size ∧ C < w3.heap.size := HM3.out.lt;refine hK.out _ _ BX4.out (fun hHeld => ?_);clear hK K hb4 hHeld;generalize w3.alloc (.cells (qc6 p M (.pointer none) 0).toArray 104) = w4 at BX4 HB4 HM4 HX4 ⊢;have hWw := HB3.out.size;generalize w3.heap.size = Wn at HX4 hMW hWw ⊢;refine nm ?_;refine pu 7 (some 6) (bA 8 255) (h := ?_);refine fy (by kernel_rfl) ?_;go_wp2;refine d6 (n := 7) (S := fun w' => ko w' Wn p M (.pointer none) 0 ∧ w'.heap[w.heap.size]? = some (.cells (d5 p).toArray 23 (0, 0))) (ds := [5]) (onA 7 0) (by kernel_rfl) rfl rfl ⟨HX4.out, BX4.out⟩ (fun hHeld => ?_);refine pu 0 (some 19) (bA 7 1) (h := ?_);refine pu 1 (some 20) (bA 7 3) (h := ?_);refine pu 2 (some 21) (bA 7 7) (h := ?_);refine tv 3 (some 22) (bA 7 15) rfl hHeld (fun w' hs => be 26 (.tmp 21) rfl Wn 4 (.pointer (some ⟨M, 0, none⟩)) rfl ((af hs.1 4).trans rfl) _ Tryz.underlying26 rfl) (h := ?_);refine tv 4 (some 23) (bA 7 31) rfl hHeld (fun w' hs => bz 23 (.tmp 2) rfl w.heap.size 0 rfl (d5 p) _ (fun j v hv => by rw [Nat.zero_add]; exact bh hs.2 j v hv) Tryz.underlying23 rfl ii) (h := ?_);refine jt (i := 5) (N := some 24) (bA 7 63) rfl rfl (by kernel_rfl) (by decide) (fun K hK => ?_);refine dy Tryz.func10 (by kernel_rfl) rfl #[.pointer (some ⟨M, 0, none⟩), mc p] (by rfl) rfl rfl (by simp only [List.map_toArray, List.map_cons, List.map_nil]; rfl) ?_;have HM4d := am (HM4.out.below (bm (Below.refl _ _)));refine (HFm.out _ M C HM4d.out).mono ?_;rintro e w5 ⟨rfl, hm, kk⟩;refine ⟨_, rfl, ?_⟩;have HM5 := am hm;have HX5 := am (ko.kept (w := w4.drew) HX4.out kk (pb (by omega) (by omega)));have HB5 : Aside0 (Below w.heap.size w w5) := ⟨(ac HB4.out (bm (Below.refl _ _))).trans (kk.below (by have := HB4.out.size; exact this) (fun j hj e => by rcases e with e | e <;> omega))⟩;refine hK.out _ _ ?_;clear hK K hm kk hHeld HM4d;refine nm ?_;refine pu 6 (some 7) (bA 7 127) (h := ?_);refine fy (by kernel_rfl) ?_;by_cases c0 : fm.1 = 0
 ·have HO := am (HOpen.out c0);have b0 : (fm.1 != 0) = false := bne_eq_false_iff_eq.2 c0;have C0 := am c0;clear c0;by_cases c1 : rc.1 = 0
  ·have C1 := am c1;clear c1;go_wp2_with (first
    | (go_at_call 59; (with_reducible refine (HO.out _ Wn M C HX5.out HM5.out (Nat.ne_of_gt hMW.1) (Nat.ne_of_gt hMW.2)).mono ?_); rintro e w6 hq; have hret : e = .returned (.int .i64 0) := (by rw [← C1.out]; exact hq.ret); subst hret; have HQ := am hq; clear hq))
   go_ret2;obtain ⟨F', hT, hF'⟩ := HQ.out.state (Nat.ne_of_gt hMW.1) (Nat.ne_of_gt hMW.2) (F := fun j => MC M C j ∨ j = Wn) (fun j hj => hj);rw [if_pos C1.out] at hT;have hs5 := HB5.out.size;refine ⟨HB5.out.trans (HQ.out.2.2.below hs5 (fun j hj e => by rcases e with (e | e) | e <;> omega)), fun _ _ => ⟨Wn, M, C, F', rfl, hT, fun j hj => ?_⟩, fun _ h => absurd C1.out h, fun h => absurd C0.out h⟩;rcases hF' j hj with ((e | e) | e) | e <;> omega
  ·have C1 := am c1;have b1 : (rc.1 != 0) = true := bne_iff_ne.2 c1;clear c1;go_wp2_with (first
    | (go_at_call 59; (with_reducible refine (HO.out _ Wn M C HX5.out HM5.out (Nat.ne_of_gt hMW.1) (Nat.ne_of_gt hMW.2)).mono ?_); rintro e w6 hq; have hret := hq.ret; subst hret; have HQ := am hq; clear hq))
   go_ret2;have hs5 := HB5.out.size;exact ⟨HB5.out.trans (HQ.out.2.2.below hs5 (fun j hj e => by rcases e with (e | e) | e <;> omega)), fun _ h => absurd h C1.out, fun _ _ => rfl, fun h => absurd C0.out h⟩
 ·have b0 : (fm.1 != 0) = true := bne_iff_ne.2 c0;have C0 := am c0;clear c0;go_wp2;go_ret2;exact ⟨HB5.out, fun h => absurd h C0.out, fun h => absurd h C0.out, fun _ => rfl⟩
end
structure MInv (p : Pn) (m : Mem) (l : List S116) (v : List Int) (r : Int) : Prop where
 inv : LInv p.shape m
 wd : wv p m p.lines.toNat = v
 hv : HV l v (p.lines * 8)
 rt : m.regs.getD 2 0 = r
 ri : sf l r
section
variable {p : Pn} {st : St} {m : Mem} {l : List S116} {v : List Int} {r : Int}
theorem HInv.mem (h : HInv p st l v r) : MInv p st.m l v r := ⟨h.inv, h.wd, h.hv, h.rt, h.ri⟩
theorem MInv.heap (h : MInv p m l v r) {puts : Int} {now kept : List Int} {f : Bool} (hn : now.length = ((p.lines + 3) / 4).toNat) : HInv p ⟨m, puts, now, kept, f⟩ l v r := ⟨h.inv, h.wd, h.hv, h.rt, h.ri, hn⟩
theorem MInv.rd (h : MInv p m l v r) (hu : m.down = false) : Lg.Rd p.shape m := (h.heap (puts := 0) (now := List.replicate ((p.lines + 3) / 4).toNat 0) (kept := []) (f := false) (by simp)).rd hu
theorem MInv.openOk (h : MInv p m l v r) (hp : p.Ok) (hu : m.down = false) (hb : Trn.moves m ≤ 1099511627776) : OpenOk p m :=
 ⟨by have := h.inv.ok.l.len; have : p.shape.n = 16 + p.lines := rfl; have : p.shape.spares = p.spare.toNat := rfl; have := hp.s1; omega, h.inv.ok.l.regs, h.inv.ok.l.may, hb, h.rd hu, h.inv.c14.2⟩
theorem MInv.openOk2 (h : MInv p m l v r) (hp : p.Ok) (hu : m.down = false) : OpenOk2 p m := by
 have hws : Hp.wordsTo p m p.lines.toNat = v := by rw [← h.wd]; exact qay h.inv hu _ (by have := hp.l1; omega)
 have hr := (h.heap (puts := 0) (now := List.replicate ((p.lines + 3) / 4).toNat 0) (kept := []) (f := false) (by simp)).rr hp;refine ⟨hu, h.rd hu, h.inv.c14.2, ⟨l, by rw [hws]; exact oy h.hv⟩, ?_⟩;rw [h.rt];by_cases c : r = 0
 ·exact .inl c
 ·refine .inr ⟨c, by omega, ?_⟩;rw [hws];rcases ql6 (off := r) h.hv with ⟨_, b⟩ | ⟨a, b⟩
  ·exact b
  ·rcases h.ri with e | e
   ·exact absurd e c
   ·exact absurd e a
structure OpnR (p : Pn) (m : Mem) (rc : Int × Mem × Int) (l : List S116) (v : List Int) (r : Int) : Prop where
 inv : MInv p rc.2.1 l v r
 lim : ∀ j, fv rc.2.1 j = fv m j
 cut : m.cut < 0 → rc.2.1.cut = m.cut
 mv : Trn.moves m ≤ Trn.moves rc.2.1 ∧ Trn.moves rc.2.1 ≤ Trn.moves m + 14
 cln : rc.2.1.down = false → Lg.count rc.2.1 = 0 ∨ ∃ j, 0 ≤ fv m j
 res : (rc.1 = 0 ∧ rc.2.1.down = false) ∨ (rc.1 = 2 ∧ rc.2.1.down = true ∧ 0 ≤ m.cut)
theorem yz (h : MInv p m l v r) (hp : p.Ok) (hu : m.down = false) (hb : Trn.moves m ≤ 1099511627776) (puts : Int) : OpnR p m (Lg.recover p.shape m puts) l v r := by
 obtain ⟨a, b, c⟩ := qfk h.inv hu puts (by omega);refine ⟨⟨a.inv, ?_, h.hv, by rw [a.regs 2 (by omega)]; exact h.rt, h.ri⟩, a.lim, a.cut, a.mv, a.cln, c⟩;rw [← h.wd];exact wh h.inv a.inv (by have := hp.l1; omega) b
theorem zm (h : MInv p m l v r) (puts : Int) : HInv p (Hp.opened p m puts) l v r := h.heap (by simp [Hp.keptTo, Hp.pages])
end
section
variable {p : Pn} {limits : List Int}
theorem ox (n : Nat) (i : Nat) : (Nvm.fresh n limits).regs.getD i 0 = 0 := by
 show (List.replicate 35 (0 : Int)).getD i 0 = 0;rw [List.getD_eq_getElem?_getD, List.getElem?_replicate];split <;> rfl
theorem qaj (n i : Nat) : lnC (Nvm.fresh n limits) i = zL := by
 unfold lnC;rw [List.getD_eq_getElem?_getD];by_cases hi : i < n
 ·rw [show (Nvm.fresh n limits).cells[i]? = _ from lr n limits n i hi];rfl
 ·rw [List.getElem?_eq_none (by rw [show (Nvm.fresh n limits).cells.length = n from f9 n limits n]; omega)];rfl
theorem xe (n i : Nat) : 0 ≤ fv (Nvm.fresh n limits) i → limits ≠ [] := by
 rintro h rfl;unfold fv at h;rw [List.getD_eq_getElem?_getD] at h;by_cases hi : i < n
 ·rw [show (Nvm.fresh n []).cells[i]? = _ from lr n [] n i hi, if_pos hi] at h;have e : Nvm.lim [] i = -1 := by unfold Nvm.lim; simp
  have h : 0 ≤ Nvm.lim [] i := h;omega
 ·rw [List.getElem?_eq_none (by rw [show (Nvm.fresh n []).cells.length = n from f9 n [] n]; omega)] at h;exact absurd h (by decide)
theorem qae (hp : p.Ok) : MOk p.shape (Nvm.fresh p.device limits) := by
 have h1 := hp.l1;have h2 := hp.l2;have h3 := hp.s1;have h4 := hp.s2;have hd : (Nvm.fresh p.device limits).cells.length = p.device := f9 _ _ _;have hn : p.shape.n = 16 + p.lines := rfl;have hs : p.shape.spares = p.spare.toNat := rfl;refine ⟨hp.shape, ⟨by omega, by omega, by omega, by rw [hd]; unfold Pn.device; omega, fun i _ => by rw [qaj]; exact ql7, rfl, fun x hx => ?_, ⟨by omega, fun j j0 j1 => ?_⟩⟩, ?_⟩
 ·have : x ∈ List.replicate 35 (0 : Int) := hx;rw [(List.mem_replicate.1 this).2];decide
 ·have hz : ∀ j : Int, 0 ≤ j → rd (Lns.tableTo (Nvm.fresh p.device limits) p.shape.spares) j = 0 := fun j j0 => by
   unfold rd Lns.tableTo;rw [List.getD_eq_getElem?_getD, List.getElem?_map];by_cases c : j.toNat < p.shape.spares
   ·rw [List.getElem?_range c];exact ox _ _
   ·rw [List.getElem?_eq_none (by simpa using c)];rfl
  refine ⟨by rw [hz j j0]; omega, fun _ h => absurd (hz j j0) h⟩
 ·show (Nvm.fresh p.device limits).regs.getD 0 0 ≤ _;rw [ox];decide
structure FmtI (p : Pn) (m0 : Mem) (k : Nat) (x : Int × Mem × Int) : Prop where
 ok : MOk p.shape x.2.1
 lim : ∀ j, fv x.2.1 j = fv m0 j
 cut : x.2.1.cut = -1
 up : x.2.1.down = false
 cnt : Lg.count x.2.1 = 0
 regs : ∀ j, ((1 ≤ j ∧ j < 3) ∨ 19 ≤ j) → x.2.1.regs.getD j 0 = 0
 mv : Trn.moves x.2.1 ≤ 1
 mv0 : k = 0 → Trn.moves x.2.1 = 0
 res : (x.1 = 0 ∧ ∀ line : Nat, (line : Int) < p.lines → lgc p.shape x.2.1 (16 + (line : Int)) = if line < k then di (Hp.firstW p) line else zL) ∨ (x.1 = 3 ∧ ∃ j, 0 ≤ fv m0 j)
theorem qnz {a b : List Int} (ha : a.length = 8) (hb : b.length = 8) (h : ∀ j, j < 8 → a.getD j 0 = b.getD j 0) : a = b := by
 refine List.ext_getElem (by rw [ha, hb]) (fun j h1 h2 => ?_);have := h j (by omega);rw [List.getD_eq_getElem?_getD, List.getElem?_eq_getElem h1, List.getD_eq_getElem?_getD, List.getElem?_eq_getElem h2] at this;exact this
theorem us (p : Pn) {k : Nat} (hp : p.Ok) (hk : (k : Int) < p.lines) : di (Hp.firstW p) k = if k = 0 then [2 * (p.lines * 8), 0, 0, 0, 0, 0, 0, 0] else zL := by
 have hl := hp.l1;have hlen := q9 p;refine qnz (fz (by omega)) (by split <;> rfl) (fun j hj => ?_);rw [sw hj];unfold Hp.firstW;by_cases c : k * 8 + j = 0
 ·obtain rfl : k = 0 := by omega
  obtain rfl : j = 0 := by omega
  rw [List.getD_eq_getElem?_getD, List.getElem?_set_self (by rw [List.length_replicate]; omega)];rfl
 ·rw [List.getD_eq_getElem?_getD, List.getElem?_set_ne (by omega), List.getElem?_replicate];have hz : (if k * 8 + j < (p.lines * 8).toNat then some (0 : Int) else none).getD 0 = 0 := by split <;> rfl
  rw [hz];rcases j with _ | _ | _ | _ | _ | _ | _ | _ | j
  ·rw [if_neg (by omega)]; rfl
  all_goals first | omega | (split <;> rfl)
theorem qh0 (p : Pn) (hp : p.Ok) : W64 [2 * (p.lines * 8), 0, 0, 0, 0, 0, 0, 0] := by
 have h1 := hp.l1;have h2 := hp.l2;refine ⟨rfl, fun x hx => ?_⟩;simp only [List.mem_cons, List.not_mem_nil, or_false] at hx;omega
end
section
variable {p : Pn} {limits : List Int}
theorem qg2 (s : Shape) (n : Nat) (line : Int) : lgc s (Nvm.fresh n limits) line = zL := by
 unfold lgc slc;exact qaj _ _
theorem qh7 (hp : p.Ok) : zL ≠ [2 * (p.lines * 8), 0, 0, 0, 0, 0, 0, 0] := by
 intro h;have := hp.l1;have h2 : (0 : Int) = 2 * (p.lines * 8) := (List.cons.inj h).1;omega
theorem qe3 (hp : p.Ok) : ∀ k : Nat, (k : Int) ≤ p.lines → FmtI p (Nvm.fresh p.device limits) k (Hp.fmtAt p (Nvm.fresh p.device limits) k)
 | 0, _ => by
  have hz : Trn.moves (Nvm.fresh p.device limits) = 0 := ox _ 0
  exact ⟨qae hp, fun _ => rfl, rfl, rfl, ox _ 1, fun j _ => ox _ j, by show Trn.moves (Nvm.fresh p.device limits) ≤ 1; omega, fun _ => hz, .inl ⟨rfl, fun line _ => qg2 _ _ _⟩⟩
 | k + 1, hk => by
  have ih := qe3 hp k (by omega)
  have hl1 := hp.l1
  rw [Hp.fmtAt]
  generalize Hp.fmtAt p (Nvm.fresh p.device limits) k = x at ih
  obtain ⟨e, m, puts⟩ := x
  have iok := ih.ok
  have icut := ih.cut
  have iup := ih.up
  have imv := ih.mv
  have imv0 := ih.mv0
  have icnt := ih.cnt
  have ilim := ih.lim
  have iregs := ih.regs
  dsimp only at *
  rcases ih.res with ⟨e0, hl⟩ | ⟨e3, hj⟩
  ·dsimp only at e0 hl
   rw [if_pos e0, rl iok iup]
   dsimp only
   have hz := hl k (by omega)
   rw [if_neg (by omega)] at hz
   rw [hz, us p hp (by omega)]
   by_cases c : k = 0
   ·rw [if_pos c, if_neg (qh7 hp)]
    have hP := (qcm (s := p.shape) (line := 16 + (k : Int)) (d := [2 * (p.lines * 8), 0, 0, 0, 0, 0, 0, 0]) iok iup (by omega) puts (by omega) (by show 16 + (k : Int) < 16 + p.lines; omega) (qh0 p hp)).1
    generalize Trn.put p.shape m puts (16 + (k : Int)) [2 * (p.lines * 8), 0, 0, 0, 0, 0, 0, 0] = y at hP
    obtain ⟨e2, m2, puts2⟩ := y
    dsimp only at hP ⊢
    have hm := hP.mv
    have h0 := imv0 c
    have hup : m2.down = false := by
     rcases hP.res with ⟨_, a, _⟩ | ⟨_, a, _⟩ | ⟨_, _, a⟩
     ·exact a
     ·exact a
     ·omega
    refine ⟨⟨iok.ok, hP.l, by dsimp only; omega⟩, fun j => by rw [← ilim j]; exact hP.lim j, by show m2.cut = -1; rw [hP.cut (by omega)]; exact icut, hup, ?_, fun j hj => (hP.regs j hj).trans (iregs j hj), by dsimp only; omega, fun h => absurd h (by omega), ?_⟩
    ·show m2.regs.getD 1 0 = 0
     rw [hP.regs 1 (by omega)]
     exact icnt
    ·rcases hP.res with ⟨a, _, b⟩ | ⟨a, _, _, b⟩ | ⟨_, _, a⟩
     ·refine .inl ⟨a, fun line hline => ?_⟩
      dsimp only
      by_cases e : line = k
      ·rw [if_pos (by omega), us p hp hline, if_pos (by omega), e]
       exact b
      ·rw [if_neg (by omega), hP.oth _ (by omega) (by show 16 + (line : Int) < 16 + p.lines; omega) (by omega), hl line hline, if_neg (by omega)]
     ·obtain ⟨j, hj⟩ := b
      exact .inr ⟨a, j, by rw [← ilim j]; exact hj⟩
     ·omega
   ·rw [if_neg c, if_pos rfl]
    refine ⟨iok, ilim, icut, iup, icnt, iregs, imv, fun h => absurd h (by omega), .inl ⟨e0, fun line hline => ?_⟩⟩
    dsimp only
    rw [hl line hline]
    by_cases e : line = k
    ·rw [if_neg (by omega), if_pos (by omega), us p hp hline, if_neg (by omega)]
    ·by_cases e2 : line < k
     ·rw [if_pos e2, if_pos (by omega)]
     ·rw [if_neg e2, if_neg (by omega)]
  ·dsimp only at e3
   rw [if_neg (by omega)]
   exact ⟨iok, ilim, icut, iup, icnt, iregs, imv, fun h => absurd h (by omega), .inr ⟨e3, hj⟩⟩
theorem qmc (hp : p.Ok) : FmtOk p (Nvm.fresh p.device limits) := by
 have h0 := qae (limits := limits) hp;refine ⟨rfl, ?_, h0.l.regs, h0.l.may, fun i _ => ox _ i, fun k hk _ => ?_⟩
 ·have := h0.l.len;have : p.shape.n = 16 + p.lines := rfl;have : p.shape.spares = p.spare.toNat := rfl;have := hp.s1;omega
 ·have h := qe3 (limits := limits) hp k (by omega);have hm := h.mv;unfold Trn.moves at hm;refine ⟨h.up, fun line _ _ => ?_, by omega⟩;rw [rl h.ok h.up];exact ⟨rfl, (h.ok.lineW line).2⟩
theorem qlq (hp : p.Ok) {x : Int × Mem × Int} (h : FmtI p (Nvm.fresh p.device limits) p.lines.toNat x) (h0 : x.1 = 0) : MInv p x.2.1 [⟨0, p.lines * 8, false⟩] (Hp.firstW p) 0 := by
 have hl1 := hp.l1;have hl2 := hp.l2;have hI : LInv p.shape x.2.1 := ⟨h.ok, .inl h.cnt⟩;refine ⟨hI, ?_, ?_, h.regs 2 (by omega), .inl rfl⟩
 ·symm;refine qf7 hI _ (by rw [q9]; omega) (fun i hi => ?_);rw [p7 h.cnt];rcases h.res with ⟨_, a⟩ | ⟨a, _⟩
  ·rw [a i (by omega), if_pos (by omega)]
  ·omega
 ·exact qi5 (W := p.lines * 8) (by unfold pi; omega)
end
section
variable {p : Pn} {st : St} {m : Mem} {s : Shape} {l : List S116} {v : List Int} {r : Int}
theorem qmi (hc : m.cut = 0) : (Nvm.write m).2.down = true := by unfold Nvm.write; rw [if_pos hc]
theorem qnq {i : Int} {d : List Int} (hd : m.down = false) (hc : m.cut = 0) (h0 : 0 ≤ i) (h1 : i < m.cells.length) : (Nvm.put m i d).1 = 2 := by
 have hh : Nvm.has m i = true := by unfold Nvm.has; simp; omega
 have hw := qmi hc;unfold Nvm.put;rw [if_pos hh, hd];simp only [Bool.false_eq_true, if_false];by_cases cw : Nvm.worn m i.toNat = true
 ·rw [if_pos cw];unfold Nvm.told;rw [hw];rfl
 ·rw [if_neg cw];unfold Nvm.told;rw [show (Nvm.hit (Nvm.write m).2 i.toNat d (Nvm.write m).1).down = (Nvm.write m).2.down from rfl, hw];rfl
theorem ql3 {slots slot : Int} {spares : Nat} {d : List Int} (h : LOk slots spares m) (hd : m.down = false) (hc : m.cut = 0) (h0 : 0 ≤ slot) (h1 : slot < slots) : (Lns.put m slots spares slot d).1 = 2 := by
 have hp := h.place h0 h1;have := qnq (d := d) hd hc hp.1 hp.2;unfold Lns.put;rw [hd];simp only [Bool.false_eq_true, if_false];rw [if_neg (by omega)];exact this
theorem qnf (h : MOk s m) : (0 ≤ (Trn.moveS s.n (Trn.moves m)).1 ∧ (Trn.moveS s.n (Trn.moves m)).1 < s.n + 1) ∧ 0 ≤ (Trn.moveS s.n (Trn.moves m)).2 ∧ (Trn.moveS s.n (Trn.moves m)).2 < s.n + 1 := by
 have hg := h.g;have hgr := sq hg;have hn1 := h.ok.n1;unfold Trn.moveS;by_cases c : jb s.n (Trn.moves m) = 0
 ·rw [if_pos c]; dsimp only; omega
 ·rw [if_neg c]; dsimp only; omega
theorem qnh {line : Int} {d : List Int} (h : MOk s m) (hd : m.down = false) (hc : m.cut = 0) (puts : Int) : (Trn.put s m puts line d).1 = 2 := by
 have hs := h.slotR line;have hp := ql3 (d := d) h.l hd hc hs.1 hs.2;unfold Trn.put;rw [hd];simp only [Bool.false_eq_true, if_false];by_cases c : wrap64 (puts + 1) = s.period
 ·rw [if_pos c];have hm : (Trn.move s m).1 = 2 := by
   have hr := qnf h;have hg := qcy h.l hd hr.1.1 hr.1.2;have hq := ql3 (d := (Lns.get m (s.n + 1) s.spares (Trn.moveS s.n (Trn.moves m)).1).1) h.l hd hc hr.2.1 hr.2.2;unfold Trn.move;rw [if_pos (by rw [hg]), if_neg (by omega)];exact hq
  rw [if_neg (by omega)];exact hm
 ·rw [if_neg c];exact hp
theorem qky {hs : List iv} (h : LInv s m) (hu : m.down = false) (hc : Lg.count m = 0) (h0 : m.cut = 0) (hm : Lg.mayH s.n hs = true) (hn : 17 ≤ s.n) (hv : ∀ x ∈ hs, W64 x.2) (puts : Int) (hb : Trn.moves m + 40 ≤ 4611686018427387903) : (Lg.commit s hs m puts).1 = 2 ∧ ∀ line, 16 ≤ line → line < s.n → vw s (Lg.commit s hs m puts).2.1 line = vw s m line := by
 have hl := mj hm;have hlen := vu hm;have hn2 := h.ok.ok.n2;have hreg : (Nvm.reg m 1).1 = 0 := by unfold Nvm.reg;rw [hu];exact hc
 unfold Lg.commit;rw [hm, hu, if_neg (by decide), if_neg (by decide), if_neg (by rw [hreg]; exact fun h => h rfl)];have hvv : ∀ x ∈ hs, (0 ≤ x.1 ∧ x.1 ≤ 18446744073709551615) ∧ W64 x.2 := fun x hx => ⟨by have := hl x hx; omega, hv x hx⟩;obtain ⟨hrv, hri⟩ := qch hlen.2 hvv hs.length (Nat.le_refl _);have hrl := Lg.rowsTo_length hs hs.length;have hI : (hs.length : Int) ≤ 8 * Lg.idx hs.length ∧ 0 ≤ Lg.idx hs.length ∧ Lg.idx hs.length ≤ 2 := by unfold Lg.idx; omega
 have hR := uz (s := s) (Lg.rowsTo hs hs.length) 0 m puts h.ok hu (by omega) hrv (by omega);have he : (Lg.putRows s (Lg.rowsTo hs hs.length) 0 m puts).1 = 2 := by
  match hq : Lg.rowsTo hs hs.length, hrl with
  | [], hrl => rw [List.length_nil] at hrl; omega
  | d :: rs, _ =>
   have := qnh (line := ((0 : Nat) : Int)) (d := d) h.ok hu h0 puts;rw [Lg.putRows, if_neg (by omega)];exact this
 rw [if_neg (by omega)];refine ⟨he, fun line l0 l1 => ?_⟩;generalize Lg.rowsTo hs hs.length = R at hR hri hrl;generalize Lg.putRows s R 0 m puts = r1 at hR;obtain ⟨e1, m1, p1⟩ := r1;dsimp only at hR ⊢;have hc1 : Lg.count m1 = 0 := by rw [← hc]; exact hR.regs 1 (by omega)
 rw [p7 hc1, p7 hc, hR.oth line (by omega) l1 (by omega)]
theorem qn1 {es : List S160} {l' : List S116} (h : HInv p st l v r) (hp : p.Ok) (hu : st.m.down = false) (hw : Hp.isWorn st.worn st.m = false) (h0 : st.m.cut = 0) (hb : Trn.moves st.m + 40 ≤ 4611686018427387903) (he : EdFit p es) : (Hp.commit p st v es).1 = 2 ∧ wv p (Hp.commit p st v es).2.m p.lines.toNat = v := by
 obtain ⟨hw1, hw2⟩ := (jy hu).1 hw;have hl1 := hp.l1;have hl2 := hp.l2;obtain ⟨l1, l2, l3⟩ := he.lines;have hwl := o0 h.inv p.lines.toNat;have hm := r7 hp he (Sp.apply v es);have hvals : ∀ x ∈ Hp.homesOf (Sp.lines es) (Sp.apply v es), W64 x.2 := fun x hx => by obtain ⟨i, hi, rfl⟩ := List.mem_map.1 hx;have := l3 i hi;rw [← h.wd];exact zx (by rw [s8, hwl]; omega) (uv es _ (qc4 h.inv _) he.val)
 obtain ⟨a, b⟩ := qky h.inv hu hw2 h0 hm (by show 17 ≤ 16 + p.lines; omega) hvals st.puts hb;have hC := qbz h.inv hu hw2 hm (by show 17 ≤ 16 + p.lines; omega) hvals st.puts hb;unfold Hp.commit;rw [if_neg (by omega)];refine ⟨a, ?_⟩;refine (wh h.inv hC.same.inv (by omega) b).trans h.wd
end
section
variable {p : Pn} {st : St} {m m' : Mem} {s : Shape} {l : List S116} {v : List Int} {r : Int}
theorem MOk.re (h : MOk s m) (hc : m'.cells = m.cells) (hr : m'.regs = m.regs) : MOk s m' := by
 obtain ⟨c, g, w, k, a, d⟩ := m;obtain ⟨c', g', w', k', a', d'⟩ := m';dsimp only at hc hr;subst hc hr;exact ⟨h.ok, ⟨h.l.s1, h.l.s2, h.l.sp, h.l.len, h.l.val, h.l.rlen, h.l.regs, h.l.may⟩, h.mv⟩
theorem qne (hc : m'.cells = m.cells) (hr : m'.regs = m.regs) (line : Int) : vw s m' line = vw s m line := by
 obtain ⟨c, g, w, k, a, d⟩ := m;obtain ⟨c', g', w', k', a', d'⟩ := m';dsimp only at hc hr;subst hc hr;rfl
theorem ql8 (hc : m'.cells = m.cells) (hr : m'.regs = m.regs) : ∀ k, wv p m' k = wv p m k
 | 0 => rfl
 | k + 1 => by rw [wv, wv, ql8 hc hr k, qne hc hr]
theorem MInv.re (h : MInv p m l v r) (hc : m'.cells = m.cells) (hr : m'.regs = m.regs) : MInv p m' l v r := by
 have hv := ql8 (p := p) hc hr p.lines.toNat;refine ⟨⟨h.inv.ok.re hc hr, ?_⟩, by rw [hv]; exact h.wd, h.hv, by rw [hr]; exact h.rt, h.ri⟩;obtain ⟨c, g, w, k, a, d⟩ := m;obtain ⟨c', g', w', k', a', d'⟩ := m';dsimp only at hc hr;subst hc hr;exact h.inv.cnt
theorem qev {n : Int} (h : HInv p st l v r) (hp : p.Ok) (hb : Trn.moves st.m + 40 ≤ 4611686018427387903) (hu : st.m.down = false) (hw : Hp.isWorn st.worn st.m = false) (hz : ib n ≠ 0) {j : Int} (j0 : 0 ≤ j) (j1 : j < l.length) (hj : OkB l (ib n) j) : ∃ c e off st', qa9 l c (ib n) ∧ Hp.AllocR p st n e off st' ∧ ComO p st e st' l v r (crv l c (ib n)) (app v (eds (aa l c) (ib n))) ∧ off = if e = 0 then ((aa l c).f0 + 1) * 8 else 0 := by
 have hws := h.ws hp hu;obtain ⟨a, ha, hr⟩ := qbk (n := n) (counts := st.now) h.hv (by have := yp h.hv.1; omega);rcases hr with ⟨e, _⟩ | ⟨_, hno, rfl⟩ | ⟨_, c, can, rfl⟩
 ·exact absurd e hz
 ·exact absurd hj (hno j j0 j1)
 ·have hg := im h.hv (om can.2.1 can.2.2.1);have hnr := qe5 n;have hin := qi9 (b := aa l c) can.2.2.2.2 hg.2.1 (need := ib n) (by omega);have htk := qef can.2.2.2.2 hg.2.1;have hel := qf3 (b := aa l c) (need := ib n) htk.1;have hef : EdFit p (eds (aa l c) (ib n)) := rx (by unfold eds; simp) (by split at hel <;> omega) _ hg.1 (fun e he => by have := hin e he; omega) (qcz _ _);have hC := qai h hp hu hw hb hef (qio h.hv can) (zj can h.ri);exact ⟨c, _, _, _, can, .inr (.inr (.inr (.inr ⟨_, _, _, hu, pv _, hz, hw, hef.ok, by rw [hws]; exact ha, by rw [hws], by rw [hws], rfl⟩))), hC, rfl⟩
theorem ComO.quiet {e : Int} {st' : St} {l' : List S116} {v' : List Int} (h : ComO p st e st' l v r l' v') (hc : st.m.cut < 0) (hl : ∀ j, fv st.m j < 0) : e = 0 ∧ st'.m.down = false ∧ HInv p st' l' v' r := by
 have h0 : e = 0 := by
  rcases h.kind with e | e | e
  ·exact e
  ·have := h.cutd (h.two.1 e);omega
  ·obtain ⟨j, hj⟩ := h.three e;have := hl j;omega
 refine ⟨h0, ?_, ?_⟩
 ·by_cases c : st'.m.down = true
  ·have := h.two.2 c;omega
  ·exact ww c
 ·rcases h.eff with ⟨_, a⟩ | ⟨a, _⟩ | ⟨a, _⟩
  ·exact a
  ·exact absurd h0 a
  ·omega
structure Quiet (st : St) : Prop where
 up : st.m.down = false
 cut : st.m.cut < 0
 lim : ∀ j, fv st.m j < 0
 fr : Hp.isWorn st.worn st.m = false
theorem Kp.quiet {st' : St} (h : Kp st st') (q : Quiet st) (hu : st'.m.down = false) : Quiet st' := by
 refine ⟨hu, by rw [h.cut q.cut]; exact q.cut, fun j => by rw [h.lim]; exact q.lim j, ?_⟩;rcases h.fresh q.fr hu with e | ⟨j, hj⟩
 ·exact e
 ·have := q.lim j;omega
def opA : S39 := ⟨1, 0, 9, 0, []⟩
def opC : S39 := ⟨7, 0, 0, 0, []⟩
def opF : S39 := ⟨2, 8, 0, 0, []⟩
def opS : S39 := ⟨8, 0, 0, 0, []⟩
def opR : S39 := ⟨3, 8, 9, 0, []⟩
theorem qde {W : Int} (hp : p.Ok) {st0 : St} (h0 : HInv p st0 [⟨0, W, false⟩] v 0) (q0 : Quiet st0) (hm : Trn.moves st0.m ≤ 1000) : ∃ st1 st2 st3 bs, TwR p (.on st0) opA 0 8 [] (.on st1) ∧ TwR p (.on st1) opC 0 0 [] (.on { st1 with m := Nvm.cutAt st1.m 0 0 }) ∧ TwR p (.on { st1 with m := Nvm.cutAt st1.m 0 0 }) opF 2 0 [] (.on st2) ∧ TwR p (.on st2) opS 0 0 [] (.on st3) ∧ TwR p (.on st3) opR 0 0 bs (.on st3) ∧ bs.length = 9 := by
 have hW : W = p.lines * 8 := by have := h0.hv.1.2;have h : (0 : Int) + W = p.lines * 8 := this.2.2.2.2.2;omega
 have hl1 := hp.l1;obtain ⟨c, e1, off, st1, can, hA, hC, hoff⟩ := qev (n := 9) h0 hp (by omega) q0.up q0.fr (by decide) (j := 0) (by omega) (by simp) ⟨rfl, by show ib 9 ≤ W; rw [show ib 9 = 3 from by decide]; omega⟩;obtain ⟨rfl, hu1, h1⟩ := hC.quiet q0.cut q0.lim;have hc : c = 0 := by have h2 := can.2.1;have h3 := can.2.2.1;simp at h3;omega
 subst hc;rw [if_pos rfl] at hoff;have hoff : off = 8 := hoff;subst hoff;have hq1 := hC.kp.quiet q0 hu1;have hmv1 := hC.kp.mv;rw [show ib 9 = 3 from by decide] at *;have htk := qef can.2.2.2.2 (by show 2 ≤ W; omega);have hb : (⟨0, tk W 3, true⟩ : S116) ∈ crv [⟨0, W, false⟩] 0 3 := (qjs (by omega) (by simp)).2 (.inr (.inl List.mem_cons_self));have htk3 : 3 ≤ tk W 3 := htk.2.2.2.2;generalize crv [⟨0, W, false⟩] 0 3 = l1 at h1 hb;generalize app v _ = v1 at h1;have hw2 : HInv p { st1 with m := Nvm.cutAt st1.m 0 0 } l1 v1 0 := (MInv.re (m' := Nvm.cutAt st1.m 0 0) h1.mem rfl rfl).heap h1.now;have hu2 : (Nvm.cutAt st1.m 0 0).down = false := hu1;have hmv2 : Trn.moves (Nvm.cutAt st1.m 0 0) = Trn.moves st1.m := rfl;have hfr2 : Hp.isWorn st1.worn (Nvm.cutAt st1.m 0 0) = false := (jy hu2).2 ((jy hu1).1 hq1.fr);obtain ⟨i, i0, i1, hi⟩ := qcc hb;have hcu : (aa l1 i).f2 = true := by rw [hi]
 have ho : (8 : Int) = ((aa l1 i).f0 + 1) * 8 := by rw [hi]; rfl
 have hlen := yp h1.hv.1;have ha := qbg h1.hv (by omega) i0 i1 hcu ho;have can2 := qfm h1.hv.1 ⟨i0, i1⟩ hcu;have ft := p3 (l := l1) (i := i) ⟨i0, i1⟩;have hg := im h1.hv (om ft.1 (by omega));have hcg := im h1.hv (om i0 i1);have hef : EdFit p [⟨(aa l1 (dx l1 i)).f0, lc (dh (mM l1 i)) false⟩] := rx (by simp) (by simp) (aa l1 (dx l1 i)).f0 hg.1 (fun e he => by rw [List.mem_singleton.1 he]; dsimp only; omega) (fun e he => by rw [List.mem_singleton.1 he]; exact qd3 _);have hC2 := qai hw2 hp hu2 hfr2 (by dsimp only; omega) hef (qgc h1.hv can2) (.inl rfl);obtain ⟨z1, z2⟩ := qn1 (l' := l1) hw2 hp hu2 hfr2 rfl (by dsimp only; omega) hef;have hws := hw2.ws hp hu2;generalize hst2 : Hp.commit p { st1 with m := Nvm.cutAt st1.m 0 0 } v1 [⟨(aa l1 (dx l1 i)).f0, lc (dh (mM l1 i)) false⟩] = cm at hC2 z1 z2;obtain ⟨e2, st2⟩ := cm;dsimp only at hC2 z1 z2;subst z1;have hM2 : MInv p st2.m l1 v1 0 := by
  have hx : LInv p.shape st2.m ∧ st2.m.regs.getD 2 0 = 0 := by
   rcases hC2.eff with ⟨e, _⟩ | ⟨_, e⟩ | ⟨_, e⟩
   ·omega
   ·exact ⟨e.inv, e.rt⟩
   ·exact ⟨e.inv, e.rt⟩
  exact ⟨hx.1, z2, h1.hv, hx.2, .inl rfl⟩
 have hM2p : MInv p (Nvm.power st2.m) l1 v1 0 := hM2.re rfl rfl;have hmv3 := hC2.kp.mv;dsimp only at hmv3;have hmp : Trn.moves (Nvm.power st2.m) = Trn.moves st2.m := rfl;have hO := yz hM2p hp rfl (by omega) 0;have hOk := hM2p.openOk hp rfl (by omega);generalize hrc : Lg.recover p.shape (Nvm.power st2.m) 0 = rc at hO;have hr0 : rc.1 = 0 ∧ rc.2.1.down = false := by
  rcases hO.res with e | ⟨_, _, e⟩
  ·exact e
  ·exact absurd (show (0 : Int) ≤ -1 from e) (by decide)
 have h3 := zm hO.inv rc.2.2;have hu3 : (Hp.opened p rc.2.1 rc.2.2).m.down = false := hr0.2;have hws3 := h3.ws hp hu3;refine ⟨st1, st2, Hp.opened p rc.2.1 rc.2.2, rdB v1 8 (9 : Int).toNat, .inr (.inr (.inr ⟨by decide, by decide, _, _, rfl, rfl, h0.stOk (by omega), .inl ⟨rfl, rfl, hA⟩⟩)), .inl ⟨rfl, rfl, rfl, rfl, rfl⟩,
  .inr (.inr (.inr ⟨by decide, by decide, _, _, rfl, rfl, hw2.stOk (by dsimp only; omega), .inr (.inl ⟨rfl, rfl, rfl, .inr (.inr (.inr (.inr ⟨_, hu2, ?_, hfr2, hef.ok, by rw [hws]; exact ha, by rw [hws, hst2], by rw [hws, hst2]⟩)))⟩)⟩)),
  .inr (.inl ⟨rfl, rfl, rfl, hOk, fun _ => ?_, ?_, ?_⟩),
  .inr (.inr (.inr ⟨by decide, by decide, _, _, rfl, rfl, h3.stOk ?_, .inr (.inr (.inl ⟨rfl, rfl, rfl, .inr (.inr ⟨hu3, rfl, ?_⟩)⟩))⟩)), qln _ _ _⟩
 ·rw [qb8 hw2 hp];decide
 ·rw [show (TS.on st2).mem = st2.m from rfl, hrc];exact hO.inv.openOk2 hp hr0.2
 ·rw [show (TS.on st2).mem = st2.m from rfl, hrc];exact hr0.1.symm
 ·rw [show (TS.on st2).mem = st2.m from rfl, hrc, if_pos hr0.1]
 ·have := hO.mv;show Trn.moves rc.2.1 + 40 ≤ _;omega
 ·rw [hws3];exact qfs h1.hv (by decide) ⟨_, hb, rfl, Int.le_refl 8, by show (8 : Int) ≤ (0 + tk W 3) * 8 - 9; omega⟩
end
structure NewS (p : Pn) (limits : List Int) (st : St) : Prop where
 inv : HInv p st [⟨0, p.lines * 8, false⟩] (Hp.firstW p) 0
 up : st.m.down = false
 cut : st.m.cut = -1
 mv : Trn.moves st.m ≤ 15
 lim : ∀ j, 0 ≤ fv st.m j → limits ≠ []
 fr : Hp.isWorn st.worn st.m = false ∨ limits ≠ []
def qnu (w : World) (p : Pn) (limits : List Int) (e : Ending) (w' : World) : Prop :=
 Below w.heap.size w w' ∧ ((∃ W M C F st, e = .returned (.tuple #[.pointer (some ⟨W, 0, none⟩), .int .i64 0]) ∧ ja w' W M C p (.on st) 0 F ∧ (∀ j, F j → w.heap.size ≤ j) ∧ NewS p limits st) ∨ (∃ n : Int, n ≠ 0 ∧ e = .returned (.tuple #[.pointer none, .int .i64 n]) ∧ limits ≠ []))
section
variable {w : World} {p : Pn} {limits : List Int}
theorem NewS.quiet {st : St} (h : NewS p [] st) : Quiet st :=
 ⟨h.up, by rw [h.cut]; decide, fun j => by
  rcases Int.lt_or_le (fv st.m j) 0 with e | e
  ·exact e
  ·exact absurd rfl (h.lim j e), h.fr.resolve_right (fun e => e rfl)⟩
theorem qfx (hp : p.Ok) (A : Option Addr) (c : Nat) (hl : Kd.C (Kd.int .i64) w A limits.length limits) (hc : limits.length ≤ c) : Calls Tryz.prog 17 #[mc p, .slice A limits.length c] w (qnu w p limits) := by
 have hF := qe3 (limits := limits) hp p.lines.toNat (by have := hp.l1; omega);have hmv := hF.mv;have hi := qlq (limits := limits) hp hF;refine (qdh hp A c limits hl hc (qmc hp) (fun h0 => ⟨hF.up, (hi h0).openOk hp hF.up (by omega), fun hr => (yz (hi h0) hp hF.up (by omega) 0).inv.openOk2 hp ?_⟩)).mono ?_
 ·rcases (yz (hi h0) hp hF.up (by omega) 0).res with e | ⟨e, _⟩
  ·exact e.2
  ·omega
 ·intro e w' h;obtain ⟨hb, k1, k2, k3⟩ := h;refine ⟨hb, ?_⟩;generalize Hp.fmtAt p (Nvm.fresh p.device limits) p.lines.toNat = fm at *;by_cases h0 : fm.1 = 0
  ·left;have hO := yz (hi h0) hp hF.up (by omega) 0;generalize Lg.recover p.shape fm.2.1 0 = rc at *;have hr : rc.1 = 0 ∧ rc.2.1.down = false := by
    rcases hO.res with e | ⟨_, _, e⟩
    ·exact e
    ·have := hF.cut;omega
   obtain ⟨W, M, C, F, a, b, c⟩ := k1 h0 hr.1;have hcut := hF.cut;have hm := hO.mv;have hlim : ∀ j, 0 ≤ fv rc.2.1 j → limits ≠ [] := fun j hj => by rw [hO.lim, hF.lim] at hj;exact xe _ _ hj
   refine ⟨W, M, C, F, _, a, b, c, zm hO.inv _, hr.2, ?_, ?_, hlim, ?_⟩
   ·show rc.2.1.cut = -1;rw [hO.cut (by omega)];exact hcut
   ·show Trn.moves rc.2.1 ≤ 15;omega
   ·rcases hO.cln hr.2 with e | ⟨j, hj⟩
    ·exact .inl ((jy hr.2).2 ⟨rfl, e⟩)
    ·exact .inr (by rw [hF.lim] at hj; exact xe _ _ hj)
  ·right;refine ⟨fm.1, h0, k3 h0, ?_⟩;rcases hF.res with ⟨e, _⟩ | ⟨_, j, hj⟩
   ·exact absurd e h0
   ·exact xe _ _ hj
end
def pnA : Pn := ⟨4, 1, 2, 2⟩
theorem ut : pnA.Ok := ⟨by decide, by decide, by decide, by decide, by decide, by decide, by decide, by decide⟩
theorem qnv (w : World) : Kd.C (Kd.int .u8) w none 0 [] := ⟨rfl, by decide, fun h => absurd h (Nat.lt_irrefl 0)⟩
theorem qnl (w : World) : Kd.C (Kd.int .i64) w none 0 [] := ⟨rfl, by decide, fun h => absurd h (Nat.lt_irrefl 0)⟩
theorem qmx {w : World} {W M C : Nat} {s s' : TS} {cost : Int} {F : Nat → Prop} {p : Pn} (h : ja w W M C p s cost F) (hp : p.Ok) (op : S39) (h4 : op.f4 = []) {e off : Int} {bs : List Int} (hr : TwR p s op e off bs s') : Calls Tryz.prog 21 #[.pointer (some ⟨W, 0, none⟩), .agg #[.int .i64 op.f0, .int .i64 op.f1, .int .i64 op.f2, .int .i64 op.f3, .slice none 0 0]] w (xz w W M C p (wrap64 (s'.mem.writes - s.mem.writes)) F e off bs s') := by
 have := qbl h op none 0 (by rw [h4]; exact qnv w) (by rw [h4]; exact Nat.le_refl 0) hp hr;unfold opV at this;rw [h4] at this;exact this
structure Stands (w0 w : World) (W M C : Nat) (p : Pn) (s : TS) (F : Nat → Prop) : Prop where
 tw : ∃ cost, ja w W M C p s cost F
 far : ∀ j, F j → w0.heap.size ≤ j
 below : Below w0.heap.size w0 w
theorem Stands.step {w0 w w' : World} {W M C : Nat} {p : Pn} {s s' : TS} {F F' : Nat → Prop} {cost : Int} (h : Stands w0 w W M C p s F) (ht : ja w' W M C p s' cost F') (kk : aj F w w') (hf : ∀ j, F' j → F j ∨ w.heap.size ≤ j) : Stands w0 w' W M C p s' F' :=
 ⟨⟨_, ht⟩, fun j hj => (hf j hj).elim (h.far j) (fun e => Nat.le_trans h.below.size e), h.below.trans (kk.below h.below.size (fun j hj e => by have := h.far j e; omega))⟩
theorem Stands.on {w0 w w' : World} {W M C : Nat} {p : Pn} {s : TS} {F : Nat → Prop} (h : Stands w0 w W M C p s F) (hb : Below w.heap.size w w') : Stands w0 w' W M C p s F := by
 obtain ⟨c, ht⟩ := h.tw;exact h.step (ht.below hb) (aj.of_below hb) (fun j hj => .inl hj)
def n5 (w : World) (F : Nat → Prop) (g : Nat) (cs : List Value) : Prop := w.heap[g]? = some (.cells cs.toArray 36 (0, 0)) ∧ ¬ F g
theorem n5.step {w w' : World} {F F' : Nat → Prop} {g : Nat} {cs : List Value} (h : n5 w F g cs) (kk : aj F w w') (hf : ∀ j, F' j → F j ∨ w.heap.size ≤ j) : n5 w' F' g cs :=
 ⟨kk.of h.1 h.2, fun e => (hf g e).elim h.2 (fun e => by have := dk h.1; omega)⟩
theorem n5.on {w w' : World} {F : Nat → Prop} {g : Nat} {cs : List Value} (h : n5 w F g cs) (hb : Below w.heap.size w w') : n5 w' F g cs := ⟨ai h.1 hb, h.2⟩
theorem n5.new {w w' : World} {W M C : Nat} {p : Pn} {s : TS} {F : Nat → Prop} {cs : List Value} {w0 : World} (h : Stands w0 w W M C p s F) (hb : w'.heap[w.heap.size]? = some (.cells cs.toArray 36 (0, 0))) : n5 w' F w.heap.size cs := by
 obtain ⟨c, ht⟩ := h.tw;exact ⟨hb, fun e => by have := ht.lt _ e; omega⟩
theorem qi6 {w0 w : World} {W M C : Nat} {s s' : TS} {F : Nat → Prop} {p : Pn} (h : Stands w0 w W M C p s F) (hp : p.Ok) (op : S39) (h4 : op.f4 = []) {e off : Int} {bs : List Int} (hr : TwR p s op e off bs s') : Calls Tryz.prog 21 #[.pointer (some ⟨W, 0, none⟩), .agg #[.int .i64 op.f0, .int .i64 op.f1, .int .i64 op.f2, .int .i64 op.f3, .slice none 0 0]] w fun x w' => ∃ A c F', x = .returned (.agg #[.int .i64 e, .int .i64 off, .slice A bs.length c]) ∧ Stands w0 w' W M C p s' F' ∧ aj F w w' ∧ ∀ j, F' j → F j ∨ w.heap.size ≤ j := by
 obtain ⟨c, ht⟩ := h.tw;refine (qmx ht hp op h4 hr).mono ?_;rintro x w' ⟨d, F', rfl, ho, ht', kk, hf⟩;obtain ⟨A, c', rfl⟩ := Kd.R_slice ho;exact ⟨A, c', F', rfl, h.step ht' kk hf, kk, hf⟩
theorem sj (w : World) : Calls Tryz.prog 15 #[] w fun e w' => e = .returned (.bool true) ∧ Below w.heap.size w w' := by
 have HN : Aside0 (∀ w', Calls Tryz.prog 17 #[.agg #[.int .i64 4, .int .i64 1, .int .i64 2, .int .i64 2], .slice none 0 0] w' (qnu w' pnA [])) := ⟨fun w' => qfx (p := pnA) ut none 0 (qnl w') (Nat.le_refl 0)⟩;go_enter Tryz.func15, Tryz.ntmps15;go_wp2_with (first
  | (go_at_call 17; (with_reducible refine (HN.out _).mono ?_); rintro e w1 ⟨hb, ⟨W, M, C, F, st0, rfl, ht, hF, hs⟩ | ⟨n, hn, rfl, hl⟩⟩)
  )
 ·obtain ⟨st1, st2, st3, bs, r1, r2, r3, r4, r5, hbs⟩ := qde ut hs.inv hs.quiet (by have := hs.mv; omega);have S1 := am (Stands.mk (w0 := w) ⟨_, ht⟩ hF hb);have A1 : Aside0 (∀ w' F', Stands w w' W M C pnA (.on st0) F' → Calls Tryz.prog 21 #[.pointer (some ⟨W, 0, none⟩), .agg #[.int .i64 1, .int .i64 0, .int .i64 9, .int .i64 0, .slice none 0 0]] w' fun x w'' => ∃ A c F'', x = .returned (.agg #[.int .i64 0, .int .i64 8, .slice A 0 c]) ∧ Stands w w'' W M C pnA (.on st1) F'' ∧ aj F' w' w'' ∧ ∀ j, F'' j → F' j ∨ w'.heap.size ≤ j) := ⟨fun w' F' h => qi6 h ut opA rfl r1⟩;have A2 : Aside0 (∀ w' F', Stands w w' W M C pnA (.on st1) F' → Calls Tryz.prog 21 #[.pointer (some ⟨W, 0, none⟩), .agg #[.int .i64 7, .int .i64 0, .int .i64 0, .int .i64 0, .slice none 0 0]] w' fun x w'' => ∃ A c F'', x = .returned (.agg #[.int .i64 0, .int .i64 0, .slice A 0 c]) ∧ Stands w w'' W M C pnA (.on { st1 with m := Nvm.cutAt st1.m 0 0 }) F'' ∧ aj F' w' w'' ∧ ∀ j, F'' j → F' j ∨ w'.heap.size ≤ j) := ⟨fun w' F' h => qi6 h ut opC rfl r2⟩;generalize TS.on { st1 with m := Nvm.cutAt st1.m 0 0 } = s2 at A2 r3;have A3 : Aside0 (∀ w' F', Stands w w' W M C pnA s2 F' → Calls Tryz.prog 21 #[.pointer (some ⟨W, 0, none⟩), .agg #[.int .i64 2, .int .i64 8, .int .i64 0, .int .i64 0, .slice none 0 0]] w' fun x w'' => ∃ A c F'', x = .returned (.agg #[.int .i64 2, .int .i64 0, .slice A 0 c]) ∧ Stands w w'' W M C pnA (.on st2) F'' ∧ aj F' w' w'' ∧ ∀ j, F'' j → F' j ∨ w'.heap.size ≤ j) := ⟨fun w' F' h => qi6 h ut opF rfl r3⟩;have A4 : Aside0 (∀ w' F', Stands w w' W M C pnA (.on st2) F' → Calls Tryz.prog 21 #[.pointer (some ⟨W, 0, none⟩), .agg #[.int .i64 8, .int .i64 0, .int .i64 0, .int .i64 0, .slice none 0 0]] w' fun x w'' => ∃ A c F'', x = .returned (.agg #[.int .i64 0, .int .i64 0, .slice A 0 c]) ∧ Stands w w'' W M C pnA (.on st3) F'' ∧ aj F' w' w'' ∧ ∀ j, F'' j → F' j ∨ w'.heap.size ≤ j) := ⟨fun w' F' h => qi6 h ut opS rfl r4⟩;have A5 : Aside0 (∀ w' F', Stands w w' W M C pnA (.on st3) F' → Calls Tryz.prog 21 #[.pointer (some ⟨W, 0, none⟩), .agg #[.int .i64 3, .int .i64 8, .int .i64 9, .int .i64 0, .slice none 0 0]] w' fun x w'' => ∃ A c F'', x = .returned (.agg #[.int .i64 0, .int .i64 0, .slice A 9 c]) ∧ Stands w w'' W M C pnA (.on st3) F'' ∧ aj F' w' w'' ∧ ∀ j, F'' j → F' j ∨ w'.heap.size ≤ j) := ⟨fun w' F' h => by have := qi6 h ut opR rfl r5; rw [hbs] at this; exact this⟩;clear ht hF hb hs r1 r2 r3 r4 r5 hbs;go_wp2_with (first
   | (go_at_call 21; (with_reducible refine (A1.out _ _ S1.out).mono ?_); rintro x w2 ⟨A, c, F2, rfl, hs, hk, hf⟩; have S2 := am hs; clear hs hk hf)
   | ((with_reducible refine bf (t := 36) (p := 3) rfl ?_); refine dp rfl 36 (.tmp 3) (.tmp 20) rfl _ (em 0 8 (.slice A 0 c)) rfl rfl fe rfl rfl ?_; intro w3 BZ HZb; have S3 := am (S2.out.on HZb.out); have B1 := am (n5.new S2.out BZ.out); generalize w2.heap.size = g1 at B1 ⊢; clear S2 BZ HZb)
   | (go_at_call 21; (with_reducible refine (A2.out _ _ S3.out).mono ?_); rintro x w4 ⟨A, c, F4, rfl, hs, hk, hf⟩; have S4 := am hs; have B2 := am (B1.out.step hk hf); clear hs hk hf B1)
   | (go_at_call 21; (with_reducible refine (A3.out _ _ S4.out).mono ?_); rintro x w5 ⟨A, c, F5, rfl, hs, hk, hf⟩; have S5 := am hs; have B3 := am (B2.out.step hk hf); clear hs hk hf B2)
   | ((with_reducible refine bf (t := 36) (p := 4) rfl ?_); refine dp rfl 36 (.tmp 4) (.tmp 26) rfl _ (em 2 0 (.slice A 0 c)) rfl rfl fe rfl rfl ?_; intro w6 BZ HZb; have S6 := am (S5.out.on HZb.out); have B4 := am (B3.out.on HZb.out); have D4 := am (n5.new S5.out BZ.out); generalize w5.heap.size = g2 at D4 ⊢; clear S5 BZ HZb B3)
   | (go_at_call 21; (with_reducible refine (A4.out _ _ S6.out).mono ?_); rintro x w7 ⟨A, c, F7, rfl, hs, hk, hf⟩; have S7 := am hs; have B5 := am (B4.out.step hk hf); have D5 := am (D4.out.step hk hf); clear hs hk hf B4 D4)
   | ((with_reducible refine bf (t := 36) (p := 5) rfl ?_); refine dp rfl 36 (.tmp 5) (.tmp 29) rfl _ (em 0 0 (.slice A 0 c)) rfl rfl fe rfl rfl ?_; intro w8 BZ HZb; have S8 := am (S7.out.on HZb.out); have B6 := am (B5.out.on HZb.out); have D6 := am (D5.out.on HZb.out); have E6 := am (n5.new S7.out BZ.out); generalize w7.heap.size = g3 at E6 ⊢; clear S7 BZ HZb B5 D5)
   | (go_at_call 21; (with_reducible refine (A5.out _ _ S8.out).mono ?_); rintro x w9 ⟨A, c, F9, rfl, hs, hk, hf⟩; have S9 := am hs; have B7 := am (B6.out.step hk hf); have D7 := am (D6.out.step hk hf); have E7 := am (E6.out.step hk hf); clear hs hk hf B6 D6 E6)
   | ((with_reducible refine bf (t := 36) (p := 6) rfl ?_); refine dp rfl 36 (.tmp 6) (.tmp 32) rfl _ (em 0 0 (.slice A 9 c)) rfl rfl fe rfl rfl ?_; intro w10 BZ HZb; have S10 := am (S9.out.on HZb.out); have B8 := am (B7.out.on HZb.out); have D8 := am (D7.out.on HZb.out); have E8 := am (E7.out.on HZb.out); have G8 := am (n5.new S9.out BZ.out); generalize w9.heap.size = g4 at G8 ⊢; clear S9 BZ HZb B7 D7 E7; have k1 : w10.cell? ⟨g1, 1, none⟩ = some (.int .i64 8) := (af B8.out.1 1).trans rfl; have k2 : w10.cell? ⟨g2, 0, none⟩ = some (.int .i64 2) := (af D8.out.1 0).trans rfl; have k3 : w10.cell? ⟨g3, 0, none⟩ = some (.int .i64 0) := (af E8.out.1 0).trans rfl; have k4 : w10.cell? ⟨g4, 2, none⟩ = some (.slice A 9 c) := (af G8.out.1 2).trans rfl))
  go_ret;exact ⟨rfl, S10.out.below⟩
 ·exact absurd rfl hl
theorem qdt (w : World) (A0 : Option Addr) (c0 : Nat) (A1 : Option Addr) (c1 : Nat) (l : List Int) (hr0 : Kd.C (Kd.int .u64) w A0 l.length l) (hc0 : l.length ≤ c0) (hr1 : Kd.C (Kd.int .u64) w A1 l.length l) (hc1 : l.length ≤ c1) (hl : l.length ≤ 100000) : Calls Tryz.prog 22 #[.slice A0 l.length c0, .slice A1 l.length c1] w fun e w' => e = .returned (.bool true) ∧ Drawn0 w w' := by
 have HR0 := am hr0;have HC0 := am hc0;have HR1 := am hr1;have HC1 := am hc1;have HL := am hl;clear hr0 hc0 hr1 hc1 hl;have c3b1 : ((l.length : Int) != (l.length : Int)) = false := bne_eq_false_iff_eq.mpr rfl;go_enter Tryz.func22, Tryz.ntmps22;go_wp2
 repeat (go_quiet (fail); try go_wp2)
 go_loopg [13] (l.length + 1) (fun kq v13 w' => ∃ (x : Int), v13 = .int .i64 x ∧ Aside0 (0 ≤ x ∧ x + kq = l.length + 1 ∧ x ≤ l.length) ∧ Aside0 (kq ≤ l.length + 1) ∧ Drawn0 w w')
 case atStart => exact ⟨0, rfl, ⟨by omega, by omega, by omega⟩, ⟨Nat.le_refl _⟩, Drawn0.refl _⟩
 case round =>
  obtain ⟨x, rfl, HA, HK1, ⟨m1, rfl⟩⟩ := hrel;cases gk with
  | zero => exact absurd HA.out (by omega)
  | succ k1 =>
   by_cases c4 : x < (l.length : Int)
   ·have c4b0 : decide (x < (l.length : Int)) = true := decide_eq_true c4;have c8b1 : ((rd l x) != (rd l x)) = false := bne_eq_false_iff_eq.mpr rfl;obtain ⟨ad0, e0, hx0⟩ := Kd.at_int HR0.out x HA.out.1 c4;cases e0;obtain ⟨ad1, e1, hx1⟩ := Kd.at_int HR1.out x HA.out.1 c4;cases e1;have p164 := eq_true HA.out.1;have q164 := eq_true c4;have hw : wrap64 (x + 1) = x + 1 := w64 (by have := HL.out; have := HA.out; omega);have HW := am hw;clear c4 hw;go_wp2
    repeat (go_quiet (fail); try go_wp2)
    go_roundg k1
    case measure => have := HK1.out; omega
    case rel => exact ⟨_, by rw [HW.out], ⟨by have := HA.out; omega, by have := HA.out; omega, by have := HA.out; have := of_eq_true q164; omega⟩, ⟨by have := HK1.out; omega⟩, by repeat (first | exact Drawn0.refl _ | apply Drawn0.step)⟩
   ·have c4b0 : decide (x < (l.length : Int)) = false := decide_eq_false c4;clear c4;go_wp2
    repeat (go_quiet (fail); try go_wp2)
    go_ret;exact ⟨rfl, by repeat (first | exact Drawn0.refl _ | apply Drawn0.step)⟩
section
variable {w0 w : World} {W M C : Nat} {p : Pn} {st : St} {F : Nat → Prop} {l : List S116} {v : List Int} {r : Int}
theorem qjv (h : HInv p st l v r) (hp : p.Ok) (hu : st.m.down = false) : Hp.words p st.m = (v, 0) := by
 unfold Hp.words;rw [hu, if_neg (by decide)];exact congrArg (fun x => (x, (0 : Int))) (h.ws hp hu)
theorem Stands.opens (h : Stands w0 w W M C p (.on st) F) (hi : HInv p st l v r) (hp : p.Ok) (hu : st.m.down = false) : ∃ H : Nat, (Calls Tryz.prog 18 #[.pointer (some ⟨W, 0, none⟩)] w fun e w' => e = .returned (.pointer (some ⟨H, 0, none⟩)) ∧ w = w') ∧ (Calls Tryz.prog 19 #[.pointer (some ⟨H, 0, none⟩)] w fun e w' => e = .returned (.bool (Hp.isWorn st.worn st.m)) ∧ w = w') ∧ (Calls Tryz.prog 20 #[.pointer (some ⟨H, 0, none⟩)] w fun e w' => ∃ A c, e = .returned (.tuple #[.slice A v.length c, .int .i64 0]) ∧ Kd.R (Kd.int .u64) 25 w' w.heap.size (fun _ => True) (.slice A v.length c) v ∧ Below w.heap.size w w') := by
 obtain ⟨c, ht⟩ := h.tw;obtain ⟨b, _, _, hh, hx, hn, hF⟩ := ht;refine ⟨b.H, qdw hx, uo hh.box hh.tur.mem hh.log, ?_⟩;have hW := qo hh.tur hh.log hh.box hp (fun _ => hi.rd hu) hi.inv.c14.2;rw [qjv hi hp hu] at hW;refine hW.mono ?_;rintro e w' ⟨x, rfl, ho, hb⟩;obtain ⟨A, c', rfl⟩ := Kd.R_slice ho;exact ⟨A, c', rfl, ho, hb⟩
theorem qiq (hi : HInv p st l v r) (hp : p.Ok) (hb : Trn.moves st.m + 40 ≤ 4611686018427387903) (op : S39) (hB : Bys op.f4) (k7 : op.f0 ≠ 7) (k8 : op.f0 ≠ 8) : ∃ e off bs st', DoneR p st op e off st' l v r ∧ ∀ (w0 w : World) (W M C : Nat) (F : Nat → Prop) (A : Option Addr) (c : Nat), Stands w0 w W M C p (.on st) F → Kd.C (Kd.int .u8) w A op.f4.length op.f4 → op.f4.length ≤ c → Calls Tryz.prog 21 #[.pointer (some ⟨W, 0, none⟩), .agg #[.int .i64 op.f0, .int .i64 op.f1, .int .i64 op.f2, .int .i64 op.f3, .slice A op.f4.length c]] w fun x w' => ∃ A' c' F', x = .returned (.agg #[.int .i64 e, .int .i64 off, .slice A' (bs : List Int).length c']) ∧ ja w' W M C p (.on st') (wrap64 (st'.m.writes - st.m.writes)) F' ∧ Stands w0 w' W M C p (.on st') F' ∧ aj F w w' ∧ ∀ j, F' j → F j ∨ w.heap.size ≤ j := by
 obtain ⟨e, off, bs, st', hd, hD⟩ := qnp (op := op) hi hp hb hB;refine ⟨e, off, bs, st', hD, fun w0 w W M C F A c h hbs hbc => ?_⟩;obtain ⟨cst, ht⟩ := h.tw;refine (qbl ht op A c hbs hbc hp (.inr (.inr (.inr ⟨k7, k8, st, st', rfl, rfl, hi.stOk hb, hd⟩)))).mono ?_;rintro x w' ⟨d, F', rfl, ho, ht', kk, hf⟩;obtain ⟨A', c', rfl⟩ := Kd.R_slice ho;exact ⟨A', c', F', rfl, ht', h.step ht' kk hf, kk, hf⟩
theorem qlf {cost : Int} (h : ja w W M C p (.on st) cost F) : Calls Tryz.prog 23 #[.pointer (some ⟨W, 0, none⟩)] w fun e w' => e = .returned (.int .i64 cost) ∧ w = w' := by
 obtain ⟨hv, hx⟩ := h.box;exact qeh hx
structure Going (p : Pn) (st : St) (k : Int) : Prop where
 inv : ∃ l v r, HInv p st l v r
 up : st.m.down = false
 cut : st.m.cut < 0
 mv : Trn.moves st.m ≤ 100 + 40 * k
theorem DoneR.going {op : S39} {e off k : Int} {st' : St} (h : DoneR p st op e off st' l v r) (hi : HInv p st l v r) (g : Going p st k) : Going p st' (k + 1) := by
 have hm := h.kp.mv;have gm := g.mv;refine ⟨?_, ?_, by rw [h.kp.cut g.cut]; exact g.cut, by omega⟩
 ·rcases h.eff with ⟨_, _, rfl⟩ | ⟨_, l', v', r', _, a⟩ | ⟨_, a⟩ | ⟨_, _, l', v', r', _, a⟩
  ·exact g.inv
  ·exact ⟨_, _, _, a⟩
  ·exact ⟨_, _, _, a⟩
  ·exact ⟨_, _, _, a⟩
 ·by_cases c : st'.m.down = true
  ·have := h.cutd g.up c;have := g.cut;omega
  ·exact ww c
end
theorem qj7 (a b c d : Int) : ∃ p : Pn, p.Ok ∧ p.lines ≤ 24 ∧ p.period ≤ 30 ∧ jg.f a b c d = some (p.lines, p.spare, p.period, p.batch) := by
 refine ⟨⟨1 + a % 18446744073709551616 % 24, b % 18446744073709551616 % 17, 1 + c % 18446744073709551616 % 30, 1 + d % 18446744073709551616 % 10⟩, ⟨by dsimp only; omega, by dsimp only; omega, by dsimp only; omega, by dsimp only; omega, by dsimp only; omega, by dsimp only; omega, by dsimp only; omega, by dsimp only; omega⟩, by dsimp only; omega, by dsimp only; omega, ?_⟩;unfold jg.f ik.f;rw [qls a 24 (by decide) (by decide), qls b 17 (by decide) (by decide), qls c 30 (by decide) (by decide), qls d 10 (by decide) (by decide), w64 (n := 1 + a % 18446744073709551616 % 24) (by omega), w64 (n := 1 + c % 18446744073709551616 % 30) (by omega), w64 (n := 1 + d % 18446744073709551616 % 10) (by omega)];rfl
theorem qis (ops : List S39) (hl : ops.length ≤ 4611686018427387904) (d : Nat) : ∀ i : Int, 0 ≤ i → i ≤ 80 → i + d = ops.length → ∃ r, Ev (fun k => bu.l0 k ops (ops.length : Int) i) r ∧ (0 < r ∨ (r = 0 ∧ ops.length ≤ 80)) := by
 induction d with
 | zero => intro i h0 h1 h2; exact ⟨0, Ev.step (fun k => by rw [bu.l0]) (bp (by omega) (Ev.now _)), .inr ⟨rfl, by omega⟩⟩
 | succ d ih =>
  intro i h0 h1 h2;have hw : wrap64 (i + 1) = i + 1 := w64 (by omega);by_cases c : i ≥ 80
  ·refine ⟨i + 1, Ev.step (fun k => by rw [bu.l0, hw]) ?_, .inl (by omega)⟩;exact ah (by omega) (ah h0 (ah (by omega) (ah c (Ev.now _))))
  ·by_cases c2 : (((jw ops i).f4).length : Int) > 500
   ·refine ⟨i + 1, Ev.step (fun k => by rw [bu.l0, hw]) ?_, .inl (by omega)⟩;exact ah (by omega) (ah h0 (ah (by omega) (bp c (ah c2 (Ev.now _)))))
   ·obtain ⟨r, h3, h4⟩ := ih (i + 1) (by omega) (by omega) (by omega);refine ⟨r, Ev.step (fun k => by rw [bu.l0, hw]) ?_, h4⟩;exact ah (by omega) (ah h0 (ah (by omega) (bp c (bp c2 h3))))
theorem qi3 (ops : List S39) (limits : List Int) (hl : ops.length ≤ 4611686018427387904) : ∃ r, Ev (fun k => bu.f k ops limits) r ∧ (0 < r ∨ (r = 0 ∧ ops.length ≤ 80)) := by
 unfold bu.f;by_cases c : (limits.length : Int) > 200
 ·exact ⟨1, ah c (Ev.now _), .inl (by decide)⟩
 ·obtain ⟨r, h1, h2⟩ := qis ops hl ops.length 0 (by omega) (by omega) (by omega);exact ⟨r, bp c h1, h2⟩
def ql9 (a b c d : Int) : List Value := [.int .i64 a, .int .i64 b, .int .i64 c, .int .i64 d]
theorem qju (p : Pn) : ∀ v ∈ [Value.int .i64 p.lines, .int .i64 p.spare, .int .i64 p.period, .int .i64 p.batch], v.oneCell' = true := by
 intro v hv;simp only [List.mem_cons, List.not_mem_nil, or_false] at hv;rcases hv with rfl | rfl | rfl | rfl <;> rfl
theorem TopSticky_walk (w : World) (a b c d : Int) (A0 : Option Addr) (c0 : Nat) (limits : List Int) (A1 : Option Addr) (c1 : Nat) (ops : List S39) (hr0 : Kd.C (Kd.int .i64) w A0 limits.length limits) (hc0 : limits.length ≤ c0) (hr1 : Kd.C k39 w A1 ops.length ops) (hc1 : ops.length ≤ c1) (hB : ∀ op ∈ ops, Bys op.f4) (hl : ops.length ≤ 4611686018427387904) : Calls Tryz.prog 4 #[.agg (ql9 a b c d).toArray, .slice A0 limits.length c0, .slice A1 ops.length c1] w fun e w' => e = .returned (.bool true) ∧ Below w.heap.size w w' := by
 obtain ⟨hv, hvE, hv2⟩ := qi3 ops limits hl;obtain ⟨k0, hk0⟩ := hvE;have hH := hk0 k0 (Nat.le_refl _);obtain ⟨p, hp, hp24, hp30, hsm⟩ := qj7 a b c d;have HR0 := am hr0;have HR1 := am hr1;have HC0 := am hc0;have HC1 := am hc1;have HBy := am hB;have HHv := am hH;have HSm := am hsm;have HP := am hp;have HL := am hl;unfold ql9 at *;have BX : Aside0 ((w.alloc (.cells [.int .i64 a, .int .i64 b, .int .i64 c, .int .i64 d].toArray 23)).heap[w.heap.size]? = some (.cells [.int .i64 a, .int .i64 b, .int .i64 c, .int .i64 d].toArray 23 (0, 0))) := ⟨heap_alloc_new w _⟩;have HB0 : Aside0 (Below w.heap.size w (w.alloc (.cells [.int .i64 a, .int .i64 b, .int .i64 c, .int .i64 d].toArray 23))) := ⟨(Below.refl _ _).alloc (Nat.le_refl _) _⟩;clear hr0 hr1 hc0 hc1 hB hH hsm hp hk0 hl;by_cases h0 : 0 < hv
 ·have b0 : decide (0 < hv) = true := decide_eq_true h0;clear h0 hv2;go_enter Tryz.func4, Tryz.ntmps4;go_wp2_with (first
   | (go_at_call 16; (with_reducible refine (bu.calls k0 A1 c1 ops A0 c0 limits hv _ (Kd.C_below HR1.out HB0.out) HC1.out (Kd.C_below HR0.out HB0.out) HC0.out HHv.out).mono ?_); rintro e w1 ⟨rfl, hb⟩; have HB1 := am (ac HB0.out hb); clear hb)
   | (go_at_call 15; (with_reducible refine (sj _).mono ?_); rintro e w2 ⟨rfl, hb⟩; have HB2 := am (ac HB1.out hb); clear hb))
  go_ret;exact ⟨rfl, HB2.out⟩
 ·have hv0 : hv = 0 ∧ ops.length ≤ 80 := by rcases hv2 with e | e <;> omega
  obtain ⟨rfl, hlen⟩ := hv0;have HLn := am hlen;clear h0 hv2 hlen;go_enter Tryz.func4, Tryz.ntmps4;go_wp2_with (first
   | (go_at_call 16; (with_reducible refine (bu.calls k0 A1 c1 ops A0 c0 limits 0 _ (Kd.C_below HR1.out HB0.out) HC1.out (Kd.C_below HR0.out HB0.out) HC0.out HHv.out).mono ?_); rintro e w1 ⟨rfl, hb⟩; have HB1 := am (ac HB0.out hb); have BX1 := am (ai BX.out hb); clear hb)
   | ((with_reducible refine fc (.load 23 (.tmp 3)) rfl ?_); refine aq rfl 23 (.tmp 3) rfl w.heap.size 0 rfl [.int .i64 a, .int .i64 b, .int .i64 c, .int .i64 d] _ (fun j v hv => by rw [Nat.zero_add]; exact bh BX1.out j v hv) Tryz.underlying23 rfl ii ?_)
   | (go_at_call 7; (with_reducible refine (jg.calls a b c d p.lines p.spare p.period p.batch _ HSm.out).mono ?_); rintro e w2 ⟨rfl, hb⟩; have HB2 := am (ac HB1.out hb); have BX2 := am (ai BX1.out hb); clear hb BX1)
   | ((with_reducible refine bf (t := 23) (p := 3) rfl ?_); refine dn rfl 23 (.tmp 3) (.tmp 24) rfl w.heap.size 0 [.int .i64 p.lines, .int .i64 p.spare, .int .i64 p.period, .int .i64 p.batch] rfl rfl 23 [.int .i64 a, .int .i64 b, .int .i64 c, .int .i64 d] BX2.out ii (Nat.le_refl _) (qju p) ?_; rw [i5 [Value.int .i64 p.lines, .int .i64 p.spare, .int .i64 p.period, .int .i64 p.batch] [.int .i64 a, .int .i64 b, .int .i64 c, .int .i64 d] rfl]; have BX3 : Aside0 ((w2.setRow w.heap.size [Value.int .i64 p.lines, .int .i64 p.spare, .int .i64 p.period, .int .i64 p.batch].toArray).heap[w.heap.size]? = some (.cells [.int .i64 p.lines, .int .i64 p.spare, .int .i64 p.period, .int .i64 p.batch].toArray 23 (0, 0))) := ⟨setRow_heap _ _ _ _ _ _ BX2.out⟩; have HB3 := am (e6 HB2.out (Nat.le_refl _) [Value.int .i64 p.lines, .int .i64 p.spare, .int .i64 p.period, .int .i64 p.batch].toArray); generalize w2.setRow w.heap.size _ = w3 at BX3 HB3 ⊢; clear BX2 HB2 HSm)
   | ((with_reducible refine fc (.load 23 (.tmp 3)) rfl ?_); refine aq rfl 23 (.tmp 3) rfl w.heap.size 0 rfl [.int .i64 p.lines, .int .i64 p.spare, .int .i64 p.period, .int .i64 p.batch] _ (fun j v hv => by rw [Nat.zero_add]; exact bh BX3.out j v hv) Tryz.underlying23 rfl ii ?_)
   | (go_at_call 17; (with_reducible refine (qfx HP.out A0 c0 (Kd.C_below HR0.out HB3.out) HC0.out).mono ?_); rintro e w4 ⟨hb, ⟨W, M, C, F, st0, rfl, ht, hF, hs⟩ | ⟨n, hn, rfl, hn2⟩⟩; rotate_left; have bn : (n != 0) = true := bne_iff_ne.mpr hn; have hln : 0 < limits.length := List.length_pos_iff.2 hn2; have bl : decide (0 < limits.length) = true := decide_eq_true hln; have bl2 : decide (0 < (limits.length : Int)) = true := decide_eq_true (by omega); have HB4 := am (ac HB3.out hb); clear hb hn hn2 hln)
   | (go_at_call 15; (with_reducible refine (sj _).mono ?_); rintro e w5 ⟨rfl, hb⟩; have HB5 := am (ac HB4.out hb); clear hb))
  ·go_ret;exact ⟨rfl, HB5.out⟩
  ·have S4 : Aside0 (∃ st F, Stands w w4 W M C p (.on st) F ∧ Going p st ((0 : Nat) : Int)) := ⟨_, F, ⟨⟨_, ht⟩, fun j hj => Nat.le_trans HB3.out.size (hF j hj), ac HB3.out hb⟩, ⟨_, _, _, hs.inv⟩, hs.up, by rw [hs.cut]; decide, by have := hs.mv; omega⟩;clear BX3 HB3 hb ht hF hs BX HB0;go_loopw [45] (fun i wr => ∃ k : Nat, i = .int .i64 k ∧ k ≤ ops.length ∧ Aside0 (∃ st F, Stands w wr W M C p (.on st) F ∧ Going p st (k : Int))) (fun i _ => ops.length - (intOf i).toNat)
   case atStart => exact ⟨0, rfl, by omega, S4⟩
   case round =>
    clear S4;obtain ⟨k, rfl, hk, HS⟩ := hrel;obtain ⟨⟨st, F, hS, hg⟩⟩ := HS;by_cases hlt : k < ops.length
    ·have d3 : decide ((k : Int) < ops.length) = true := decide_eq_true (by omega);have p416 : 0 ≤ (k : Int) := by omega
     have q416 : (k : Int) < (ops.length : Int) := by omega
     have hmem : jw ops (k : Int) ∈ ops := by unfold jw;rw [Int.toNat_natCast, List.getD_eq_getElem?_getD, List.getElem?_eq_getElem hlt];exact List.getElem_mem hlt
     have hbys := HBy.out _ hmem;obtain ⟨ad, A4, c4, ea, hx0, hx1, hx2, hx3, hx4, hl4, hi4⟩ := qb5 (Kd.C_below HR1.out hS.below) (k : Int) p416 q416;cases ea;rw [Int.toNat_natCast] at hx0 hx1 hx2 hx3 hx4;generalize jw ops (k : Int) = op at *;have HI4 := am hi4;have HL4 := am hl4;have HSr := am hS;have HGo := am hg;replace p416 := eq_true p416;replace q416 := eq_true q416;clear hi4 hl4 hmem;have hL80 := HLn.out;obtain ⟨w5, hw5⟩ : ∃ x, x = wr.alloc (.cells #[.int .i64 op.f0, .int .i64 op.f1, .int .i64 op.f2, .int .i64 op.f3, .slice A4 op.f4.length c4] 39) := ⟨_, rfl⟩;have hZ : Below wr.heap.size wr w5 := by rw [hw5]; exact (Below.refl _ _).alloc (Nat.le_refl _) _
     have hBZ : w5.heap[wr.heap.size]? = some (.cells [.int .i64 op.f0, .int .i64 op.f1, .int .i64 op.f2, .int .i64 op.f3, .slice A4 op.f4.length c4].toArray 39 (0, 0)) := by rw [hw5]; exact heap_alloc_new wr _
     have S5 := am (hS.on hZ);have BZ := am hBZ;have HI5 := am (Kd.C_below HI4.out hZ);have HFin : ∀ w' st' F', Aside0 (Stands w w' W M C p (.on st') F') → Going p st' ((k : Int) + 1) → ∃ k' : Nat, (Value.int .i64 (wrap64 ((k : Int) + 1))) = .int .i64 k' ∧ k' ≤ ops.length ∧ Aside0 (∃ st F, Stands w w' W M C p (.on st) F ∧ Going p st (k' : Int)) := fun w' st' F' h g => ⟨k + 1, by rw [w64 (by omega)]; simp, by omega, ⟨st', F', h.out, g⟩⟩;have HFi := am HFin;have hms : ops.length - (intOf (Value.int .i64 (wrap64 ((k : Int) + 1)))).toNat < ops.length - (intOf (Value.int .i64 (k : Int))).toNat := by rw [w64 (by omega)];simp only [intOf];omega
     have HMs := am hms;have HW5 := am hw5;clear HFin hZ hBZ hms hS hL80 hw5;by_cases k78 : op.f0 = 7 ∨ op.f0 = 8
     ·have HGo2 : Aside0 (Going p st ((k : Int) + 1)) := ⟨⟨hg.inv, hg.up, hg.cut, by have := hg.mv; omega⟩⟩;clear hg;rcases k78 with e7 | e8
      ·have b7 : (op.f0 == (7 : Int)) = true := beq_iff_eq.mpr e7;clear e7;go_wp2;rw [← HW5.out];exact ⟨HFi.out _ _ _ S5 HGo2.out, HMs.out⟩
      ·have b7 : (op.f0 == (7 : Int)) = false := beq_eq_false_iff_ne.mpr (by omega);have b8 : (op.f0 == (8 : Int)) = true := beq_iff_eq.mpr e8;clear e8;go_wp2;rw [← HW5.out];exact ⟨HFi.out _ _ _ S5 HGo2.out, HMs.out⟩
     ·have n7 : op.f0 ≠ 7 := fun e => k78 (.inl e);have n8 : op.f0 ≠ 8 := fun e => k78 (.inr e);have b7 : (op.f0 == (7 : Int)) = false := beq_eq_false_iff_ne.mpr n7;have b8 : (op.f0 == (8 : Int)) = false := beq_eq_false_iff_ne.mpr n8;obtain ⟨l, v, r, hi⟩ := hg.inv;obtain ⟨e, off, bs, st', hD, hall⟩ := qiq hi HP.out (by have := hg.mv; have := HLn.out; omega) op hbys n7 n8;have hg' := hD.going hi hg;obtain ⟨l', v', r', hi'⟩ := hg'.inv;obtain ⟨H, h18, h19, h20⟩ := S5.out.opens hi HP.out hg.up;have hvl : v.length ≤ 100000 := by have := hi.hv.2.1.1; omega
      have HVl := am hvl;have HAll := am hall;have HI := am hi;have HI' := am hi';have HUp := am hg.up;have HUp' := am hg'.up;have HGo' := am hg';have HD := am hD;rw [HW5.out] at S5 BZ h18 h19 h20 HI5;have H18 := am h18;have H20 := am h20;clear hg hg' hi hi' hall hD n7 n8 k78 h18 h20 hvl hbys HI4;by_cases hw : Hp.isWorn st.worn st.m = true
      ·obtain ⟨hst, hid⟩ := HD.out.stuck hw;replace hst := hst.symm;subst hst;rw [hw] at h19;have H19 := am h19;have HWn := am hw;have hFl : ∀ j, F j → j < wr.heap.size := by obtain ⟨cc, hh⟩ := HSr.out.tw; exact hh.lt
       have HFl := am hFl;have hcs : ((e == (0 : Int)) = false ∧ (op.f0 == (4 : Int)) = false) ∨ ((e == (0 : Int)) = false ∧ (op.f0 == (4 : Int)) = true ∧ ((op.f4.length : Int) == 0) = false) ∨ ((e == (0 : Int)) = false ∧ (op.f0 == (4 : Int)) = true ∧ ((op.f4.length : Int) == 0) = true) ∨
         ((e == (0 : Int)) = true ∧ (op.f0 == (4 : Int)) = false ∧ (op.f0 != (3 : Int)) = false) ∨ ((e == (0 : Int)) = true ∧ (op.f0 == (4 : Int)) = false ∧ (op.f0 != (3 : Int)) = true ∧ (op.f0 != (6 : Int)) = false) ∨ ((e == (0 : Int)) = true ∧ (op.f0 == (4 : Int)) = true ∧ ((op.f4.length : Int) == 0) = true ∧ (op.f0 != (3 : Int)) = true ∧ (op.f0 != (6 : Int)) = true) := by
        simp only [beq_iff_eq, beq_eq_false_iff_ne, bne_iff_ne, bne_eq_false_iff_eq, ne_eq];by_cases c0 : e = 0
        ·rcases hid c0 with c | c | ⟨c, c2⟩
         ·omega
         ·omega
         ·have : op.f4.length = 0 := by rw [c2]; rfl
          omega
        ·omega
       clear h19 hw HD hid HI' HUp' hFl;rcases hcs with ⟨x1, x2⟩ | ⟨x1, x2, x3⟩ | ⟨x1, x2, x3⟩ | ⟨x1, x2, x4⟩ | ⟨x1, x2, x4, x5⟩ | ⟨x1, x2, x3, x4, x5⟩
       all_goals go_wp2_with (first
        | (go_at_call 18; (with_reducible refine H18.out.mono ?_); rintro x w6 ⟨rfl, rfl⟩)
        | (go_at_call 19; (with_reducible refine H19.out.mono ?_); rintro x w6 ⟨rfl, rfl⟩)
        | (go_at_call 20; (with_reducible refine H20.out.mono ?_); rintro x w6 ⟨Aw, cw, rfl, ho, hb⟩; have S6 := am (S5.out.on hb); have B6 := am (ai BZ.out hb); have HI6 := am (Kd.C_below HI5.out hb); have HOw := am (Kd.R_lower ho (show wr.heap.size ≤ _ from ((Below.refl wr.heap.size wr).alloc (Nat.le_refl _) _).size)); clear ho hb S5 BZ HI5 H18 H19 H20)
        | ((with_reducible refine fc (.load 39 (.tmp 10)) rfl ?_); refine aq rfl 39 (.tmp 10) rfl wr.heap.size 0 rfl [.int .i64 op.f0, .int .i64 op.f1, .int .i64 op.f2, .int .i64 op.f3, .slice A4 op.f4.length c4] _ (fun j v hv => by rw [Nat.zero_add]; exact bh B6.out j v hv) Tryz.underlying39 rfl qb7 ?_)
        | (go_at_call 21; (with_reducible refine (HAll.out _ _ _ _ _ _ _ _ S6.out HI6.out HL4.out).mono ?_); rintro x w7 ⟨A7, c7, F7, rfl, ht, hs, hk, hf⟩; rw [Int.sub_self, show wrap64 0 = 0 from w64 (by omega)] at ht; have T7 : Aside0 (ja w7 W M C p (.on st) 0 F7) := ⟨ht⟩; have S7 := am hs; have B7 := am (hk.of B6.out (fun h => Nat.lt_irrefl _ (HFl.out _ h))); have HO7 := am (n9 HOw.out hk (fun j hj h => by have := HFl.out j h; omega)); clear ht hs hk hf S6 B6 HI6 HAll HOw)
        | ((with_reducible refine bf (t := 36) (p := 14) rfl ?_); refine dp rfl 36 (.tmp 14) (.tmp 68) rfl _ (em e off (.slice A7 bs.length c7)) rfl rfl fe rfl rfl ?_; intro w8 BN HN; obtain ⟨H', h18', _, h20'⟩ := (S7.out.on HN.out).opens HI.out HP.out HUp.out; have S8 := am (S7.out.on HN.out); have T8 := am (T7.out.below HN.out); have B8 := am (ai B7.out HN.out); have HO8 := am (Kd.R_below HO7.out HN.out); have H18' := am h18'; have H20' := am h20'; generalize w7.heap.size = g14 at BN ⊢; clear h18' h20' S7 HN T7 B7 HO7)
        | (go_at_call 18; (with_reducible refine H18'.out.mono ?_); rintro x w9 ⟨rfl, rfl⟩)
        | (go_at_call 20; (with_reducible refine H20'.out.mono ?_); rintro x w9 ⟨Az, cz, rfl, ho, hb⟩; have S9 := am (S8.out.on hb); have T9 := am (T8.out.below hb); have B9 := am (ai B8.out hb); have BN9 := am (ai BN.out hb); obtain ⟨_, hq1, hq2⟩ := Kd.R_reads' (Kd.R_below HO8.out hb); obtain ⟨_, hq3, hq4⟩ := Kd.R_reads' ho; obtain ⟨H2, h18, h19, _⟩ := S9.out.opens HI.out HP.out HUp.out; rw [HWn.out] at h19; have H18z := am h18; have H19z := am h19; have H22 := am (qdt w9 Aw cw Az cz _ hq2 hq1 hq4 hq3 HVl.out); have z0 : w9.cell? ⟨wr.heap.size, 0, none⟩ = some (.int .i64 op.f0) := (af B9.out 0).trans rfl; have z4 : w9.cell? ⟨wr.heap.size, 4, none⟩ = some (.slice A4 op.f4.length c4) := (af B9.out 4).trans rfl; have ze : w9.cell? ⟨g14, 0, none⟩ = some (.int .i64 e) := (af BN9.out 0).trans rfl; clear ho hb S8 H18' H20' T8 B8 BN hq1 hq2 hq3 hq4 h18 h19 HO8)
        | (go_at_call 18; (with_reducible refine H18z.out.mono ?_); rintro x w10 ⟨rfl, rfl⟩)
        | (go_at_call 19; (with_reducible refine H19z.out.mono ?_); rintro x w10 ⟨rfl, rfl⟩)
        | (go_at_call 22; (with_reducible refine H22.out.mono ?_); rintro x w10 ⟨rfl, hd⟩; have hb := hd.below; have S10 := am (S9.out.on hb); have T10 := am (T9.out.below hb); have y0 : w10.cell? ⟨wr.heap.size, 0, none⟩ = some (.int .i64 op.f0) := (af (ai B9.out hb) 0).trans rfl; have ye : w10.cell? ⟨g14, 0, none⟩ = some (.int .i64 e) := (af (ai BN9.out hb) 0).trans rfl; clear hd hb z0 z4 ze S9 T9 B9 BN9)
        | (go_at_call 23; (with_reducible refine (qlf T10.out).mono ?_); rintro x w11 ⟨rfl, rfl⟩))
       all_goals exact ⟨HFi.out _ _ _ S10 HGo'.out, HMs.out⟩
      ·have hw := ww hw;rw [hw] at h19;have H19 := am h19;clear h19 hw HD;go_wp2_with (first
        | (go_at_call 18; (with_reducible refine H18.out.mono ?_); rintro x w6 ⟨rfl, rfl⟩)
        | (go_at_call 19; (with_reducible refine H19.out.mono ?_); rintro x w6 ⟨rfl, rfl⟩)
        | (go_at_call 20; (with_reducible refine H20.out.mono ?_); rintro x w6 ⟨Aw, cw, rfl, ho, hb⟩; have S6 := am (S5.out.on hb); have B6 := am (ai BZ.out hb); have HI6 := am (Kd.C_below HI5.out hb); clear ho hb S5 BZ HI5 H18 H19 H20)
        | ((with_reducible refine fc (.load 39 (.tmp 10)) rfl ?_); refine aq rfl 39 (.tmp 10) rfl wr.heap.size 0 rfl [.int .i64 op.f0, .int .i64 op.f1, .int .i64 op.f2, .int .i64 op.f3, .slice A4 op.f4.length c4] _ (fun j v hv => by rw [Nat.zero_add]; exact bh B6.out j v hv) Tryz.underlying39 rfl qb7 ?_)
        | (go_at_call 21; (with_reducible refine (HAll.out _ _ _ _ _ _ _ _ S6.out HI6.out HL4.out).mono ?_); rintro x w7 ⟨A7, c7, F7, rfl, ht, hs, hk, hf⟩; have S7 := am hs; clear ht hs hk hf S6 B6 HI6 HAll)
        | ((with_reducible refine bf (t := 36) (p := 14) rfl ?_); refine dp rfl 36 (.tmp 14) (.tmp 68) rfl _ (em e off (.slice A7 bs.length c7)) rfl rfl fe rfl rfl ?_; intro w8 BN HN; obtain ⟨H', h18', _, h20'⟩ := (S7.out.on HN.out).opens HI'.out HP.out HUp'.out; have S8 := am (S7.out.on HN.out); have H18' := am h18'; have H20' := am h20'; clear h18' h20' S7 BN HN)
        | (go_at_call 18; (with_reducible refine H18'.out.mono ?_); rintro x w9 ⟨rfl, rfl⟩)
        | (go_at_call 20; (with_reducible refine H20'.out.mono ?_); rintro x w9 ⟨Az, cz, rfl, ho, hb⟩; have S9 := am (S8.out.on hb); clear ho hb S8 H18' H20'))
       exact ⟨HFi.out _ _ _ S9 HGo'.out, HMs.out⟩
    ·have d3 : decide ((k : Int) < ops.length) = false := decide_eq_false (by omega);have HBr := am hS.below;clear hS hg;go_wp2_with (first
      | (go_at_call 15; (with_reducible refine (sj _).mono ?_); rintro e w5 ⟨rfl, hb⟩; have HB5 := am (ac HBr.out hb); clear hb))
     go_ret;exact ⟨rfl, HB5.out⟩
end Go.Proofs.YtmfhaliclnnbaaaGreat.Sys
