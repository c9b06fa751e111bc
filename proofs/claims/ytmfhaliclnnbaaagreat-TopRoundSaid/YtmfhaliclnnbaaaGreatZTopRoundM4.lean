import Derived.Test.YtmfhaliclnnbaaaGreatZTopRoundM2
import Derived.Test.YtmfhaliclnnbaaaGreatZTopRoundM3
import Derived.Maps.OwnOps
import Derived.Maps.OwnSet
import Derived.Great.BuildSlice
namespace Go.Proofs.YtmfhaliclnnbaaaGreat.Sys
open Go.RowKit Go.Proofs.YtmfhaliclnnbaaaGreatW.PrintWords Go.Proofs.YtmfhaliclnnbaaaGreatW.PrintLast Go.Proofs.YtmfhaliclnnbaaaGreatW.PrintMore
open Go.Proofs.YtmfhaliclnnbaaaGreat.XTopWhole Go.Proofs.YtmfhaliclnnbaaaGreat.Pl
set_option linter.unusedVariables false
set_option linter.unusedSimpArgs false
set_option maxRecDepth 100000
set_option maxHeartbeats 8000000
namespace Lns
def tableTo (m : Mem) (k : Nat) : List Int := (List.range k).map fun i => m.regs.getD (3 + i) 0
def get (m : Mem) (slots : Int) (spares : Nat) (slot : Int) : List Int × Int := if m.down then (zL, 2) else Nvm.get m (fj (tableTo m spares) slots slot)
def putLoop (slots slot : Int) (d : List Int) : Nat → Nat → Mem → Int × Mem
 | 0, _, m => (3, m)
 | n + 1, i, m =>
  if (Nvm.put m (slots + i) d).1 = 0 then Nvm.set (Nvm.put m (slots + i) d).2 (3 + i) (slot + 1)
  else if (Nvm.put m (slots + i) d).1 = 3 then
   if (Nvm.set (Nvm.put m (slots + i) d).2 (3 + i) (slots + 1)).1 = 0 then putLoop slots slot d n (i + 1) (Nvm.set (Nvm.put m (slots + i) d).2 (3 + i) (slots + 1)).2
   else Nvm.set (Nvm.put m (slots + i) d).2 (3 + i) (slots + 1)
  else Nvm.put m (slots + i) d
def put (m : Mem) (slots : Int) (spares : Nat) (slot : Int) (d : List Int) : Int × Mem :=
 if m.down then (2, m)
 else if (Nvm.put m (fj (tableTo m spares) slots slot) d).1 = 3 then
  if o9 (tableTo m spares) < 0 then Nvm.put m (fj (tableTo m spares) slots slot) d
  else putLoop slots slot d (spares - (o9 (tableTo m spares)).toNat) (o9 (tableTo m spares)).toNat (Nvm.put m (fj (tableTo m spares) slots slot) d).2
 else Nvm.put m (fj (tableTo m spares) slots slot) d
def table (m : Mem) (spares : Nat) : List Int × Int := if m.down then ([], 2) else (tableTo m spares, 0)
end Lns
def fl (w : World) (L M : Nat) (slots spares : Int) : Prop := w.heap[L]? = some (.cells #[.pointer (some ⟨M, 0, none⟩), .int .i64 slots, .int .i64 spares] 167 (0, 0))
theorem fl.kept {w w' : World} {L M : Nat} {slots spares : Int} {S : Nat → Prop} (h : fl w L M slots spares) (k : ah S w w') (hS : ¬ S L) : fl w' L M slots spares := ah.of k h hS
theorem fl.alloc {w : World} {L M : Nat} {slots spares : Int} (h : fl w L M slots spares) (o : Obj) : fl (w.alloc o) L M slots spares := h.kept ((ah.refl (fun _ => False) w).alloc o) id
theorem fl.below {w w' : World} {L M : Nat} {slots spares : Int} (h : fl w L M slots spares) (hb : Below w.heap.size w w') : fl w' L M slots spares := h.kept (ah.of_below (S := fun _ => False) hb) id
theorem qcp (m : Mem) (k : Nat) : Lns.tableTo m (k + 1) = Lns.tableTo m k ++ [m.regs.getD (3 + k) 0] := by simp [Lns.tableTo, List.range_succ]
theorem dq (m : Mem) (k : Nat) : (Lns.tableTo m k).length = k := by simp [Lns.tableTo]
section
variable {w : World} {M C L : Nat} {m : Mem}
theorem yb (h : MemAt w M C m) {slots : Int} {spares : Nat} (hL : fl w L M slots (spares : Int)) (hs : spares ≤ 16) : Calls Tryz.prog 157 #[.pointer (some ⟨L, 0, none⟩)] w fun e w' => ∃ v, e = .returned (.tuple #[v, .int .i64 (Lns.table m spares).2]) ∧ Kd.R (Kd.int .u64) 25 w' w.heap.size (fun _ => True) v (Lns.table m spares).1 ∧ Below w.heap.size w w' := by
 have H := am h;have HL := am hL;have l0 : w.cell? ⟨L, 0, none⟩ = some (.pointer (some ⟨M, 0, none⟩)) := (af hL 0).trans rfl;have l2 : w.cell? ⟨L, 2, none⟩ = some (.int .i64 spares) := (af hL 2).trans rfl;clear h hL;cases hd : m.down
 ·have E := am (show Lns.table m spares = (Lns.tableTo m spares, 0) by unfold Lns.table; rw [hd]; rfl);have HD := am hd;clear hd;rw [E.out];have HB := am (Below.refl w.heap.size w);go_enter Tryz.func157, Tryz.ntmps157;go_wp2;clear l0 l2;go_loopw [4, 12] (fun v i wr => ∃ (k : Nat), k ≤ spares ∧ i = .int .i64 k ∧ Aside0 (Kd.R (Kd.int .u64) 25 wr w.heap.size (fun _ => True) v (Lns.tableTo m k)) ∧ Aside0 (Below w.heap.size w wr)) (fun _ i _ => spares - (intOf i).toNat)
  case atStart => exact ⟨0, by omega, rfl, ⟨Kd.R_nil _ _ _ _ _⟩, HB⟩
  case round =>
   clear HB;obtain ⟨k, hk, rfl, HO, HB⟩ := hrel;have HM := am (H.out.below HB.out);have HLr := HL.out.below HB.out;have l0 : wr.cell? ⟨L, 0, none⟩ = some (.pointer (some ⟨M, 0, none⟩)) := (af HLr 0).trans rfl;clear HLr;by_cases hlt : k < spares
   ·have e1 : Nvm.reg m (3 + (k : Int)) = (m.regs.getD (3 + k) 0, 0) := by
     unfold Nvm.reg;have : Nvm.hasReg (3 + (k : Int)) = true := by unfold Nvm.hasReg; simp; omega
     rw [this, HD.out, show (3 + (k : Int)).toNat = 3 + k by omega];rfl
    have E1 := am e1;have E2 := am (qcp m k);have LM := am (dq m k);clear e1;go_wp2_with (first
     | (go_at_call 35; (with_reducible refine (jf HM.out (3 + (k : Int))).mono ?_); rintro e w' ⟨rfl, rfl⟩; rw [E1.out])
     | ((with_reducible refine dn (b := .append) (xs := #[.tmp 28, .tmp 30]) rfl ?_); at_builtin; refine Kd.R_append (Kd.int .u64) (w0 := w) w.heap.size rfl (.tmp 28) (.tmp 30) 51 25 (.int .u64 0) 8 rfl Tryz.underlying51 zm rfl (by decide) (by omega) _ (Lns.tableTo m k) (m.regs.getD (3 + k) 0) [.int .u64 (m.regs.getD (3 + k) 0)] (fun _ => True) (fun _ => False) rfl rfl ?aP (fun _ hk => hk.elim) ?aF HO.out HB.out (ba HB.out) ?aL ?_; (case aP => exact rfl); (case aF => exact (fun _ _ => trivial)); (case aL => have := LM.out; omega); intro v1 w1 ho hb hg hat; rw [← E2.out] at ho; have HO1 := am ho; have HB1 := am hb; clear ho hb hg hat))
    go_roundw
    case rel => exact ⟨k + 1, by omega, by go_num, HO1, HB1⟩
    case measure => simp [intOf]; omega
   ·have hks : k = spares := by omega
    subst hks;have hd' := HD.out;go_wp2_with (first | (go_at_call 30; (with_reducible refine (jv HM.out).mono ?_); rintro e w' ⟨rfl, rfl⟩; rw [HD.out]))
    go_ret2;exact ⟨_, rfl, HO.out, HB.out⟩
 ·have E := am (show Lns.table m spares = ([], 2) by unfold Lns.table; rw [hd]; rfl);have hd' := hd;rw [E.out];by_cases hs0 : spares = 0
  ·subst hs0;go_enter Tryz.func157, Tryz.ntmps157;go_wp2;go_loop [12] (fun i => i = .int .i64 0) (fun _ => 0)
   case atStart => exact rfl
   case round =>
    obtain rfl := hrel;go_wp2_with (first | (go_at_call 30; (with_reducible refine (jv H.out).mono ?_); rintro e w' ⟨rfl, rfl⟩))
    go_ret2;exact ⟨_, rfl, Kd.R_nil _ _ _ _ _, Below.refl _ _⟩
  ·have hp : decide ((0 : Int) < spares) = true := decide_eq_true (by omega);have E1 := am (show Nvm.reg m 3 = (0, 2) by unfold Nvm.reg; rw [hd]; rfl);go_enter Tryz.func157, Tryz.ntmps157;go_wp2;go_loop [12] (fun i => i = .int .i64 0) (fun _ => 0)
   case atStart => exact rfl
   case round =>
    obtain rfl := hrel;go_wp2_with (first | (go_at_call 35; (with_reducible refine (jf H.out 3).mono ?_); rintro e w' ⟨rfl, rfl⟩; rw [E1.out]))
    go_ret2;exact ⟨_, rfl, Kd.R_nil _ _ _ _ _, Below.refl _ _⟩
theorem z6 (h : MemAt w M C m) (i : Int) : (Nvm.get m i).1.length = 8 := by
 unfold Nvm.get;split
 ·split
  ·rfl
  ·rename_i h1 _
   obtain ⟨h0, h1⟩ := rk h1;rw [List.getD_eq_getElem?_getD, List.getElem?_eq_getElem (show i.toNat < m.cells.length by omega)];exact h.lines _ (List.getElem_mem _)
 ·rfl
def e9 (m : Mem) : Prop := ∀ x ∈ m.regs, 0 ≤ x ∧ x ≤ 18446744073709551615
theorem e9.get (h : e9 m) (i : Nat) : 0 ≤ m.regs.getD i 0 ∧ m.regs.getD i 0 ≤ 18446744073709551615 := by
 rw [List.getD_eq_getElem?_getD];by_cases hi : i < m.regs.length
 ·rw [List.getElem?_eq_getElem hi];exact h _ (List.getElem_mem hi)
 ·rw [List.getElem?_eq_none (by omega)];exact ⟨by decide, by decide⟩
theorem xa (h : e9 m) {spares : Nat} (hs : spares ≤ 16) : Tab (Lns.tableTo m spares) := by
 refine ⟨by rw [dq]; omega, fun j => ?_⟩;unfold rd;rw [List.getD_eq_getElem?_getD];by_cases hj : j.toNat < (Lns.tableTo m spares).length
 ·rw [List.getElem?_eq_getElem hj];simp only [Lns.tableTo, List.getElem_map, Option.getD_some];exact h.get _
 ·rw [List.getElem?_eq_none (by omega)];exact ⟨by decide, by decide⟩
theorem pq (h : MemAt w M C m) {slots : Int} {spares : Nat} (hL : fl w L M slots (spares : Int)) (hs : spares ≤ 16) (hR : e9 m) {slot : Int} (h0 : 0 ≤ slot) (h1 : slot < slots) (h2 : slots ≤ 1099511627776) : Calls Tryz.prog 126 #[.pointer (some ⟨L, 0, none⟩), .int .i64 slot] w fun e w' => ∃ v, e = .returned (.tuple #[.int .i64 (fj (Lns.table m spares).1 slots slot), v, .int .i64 (Lns.table m spares).2]) ∧ Kd.R (Kd.int .u64) 25 w' w.heap.size (fun _ => True) v (Lns.table m spares).1 ∧ Below w.heap.size w w' := by
 have ht : Tab (Lns.table m spares).1 := by
  unfold Lns.table;split
  ·exact ⟨by simp, fun j => ⟨by simp [rd], by simp [rd]⟩⟩
  ·exact xa hR hs
 obtain ⟨k, hk⟩ := qin ht h2 h0 h1;have HP := am hk;have H := am h;have HL := am hL;have l1 : w.cell? ⟨L, 1, none⟩ = some (.int .i64 slots) := (af hL 1).trans rfl;have d0 : decide (slot < 0) = false := decide_eq_false (by omega);have d1 : decide (slot ≥ slots) = false := decide_eq_false (by omega);clear h hL hk ht;go_enter Tryz.func126, Tryz.ntmps126;go_wp2_with (first
  | (go_at_call 157; (with_reducible refine (yb H.out HL.out hs).mono ?_); rintro e w1 ⟨v, rfl, ho, hb⟩; have HO := am ho; have HB := am hb; have l1 : w1.cell? ⟨L, 1, none⟩ = some (.int .i64 slots) := (af (HL.out.below hb) 1).trans rfl; clear ho hb; obtain ⟨Ao, co, eo⟩ := Kd.R_slice HO.out; subst eo)
  | (go_at_call 159; (with_reducible refine (bz.calls k _ _ (Lns.table m spares).1 slots slot _ _ (Kd.R_reads' HO.out).2.2 (Kd.R_reads' HO.out).2.1 HP.out).mono ?_); rintro e w2 ⟨rfl, ⟨nd, rfl⟩⟩))
 go_ret3;exact ⟨_, rfl, Kd.R_drewN HO.out nd, bg HB.out nd⟩
theorem uz (h : MemAt w M C m) {slots : Int} {spares : Nat} (hL : fl w L M slots (spares : Int)) (hs : spares ≤ 16) (hR : e9 m) {slot : Int} (h0 : 0 ≤ slot) (h1 : slot < slots) (h2 : slots ≤ 1099511627776) : Calls Tryz.prog 86 #[.pointer (some ⟨L, 0, none⟩), .int .i64 slot] w fun e w' => e = .returned (.tuple #[gm (Lns.get m slots spares slot).1, .int .i64 (Lns.get m slots spares slot).2]) ∧ Below w.heap.size w w' := by
 have H := am h;have HL := am hL;have HR := am hR;clear h hL hR;cases hd : m.down
 ·have E := am (show Lns.table m spares = (Lns.tableTo m spares, 0) by unfold Lns.table; rw [hd]; rfl);have E2 := am (show Lns.get m slots spares slot = Nvm.get m (fj (Lns.tableTo m spares) slots slot) by unfold Lns.get; rw [hd]; rfl);clear hd;rw [E2.out];generalize hp : fj (Lns.tableTo m spares) slots slot = pl at E2 ⊢;have HP := am hp;have HG := am (z6 H.out pl);clear hp;generalize hg : Nvm.get m pl = g at HG ⊢;have HGE := am hg;clear hg;obtain ⟨gl, ge⟩ := g;go_enter Tryz.func86, Tryz.ntmps86;go_wp2_with (first
   | (go_at_call 126; (with_reducible refine (pq (H.out.alloc _) (HL.out.alloc _) hs HR.out h0 h1 h2).mono ?_); rintro e w1 ⟨v, rfl, ho, hb⟩; rw [E.out, HP.out]; have HB : Aside0 (Below w.heap.size w w1) := ⟨ab ((Below.refl _ _).alloc (Nat.le_refl _) _) hb⟩; have BX := am (ai (heap_alloc_new w _) hb); have l0 : w1.cell? ⟨L, 0, none⟩ = some (.pointer (some ⟨M, 0, none⟩)) := (af (HL.out.below HB.out) 0).trans rfl; clear ho hb)
   | (go_at_call 127; (with_reducible refine (qhx (H.out.below HB.out) pl).mono ?_); rintro e w2 ⟨rfl, hb⟩; rw [HGE.out]; have HB2 := am (ab HB.out hb); have BX2 := am (ai BX.out hb); clear hb)
   | ((with_reducible refine bf (t := 73) (p := 4) rfl ?_); refine wpList_store_row rfl 73 (.tmp 4) (.tmp 26) rfl w.heap.size (bb gl).toArray rfl rfl 73 _ BX2.out ?hi ?ho ?h1 ?_; (case hi => rw [List.size_toArray, an, HG.out]; exact cj); (case ho => simp [an, HG.out]); (case h1 => simp [bb, Value.oneCell'])))
  exact fv rfl w.heap.size 73 (bb gl) _ rfl (setRow_heap _ _ _ _ _ _ BX2.out) Tryz.underlying73 rfl (by rw [an, HG.out]; exact cj) rfl ⟨rfl, em HB2.out (Nat.le_refl _) _⟩
 ·have E := am (show Lns.table m spares = ([], 2) by unfold Lns.table; rw [hd]; rfl);have E2 := am (show Lns.get m slots spares slot = (zL, 2) by unfold Lns.get; rw [hd]; rfl);clear hd;rw [E2.out];go_enter Tryz.func86, Tryz.ntmps86;go_wp2_with (first
   | (go_at_call 126; (with_reducible refine (pq (H.out.alloc _) (HL.out.alloc _) hs HR.out h0 h1 h2).mono ?_); rintro e w1 ⟨v, rfl, ho, hb⟩; rw [E.out]; have HB : Aside0 (Below w.heap.size w w1) := ⟨ab ((Below.refl _ _).alloc (Nat.le_refl _) _) hb⟩; have BX := am (ai (heap_alloc_new w _) hb); clear ho hb)
   | ((with_reducible refine bf (t := 73) (p := 4) rfl ?_); refine wpList_store_row rfl 73 (.tmp 4) (.tmp 18) rfl w.heap.size (bb zL).toArray rfl rfl 73 _ BX.out ?hi ?ho ?h1 ?_; (case hi => exact cj); (case ho => simp [an, zL]); (case h1 => exact wa _)))
  exact fv rfl w.heap.size 73 (bb zL) _ rfl (setRow_heap _ _ _ _ _ _ BX.out) Tryz.underlying73 rfl cj rfl ⟨rfl, em HB.out (Nat.le_refl _) _⟩
end
theorem pd {α : Type} {d : Kd α} {e : Nat} {w w1 : World} {base : Nat} {ok : Nat → Prop} {v : Value} {xs : List α} {S : Nat → Prop} (h : d.R e w base ok v xs) (k : ah S w w1) (hS : ∀ j, base ≤ j → ¬ S j) : d.R e w1 base ok v xs :=
 Kd.R_mono (Kd.R_step (Kd.R_bound h) (fun j hj hlt => k.block j hlt (hS j hj.2.1))) (fun _ hk => hk.1)
section
variable {w : World} {M C L : Nat} {m : Mem}
theorem um (h : MemAt w M C m) {slots : Int} {spares : Nat} (hL : fl w L M slots (spares : Int)) (hLM : ¬ MC M C L) (hs : spares ≤ 16) (hR : e9 m) {slot : Int} (h0 : 0 ≤ slot) (h1 : slot < slots) (h2 : slots ≤ 1099511627776) (d : List Int) (hd8 : d.length = 8) : Calls Tryz.prog 89 #[.pointer (some ⟨L, 0, none⟩), .int .i64 slot, gm d] w fun e w' => e = .returned (.int .i64 (Lns.put m slots spares slot d).1) ∧ MemAt w' M C (Lns.put m slots spares slot d).2 ∧ ah (MC M C) w w' := by
 have H := am h;have HLM := am hLM;have HL := am hL;have HR := am hR;have HD := am hd8;have hlt := h.lt;clear h hL hR hd8 hLM;unfold gm;cases hd : m.down
 ·have E := am (show Lns.table m spares = (Lns.tableTo m spares, 0) by unfold Lns.table; rw [hd]; rfl);have HT := am (xa HR.out hs);obtain ⟨kn, hkn⟩ := qky HT.out;have HN := am hkn;have hNP := qat (Lns.tableTo m spares);have HLen := am (dq m spares);have EP : Aside0 (Lns.put m slots spares slot d = if (Nvm.put m (fj (Lns.tableTo m spares) slots slot) d).1 = 3 then
    if o9 (Lns.tableTo m spares) < 0 then Nvm.put m (fj (Lns.tableTo m spares) slots slot) d
    else Lns.putLoop slots slot d (spares - (o9 (Lns.tableTo m spares)).toNat) (o9 (Lns.tableTo m spares)).toNat (Nvm.put m (fj (Lns.tableTo m spares) slots slot) d).2
   else Nvm.put m (fj (Lns.tableTo m spares) slots slot) d) := ⟨by unfold Lns.put; rw [hd]; rfl⟩
  clear hkn hd;generalize Lns.put m slots spares slot d = RR at EP ⊢;generalize hp : fj (Lns.tableTo m spares) slots slot = pl at EP ⊢;have HP := am hp;clear hp;generalize hnx : o9 (Lns.tableTo m spares) = nx at EP HN hNP ⊢;clear hnx;generalize hpr : Nvm.put m pl d = pr at EP ⊢;have HPR := am hpr;clear hpr;obtain ⟨p1, m1⟩ := pr;go_enter Tryz.func89, Tryz.ntmps89;go_wp2_with (first
   | (go_at_call 126; (with_reducible refine (pq (H.out.alloc _) (HL.out.alloc _) hs HR.out h0 h1 h2).mono ?_); rintro e w1 ⟨v, rfl, ho, hb⟩; rw [E.out, HP.out]; rw [E.out] at ho; have HO := am ho; have HB : Aside0 (Below w.heap.size w w1) := ⟨ab ((Below.refl _ _).alloc (Nat.le_refl _) _) hb⟩; have BX := am (ai (heap_alloc_new w (.cells (bb d).toArray 73)) hb); clear ho hb))
  have H1 := am (H.out.below HB.out);have HL1 := am (HL.out.below HB.out);refine dy (n := 8) (S := fun w' => w'.cell? ⟨L, 0, none⟩ = some (.pointer (some ⟨M, 0, none⟩)) ∧ (∀ j v, (bb d)[j]? = some v → w'.cell? ⟨w.heap.size, 0 + j, none⟩ = some v)) (ds := [6]) (onA 8 0) (by kernel_rfl) rfl rfl ⟨(af HL1.out 0).trans rfl, fun j v hv => by rw [Nat.zero_add]; exact bh BX.out j v hv⟩ (fun hHeld => ?_);refine pu 0 (some 26) (bA 8 1) (h := ?_);refine pu 1 (some 27) (bA 8 3) (h := ?_);refine pu 2 (some 28) (bA 8 7) (h := ?_);refine pu 4 (some 30) (bA 8 23) (h := ?_);refine tv 3 (some 29) (bA 8 31) rfl hHeld (fun w' hs => bc 26 (.tmp 28) rfl L 0 _ rfl hs.1 _ Tryz.underlying26 rfl) (h := ?_);refine tv 5 (some 31) (bA 8 63) rfl hHeld (v := .agg (bb d).toArray) (fun w' hs => bv 73 (.tmp 5) rfl w.heap.size 0 rfl (bb d) _ hs.2 Tryz.underlying73 rfl (by rw [an, HD.out]; exact cj)) (h := ?_);refine jr (i := 6) (N := some 32) (bA 8 127) rfl rfl (by kernel_rfl) (by decide) (fun K hK => ?_);refine dw Tryz.func132 (by kernel_rfl) rfl #[.pointer (some ⟨M, 0, none⟩), .int .i64 pl, gm d] (by rfl) rfl rfl (by simp only [List.map_toArray, List.map_cons, List.map_nil]; rfl) ?_;refine (qby H1.out.drew pl d HD.out).mono ?_;rintro e w2 ⟨rfl, h2_, k2_⟩;refine ⟨_, rfl, ?_⟩;refine hK.out _ _ ?_;clear hK K hHeld;rw [HPR.out] at h2_ ⊢;have H2 := am h2_;have K2 : Aside0 (ah (MC M C) w1 w2) := ⟨((ah.refl _ w1).drew).step k2_⟩;clear h2_ k2_;refine pu 7 (some 10) (bA 8 255) (h := ?_);refine fp (by kernel_rfl) ?_;by_cases c3 : p1 = 3
  ·subst c3;have hMC : ∀ j, (w.alloc (.cells (bb d).toArray 73)).heap.size ≤ j → ¬ MC M C j := fun j hj => by simp at hj; exact o7 (by omega) (by omega)
   obtain ⟨Ao, co, eo⟩ := Kd.R_slice HO.out;subst eo;have HO2 := am (pd HO.out K2.out hMC);clear HO hMC;have KW : Aside0 (ah (MC M C) w w2) := ⟨(ah.of_below HB.out).step K2.out⟩;have HL2 : Aside0 (fl w2 L M slots (spares : Int)) := ⟨fl.kept HL1.out K2.out HLM.out⟩;have BX2 : Aside0 (w2.heap[w.heap.size]? = some (.cells (bb d).toArray 73 (0, 0))) := ⟨K2.out.of BX.out (o7 (by omega) (by omega))⟩;clear HL1 H1 BX HB K2;by_cases hn : nx < 0
   ·have hn1 : decide (nx < 0) = true := decide_eq_true hn;have e1 : Aside0 (RR = (3, m1)) := ⟨by rw [EP.out]; exact (if_pos rfl).trans (if_pos hn)⟩;go_wp2_with (first | (go_at_call 133; (with_reducible refine (d9.calls kn _ _ (Lns.tableTo m spares) nx _ (Kd.R_reads' HO2.out).2.2 (Kd.R_reads' HO2.out).2.1 HN.out).mono ?_); rintro e w3 ⟨rfl, ⟨nd, rfl⟩⟩))
    go_ret;rw [e1.out];exact ⟨rfl, H2.out.drewN nd, KW.out.drewN nd⟩
   ·have hn1 : decide (nx < 0) = false := decide_eq_false hn;have e1 : Aside0 (RR = Lns.putLoop slots slot d (spares - nx.toNat) nx.toNat m1) := ⟨by rw [EP.out]; exact (if_pos rfl).trans (if_neg hn)⟩;have hnr : 0 ≤ nx ∧ nx < spares := by
     rcases hNP with ⟨n0, n1, _⟩ | ⟨n0, _⟩
     ·rw [HLen.out] at n1; exact ⟨n0, n1⟩
     ·omega
    have whs := am (qil (a := slot) h0 (by omega));have hdead := am (y0 (s := slots) (by omega) (by omega));clear hNP EP;go_wp2_with (first | (go_at_call 133; (with_reducible refine (d9.calls kn _ _ (Lns.tableTo m spares) nx _ (Kd.R_reads' HO2.out).2.2 (Kd.R_reads' HO2.out).2.1 HN.out).mono ?_); rintro e w3 ⟨rfl, ⟨nd, rfl⟩⟩))
    have H3 := am (H2.out.drewN nd);have K3 := am (KW.out.drewN nd);have HL3 : Aside0 (fl (w2.drewN nd) L M slots (spares : Int)) := ⟨ap HL2.out nd⟩;have BX3 := am (ap BX2.out nd);clear H2 KW HL2 BX2 HO2;generalize w2.drewN nd = w3 at H3 K3 HL3 BX3 ⊢;go_loopw [12] (fun i wr => ∃ (k : Nat) (mm : Mem), k ≤ spares ∧ i = .int .i64 k ∧ Aside0 (MemAt wr M C mm) ∧ Aside0 (ah (MC M C) w wr) ∧ Aside0 (fl wr L M slots (spares : Int)) ∧ Aside0 (wr.heap[w.heap.size]? = some (.cells (bb d).toArray 73 (0, 0))) ∧ Aside0 (RR = Lns.putLoop slots slot d (spares - k) k mm)) (fun i _ => spares - (intOf i).toNat)
    case atStart => exact ⟨nx.toNat, m1, by omega, by rw [show ((nx.toNat : Nat) : Int) = nx by omega], H3, K3, HL3, BX3, e1⟩
    case round =>
     clear H3 K3 HL3 BX3 e1;obtain ⟨k, mm, hk, rfl, HMr, HKr, HLr, BXr, HE⟩ := hrel;have l2 : wr.cell? ⟨L, 2, none⟩ = some (.int .i64 spares) := (af HLr.out 2).trans rfl;by_cases hlt : k < spares
     ·have hk1 : Aside0 (spares - k = (spares - (k + 1)) + 1) := ⟨by omega⟩;rw [hk1.out, Lns.putLoop] at HE;generalize hq : Nvm.put mm (slots + (k : Int)) d = q at HE;have HQR := am hq;clear hq;obtain ⟨q1, m4⟩ := q;have hw61 : Aside0 (wrap64 (slots + (k : Int)) = slots + k) := ⟨by unfold wrap64; omega⟩;go_wp2;clear l2;refine dy (n := 13) (S := fun w' => w'.cell? ⟨L, 0, none⟩ = some (.pointer (some ⟨M, 0, none⟩)) ∧ w'.cell? ⟨L, 1, none⟩ = some (.int .i64 slots) ∧ (∀ j v, (bb d)[j]? = some v → w'.cell? ⟨w.heap.size, 0 + j, none⟩ = some v)) (ds := [11]) (onA 13 0) (by kernel_rfl) rfl rfl ⟨(af HLr.out 0).trans rfl, (af HLr.out 1).trans rfl, fun j v hv => by rw [Nat.zero_add]; exact bh BXr.out j v hv⟩ (fun hHeld => ?_);refine pu 0 (some 52) (bA 13 1) (h := ?_);refine pu 1 (some 53) (bA 13 3) (h := ?_);refine pu 2 (some 54) (bA 13 7) (h := ?_);refine pu 4 (some 56) (bA 13 23) (h := ?_);refine pu 5 (some 57) (bA 13 55) (h := ?_);refine pu 6 (some 58) (bA 13 119) (h := ?_);refine pu 8 (some 60) (bA 13 375) (h := ?_);refine tv 3 (some 55) (bA 13 383) rfl hHeld (fun w' hs => bc 26 (.tmp 54) rfl L 0 _ rfl hs.1 _ Tryz.underlying26 rfl) (h := ?_);refine tv 7 (some 59) (bA 13 511) rfl hHeld (fun w' hs => bc 3 (.tmp 58) rfl L 1 _ rfl hs.2.1 _ Tryz.underlying3 rfl) (h := ?_);refine pu 9 (some 61) (bA 13 1023) (h := ?_);refine tv 10 (some 62) (bA 13 2047) rfl hHeld (v := .agg (bb d).toArray) (fun w' hs => bv 73 (.tmp 5) rfl w.heap.size 0 rfl (bb d) _ hs.2.2 Tryz.underlying73 rfl (by rw [an, HD.out]; exact cj)) (h := ?_);refine jr (i := 11) (N := some 63) (bA 13 4095) rfl rfl (by kernel_rfl) (by decide) (fun K hK => ?_);refine dw Tryz.func132 (by kernel_rfl) rfl #[.pointer (some ⟨M, 0, none⟩), .int .i64 (wrap64 (slots + (k : Int))), gm d] (by rfl) rfl rfl (by simp only [List.map_toArray, List.map_cons, List.map_nil]; first | rfl | (simp only [az]; rfl)) ?_;rw [hw61.out];refine (qby HMr.out.drew (slots + (k : Int)) d HD.out).mono ?_;rintro e w4 ⟨rfl, h4_, k4_⟩;refine ⟨_, rfl, ?_⟩;refine hK.out _ _ ?_;clear hK K hHeld;rw [HQR.out] at h4_ ⊢;have H4 := am h4_;have K4 : Aside0 (ah (MC M C) w w4) := ⟨(HKr.out.drew).step k4_⟩;have HL4 : Aside0 (fl w4 L M slots (spares : Int)) := ⟨fl.kept (w := wr.drew) HLr.out k4_ HLM.out⟩;have BX4 : Aside0 (w4.heap[w.heap.size]? = some (.cells (bb d).toArray 73 (0, 0))) := ⟨ah.of (a := wr.drew) k4_ BXr.out (o7 (by omega) (by omega))⟩;clear h4_ k4_ HMr HKr HLr BXr;refine pu 12 (some 14) (bA 13 8191) (h := ?_);refine fp (by kernel_rfl) ?_;by_cases c0 : q1 = 0
      ·subst c0;have e2 : Aside0 (RR = Nvm.set m4 (3 + (k : Int)) (slot + 1)) := ⟨by rw [HE.out]; exact if_pos rfl⟩;have l0 : w4.cell? ⟨L, 0, none⟩ = some (.pointer (some ⟨M, 0, none⟩)) := (af HL4.out 0).trans rfl;go_wp2_with (first | (go_at_call 107; (with_reducible refine (lq H4.out (3 + (k : Int)) (slot + 1)).mono ?_); rintro e w5 ⟨rfl, h5_, k5_⟩; have H5 := am h5_; have K5 := am k5_; clear h5_ k5_))
       go_ret;rw [e2.out];exact ⟨rfl, H5.out, K4.out.step K5.out⟩
      ·by_cases c3 : q1 = 3
       ·subst c3;have l0 : w4.cell? ⟨L, 0, none⟩ = some (.pointer (some ⟨M, 0, none⟩)) := (af HL4.out 0).trans rfl;have l1 : w4.cell? ⟨L, 1, none⟩ = some (.int .i64 slots) := (af HL4.out 1).trans rfl;generalize hsr : Nvm.set m4 (3 + (k : Int)) (slots + 1) = sr at HE;have HSR := am hsr;clear hsr;obtain ⟨s1, m5⟩ := sr;by_cases c5 : s1 = 0
        ·subst c5;have e2 : Aside0 (RR = Lns.putLoop slots slot d (spares - (k + 1)) (k + 1) m5) := ⟨by rw [HE.out]; exact (if_neg (by decide)).trans ((if_pos rfl).trans (if_pos rfl))⟩;go_wp2_with (first | (go_at_call 134; (with_reducible refine (f9.calls slots (slots + 1) _ hdead.out).mono ?_); rintro e w5 ⟨rfl, ⟨nd2, rfl⟩⟩) | (go_at_call 107; (with_reducible refine (lq (H4.out.drewN nd2) (3 + (k : Int)) (slots + 1)).mono ?_); rintro e w5 ⟨rfl, h5_, k5_⟩; rw [HSR.out] at h5_ ⊢; have H5 := am h5_; have K5 := am k5_; clear h5_ k5_))
         go_roundw
         case rel => exact ⟨k + 1, m5, by omega, by go_num, H5, ⟨(K4.out.drewN nd2).step K5.out⟩, ⟨fl.kept (w := w4.drewN nd2) (ap HL4.out nd2) K5.out HLM.out⟩, ⟨K5.out.of (ap BX4.out nd2) (o7 (by omega) (by omega))⟩, e2⟩
         case measure => simp [intOf]; omega
        ·have b5 : (s1 != 0) = true := by simpa using c5
         have e2 : Aside0 (RR = (s1, m5)) := ⟨by rw [HE.out]; exact (if_neg (by decide)).trans ((if_pos rfl).trans (if_neg c5))⟩;go_wp2_with (first | (go_at_call 134; (with_reducible refine (f9.calls slots (slots + 1) _ hdead.out).mono ?_); rintro e w5 ⟨rfl, ⟨nd2, rfl⟩⟩) | (go_at_call 107; (with_reducible refine (lq (H4.out.drewN nd2) (3 + (k : Int)) (slots + 1)).mono ?_); rintro e w5 ⟨rfl, h5_, k5_⟩; rw [HSR.out] at h5_ ⊢; have H5 := am h5_; have K5 := am k5_; clear h5_ k5_))
         go_ret;rw [e2.out];exact ⟨rfl, H5.out, (K4.out.drewN nd2).step K5.out⟩
       ·have b0 : (q1 == 0) = false := beq_eq_false_iff_ne.2 c0;have b3 : (q1 == 3) = false := beq_eq_false_iff_ne.2 c3;have e2 : Aside0 (RR = (q1, m4)) := ⟨by rw [HE.out]; exact (if_neg c0).trans (if_neg c3)⟩;go_wp2;go_ret;rw [e2.out];exact ⟨rfl, H4.out, K4.out⟩
     ·have hks : k = spares := by omega
      subst hks;rw [Nat.sub_self, Lns.putLoop] at HE;go_wp2;go_ret;rw [HE.out];exact ⟨rfl, HMr.out, HKr.out⟩
  ·have b3 : (p1 != 3) = true := by simpa using c3
   have e1 : Aside0 (RR = (p1, m1)) := ⟨by rw [EP.out]; exact if_neg c3⟩;go_wp2;go_ret;rw [e1.out];exact ⟨rfl, H2.out, (ah.of_below HB.out).step K2.out⟩
 ·have E := am (show Lns.table m spares = ([], 2) by unfold Lns.table; rw [hd]; rfl);have EP := am (show Lns.put m slots spares slot d = (2, m) by unfold Lns.put; rw [hd]; rfl);clear hd;rw [EP.out];go_enter Tryz.func89, Tryz.ntmps89;go_wp2_with (first
   | (go_at_call 126; (with_reducible refine (pq (H.out.alloc _) (HL.out.alloc _) hs HR.out h0 h1 h2).mono ?_); rintro e w1 ⟨v, rfl, ho, hb⟩; rw [E.out]; have HB : Aside0 (Below w.heap.size w w1) := ⟨ab ((Below.refl _ _).alloc (Nat.le_refl _) _) hb⟩; clear ho hb))
  go_ret;exact ⟨rfl, H.out.below HB.out, ah.of_below HB.out⟩
end
section
variable {w : World} {M C L : Nat} {m : Mem}
theorem qfb (h : MemAt w M C m) {slots : Int} {spares : Nat} (hs : spares ≤ 16) (hR : e9 m) (h1 : 1 ≤ slots) (h2 : slots ≤ 1000000) (hl : (m.cells.length : Int) = slots + spares) (hd : m.down = false) (hm : yk (Lns.tableTo m spares) slots) : Calls Tryz.prog 124 #[.pointer (some ⟨M, 0, none⟩), .int .i64 slots, .int .i64 spares] w fun e w' => ∃ L, e = .returned (.pointer (some ⟨L, 0, none⟩)) ∧ fl w' L M slots (spares : Int) ∧ w.heap.size ≤ L ∧ Below w.heap.size w w' := by
 have H := am h;have E := am (show Lns.table m spares = (Lns.tableTo m spares, 0) by unfold Lns.table; rw [hd]; rfl);obtain ⟨k, hk⟩ := (qj8 (xa hR hs) (by omega) hm).rounds;have HK := am hk;have HCL := am hl;have d0 : decide (slots < 1) = false := decide_eq_false (by omega);have d1 : decide ((spares : Int) < 0) = false := decide_eq_false (by omega);have d2 : decide ((spares : Int) > 16) = false := decide_eq_false (by omega);have d3 : ((slots + (spares : Int) - spares) != slots) = false := by simp
 have hw : Aside0 (wrap64 (slots + (spares : Int) - spares) = slots) := ⟨by unfold wrap64; omega⟩;clear h hR hl hd hm hk;have HLin := am (nz H.out);rw [HCL.out] at HLin;have HL1 : Aside0 (fl (w.alloc (.cells #[.pointer (some ⟨M, 0, none⟩), .int .i64 slots, .int .i64 spares] 167)) w.heap.size M slots (spares : Int)) := ⟨heap_alloc_new w _⟩;go_enter Tryz.func124, Tryz.ntmps124;go_wp2_with (first
  | (go_at_call 56; (with_reducible refine HLin.out.mono ?_); rintro e w1 ⟨rfl, rfl⟩)
  | (go_at_call 157; (with_reducible refine (yb (H.out.alloc _) HL1.out hs).mono ?_); rintro e w1 ⟨v, rfl, ho, hb⟩; rw [E.out] at ho ⊢; obtain ⟨Ao, co, eo⟩ := Kd.R_slice ho; subst eo; have HO := am ho; have HB := am hb; clear ho hb)
  | (go_at_call 158; (with_reducible refine (du.calls k _ _ (Lns.tableTo m spares) slots true _ (Kd.R_reads' HO.out).2.2 (Kd.R_reads' HO.out).2.1 HK.out).mono ?_); rintro e w2 ⟨rfl, ⟨nd, rfl⟩⟩))
 go_ret;exact ⟨w.heap.size, rfl, fl.below (HL1.out.below HB.out) (bg (Below.refl _ _) nd), Nat.le_refl _, bg (ab ((Below.refl _ _).alloc (Nat.le_refl _) _) HB.out) nd⟩
end
structure Shape where
 n : Int
 spares : Nat
 period : Int
structure Shape.Ok (s : Shape) : Prop where
 n1 : 1 ≤ s.n
 n2 : s.n ≤ 1000
 sp : s.spares ≤ 16
 p1 : 1 ≤ s.period
 p2 : s.period ≤ 1000
namespace Trn
def moves (m : Mem) : Int := m.regs.getD 0 0
def get (s : Shape) (m : Mem) (line : Int) : List Int × Int := if m.down then (zL, 2) else Lns.get m (s.n + 1) s.spares (gj s.n (moves m) line)
def moveS (n m : Int) : Int × Int := if i8 n m = 0 then (n, 0) else (i8 n m - 1, i8 n m)
def move (s : Shape) (m : Mem) : Int × Mem :=
 if (Lns.get m (s.n + 1) s.spares (moveS s.n (moves m)).1).2 = 0 then
  if (Lns.put m (s.n + 1) s.spares (moveS s.n (moves m)).2 (Lns.get m (s.n + 1) s.spares (moveS s.n (moves m)).1).1).1 = 0 then
   Nvm.set (Lns.put m (s.n + 1) s.spares (moveS s.n (moves m)).2 (Lns.get m (s.n + 1) s.spares (moveS s.n (moves m)).1).1).2 0 (moves m + 1)
  else Lns.put m (s.n + 1) s.spares (moveS s.n (moves m)).2 (Lns.get m (s.n + 1) s.spares (moveS s.n (moves m)).1).1
 else ((Lns.get m (s.n + 1) s.spares (moveS s.n (moves m)).1).2, m)
end Trn
structure TurnAt (w : World) (M C L T : Nat) (s : Shape) (m : Mem) (puts : Int) : Prop where
 mem : MemAt w M C m
 lin : fl w L M (s.n + 1) (s.spares : Int)
 tur : w.heap[T]? = some (.cells #[.pointer (some ⟨M, 0, none⟩), .pointer (some ⟨L, 0, none⟩), .int .i64 s.n, .int .i64 s.period, .int .i64 puts] 126 (0, 0))
 lm : ¬ MC M C L
 tm : ¬ MC M C T
 tl : T ≠ L
 regs : e9 m
 mv : m.regs.getD 0 0 ≤ 4611686018427387904
 ok : s.Ok
section
variable {w : World} {M C L T : Nat} {s : Shape} {m : Mem} {puts : Int}
theorem TurnAt.step (h : TurnAt w M C L T s m puts) {w' : World} {m' : Mem} (hm : MemAt w' M C m') (k : ah (MC M C) w w') (hr : e9 m') (hv : m'.regs.getD 0 0 ≤ 4611686018427387904) : TurnAt w' M C L T s m' puts :=
 ⟨hm, h.lin.kept k h.lm, k.of h.tur h.tm, h.lm, h.tm, h.tl, hr, hv, h.ok⟩
theorem TurnAt.kept (h : TurnAt w M C L T s m puts) {w' : World} {S : Nat → Prop} (k : ah S w w') (hS : ∀ j, j = M ∨ j = C ∨ j = L ∨ j = T → ¬ S j) : TurnAt w' M C L T s m puts :=
 ⟨h.mem.kept k (hS _ (.inl rfl)) (hS _ (.inr (.inl rfl))), h.lin.kept k (hS _ (.inr (.inr (.inl rfl)))), k.of h.tur (hS _ (.inr (.inr (.inr rfl)))), h.lm, h.tm, h.tl, h.regs, h.mv, h.ok⟩
theorem TurnAt.below (h : TurnAt w M C L T s m puts) {w' : World} (hb : Below w.heap.size w w') : TurnAt w' M C L T s m puts := h.kept (S := fun _ => False) (ah.of_below hb) (fun _ _ => id)
theorem TurnAt.alloc (h : TurnAt w M C L T s m puts) (o : Obj) : TurnAt (w.alloc o) M C L T s m puts := h.below ((Below.refl _ _).alloc (Nat.le_refl _) o)
theorem TurnAt.drewN (h : TurnAt w M C L T s m puts) (n : Nat) : TurnAt (w.drewN n) M C L T s m puts := h.below (bg (Below.refl _ _) n)
theorem TurnAt.drew (h : TurnAt w M C L T s m puts) : TurnAt w.drew M C L T s m puts := h.below (rm (Below.refl _ _))
theorem TurnAt.mayG (h : TurnAt w M C L T s m puts) : mi s.n (Trn.moves m) := by
 have := h.ok.n1;have := h.ok.n2;have := (h.regs.get 0).1;have := h.mv;unfold mi Trn.moves;omega
theorem yp {n m l : Int} (h : mi n m) (h0 : 0 ≤ l) (h1 : l < n) : 0 ≤ gj n m l ∧ gj n m l < n + 1 := by
 have := qbe (m := l + iw n m) (n := n) h.1;unfold gj;split <;> omega
theorem yr {n m : Int} (h : mi n m) : (0 ≤ (Trn.moveS n m).1 ∧ (Trn.moveS n m).1 < n + 1) ∧ 0 ≤ (Trn.moveS n m).2 ∧ (Trn.moveS n m).2 < n + 1 := by
 have := sd h;have := h.1;unfold Trn.moveS;split <;> (simp only []; omega)
theorem TurnAt.t0 (h : TurnAt w M C L T s m puts) : w.cell? ⟨T, 0, none⟩ = some (.pointer (some ⟨M, 0, none⟩)) := (af h.tur 0).trans rfl
theorem TurnAt.t1 (h : TurnAt w M C L T s m puts) : w.cell? ⟨T, 1, none⟩ = some (.pointer (some ⟨L, 0, none⟩)) := (af h.tur 1).trans rfl
theorem TurnAt.t2 (h : TurnAt w M C L T s m puts) : w.cell? ⟨T, 2, none⟩ = some (.int .i64 s.n) := (af h.tur 2).trans rfl
theorem TurnAt.t3 (h : TurnAt w M C L T s m puts) : w.cell? ⟨T, 3, none⟩ = some (.int .i64 s.period) := (af h.tur 3).trans rfl
theorem TurnAt.t4 (h : TurnAt w M C L T s m puts) : w.cell? ⟨T, 4, none⟩ = some (.int .i64 puts) := (af h.tur 4).trans rfl
theorem fc (h : TurnAt w M C L T s m puts) : Calls Tryz.prog 90 #[.pointer (some ⟨T, 0, none⟩)] w fun e w' => e = .returned (.int .i64 s.n) ∧ w = w' := by
 have h2 := h.t2;clear h;go_enter Tryz.func90, Tryz.ntmps90;go_wp2;go_ret;exact ⟨rfl, rfl⟩
theorem lh (h : TurnAt w M C L T s m puts) (hd : m.down = false) : Calls Tryz.prog 58 #[.pointer (some ⟨T, 0, none⟩)] w fun e w' => e = .returned (.int .i64 (Trn.moves m)) ∧ w = w' := by
 have h0 := h.t0;have H := am h.mem;have hr0 := (h.regs.get 0).1;have hr1 := h.mv;have E := am (show Nvm.reg m 0 = (Trn.moves m, 0) by unfold Nvm.reg Trn.moves; rw [hd]; rfl);have hm0 : 0 ≤ Trn.moves m ∧ Trn.moves m ≤ 4611686018427387904 := ⟨hr0, hr1⟩;clear h hd hr0 hr1;generalize Trn.moves m = mv at E hm0 ⊢;have W := am (show IntKind.i64.wrap mv = mv by rw [IntKind.wrap_i64]; omega);have W2 := am (show wrap64 mv = mv by unfold wrap64; omega);go_enter Tryz.func58, Tryz.ntmps58;go_wp2_with (first | (go_at_call 35; (with_reducible refine (jf H.out 0).mono ?_); rintro e w1 ⟨rfl, rfl⟩; rw [E.out]))
 go_ret;exact ⟨by first | rfl | rw [W2.out] | rw [W.out], rfl⟩
theorem qbi (h : TurnAt w M C L T s m puts) {line : Int} (h0 : 0 ≤ line) (h1 : line < s.n) : Calls Tryz.prog 85 #[.pointer (some ⟨T, 0, none⟩), .int .i64 line] w fun e w' => e = .returned (.int .i64 (if m.down then 2 else 0)) ∧ w = w' := by
 have t0 := h.t0;have t2 := h.t2;have H := am h.mem;have d0 : decide (line < 0) = false := decide_eq_false (by omega);have d1 : decide (line ≥ s.n) = false := decide_eq_false (by omega);clear h;have HD := am (jv H.out);cases hd : m.down
 ·rw [hd] at HD;go_enter Tryz.func85, Tryz.ntmps85;go_wp2_with (first | (go_at_call 30; (with_reducible refine HD.out.mono ?_); rintro e w1 ⟨rfl, rfl⟩))
  go_ret;exact ⟨rfl, rfl⟩
 ·rw [hd] at HD;go_enter Tryz.func85, Tryz.ntmps85;go_wp2_with (first | (go_at_call 30; (with_reducible refine HD.out.mono ?_); rintro e w1 ⟨rfl, rfl⟩))
  go_ret;exact ⟨rfl, rfl⟩
end
section
variable {w : World} {M C L T : Nat} {s : Shape} {m : Mem} {puts : Int}
theorem sa (h : MemAt w M C m) (slots : Int) (spares : Nat) (i : Int) : (Lns.get m slots spares i).1.length = 8 := by
 unfold Lns.get;split
 ·rfl
 ·exact z6 h _
theorem lc (h : TurnAt w M C L T s m puts) {line : Int} (h0 : 0 ≤ line) (h1 : line < s.n) : Calls Tryz.prog 39 #[.pointer (some ⟨T, 0, none⟩), .int .i64 line] w fun e w' => e = .returned (.tuple #[gm (Trn.get s m line).1, .int .i64 (Trn.get s m line).2]) ∧ Below w.heap.size w w' := by
 have H := am h;have HG := h.mayG;have hn2 := h.ok.n2;have hsp := h.ok.sp;clear h;have HMay := am (qbi (H.out.alloc (.cells bp 73)) h0 h1);cases hd : m.down
 ·have E2 := am (show Trn.get s m line = Lns.get m (s.n + 1) s.spares (gj s.n (Trn.moves m) line) by unfold Trn.get; rw [hd]; rfl);rw [hd] at HMay;have HD := am hd;clear hd;obtain ⟨ks, hks⟩ := (qcx HG h0 h1).rounds;have HS := am hks;have hsr := yp HG h0 h1;clear hks HG;rw [E2.out];generalize gj s.n (Trn.moves m) line = sl at HS hsr E2 ⊢;have HGL := am (sa H.out.mem (s.n + 1) s.spares sl);generalize hg : Lns.get m (s.n + 1) s.spares sl = g at HGL ⊢;have HGE := am hg;clear hg;obtain ⟨gl, ge⟩ := g;have BX := am (heap_alloc_new w (.cells bp 73));have H1 := am (H.out.alloc (.cells bp 73));have HB : Aside0 (Below w.heap.size w (w.alloc (.cells bp 73))) := ⟨(Below.refl _ _).alloc (Nat.le_refl _) _⟩;go_enter Tryz.func39, Tryz.ntmps39;go_wp2_with (first | (go_at_call 85; (with_reducible refine HMay.out.mono ?_); rintro e w1 ⟨rfl, rfl⟩))
  generalize w.alloc (.cells bp 73) = w1 at BX H1 HB ⊢;refine dy (n := 17) (S := fun w' => w'.cell? ⟨T, 1, none⟩ = some (.pointer (some ⟨L, 0, none⟩)) ∧ w'.cell? ⟨T, 2, none⟩ = some (.int .i64 s.n)) (ds := [12, 15]) (onA 17 0) (by kernel_rfl) rfl rfl ⟨H1.out.t1, H1.out.t2⟩ (fun hHeld => ?_);refine pu 0 (some 14) (bA 17 1) (h := ?_);refine pu 1 (some 15) (bA 17 3) (h := ?_);refine pu 2 (some 16) (bA 17 7) (h := ?_);refine pu 4 (some 18) (bA 17 23) (h := ?_);refine pu 5 (some 19) (bA 17 55) (h := ?_);refine pu 6 (some 20) (bA 17 119) (h := ?_);refine pu 8 (some 22) (bA 17 375) (h := ?_);refine pu 10 (some 24) (bA 17 1399) (h := ?_);refine tv 3 (some 17) (bA 17 1407) rfl hHeld (fun w' hs => bc 124 (.tmp 16) rfl T 1 _ rfl hs.1 _ Tryz.underlying124 rfl) (h := ?_);refine tv 7 (some 21) (bA 17 1535) rfl hHeld (fun w' hs => bc 3 (.tmp 20) rfl T 2 _ rfl hs.2 _ Tryz.underlying3 rfl) (h := ?_);refine gq (i := 9) (N := some 23) (bA 17 2047) rfl rfl (by kernel_rfl) (by decide) (fun K hK => ?_);refine dw Tryz.func58 (by kernel_rfl) rfl #[.pointer (some ⟨T, 0, none⟩)] (by rfl) rfl rfl (by simp only [List.map_toArray, List.map_cons, List.map_nil]; rfl) ?_;refine (lh H1.out.drew HD.out).mono ?_;rintro e w2 ⟨rfl, rfl⟩;refine ⟨_, rfl, ?_⟩;refine hK.out _ _ ⟨H1.out.drew.t1, H1.out.drew.t2⟩ (fun hHeld => ?_);clear hK K;refine gq (i := 11) (N := some 25) (bA 17 4095) rfl rfl (by kernel_rfl) (by decide) (fun K hK => ?_);refine dw Tryz.func87 (by kernel_rfl) rfl #[.int .i64 s.n, .int .i64 (Trn.moves m), .int .i64 line] (by rfl) rfl rfl (by simp only [List.map_toArray, List.map_cons, List.map_nil]; rfl) ?_;refine (fh.calls ks s.n (Trn.moves m) line sl _ HS.out).mono ?_;rintro e w2 ⟨rfl, ⟨nd, rfl⟩⟩;refine ⟨_, rfl, ?_⟩;refine hK.out _ _ ⟨(H1.out.drew.drewN nd).t1, (H1.out.drew.drewN nd).t2⟩ (fun hHeld => ?_);clear hK K hHeld;have H2 := am (H1.out.drew.drewN nd);have HB2 := am (bg (bm HB.out) nd);have BX2 : Aside0 ((w1.drew.drewN nd).heap[w.heap.size]? = some (.cells bp 73 (0, 0))) := ⟨ap (ay BX.out) nd⟩;clear H1 HB BX;generalize w1.drew.drewN nd = w2 at H2 HB2 BX2 ⊢;refine jr (i := 12) (N := some 26) (bA 17 8191) rfl rfl (by kernel_rfl) (by decide) (fun K hK => ?_);refine dw Tryz.func86 (by kernel_rfl) rfl #[.pointer (some ⟨L, 0, none⟩), .int .i64 sl] (by rfl) rfl rfl (by simp only [List.map_toArray, List.map_cons, List.map_nil]; rfl) ?_;refine (uz H2.out.mem H2.out.lin hsp H2.out.regs hsr.1 hsr.2 (by omega)).mono ?_;rintro e w3 ⟨rfl, hb⟩;rw [HGE.out];refine ⟨_, rfl, ?_⟩;refine hK.out _ _ ?_;clear hK K;have HB3 := am (ab HB2.out hb);have BX3 := am (ai BX2.out hb);clear H2 HB2 BX2 hb;refine pu 13 (some 27) (bA 17 16383) (h := ?_);refine pu 14 (some 28) (bA 17 32767) (h := ?_);refine jr (i := 15) (N := none) (bA 17 65535) rfl rfl (by kernel_rfl) (by decide) (fun K hK => ?_);refine p3 (by rfl) rfl (i7 73 (.tmp 4) (.tmp 27) rfl w.heap.size 0 (bb gl) rfl rfl 73 (bb zL) BX3.out (by rw [an, HGL.out]; exact cj) (by rw [an, HGL.out]; decide) (ix _)) ?_;refine hK.out _ _ ?_;clear hK K;refine pu 16 (some 5) (bA 17 131071) (h := ?_);refine fp (by kernel_rfl) ?_;rw [iy (bb gl) (bb zL) (by rw [an gl, HGL.out]; rfl)];go_wp2;exact fv rfl w.heap.size 73 (bb gl) _ rfl (setRow_heap _ _ _ _ _ _ BX3.out) Tryz.underlying73 rfl (by rw [an, HGL.out]; exact cj) rfl ⟨rfl, em HB3.out (Nat.le_refl _) _⟩
 ·have E2 := am (show Trn.get s m line = (zL, 2) by unfold Trn.get; rw [hd]; rfl);rw [hd] at HMay;rw [E2.out];clear hd;go_enter Tryz.func39, Tryz.ntmps39;go_wp2_with (first | (go_at_call 85; (with_reducible refine HMay.out.mono ?_); rintro e w1 ⟨rfl, rfl⟩))
  exact fv rfl w.heap.size 73 (bb zL) _ rfl (heap_alloc_new w _) Tryz.underlying73 rfl cj rfl ⟨rfl, (Below.refl _ _).alloc (Nat.le_refl _) _⟩
theorem ml (m : Mem) : (Nvm.write m).2.regs = m.regs := by unfold Nvm.write; split; rfl; split <;> rfl
theorem tb (m : Mem) (i : Int) (l : List Int) : (Nvm.put m i l).2.regs = m.regs := by
 unfold Nvm.put;split
 ·split
  ·rfl
  ·split
   ·exact ml m
   ·exact ml m
 ·rfl
theorem tg (m : Mem) (i v : Int) : (Nvm.set m i v).2.regs = m.regs ∨ (Nvm.set m i v).2.regs = m.regs.set i.toNat v := by
 unfold Nvm.set;split
 ·split
  ·exact .inl rfl
  ·split
   ·exact .inr (by simp [Nvm.setReg, ml])
   ·exact .inl (ml m)
 ·exact .inl rfl
theorem e9.of (h : e9 m) {m' : Mem} (e : m'.regs = m.regs) : e9 m' := by unfold e9; rw [e]; exact h
theorem e9.set (h : e9 m) {m' : Mem} {i : Nat} {v : Int} (e : m'.regs = m.regs.set i v) (h0 : 0 ≤ v) (h1 : v ≤ 18446744073709551615) : e9 m' := by
 unfold e9;rw [e];intro x hx;rcases List.mem_or_eq_of_mem_set hx with h2 | rfl
 ·exact h x h2
 ·exact ⟨h0, h1⟩
theorem py (h : e9 m) (i : Int) {v : Int} (h0 : 0 ≤ v) (h1 : v ≤ 18446744073709551615) : e9 (Nvm.set m i v).2 := by
 rcases tg m i v with e | e
 ·exact h.of e
 ·exact h.set e h0 h1
theorem mu (m : Mem) (i v : Int) (j : Nat) (hj : i.toNat ≠ j) : (Nvm.set m i v).2.regs.getD j 0 = m.regs.getD j 0 := by
 rcases tg m i v with e | e
 ·rw [e]
 ·rw [e];simp only [List.getD_eq_getElem?_getD];rw [List.getElem?_set_ne hj]
theorem ud (slots slot : Int) (d : List Int) (hs0 : 0 ≤ slot) (hs1 : slot ≤ 1000000) (ht0 : 0 ≤ slots) (ht1 : slots ≤ 1000000) : ∀ (n i : Nat) (m : Mem), e9 m → e9 (Lns.putLoop slots slot d n i m).2 ∧ ∀ j, j < 3 → (Lns.putLoop slots slot d n i m).2.regs.getD j 0 = m.regs.getD j 0
 | 0, i, m, h => ⟨h, fun _ _ => rfl⟩
 | n + 1, i, m, h => by
  have hp : e9 (Nvm.put m (slots + i) d).2 := h.of (tb _ _ _)
  have e0 := tb m (slots + i) d
  rw [Lns.putLoop]
  split
  ·exact ⟨py hp _ (by omega) (by omega), fun j hj => (mu _ _ _ j (by omega)).trans (by rw [e0])⟩
  ·split
   ·split
    ·have ih := ud slots slot d hs0 hs1 ht0 ht1 n (i + 1) _ (py hp (3 + (i : Int)) (v := slots + 1) (by omega) (by omega))
     exact ⟨ih.1, fun j hj => (ih.2 j hj).trans ((mu _ _ _ j (by omega)).trans (by rw [e0]))⟩
    ·exact ⟨py hp _ (by omega) (by omega), fun j hj => (mu _ _ _ j (by omega)).trans (by rw [e0])⟩
   ·exact ⟨hp, fun j _ => by rw [e0]⟩
theorem oy (h : e9 m) (slots : Int) (spares : Nat) (slot : Int) (d : List Int) (hs0 : 0 ≤ slot) (hs1 : slot ≤ 1000000) (ht0 : 0 ≤ slots) (ht1 : slots ≤ 1000000) : e9 (Lns.put m slots spares slot d).2 ∧ ∀ j, j < 3 → (Lns.put m slots spares slot d).2.regs.getD j 0 = m.regs.getD j 0 := by
 have hp : e9 (Nvm.put m (fj (Lns.tableTo m spares) slots slot) d).2 := h.of (tb _ _ _);have e0 := tb m (fj (Lns.tableTo m spares) slots slot) d;unfold Lns.put;split
 ·exact ⟨h, fun _ _ => rfl⟩
 ·split
  ·split
   ·exact ⟨hp, fun j _ => by rw [e0]⟩
   ·have l := ud slots slot d hs0 hs1 ht0 ht1 (spares - (o9 (Lns.tableTo m spares)).toNat) (o9 (Lns.tableTo m spares)).toNat _ hp;exact ⟨l.1, fun j hj => (l.2 j hj).trans (by rw [e0])⟩
  ·exact ⟨hp, fun j _ => by rw [e0]⟩
theorem zn (h : TurnAt w M C L T s m puts) (hd : m.down = false) (hv : m.regs.getD 0 0 + 1 ≤ 4611686018427387904) : Calls Tryz.prog 88 #[.pointer (some ⟨T, 0, none⟩)] w fun e w' => e = .returned (.int .i64 (Trn.move s m).1) ∧ TurnAt w' M C L T s (Trn.move s m).2 puts ∧ ah (MC M C) w w' := by
 have H := am h;have HD := am hd;have HG := h.mayG;have hn2 := h.ok.n2;have hn1 := h.ok.n1;have hsp := h.ok.sp;have hv0 := (h.regs.get 0).1;clear h hd;have hmr := yr HG;have HMe : Aside0 (o3.f s.n (Trn.moves m) = some ((Trn.moveS s.n (Trn.moves m)).1, (Trn.moveS s.n (Trn.moves m)).2)) := ⟨by rw [qlb HG]; rfl⟩;have EM : Aside0 (Trn.move s m = if (Lns.get m (s.n + 1) s.spares (Trn.moveS s.n (Trn.moves m)).1).2 = 0 then
  if (Lns.put m (s.n + 1) s.spares (Trn.moveS s.n (Trn.moves m)).2 (Lns.get m (s.n + 1) s.spares (Trn.moveS s.n (Trn.moves m)).1).1).1 = 0 then
   Nvm.set (Lns.put m (s.n + 1) s.spares (Trn.moveS s.n (Trn.moves m)).2 (Lns.get m (s.n + 1) s.spares (Trn.moveS s.n (Trn.moves m)).1).1).2 0 (Trn.moves m + 1)
  else Lns.put m (s.n + 1) s.spares (Trn.moveS s.n (Trn.moves m)).2 (Lns.get m (s.n + 1) s.spares (Trn.moveS s.n (Trn.moves m)).1).1
 else ((Lns.get m (s.n + 1) s.spares (Trn.moveS s.n (Trn.moves m)).1).2, m)) := ⟨rfl⟩
 generalize Trn.moveS s.n (Trn.moves m) = fm at hmr HMe EM;obtain ⟨fi, ti⟩ := fm;simp only [] at hmr HMe EM;generalize Trn.move s m = RR at EM ⊢;have HGL := am (sa H.out.mem (s.n + 1) s.spares fi);generalize hg : Lns.get m (s.n + 1) s.spares fi = g at HGL EM;have HGE := am hg;clear hg HG;obtain ⟨gl, ge⟩ := g;have HPR := am (oy H.out.regs (s.n + 1) s.spares ti gl hmr.2.1 (by omega) (by omega) (by omega));simp only [] at EM;generalize hp : Lns.put m (s.n + 1) s.spares ti gl = p at EM HPR;have HPE := am hp;clear hp;obtain ⟨pe, m1⟩ := p;have t2 := H.out.t2;have t1 := H.out.t1;by_cases cg : ge = 0
 ·subst cg;go_enter Tryz.func88, Tryz.ntmps88;go_wp2_with (first
   | (go_at_call 58; (with_reducible refine (lh H.out HD.out).mono ?_); rintro e w1 ⟨rfl, rfl⟩)
   | (go_at_call 131; (with_reducible refine (o3.calls s.n (Trn.moves m) fi ti _ HMe.out).mono ?_); rintro e w1 ⟨rfl, ⟨nd, rfl⟩⟩; have H1 := am (H.out.drewN nd); have t1 := H1.out.t1)
   | (go_at_call 86; (with_reducible refine (uz H1.out.mem H1.out.lin hsp H1.out.regs hmr.1.1 hmr.1.2 (by omega)).mono ?_); rintro e w2 ⟨rfl, hb⟩; rw [HGE.out]; have H2 := am (H1.out.below hb); have HB2 := am (ab (bg (Below.refl w.heap.size w) nd) hb); clear hb)
   | ((with_reducible refine bf (t := 73) (p := 6) rfl ?_); refine wpList_store_row rfl 73 (.tmp 6) (.tmp 27) rfl w2.heap.size (bb gl).toArray rfl rfl 73 _ (heap_alloc_new w2 _) ?hi ?ho ?h1 ?_; (case hi => rw [List.size_toArray, an, HGL.out]; exact cj); (case ho => simp [an, HGL.out]); (case h1 => exact wa _)))
  have BX3 : Aside0 (((w2.alloc (.cells bp 73)).setRow w2.heap.size (bb gl).toArray).heap[w2.heap.size]? = some (.cells (bb gl).toArray 73 (0, 0))) := ⟨setRow_heap _ _ _ _ _ _ (heap_alloc_new w2 _)⟩;have HB3 : Aside0 (Below w2.heap.size w2 ((w2.alloc (.cells bp 73)).setRow w2.heap.size (bb gl).toArray)) := ⟨em ((Below.refl _ _).alloc (Nat.le_refl _) _) (Nat.le_refl _) _⟩;generalize ((w2.alloc (.cells bp 73)).setRow w2.heap.size (bb gl).toArray) = w3 at BX3 HB3 ⊢;have H3 := am (H2.out.below HB3.out);have HB4 := am (ab HB2.out HB3.out);have hz := HB2.out.size;have hlt := H.out.mem.lt;clear H2 HB2 HB3 H1;refine dy (n := 8) (S := fun w' => w'.cell? ⟨T, 1, none⟩ = some (.pointer (some ⟨L, 0, none⟩)) ∧ (∀ j v, (bb gl)[j]? = some v → w'.cell? ⟨w2.heap.size, 0 + j, none⟩ = some v)) (ds := [6]) (onA 8 0) (by kernel_rfl) rfl rfl ⟨H3.out.t1, fun j v hv => by rw [Nat.zero_add]; exact bh BX3.out j v hv⟩ (fun hHeld => ?_);refine pu 0 (some 32) (bA 8 1) (h := ?_);refine pu 1 (some 33) (bA 8 3) (h := ?_);refine pu 2 (some 34) (bA 8 7) (h := ?_);refine pu 4 (some 36) (bA 8 23) (h := ?_);refine tv 3 (some 35) (bA 8 31) rfl hHeld (fun w' hs => bc 124 (.tmp 34) rfl T 1 _ rfl hs.1 _ Tryz.underlying124 rfl) (h := ?_);refine tv 5 (some 37) (bA 8 63) rfl hHeld (v := .agg (bb gl).toArray) (fun w' hs => bv 73 (.tmp 6) rfl w2.heap.size 0 rfl (bb gl) _ hs.2 Tryz.underlying73 rfl (by rw [an, HGL.out]; exact cj)) (h := ?_);refine jr (i := 6) (N := some 38) (bA 8 127) rfl rfl (by kernel_rfl) (by decide) (fun K hK => ?_);refine dw Tryz.func89 (by kernel_rfl) rfl #[.pointer (some ⟨L, 0, none⟩), .int .i64 ti, gm gl] (by rfl) rfl rfl (by simp only [List.map_toArray, List.map_cons, List.map_nil]; rfl) ?_;refine (um H3.out.drew.mem H3.out.drew.lin H3.out.lm hsp H3.out.regs hmr.2.1 hmr.2.2 (by omega) gl HGL.out).mono ?_;rintro e w4 ⟨rfl, h4_, k4_⟩;rw [HPE.out] at h4_ ⊢;refine ⟨_, rfl, ?_⟩;refine hK.out _ _ ?_;clear hK K hHeld;have H4 : Aside0 (TurnAt w4 M C L T s m1 puts) := ⟨H3.out.drew.step h4_ k4_ HPR.out.1 (by rw [HPR.out.2 0 (by omega)]; exact H.out.mv)⟩;have K4 : Aside0 (ah (MC M C) w w4) := ⟨(ah.of_below (bm HB4.out)).step k4_⟩;clear h4_ k4_ H3 HB4 BX3;refine pu 7 (some 8) (bA 8 255) (h := ?_);refine fp (by kernel_rfl) ?_;by_cases cp : pe = 0
  ·subst cp;have e1 : Aside0 (RR = Nvm.set m1 0 (Trn.moves m + 1)) := ⟨by rw [EM.out]; exact (if_pos trivial).trans (if_pos rfl)⟩;have t0 := H4.out.t0;have hmv : Aside0 (Trn.moves m = m.regs.getD 0 0) := ⟨rfl⟩;have hmv0 : 0 ≤ Trn.moves m ∧ Trn.moves m + 1 ≤ 4611686018427387904 := ⟨hv0, hv⟩;have W1 := am (show IntKind.u64.wrap (IntKind.u64.wrap (Trn.moves m) + 1) = Trn.moves m + 1 by rw [qa9, qa9]; omega);have HN : Aside0 (e9 (Nvm.set m1 0 (Trn.moves m + 1)).2) := ⟨py HPR.out.1 0 (by omega) (by omega)⟩;have HN0 : Aside0 ((Nvm.set m1 0 (Trn.moves m + 1)).2.regs.getD 0 0 ≤ 4611686018427387904) := ⟨by
    rcases tg m1 0 (Trn.moves m + 1) with e | e
    ·rw [e, HPR.out.2 0 (by omega)]; exact H.out.mv
    ·rw [e];simp only [List.getD_eq_getElem?_getD, Int.toNat_zero];rw [List.getElem?_set_self (by rw [H4.out.mem.regs]; omega)];exact hv⟩
   clear EM;go_wp2_with (first | (go_at_call 107; (with_reducible refine (lq H4.out.mem 0 (Trn.moves m + 1)).mono ?_); rintro e w5 ⟨rfl, h5_, k5_⟩; have H5 := am (H4.out.step h5_ k5_ HN.out HN0.out); have K5 := am (K4.out.step k5_); clear h5_ k5_))
   go_ret;rw [e1.out];exact ⟨rfl, H5.out, K5.out⟩
  ·have b0 : (pe != 0) = true := by simpa using cp
   have e1 : Aside0 (RR = (pe, m1)) := ⟨by rw [EM.out]; exact (if_pos trivial).trans (if_neg cp)⟩;clear EM;go_wp2;go_ret;rw [e1.out];exact ⟨rfl, H4.out, K4.out⟩
 ·have b0 : (ge != 0) = true := by simpa using cg
  have e1 : Aside0 (RR = (ge, m)) := ⟨by rw [EM.out]; exact if_neg cg⟩;clear EM;go_enter Tryz.func88, Tryz.ntmps88;go_wp2_with (first
   | (go_at_call 58; (with_reducible refine (lh H.out HD.out).mono ?_); rintro e w1 ⟨rfl, rfl⟩)
   | (go_at_call 131; (with_reducible refine (o3.calls s.n (Trn.moves m) fi ti _ HMe.out).mono ?_); rintro e w1 ⟨rfl, ⟨nd, rfl⟩⟩; have H1 := am (H.out.drewN nd); have t1 := H1.out.t1)
   | (go_at_call 86; (with_reducible refine (uz H1.out.mem H1.out.lin hsp H1.out.regs hmr.1.1 hmr.1.2 (by omega)).mono ?_); rintro e w2 ⟨rfl, hb⟩; rw [HGE.out]; have H2 := am (H1.out.below hb); have HB2 := am (ab (bg (Below.refl w.heap.size w) nd) hb); clear hb)
   | ((with_reducible refine bf (t := 73) (p := 6) rfl ?_); refine wpList_store_row rfl 73 (.tmp 6) (.tmp 27) rfl w2.heap.size (bb gl).toArray rfl rfl 73 _ (heap_alloc_new w2 _) ?hi ?ho ?h1 ?_; (case hi => rw [List.size_toArray, an, HGL.out]; exact cj); (case ho => simp [an, HGL.out]); (case h1 => exact wa _)))
  go_ret;rw [e1.out];have HB3 : Below w2.heap.size w2 ((w2.alloc (.cells bp 73)).setRow w2.heap.size (bb gl).toArray) := em ((Below.refl _ _).alloc (Nat.le_refl _) _) (Nat.le_refl _) _;exact ⟨rfl, H2.out.below HB3, ah.of_below (ab HB2.out HB3)⟩
end
def MCT (M C T : Nat) : Nat → Prop := fun k => k = M ∨ k = C ∨ k = T
theorem px {M C T k : Nat} (h : k ≠ M) (h' : k ≠ C) (h'' : k ≠ T) : ¬ MCT M C T k := fun e => by rcases e with e | e | e <;> contradiction
theorem ah.MCT {M C T : Nat} {w w' : World} (h : ah (MC M C) w w') : ah (MCT M C T) w w' := h.mono (fun k _ hk => by rcases hk with rfl | rfl; exact .inl rfl; exact .inr (.inl rfl))
namespace Trn
def putAt (s : Shape) (m : Mem) (line : Int) (d : List Int) : Int × Mem := Lns.put m (s.n + 1) s.spares (gj s.n (moves m) line) d
def put (s : Shape) (m : Mem) (puts : Int) (line : Int) (d : List Int) : Int × Mem × Int :=
 if m.down then (2, m, puts)
 else if wrap64 (puts + 1) = s.period then
  if (move s m).1 = 0 then ((putAt s (move s m).2 line d).1, (putAt s (move s m).2 line d).2, 0)
  else ((move s m).1, (move s m).2, 0)
 else ((putAt s m line d).1, (putAt s m line d).2, wrap64 (puts + 1))
end Trn
section
variable {w : World} {M C L T : Nat} {s : Shape} {m : Mem} {puts : Int}
theorem TurnAt.setPuts (h : TurnAt w M C L T s m puts) (v : Int) : TurnAt (w.setCell ⟨T, 4, none⟩ (.int .i64 v)) M C L T s m v :=
 ⟨h.mem.other (fun e => h.tm (.inl e.symm)) (fun e => h.tm (.inr e.symm)) _, by unfold fl; rw [Below.heap_setCell _ _ _ _ (fun e => h.tl e.symm)]; exact h.lin, by rw [heap_setCell_same _ _ _ _ _ _ h.tur]; rfl, h.lm, h.tm, h.tl, h.regs, h.mv, h.ok⟩
theorem qms (m : Mem) (i v : Int) (h : (Nvm.set m i v).1 = 0) : (Nvm.set m i v).2.down = false := by
 unfold Nvm.set at h ⊢;split
 ·rename_i c1
  rw [if_pos c1] at h;split
  ·rename_i c2; rw [if_pos c2] at h; cases h
  ·rename_i c2
   rw [if_neg c2] at h;split
   ·rename_i c3
    rw [if_pos c3] at h;unfold Nvm.told at h;split at h
    ·cases h
    ·rename_i c4; simpa using c4
   ·rename_i c3
    rw [if_neg c3] at h;unfold Nvm.told at h;split at h
    ·cases h
    ·rename_i c4; simpa using c4
 ·rename_i c1; rw [if_neg c1] at h; cases h
theorem qj9 (s : Shape) (m : Mem) (h : (Trn.move s m).1 = 0) : (Trn.move s m).2.down = false := by
 unfold Trn.move at h ⊢;split
 ·rename_i c1
  rw [if_pos c1] at h;split
  ·rename_i c2
   rw [if_pos c2] at h;exact qms _ _ _ h
  ·rename_i c2
   rw [if_neg c2] at h;exact absurd h c2
 ·rename_i c1
  rw [if_neg c1] at h;exact absurd h c1
theorem ut (h : TurnAt w M C L T s m puts) (hv : m.regs.getD 0 0 + 2 ≤ 4611686018427387904) {line : Int} (h0 : 0 ≤ line) (h1 : line < s.n) (d : List Int) (hd8 : d.length = 8) : Calls Tryz.prog 42 #[.pointer (some ⟨T, 0, none⟩), .int .i64 line, gm d] w fun e w' => e = .returned (.int .i64 (Trn.put s m puts line d).1) ∧ TurnAt w' M C L T s (Trn.put s m puts line d).2.1 (Trn.put s m puts line d).2.2 ∧ ah (MCT M C T) w w' := by
 have H := am h;have HD8 := am hd8;have hlt := h.mem.lt;have hTlt : T < w.heap.size := df h.tur;have hn2 := h.ok.n2;have hsp := h.ok.sp;clear h hd8;unfold gm;have H0 := am (H.out.alloc (.cells (bb d).toArray 73));have HMay := am (qbi H0.out h0 h1);cases hd : m.down
 ·rw [hd] at HMay;have HD := am hd;have EP : Aside0 (Trn.put s m puts line d = if wrap64 (puts + 1) = s.period then
    if (Trn.move s m).1 = 0 then ((Trn.putAt s (Trn.move s m).2 line d).1, (Trn.putAt s (Trn.move s m).2 line d).2, 0) else ((Trn.move s m).1, (Trn.move s m).2, 0)
   else ((Trn.putAt s m line d).1, (Trn.putAt s m line d).2, wrap64 (puts + 1))) := ⟨by unfold Trn.put; rw [hd]; rfl⟩
  clear hd;generalize Trn.put s m puts line d = RR at EP ⊢;have t4 := H0.out.t4;have f4 : (w.alloc (.cells (bb d).toArray 73)).frozen? ⟨T, 4, none⟩ = false := ac H0.out.tur 4;have BX0 := am (heap_alloc_new w (.cells (bb d).toArray 73));have K0 : Aside0 (ah (MCT M C T) w (w.alloc (.cells (bb d).toArray 73))) := ⟨(ah.refl _ w).alloc _⟩;go_enter Tryz.func42, Tryz.ntmps42;go_wp2_with (first | (go_at_call 85; (with_reducible refine HMay.out.mono ?_); rintro e w1 ⟨rfl, rfl⟩))
  clear t4 f4;have H1 := am ((H.out.setPuts (wrap64 (puts + 1))).alloc (.cells (bb d).toArray 73));have K1 : Aside0 (ah (MCT M C T) w _) := ⟨((ah.refl _ w).set (p := ⟨T, 4, none⟩) (.inl (.inr (.inr rfl))) (.int .i64 (wrap64 (puts + 1)))).alloc (.cells (bb d).toArray 73)⟩;have BX1 : Aside0 (((w.setCell ⟨T, 4, none⟩ (.int .i64 (wrap64 (puts + 1)))).alloc (.cells (bb d).toArray 73)).heap[w.heap.size]? = some (.cells (bb d).toArray 73 (0, 0))) := ⟨by
   have e := heap_alloc_new (w.setCell ⟨T, 4, none⟩ (.int .i64 (wrap64 (puts + 1)))) (.cells (bb d).toArray 73)
   rwa [show (w.setCell ⟨T, 4, none⟩ (.int .i64 (wrap64 (puts + 1)))).heap.size = w.heap.size by simp [World.setCell]] at e⟩
  clear H0 K0 BX0;generalize (w.setCell ⟨T, 4, none⟩ (.int .i64 (wrap64 (puts + 1)))).alloc (.cells (bb d).toArray 73) = w1 at H1 K1 BX1 ⊢;have t4 := H1.out.t4;have t3 := H1.out.t3;by_cases cp : wrap64 (puts + 1) = s.period
  ·have b0 : (wrap64 (puts + 1) == s.period) = true := beq_iff_eq.2 cp;go_quiet (fail);clear t4 t3;have H2 := am (H1.out.drewN nq);have K2 := am (K1.out.drewN nq);have BX2 := am (ap BX1.out nq);clear H1 K1 BX1;generalize w1.drewN nq = w2 at H2 K2 BX2 ⊢;have t4 := H2.out.t4;have f4 : w2.frozen? ⟨T, 4, none⟩ = false := ac H2.out.tur 4;have H3 := am (H2.out.setPuts 0);have K3 : Aside0 (ah (MCT M C T) w _) := ⟨K2.out.set (p := ⟨T, 4, none⟩) (.inl (.inr (.inr rfl))) (.int .i64 0)⟩;have BX3 : Aside0 ((w2.setCell ⟨T, 4, none⟩ (.int .i64 0)).heap[w.heap.size]? = some (.cells (bb d).toArray 73 (0, 0))) := ⟨by rw [Below.heap_setCell _ _ _ _ (by show w.heap.size ≠ T; omega)]; exact BX2.out⟩;generalize hmv : Trn.move s m = mv at EP;have HMV := am hmv;clear hmv;obtain ⟨me, m2⟩ := mv;have hnT : ∀ k, k = w.heap.size → ¬ MC M C k := fun k hk => o7 (by omega) (by omega);by_cases cm : me = 0
   ·subst cm;have e1 : Aside0 (RR = ((Trn.putAt s m2 line d).1, (Trn.putAt s m2 line d).2, 0)) := ⟨by rw [EP.out]; exact (if_pos cp).trans (if_pos rfl)⟩;have HDD : Aside0 (m2.down = false) := ⟨by have e := qj9 s m (by rw [HMV.out]); rw [HMV.out] at e; exact e⟩;clear EP;go_wp2_with (first | (go_at_call 88; (with_reducible refine (zn H3.out HD.out (by omega)).mono ?_); rintro e w5 ⟨rfl, h5_, k5_⟩; rw [HMV.out] at h5_ ⊢; have H5 := am h5_; have K5 := am (K3.out.step k5_.MCT); have BX5 := am (k5_.of BX3.out (hnT _ rfl)); clear h5_ k5_))
    clear H2 K2 BX2 H3 K3 BX3 t4 f4;replace H2 := H5;replace K2 := K5;replace BX2 := BX5;clear H5 K5 BX5;have HG := H2.out.mayG;obtain ⟨ks, hks⟩ := (qcx HG h0 h1).rounds;have HS := am hks;have hsr := yp HG h0 h1;have EA : Aside0 (Trn.putAt s m2 line d = Lns.put m2 (s.n + 1) s.spares (gj s.n (Trn.moves m2) line) d) := ⟨rfl⟩;clear hks HG;generalize gj s.n (Trn.moves m2) line = sl at HS hsr EA;have HPR := am (oy H2.out.regs (s.n + 1) s.spares sl d hsr.1 (by omega) (by omega) (by omega));generalize hq : Lns.put m2 (s.n + 1) s.spares sl d = q at EA HPR;have HQ := am hq;clear hq;obtain ⟨qe, m9⟩ := q;refine dy (n := 15) (S := fun w' => w'.cell? ⟨T, 1, none⟩ = some (.pointer (some ⟨L, 0, none⟩)) ∧ w'.cell? ⟨T, 2, none⟩ = some (.int .i64 s.n) ∧ (∀ j v, (bb d)[j]? = some v → w'.cell? ⟨w.heap.size, 0 + j, none⟩ = some v)) (ds := [13]) (onA 15 0) (by kernel_rfl) rfl rfl ⟨H2.out.t1, H2.out.t2, fun j v hv => by rw [Nat.zero_add]; exact bh BX2.out j v hv⟩ (fun hHeld => ?_);refine pu 0 (some 39) (bA 15 1) (h := ?_);refine pu 1 (some 40) (bA 15 3) (h := ?_);refine pu 2 (some 41) (bA 15 7) (h := ?_);refine pu 4 (some 43) (bA 15 23) (h := ?_);refine pu 5 (some 44) (bA 15 55) (h := ?_);refine pu 6 (some 45) (bA 15 119) (h := ?_);refine pu 8 (some 47) (bA 15 375) (h := ?_);refine pu 10 (some 49) (bA 15 1399) (h := ?_);refine tv 3 (some 42) (bA 15 1407) rfl hHeld (fun w' hs => bc 124 (.tmp 41) rfl T 1 _ rfl hs.1 _ Tryz.underlying124 rfl) (h := ?_);refine tv 7 (some 46) (bA 15 1535) rfl hHeld (fun w' hs => bc 3 (.tmp 45) rfl T 2 _ rfl hs.2.1 _ Tryz.underlying3 rfl) (h := ?_);refine tv 12 (some 51) (bA 15 5631) rfl hHeld (v := .agg (bb d).toArray) (fun w' hs => bv 73 (.tmp 5) rfl w.heap.size 0 rfl (bb d) _ hs.2.2 Tryz.underlying73 rfl (by rw [an, HD8.out]; exact cj)) (h := ?_);refine gq (i := 9) (N := some 48) (bA 15 6143) rfl rfl (by kernel_rfl) (by decide) (fun K hK => ?_);refine dw Tryz.func58 (by kernel_rfl) rfl #[.pointer (some ⟨T, 0, none⟩)] (by rfl) rfl rfl (by simp only [List.map_toArray, List.map_cons, List.map_nil]; rfl) ?_;refine (lh H2.out.drew HDD.out).mono ?_;rintro e w3 ⟨rfl, rfl⟩;refine ⟨_, rfl, ?_⟩;refine hK.out _ _ hHeld (fun hHeld => ?_);clear hK K;refine gq (i := 11) (N := some 50) (bA 15 8191) rfl rfl (by kernel_rfl) (by decide) (fun K hK => ?_);refine dw Tryz.func87 (by kernel_rfl) rfl #[.int .i64 s.n, .int .i64 (Trn.moves m2), .int .i64 line] (by rfl) rfl rfl (by simp only [List.map_toArray, List.map_cons, List.map_nil]; rfl) ?_;refine (fh.calls ks s.n (Trn.moves m2) line sl _ HS.out).mono ?_;rintro e w3 ⟨rfl, ⟨nd, rfl⟩⟩;refine ⟨_, rfl, ?_⟩;refine hK.out _ _ ⟨(H2.out.drew.drewN nd).t1, (H2.out.drew.drewN nd).t2, fun j v hv => by rw [Nat.zero_add]; exact bh (ap (ay BX2.out) nd) j v hv⟩ (fun hHeld => ?_);clear hK K hHeld;have H3 := am (H2.out.drew.drewN nd);have K3 := am (K2.out.drew.drewN nd);clear H2 K2 BX2;generalize w5.drew.drewN nd = w3 at H3 K3 ⊢;refine jr (i := 13) (N := some 52) (bA 15 16383) rfl rfl (by kernel_rfl) (by decide) (fun K hK => ?_);refine dw Tryz.func89 (by kernel_rfl) rfl #[.pointer (some ⟨L, 0, none⟩), .int .i64 sl, gm d] (by rfl) rfl rfl (by simp only [List.map_toArray, List.map_cons, List.map_nil]; rfl) ?_;refine (um H3.out.mem H3.out.lin H3.out.lm hsp H3.out.regs hsr.1 hsr.2 (by omega) d HD8.out).mono ?_;rintro e w4 ⟨rfl, h4_, k4_⟩;rw [HQ.out] at h4_ ⊢;refine ⟨_, rfl, ?_⟩;refine hK.out _ _ ?_;clear hK K;have H4 : Aside0 (TurnAt w4 M C L T s m9 0) := ⟨H3.out.step h4_ k4_ HPR.out.1 (by rw [HPR.out.2 0 (by omega)]; exact H3.out.mv)⟩;have K4 : Aside0 (ah (MCT M C T) w w4) := ⟨K3.out.step k4_.MCT⟩;clear h4_ k4_;refine pu 14 (some 6) (bA 15 32767) (h := ?_);refine fp (by kernel_rfl) ?_;go_wp2;go_ret;rw [e1.out, EA.out];exact ⟨rfl, H4.out, K4.out⟩
   ·have b1 : (me != 0) = true := by simpa using cm
    have e1 : Aside0 (RR = (me, m2, 0)) := ⟨by rw [EP.out]; exact (if_pos cp).trans (if_neg cm)⟩;clear EP;go_wp2_with (first | (go_at_call 88; (with_reducible refine (zn H3.out HD.out (by omega)).mono ?_); rintro e w5 ⟨rfl, h5_, k5_⟩; rw [HMV.out] at h5_ ⊢; have H5 := am h5_; have K5 := am (K3.out.step k5_.MCT); clear h5_ k5_))
    go_ret;rw [e1.out];exact ⟨rfl, H5.out, K5.out⟩
  ·have b0 : (wrap64 (puts + 1) == s.period) = false := beq_eq_false_iff_ne.2 cp;have e1 : Aside0 (RR = ((Trn.putAt s m line d).1, (Trn.putAt s m line d).2, wrap64 (puts + 1))) := ⟨by rw [EP.out]; exact if_neg cp⟩;go_quiet (fail);clear t4 t3;have H2 := am (H1.out.drewN nq);have K2 := am (K1.out.drewN nq);have BX2 := am (ap BX1.out nq);clear H1 K1 BX1 EP;go_wp2;generalize w1.drewN nq = w2 at H2 K2 BX2 ⊢;have HDD := HD;have HG := H2.out.mayG;obtain ⟨ks, hks⟩ := (qcx HG h0 h1).rounds;have HS := am hks;have hsr := yp HG h0 h1;have EA : Aside0 (Trn.putAt s m line d = Lns.put m (s.n + 1) s.spares (gj s.n (Trn.moves m) line) d) := ⟨rfl⟩;clear hks HG;generalize gj s.n (Trn.moves m) line = sl at HS hsr EA;have HPR := am (oy H2.out.regs (s.n + 1) s.spares sl d hsr.1 (by omega) (by omega) (by omega));generalize hq : Lns.put m (s.n + 1) s.spares sl d = q at EA HPR;have HQ := am hq;clear hq;obtain ⟨qe, m9⟩ := q;refine dy (n := 15) (S := fun w' => w'.cell? ⟨T, 1, none⟩ = some (.pointer (some ⟨L, 0, none⟩)) ∧ w'.cell? ⟨T, 2, none⟩ = some (.int .i64 s.n) ∧ (∀ j v, (bb d)[j]? = some v → w'.cell? ⟨w.heap.size, 0 + j, none⟩ = some v)) (ds := [13]) (onA 15 0) (by kernel_rfl) rfl rfl ⟨H2.out.t1, H2.out.t2, fun j v hv => by rw [Nat.zero_add]; exact bh BX2.out j v hv⟩ (fun hHeld => ?_);refine pu 0 (some 39) (bA 15 1) (h := ?_);refine pu 1 (some 40) (bA 15 3) (h := ?_);refine pu 2 (some 41) (bA 15 7) (h := ?_);refine pu 4 (some 43) (bA 15 23) (h := ?_);refine pu 5 (some 44) (bA 15 55) (h := ?_);refine pu 6 (some 45) (bA 15 119) (h := ?_);refine pu 8 (some 47) (bA 15 375) (h := ?_);refine pu 10 (some 49) (bA 15 1399) (h := ?_);refine tv 3 (some 42) (bA 15 1407) rfl hHeld (fun w' hs => bc 124 (.tmp 41) rfl T 1 _ rfl hs.1 _ Tryz.underlying124 rfl) (h := ?_);refine tv 7 (some 46) (bA 15 1535) rfl hHeld (fun w' hs => bc 3 (.tmp 45) rfl T 2 _ rfl hs.2.1 _ Tryz.underlying3 rfl) (h := ?_);refine tv 12 (some 51) (bA 15 5631) rfl hHeld (v := .agg (bb d).toArray) (fun w' hs => bv 73 (.tmp 5) rfl w.heap.size 0 rfl (bb d) _ hs.2.2 Tryz.underlying73 rfl (by rw [an, HD8.out]; exact cj)) (h := ?_);refine gq (i := 9) (N := some 48) (bA 15 6143) rfl rfl (by kernel_rfl) (by decide) (fun K hK => ?_);refine dw Tryz.func58 (by kernel_rfl) rfl #[.pointer (some ⟨T, 0, none⟩)] (by rfl) rfl rfl (by simp only [List.map_toArray, List.map_cons, List.map_nil]; rfl) ?_;refine (lh H2.out.drew HDD.out).mono ?_;rintro e w3 ⟨rfl, rfl⟩;refine ⟨_, rfl, ?_⟩;refine hK.out _ _ hHeld (fun hHeld => ?_);clear hK K;refine gq (i := 11) (N := some 50) (bA 15 8191) rfl rfl (by kernel_rfl) (by decide) (fun K hK => ?_);refine dw Tryz.func87 (by kernel_rfl) rfl #[.int .i64 s.n, .int .i64 (Trn.moves m), .int .i64 line] (by rfl) rfl rfl (by simp only [List.map_toArray, List.map_cons, List.map_nil]; rfl) ?_;refine (fh.calls ks s.n (Trn.moves m) line sl _ HS.out).mono ?_;rintro e w3 ⟨rfl, ⟨nd, rfl⟩⟩;refine ⟨_, rfl, ?_⟩;refine hK.out _ _ ⟨(H2.out.drew.drewN nd).t1, (H2.out.drew.drewN nd).t2, fun j v hv => by rw [Nat.zero_add]; exact bh (ap (ay BX2.out) nd) j v hv⟩ (fun hHeld => ?_);clear hK K hHeld;have H3 := am (H2.out.drew.drewN nd);have K3 := am (K2.out.drew.drewN nd);clear H2 K2 BX2;generalize w2.drew.drewN nd = w3 at H3 K3 ⊢;refine jr (i := 13) (N := some 52) (bA 15 16383) rfl rfl (by kernel_rfl) (by decide) (fun K hK => ?_);refine dw Tryz.func89 (by kernel_rfl) rfl #[.pointer (some ⟨L, 0, none⟩), .int .i64 sl, gm d] (by rfl) rfl rfl (by simp only [List.map_toArray, List.map_cons, List.map_nil]; rfl) ?_;refine (um H3.out.mem H3.out.lin H3.out.lm hsp H3.out.regs hsr.1 hsr.2 (by omega) d HD8.out).mono ?_;rintro e w4 ⟨rfl, h4_, k4_⟩;rw [HQ.out] at h4_ ⊢;refine ⟨_, rfl, ?_⟩;refine hK.out _ _ ?_;clear hK K;have H4 : Aside0 (TurnAt w4 M C L T s m9 (wrap64 (puts + 1))) := ⟨H3.out.step h4_ k4_ HPR.out.1 (by rw [HPR.out.2 0 (by omega)]; exact H3.out.mv)⟩;have K4 : Aside0 (ah (MCT M C T) w w4) := ⟨K3.out.step k4_.MCT⟩;clear h4_ k4_;refine pu 14 (some 6) (bA 15 32767) (h := ?_);refine fp (by kernel_rfl) ?_;go_wp2;go_ret;rw [e1.out, EA.out];exact ⟨rfl, H4.out, K4.out⟩
 ·rw [hd] at HMay;have e1 : Aside0 (Trn.put s m puts line d = (2, m, puts)) := ⟨by unfold Trn.put; rw [hd]; rfl⟩;clear hd;generalize Trn.put s m puts line d = RR at e1 ⊢;go_enter Tryz.func42, Tryz.ntmps42;go_wp2_with (first | (go_at_call 85; (with_reducible refine HMay.out.mono ?_); rintro e w1 ⟨rfl, rfl⟩))
  go_ret;rw [e1.out];exact ⟨rfl, H0.out, (ah.refl _ w).alloc _⟩
end
end Go.Proofs.YtmfhaliclnnbaaaGreat.Sys
namespace Go.Proofs.YtmfhaliclnnbaaaGreat.Sys
open Go.RowKit Go.Proofs.YtmfhaliclnnbaaaGreatW.PrintWords Go.Proofs.YtmfhaliclnnbaaaGreatW.PrintLast Go.Proofs.YtmfhaliclnnbaaaGreatW.PrintMore
open Go.Proofs.YtmfhaliclnnbaaaGreat.XTopWhole Go.Proofs.YtmfhaliclnnbaaaGreat.Pl Go.Maps
set_option linter.unusedVariables false
set_option linter.unusedSimpArgs false
set_option maxRecDepth 100000
set_option maxHeartbeats 8000000
abbrev ip := Int × List Int
def ct (h : ip) : List Value := .int .i64 h.1 :: bb h.2
def ui : Kd ip where
 sz := 9
 E := []
 K := fun _ x cs => cs = ct x ∧ x.2.length = 8
 M := fun _ _ _ x cs => cs = ct x ∧ x.2.length = 8
 K_len := fun h => by rw [h.1]; simp [ct, an, h.2]
 K_one := fun h u hu => by
  rw [h.1] at hu
  rcases List.mem_cons.1 hu with rfl | hu
  ·rfl
  ·exact ix _ _ hu
 K_below := fun _ h => h
 K_of_M := fun h => h
 M_mono := fun _ h => h
 M_bound := fun h => h
 M_move := fun _ h => h
 M_lower := fun _ h => h
def zH : ip := (0, zL)
theorem yx : (Tryz.prog.info? 151).map (fun i => (i.zero, i.size, i.bytes)) = some (some (.agg #[.int .i64 0, .int .u64 0, .int .u64 0, .int .u64 0, .int .u64 0, .int .u64 0, .int .u64 0, .int .u64 0, .int .u64 0]), 9, 72) := by kernel_rfl
theorem qee : (Tryz.prog.info? 73).map (fun i => (i.zero, i.size, i.bytes)) = some (some (.agg bp), 8, 64) := by kernel_rfl
theorem iz : (Tryz.prog.info? 151).map (·.size) = some 9 := by kernel_rfl
abbrev ie : Array Value := #[.int .i64 0, .int .u64 0, .int .u64 0, .int .u64 0, .int .u64 0, .int .u64 0, .int .u64 0, .int .u64 0, .int .u64 0]
theorem ca {h : ip} (hl : h.2.length = 8) : (ct h).length = 9 := by simp [ct, an, hl]
theorem nc (h : ip) : (ct h).toArray.all (·.oneCell') = true := by simp [ct, bb, Value.oneCell']
theorem homeAt {w : World} {base : Nat} {ok : Nat → Prop} {A : Option Addr} {c n : Nat} {xs : List ip} (h : Kd.R ui 151 w base ok (.slice A n c) xs) (hn : xs.length = n) (i : Nat) (hi : i < n) : ∃ g, A = some ⟨g, 0, none⟩ ∧ (xs.getD i zH).2.length = 8 ∧ ∀ j u, (ct (xs.getD i zH))[j]? = some u → w.cell? ⟨g, i * 9 + j, none⟩ = some u := by
 obtain ⟨g, cap, e, _⟩ := Kd.R_form h (by omega);obtain ⟨ad, cs, e2, _, hK, hc⟩ := Kd.C_get (Kd.R_reads' h).2.2 zH (i : Int) (by omega) (by omega);rw [Int.toNat_natCast] at hK hc;obtain ⟨rfl, h8⟩ := hK;injection e with e3;subst e3;injection e2 with e2;subst e2;exact ⟨g, rfl, h8, fun j u hu => by have := hc j u hu; rw [mg, Nat.zero_add] at this; exact this⟩
theorem o5 {w w' : World} (h : Below w.heap.size w w') : w.grownBy w' none := ⟨h.os, h.tape, h.output, h.size, fun k hk _ => h.block k hk⟩
theorem ru : Keyed Tryz.prog 3 := int_keyed Tryz.underlying3
theorem ro (w : World) : (zeroValue 3).run Tryz.prog w = .ok (.int .i64 0) w := by kernel_rfl
theorem ju (w : World) (z cs : Array Value) (t : TypeId) : ((w.alloc (.cells z t)).setRow w.heap.size cs).heap[w.heap.size]? = some (.cells cs t (0, 0)) := setRow_heap _ _ _ _ _ _ (heap_alloc_new w _)
theorem iq (w : World) (z cs : Array Value) (t : TypeId) : Below w.heap.size w ((w.alloc (.cells z t)).setRow w.heap.size cs) := em ((Below.refl _ _).alloc (Nat.le_refl _) _) (Nat.le_refl _) _
theorem ow {H : Type} {k e : TypeId} {w w' : World} {b n : Nat} {D : DataW H} (h : w.ownsMap Tryz.prog k (plainElem Tryz.prog e) b n D) (hb : Below w.heap.size w w') : w'.ownsMap Tryz.prog k (plainElem Tryz.prog e) b n D := h.kept (o5 hb) (by simp)
section
variable {ops : Array Oper} {rest : List Oper} {o : Oper} {a : Act} {w : World} {Q : Exit → Act → World → Prop}
theorem qgf (x : ip) (h8 : x.2.length = 8) : Instr.fill (fun i => some (i * 9, 9)) ((Array.range (1 * 9)).map ((Value.agg ie).cells[· % (Value.agg ie).cells.size]!)) [(0, .agg (ct x).toArray)] = some (ct x).toArray := by
 obtain ⟨l, d⟩ := x;obtain ⟨a, b, c, e, f, g, i, j, rfl⟩ := qc7 h8
 kernel_rfl
theorem qg5 (d : List Int) (h8 : d.length = 8) : Instr.fill (fun i => some (i * 8, 8)) ((Array.range (1 * 8)).map ((Value.agg bp).cells[· % (Value.agg bp).cells.size]!)) [(0, .agg (bb d).toArray)] = some (bb d).toArray := by
 obtain ⟨a, b, c, e, f, g, i, j, rfl⟩ := qc7 h8
 kernel_rfl
theorem ur (l : Int) (d : List Int) (h8 : d.length = 8) : Tryz.prog.built 151 [(0, .int .i64 l), (1, .agg (bb d).toArray)] = some (ct (l, d)).toArray := by
 obtain ⟨a, b, c, e, f, g, i, j, rfl⟩ := qc7 h8
 kernel_rfl
theorem ku (hg : o.guard = none) (t : TypeId) (parts : Array (Nat × Operand)) (ho : o.op = .build t parts) (vals : List (Nat × Value)) (cells : Array Value) (hv : (parts.map fun (i, x) => (i, a.eval x)).toList = vals) (hb : Tryz.prog.built t vals = some cells) (h : wpList Tryz.prog ops Q rest (a.put o.dst (.agg cells)) w) : wpList Tryz.prog ops Q (o :: rest) a w := by
 subst hv;exact wpList_build hg t parts ho (by rw [hb]; rfl) (by rw [hb]; exact h)
theorem n9 (hg : o.guard = none) (x : Operand) (ho : o.op = .buildSlice 130 1 #[(0, x)]) (hm : ip) (h8 : hm.2.length = 8) (hx : a.eval x = .agg (ct hm).toArray) (h : wpList Tryz.prog ops Q rest (a.put o.dst (.slice (some ⟨w.heap.size, 0, none⟩) 1 1)) (w.alloc (.cells (ct hm).toArray 151))) : wpList Tryz.prog ops Q (o :: rest) a w := by
 obtain ⟨i0, hi, hz0, hz1, hz2⟩ := info_parts yx;refine wpList_buildSlice hg 130 151 1 #[(0, x)] ho (ct hm).toArray i0 _ Tryz.underlying130 hi hz0 (by rw [hz1]; decide) (by rw [hz1]; decide) ?_ h;rw [hz1, show (#[(0, x)].map fun (i, x) => (i, a.eval x)).toList = [(0, a.eval x)] by simp, hx];exact qgf hm h8
theorem yl (hg : o.guard = none) (x : Operand) (ho : o.op = .buildSlice 197 1 #[(0, x)]) (d : List Int) (h8 : d.length = 8) (hx : a.eval x = .agg (bb d).toArray) (h : wpList Tryz.prog ops Q rest (a.put o.dst (.slice (some ⟨w.heap.size, 0, none⟩) 1 1)) (w.alloc (.cells (bb d).toArray 73))) : wpList Tryz.prog ops Q (o :: rest) a w := by
 obtain ⟨i0, hi, hz0, hz1, hz2⟩ := info_parts qee;refine wpList_buildSlice hg 197 73 1 #[(0, x)] ho (bb d).toArray i0 _ Tryz.underlying197 hi hz0 (by rw [hz1]; decide) (by rw [hz1]; decide) ?_ h;rw [hz1, show (#[(0, x)].map fun (i, x) => (i, a.eval x)).toList = [(0, a.eval x)] by simp, hx];exact qg5 d h8
end
namespace Lg
def mayH (lines : Int) (h : List ip) : Bool := (h.all fun x => decide (16 ≤ x.1) && decide (x.1 < lines)) && decide (h.map (·.1)).Nodup && (decide (lines ≥ 16) && decide ((h.length : Int) ≥ 1) && decide ((h.length : Int) ≤ 14))
end Lg
def ym {H : Type} (A : Nat → Int) : Nat → DataW H
 | 0 => .map []
 | k + 1 => (ym A k).put (.int .i64 (A k)) (.lit (.int .i64 1))
theorem qbv {H : Type} (A : Nat → Int) (x : Int) : ∀ (k : Nat), (∀ j : Nat, j < k → x ≠ A j) → (ym (H := H) A k).atKey (.int .i64 x) (.lit (.int .i64 0)) = .lit (.int .i64 0)
 | 0, _ => by simp [ym, DataW.atKey]
 | k + 1, h => by
  rw [ym, atKey_put_other (by simpa using h k (by omega))]
  exact qbv A x k (fun j hj => h j (by omega))
theorem j8 {H : Type} (A : Nat → Int) : ∀ k : Nat, IsMap (ym (H := H) A k)
 | 0 => isMap_empty
 | k + 1 => (j8 A k).put _ _
theorem qc9 {H : Type} (A : Nat → Int) (x : Int) : ∀ (k : Nat), (∃ j : Nat, j < k ∧ x = A j) → (ym (H := H) A k).atKey (.int .i64 x) (.lit (.int .i64 0)) = .lit (.int .i64 1)
 | 0, ⟨j, hj, _⟩ => by omega
 | k + 1, h => by
  by_cases e : x = A k
  ·subst e
   rw [ym, atKey_put_same (j8 A k) (show WideAt.IsKeyLit (.int .i64 _) from trivial)]
  ·rw [ym, atKey_put_other (by simpa using e)]
   obtain ⟨j, hj, hx⟩ := h
   exact qc9 A x k ⟨j, by by_cases e2 : j = k; exact absurd (e2 ▸ hx) e; omega, hx⟩
theorem qd9 {lines : Int} {h : List ip} {k : Nat} (hk : k < h.length) (hb : ¬ (16 ≤ (h.getD k zH).1 ∧ (h.getD k zH).1 < lines)) : Lg.mayH lines h = false := by
 have : (h.all fun x => decide (16 ≤ x.1) && decide (x.1 < lines)) = false := by rw [List.all_eq_false];refine ⟨h[k], List.getElem_mem hk, ?_⟩;rw [List.getD_eq_getElem?_getD, List.getElem?_eq_getElem hk] at hb;simp only [Option.getD_some] at hb;simpa using hb
 unfold Lg.mayH;rw [this];rfl
theorem qiy {lines : Int} {h : List ip} {j k : Nat} (hk : k < h.length) (hj : j < k) (e : (h.getD k zH).1 = (h.getD j zH).1) : Lg.mayH lines h = false := by
 have hn : ¬ (h.map (·.1)).Nodup := fun hn => by rw [List.getD_eq_getElem?_getD, List.getElem?_eq_getElem hk, List.getD_eq_getElem?_getD, List.getElem?_eq_getElem (show j < h.length by omega)] at e;simp only [Option.getD_some] at e;have := List.pairwise_iff_getElem.1 hn j k (by simp; omega) (by simpa using hk) hj;simp only [List.getElem_map] at this;exact this e.symm
 unfold Lg.mayH;rw [decide_eq_false hn];simp
theorem qis {lines : Int} {h : List ip} (h1 : ∀ j, j < h.length → 16 ≤ (h.getD j zH).1 ∧ (h.getD j zH).1 < lines) (h2 : ∀ i j, i < j → j < h.length → (h.getD j zH).1 ≠ (h.getD i zH).1) : Lg.mayH lines h = (decide (lines ≥ 16) && decide ((h.length : Int) ≥ 1) && decide ((h.length : Int) ≤ 14)) := by
 have a1 : (h.all fun x => decide (16 ≤ x.1) && decide (x.1 < lines)) = true := by rw [List.all_eq_true];intro x hx;obtain ⟨j, hj, rfl⟩ := List.getElem_of_mem hx;have := h1 j hj;rw [List.getD_eq_getElem?_getD, List.getElem?_eq_getElem hj] at this;simpa using this
 have a2 : (h.map (·.1)).Nodup := by refine List.pairwise_iff_getElem.2 (fun i j hi hj hij e => ?_);simp only [List.length_map] at hi hj;simp only [List.getElem_map] at e;have := h2 i j hij hj;rw [List.getD_eq_getElem?_getD, List.getElem?_eq_getElem hj, List.getD_eq_getElem?_getD, List.getElem?_eq_getElem hi] at this;exact this e.symm
 unfold Lg.mayH;rw [a1, decide_eq_true a2];rfl
theorem l5 (w : World) (lines : Int) (base : Nat) (ok : Nat → Prop) (A : Option Addr) (c : Nat) (h : List ip) (hr : Kd.R ui 151 w base ok (.slice A h.length c) h) (hl : h.length ≤ 1000000) (hb : ∀ x ∈ h, -1 ≤ x.1 ∧ x.1 ≤ 1000000) : Calls Tryz.prog 92 #[.int .i64 lines, .slice A h.length c] w fun e w' => e = .returned (.bool (Lg.mayH lines h)) ∧ Below w.heap.size w w' := by
 have hmm := @run_makeMap Tryz.prog;have HR := am hr;have HBd := am hb;clear hr hb;generalize hN : h.length = n at hl HR ⊢;have HN := am hN;clear hN;generalize hres : Lg.mayH lines h = res;have HRes := am hres;clear hres;have HB : Aside0 (Below w.heap.size w (w.alloc (.map #[] 0))) := ⟨(Below.refl _ _).alloc (Nat.le_refl _) _⟩;have HM : Aside0 ((w.alloc (.map #[] 0)).ownsMap Tryz.prog 3 (plainElem (H := Unit) Tryz.prog 3) w.heap.size 0 (ym (H := Unit) (fun j => (h.getD j zH).1) 0)) := ⟨World.ownsMap_made _ _ _ _⟩;go_enter Tryz.func92, Tryz.ntmps92;go_wp2;clear hmm;go_loopw [11] (fun i wr => ∃ k : Nat, i = .int .i64 k ∧ k ≤ n ∧ Aside0 (wr.ownsMap Tryz.prog 3 (plainElem (H := Unit) Tryz.prog 3) w.heap.size k (ym (H := Unit) (fun j => (h.getD j zH).1) k)) ∧ Aside0 (Below w.heap.size w wr) ∧ Aside0 (∀ j, j < k → 16 ≤ (h.getD j zH).1 ∧ (h.getD j zH).1 < lines) ∧ Aside0 (∀ i j, i < j → j < k → (h.getD j zH).1 ≠ (h.getD i zH).1)) (fun i _ => n - (intOf i).toNat)
 case atStart => exact ⟨0, rfl, by omega, HM, HB, ⟨fun j hj => by omega⟩, ⟨fun i j _ hj => by omega⟩⟩
 case round =>
  clear HM HB;obtain ⟨k, rfl, hk, HM, HB, H1, H2⟩ := hrel;by_cases hlt : k < n
  ·obtain ⟨g, ea, h8, hx⟩ := homeAt (Kd.R_below HR.out HB.out) HN.out k hlt;subst ea;have HX := am hx;have H8 := am h8;have hxb := HBd.out (h.getD k zH) (by rw [List.getD_eq_getElem?_getD, List.getElem?_eq_getElem (by rw [HN.out]; exact hlt)]; exact List.getElem_mem _);have hkey0 : keyOf Tryz.prog 3 (.int .i64 (h.getD k zH).1) = some (.int .i64 (h.getD k zH).1) := keyOf_int_mk Tryz.underlying3 (WalkArith.wf_i64 (by omega));have HC : Aside0 (∃ q : Int, (q = 0 ∨ q = 1) ∧ (ym (H := Unit) (fun j => (h.getD j zH).1) k).atKey (.int .i64 (h.getD k zH).1) (.lit (.int .i64 0)) = .lit (.int .i64 q) ∧ (q = 0 → ∀ j, j < k → (h.getD k zH).1 ≠ (h.getD j zH).1) ∧ (q = 1 → ∃ j, j < k ∧ (h.getD k zH).1 = (h.getD j zH).1)) := ⟨by
    by_cases hs : ∃ j, j < k ∧ (h.getD k zH).1 = (h.getD j zH).1
    ·exact ⟨1, .inr rfl, qc9 _ _ k hs, fun e => by omega, fun _ => hs⟩
    ·exact ⟨0, .inl rfl, qbv _ _ k (fun j hj e => hs ⟨j, hj, e⟩), fun _ j hj e => hs ⟨j, hj, e⟩, fun e => by omega⟩⟩
   clear hx h8;have HSn : Aside0 (∀ v : Int, True) := ⟨fun _ => trivial⟩;generalize hxx : h.getD k zH = x at HX H8 HC hkey0 hxb;have HXX := am hxx;clear hxx;obtain ⟨q, hq, hat, hq0, hq1⟩ := HC.out;have HAt := am hat;have HQ0 := am hq0;have HQ1 := am hq1;clear hat hq0 hq1 HC;rcases hq with rfl | rfl
   ·by_cases lo : 16 ≤ x.1
    ·have d0 : decide (x.1 < 16) = false := decide_eq_false (by omega);by_cases hi : x.1 < lines
     ·have d1 : decide (x.1 ≥ lines) = false := decide_eq_false (by omega);go_wp2_with (first
       | ((with_reducible refine ez (.load 151 (.tmp 13)) rfl ?_); refine aq rfl 151 (.tmp 13) rfl g (k * 9) rfl (ct x) _ HX.out Tryz.underlying151 rfl (by rw [ca H8.out]; exact iz) ?_)
       | ((with_reducible refine bf (t := 151) (p := 7) rfl ?_); refine wpList_store_row rfl 151 (.tmp 7) (.tmp 14) rfl wr.heap.size (ct x).toArray rfl rfl 151 _ (heap_alloc_new wr _) ?hi ?ho ?h1 ?_; (case hi => rw [List.size_toArray, ca H8.out]; exact iz); (case ho => simp [ca H8.out]); (case h1 => exact nc _); have BX1 := am (ju wr ie (ct x).toArray 151); have HB1 := am (iq wr ie (ct x).toArray 151); generalize (wr.alloc (.cells ie 151)).setRow wr.heap.size (ct x).toArray = w1 at BX1 HB1 ⊢; have hc0 : w1.cell? ⟨wr.heap.size, 0, none⟩ = some (.int .i64 x.1) := (af BX1.out 0).trans rfl; have HM1 := am (ow HM.out HB1.out))
       | (at_lookup; refine fe (by rfl) ?_; dsimp only; refine wpList_lookup_own_int _ rfl _ _ 172 rfl 3 3 .i64 ru Tryz.underlying172 Tryz.underlying3 (ro _) w.heap.size (k + 1) _ rfl HM2.out _ _ rfl hkey0 ?_; intro cq hcq hwc; obtain rfl : cq = 1 := (by rw [atKey_put_same (j8 _ k) (show WideAt.IsKeyLit (.int .i64 _) from trivial)] at hcq; simpa using hcq.symm); clear hcq hwc)
       | (at_lookup; refine wpList_lookup_own_int _ rfl _ _ 172 rfl 3 3 .i64 ru Tryz.underlying172 Tryz.underlying3 (ro _) w.heap.size k _ rfl HM1.out _ _ rfl hkey0 ?_; intro cq hcq hwc; obtain rfl : cq = 0 := (by have := HAt.out.symm.trans hcq; simpa using this.symm); clear hcq hwc)
       | (at_mapUpdate; refine wpList_mapUpdate_own _ rfl _ _ _ 172 rfl 3 3 ru Tryz.underlying172 _ w.heap.size k _ rfl HM1.out (by unfold maxLen; omega) _ _ _ rfl rfl hkey0 (.lit (.int .i64 1)) [] (plainElem_int Tryz.underlying3 (by decide)) ?_; intro w2 hm2 hg2; have HM2 := am hm2; have HG2 := am hg2; have BX2 : Aside0 (w2.heap[wr.heap.size]? = some (.cells (ct x).toArray 151 (0, 0))) := ⟨(hg2.block _ (df BX1.out) (fun e => by have := HM.out.lt; injection e with e; omega)).trans BX1.out⟩; have hc2 : w2.cell? ⟨wr.heap.size, 0, none⟩ = some (.int .i64 x.1) := (af BX2.out 0).trans rfl; clear hm2 hg2))
      have HS1 : Aside0 (w2.ownsMap Tryz.prog 3 (plainElem (H := Unit) Tryz.prog 3) w.heap.size (k + 1) (ym (H := Unit) (fun j => (h.getD j zH).1) (k + 1))) := ⟨by
       have e := HM2.out;rw [← HXX.out] at e;exact e⟩
      have HBo : Aside0 (Below w.heap.size w w2) := ⟨(ab HB.out HB1.out).grown HG2.out (Nat.le_trans HB.out.size HB1.out.size) (fun z hz => by injection hz with hz; omega)⟩;have K1 : Aside0 (∀ j, j < k + 1 → 16 ≤ (h.getD j zH).1 ∧ (h.getD j zH).1 < lines) := ⟨fun j hj => by
       by_cases e : j = k
       ·subst e; rw [HXX.out]; exact ⟨lo, hi⟩
       ·exact H1.out j (by omega)⟩
      have K2 : Aside0 (∀ i j, i < j → j < k + 1 → (h.getD j zH).1 ≠ (h.getD i zH).1) := ⟨fun i j hij hj => by
       by_cases e : j = k
       ·subst e; rw [HXX.out]; exact HQ0.out rfl i hij
       ·exact H2.out i j hij (by omega)⟩
      go_roundw
      case rel => exact ⟨k + 1, by go_num, by omega, HS1, HBo, K1, K2⟩
      case measure => simp [intOf]; omega
     ·have d1 : decide (x.1 ≥ lines) = true := decide_eq_true (by omega);have e1 : res = false := by rw [← HRes.out]; exact qd9 (k := k) (by rw [HN.out]; exact hlt) (by rw [HXX.out]; omega)
      subst e1;go_wp2_with (first
       | ((with_reducible refine ez (.load 151 (.tmp 13)) rfl ?_); refine aq rfl 151 (.tmp 13) rfl g (k * 9) rfl (ct x) _ HX.out Tryz.underlying151 rfl (by rw [ca H8.out]; exact iz) ?_)
       | ((with_reducible refine bf (t := 151) (p := 7) rfl ?_); refine wpList_store_row rfl 151 (.tmp 7) (.tmp 14) rfl wr.heap.size (ct x).toArray rfl rfl 151 _ (heap_alloc_new wr _) ?hi ?ho ?h1 ?_; (case hi => rw [List.size_toArray, ca H8.out]; exact iz); (case ho => simp [ca H8.out]); (case h1 => exact nc _); have BX1 := am (ju wr ie (ct x).toArray 151); have HB1 := am (iq wr ie (ct x).toArray 151); generalize (wr.alloc (.cells ie 151)).setRow wr.heap.size (ct x).toArray = w1 at BX1 HB1 ⊢; have hc0 : w1.cell? ⟨wr.heap.size, 0, none⟩ = some (.int .i64 x.1) := (af BX1.out 0).trans rfl; have HM1 := am (ow HM.out HB1.out))
       | (at_lookup; refine fe (by rfl) ?_; dsimp only; refine wpList_lookup_own_int _ rfl _ _ 172 rfl 3 3 .i64 ru Tryz.underlying172 Tryz.underlying3 (ro _) w.heap.size (k + 1) _ rfl HM2.out _ _ rfl hkey0 ?_; intro cq hcq hwc; obtain rfl : cq = 1 := (by rw [atKey_put_same (j8 _ k) (show WideAt.IsKeyLit (.int .i64 _) from trivial)] at hcq; simpa using hcq.symm); clear hcq hwc)
       | (at_lookup; refine wpList_lookup_own_int _ rfl _ _ 172 rfl 3 3 .i64 ru Tryz.underlying172 Tryz.underlying3 (ro _) w.heap.size k _ rfl HM1.out _ _ rfl hkey0 ?_; intro cq hcq hwc; obtain rfl : cq = 0 := (by have := HAt.out.symm.trans hcq; simpa using this.symm); clear hcq hwc)
       | (at_mapUpdate; refine wpList_mapUpdate_own _ rfl _ _ _ 172 rfl 3 3 ru Tryz.underlying172 _ w.heap.size k _ rfl HM1.out (by unfold maxLen; omega) _ _ _ rfl rfl hkey0 (.lit (.int .i64 1)) [] (plainElem_int Tryz.underlying3 (by decide)) ?_; intro w2 hm2 hg2; have HM2 := am hm2; have HG2 := am hg2; have BX2 : Aside0 (w2.heap[wr.heap.size]? = some (.cells (ct x).toArray 151 (0, 0))) := ⟨(hg2.block _ (df BX1.out) (fun e => by have := HM.out.lt; injection e with e; omega)).trans BX1.out⟩; have hc2 : w2.cell? ⟨wr.heap.size, 0, none⟩ = some (.int .i64 x.1) := (af BX2.out 0).trans rfl; clear hm2 hg2))
      go_ret;have HBo := ab HB.out HB1.out;exact ⟨rfl, HBo.grown HG2.out (Nat.le_trans HB.out.size (HB1.out.size)) (fun z hz => by injection hz with hz; omega)⟩
    ·have d0 : decide (x.1 < 16) = true := decide_eq_true (by omega);have e1 : res = false := by rw [← HRes.out]; exact qd9 (k := k) (by rw [HN.out]; exact hlt) (by rw [HXX.out]; omega)
     subst e1;go_wp2_with (first
      | ((with_reducible refine ez (.load 151 (.tmp 13)) rfl ?_); refine aq rfl 151 (.tmp 13) rfl g (k * 9) rfl (ct x) _ HX.out Tryz.underlying151 rfl (by rw [ca H8.out]; exact iz) ?_)
      | ((with_reducible refine bf (t := 151) (p := 7) rfl ?_); refine wpList_store_row rfl 151 (.tmp 7) (.tmp 14) rfl wr.heap.size (ct x).toArray rfl rfl 151 _ (heap_alloc_new wr _) ?hi ?ho ?h1 ?_; (case hi => rw [List.size_toArray, ca H8.out]; exact iz); (case ho => simp [ca H8.out]); (case h1 => exact nc _); have BX1 := am (ju wr ie (ct x).toArray 151); have HB1 := am (iq wr ie (ct x).toArray 151); generalize (wr.alloc (.cells ie 151)).setRow wr.heap.size (ct x).toArray = w1 at BX1 HB1 ⊢; have hc0 : w1.cell? ⟨wr.heap.size, 0, none⟩ = some (.int .i64 x.1) := (af BX1.out 0).trans rfl; have HM1 := am (ow HM.out HB1.out))
      | (at_lookup; refine fe (by rfl) ?_; dsimp only; refine wpList_lookup_own_int _ rfl _ _ 172 rfl 3 3 .i64 ru Tryz.underlying172 Tryz.underlying3 (ro _) w.heap.size (k + 1) _ rfl HM2.out _ _ rfl hkey0 ?_; intro cq hcq hwc; obtain rfl : cq = 1 := (by rw [atKey_put_same (j8 _ k) (show WideAt.IsKeyLit (.int .i64 _) from trivial)] at hcq; simpa using hcq.symm); clear hcq hwc)
      | (at_lookup; refine wpList_lookup_own_int _ rfl _ _ 172 rfl 3 3 .i64 ru Tryz.underlying172 Tryz.underlying3 (ro _) w.heap.size k _ rfl HM1.out _ _ rfl hkey0 ?_; intro cq hcq hwc; obtain rfl : cq = 0 := (by have := HAt.out.symm.trans hcq; simpa using this.symm); clear hcq hwc)
      | (at_mapUpdate; refine wpList_mapUpdate_own _ rfl _ _ _ 172 rfl 3 3 ru Tryz.underlying172 _ w.heap.size k _ rfl HM1.out (by unfold maxLen; omega) _ _ _ rfl rfl hkey0 (.lit (.int .i64 1)) [] (plainElem_int Tryz.underlying3 (by decide)) ?_; intro w2 hm2 hg2; have HM2 := am hm2; have HG2 := am hg2; have BX2 : Aside0 (w2.heap[wr.heap.size]? = some (.cells (ct x).toArray 151 (0, 0))) := ⟨(hg2.block _ (df BX1.out) (fun e => by have := HM.out.lt; injection e with e; omega)).trans BX1.out⟩; have hc2 : w2.cell? ⟨wr.heap.size, 0, none⟩ = some (.int .i64 x.1) := (af BX2.out 0).trans rfl; clear hm2 hg2))
     go_ret;have HBo := ab HB.out HB1.out;exact ⟨rfl, HBo.grown HG2.out (Nat.le_trans HB.out.size (HB1.out.size)) (fun z hz => by injection hz with hz; omega)⟩
   ·obtain ⟨jd, hjd, ejd⟩ := HQ1.out rfl;have HJ := am ejd;clear ejd;have e1 : res = false := by rw [← HRes.out]; exact qiy (j := jd) (k := k) (by rw [HN.out]; exact hlt) hjd (by rw [HXX.out]; exact HJ.out)
    subst e1;by_cases lo : 16 ≤ x.1
    ·have d0 : decide (x.1 < 16) = false := decide_eq_false (by omega);by_cases hi : x.1 < lines
     ·have d1 : decide (x.1 ≥ lines) = false := decide_eq_false (by omega);go_wp2_with (first
       | ((with_reducible refine ez (.load 151 (.tmp 13)) rfl ?_); refine aq rfl 151 (.tmp 13) rfl g (k * 9) rfl (ct x) _ HX.out Tryz.underlying151 rfl (by rw [ca H8.out]; exact iz) ?_)
       | ((with_reducible refine bf (t := 151) (p := 7) rfl ?_); refine wpList_store_row rfl 151 (.tmp 7) (.tmp 14) rfl wr.heap.size (ct x).toArray rfl rfl 151 _ (heap_alloc_new wr _) ?hi ?ho ?h1 ?_; (case hi => rw [List.size_toArray, ca H8.out]; exact iz); (case ho => simp [ca H8.out]); (case h1 => exact nc _); have BX1 := am (ju wr ie (ct x).toArray 151); have HB1 := am (iq wr ie (ct x).toArray 151); generalize (wr.alloc (.cells ie 151)).setRow wr.heap.size (ct x).toArray = w1 at BX1 HB1 ⊢; have hc0 : w1.cell? ⟨wr.heap.size, 0, none⟩ = some (.int .i64 x.1) := (af BX1.out 0).trans rfl; have HM1 := am (ow HM.out HB1.out))
       | (at_lookup; refine fe (by rfl) ?_; dsimp only; refine wpList_lookup_own_int _ rfl _ _ 172 rfl 3 3 .i64 ru Tryz.underlying172 Tryz.underlying3 (ro _) w.heap.size (k + 1) _ rfl HM2.out _ _ rfl hkey0 ?_; intro cq hcq hwc; obtain rfl : cq = 2 := (by rw [atKey_put_same (j8 _ k) (show WideAt.IsKeyLit (.int .i64 _) from trivial)] at hcq; simpa using hcq.symm); clear hcq hwc)
       | (at_lookup; refine wpList_lookup_own_int _ rfl _ _ 172 rfl 3 3 .i64 ru Tryz.underlying172 Tryz.underlying3 (ro _) w.heap.size k _ rfl HM1.out _ _ rfl hkey0 ?_; intro cq hcq hwc; obtain rfl : cq = 1 := (by have := HAt.out.symm.trans hcq; simpa using this.symm); clear hcq hwc)
       | (at_mapUpdate; refine wpList_mapUpdate_own _ rfl _ _ _ 172 rfl 3 3 ru Tryz.underlying172 _ w.heap.size k _ rfl HM1.out (by unfold maxLen; omega) _ _ _ rfl rfl hkey0 (.lit (.int .i64 2)) [] (plainElem_int Tryz.underlying3 (by decide)) ?_; intro w2 hm2 hg2; have HM2 := am hm2; have HG2 := am hg2; have BX2 : Aside0 (w2.heap[wr.heap.size]? = some (.cells (ct x).toArray 151 (0, 0))) := ⟨(hg2.block _ (df BX1.out) (fun e => by have := HM.out.lt; injection e with e; omega)).trans BX1.out⟩; have hc2 : w2.cell? ⟨wr.heap.size, 0, none⟩ = some (.int .i64 x.1) := (af BX2.out 0).trans rfl; clear hm2 hg2))
      go_ret;have HBo := ab HB.out HB1.out;exact ⟨rfl, HBo.grown HG2.out (Nat.le_trans HB.out.size (HB1.out.size)) (fun z hz => by injection hz with hz; omega)⟩
     ·have d1 : decide (x.1 ≥ lines) = true := decide_eq_true (by omega);go_wp2_with (first
       | ((with_reducible refine ez (.load 151 (.tmp 13)) rfl ?_); refine aq rfl 151 (.tmp 13) rfl g (k * 9) rfl (ct x) _ HX.out Tryz.underlying151 rfl (by rw [ca H8.out]; exact iz) ?_)
       | ((with_reducible refine bf (t := 151) (p := 7) rfl ?_); refine wpList_store_row rfl 151 (.tmp 7) (.tmp 14) rfl wr.heap.size (ct x).toArray rfl rfl 151 _ (heap_alloc_new wr _) ?hi ?ho ?h1 ?_; (case hi => rw [List.size_toArray, ca H8.out]; exact iz); (case ho => simp [ca H8.out]); (case h1 => exact nc _); have BX1 := am (ju wr ie (ct x).toArray 151); have HB1 := am (iq wr ie (ct x).toArray 151); generalize (wr.alloc (.cells ie 151)).setRow wr.heap.size (ct x).toArray = w1 at BX1 HB1 ⊢; have hc0 : w1.cell? ⟨wr.heap.size, 0, none⟩ = some (.int .i64 x.1) := (af BX1.out 0).trans rfl; have HM1 := am (ow HM.out HB1.out))
       | (at_lookup; refine fe (by rfl) ?_; dsimp only; refine wpList_lookup_own_int _ rfl _ _ 172 rfl 3 3 .i64 ru Tryz.underlying172 Tryz.underlying3 (ro _) w.heap.size (k + 1) _ rfl HM2.out _ _ rfl hkey0 ?_; intro cq hcq hwc; obtain rfl : cq = 2 := (by rw [atKey_put_same (j8 _ k) (show WideAt.IsKeyLit (.int .i64 _) from trivial)] at hcq; simpa using hcq.symm); clear hcq hwc)
       | (at_lookup; refine wpList_lookup_own_int _ rfl _ _ 172 rfl 3 3 .i64 ru Tryz.underlying172 Tryz.underlying3 (ro _) w.heap.size k _ rfl HM1.out _ _ rfl hkey0 ?_; intro cq hcq hwc; obtain rfl : cq = 1 := (by have := HAt.out.symm.trans hcq; simpa using this.symm); clear hcq hwc)
       | (at_mapUpdate; refine wpList_mapUpdate_own _ rfl _ _ _ 172 rfl 3 3 ru Tryz.underlying172 _ w.heap.size k _ rfl HM1.out (by unfold maxLen; omega) _ _ _ rfl rfl hkey0 (.lit (.int .i64 2)) [] (plainElem_int Tryz.underlying3 (by decide)) ?_; intro w2 hm2 hg2; have HM2 := am hm2; have HG2 := am hg2; have BX2 : Aside0 (w2.heap[wr.heap.size]? = some (.cells (ct x).toArray 151 (0, 0))) := ⟨(hg2.block _ (df BX1.out) (fun e => by have := HM.out.lt; injection e with e; omega)).trans BX1.out⟩; have hc2 : w2.cell? ⟨wr.heap.size, 0, none⟩ = some (.int .i64 x.1) := (af BX2.out 0).trans rfl; clear hm2 hg2))
      go_ret;have HBo := ab HB.out HB1.out;exact ⟨rfl, HBo.grown HG2.out (Nat.le_trans HB.out.size (HB1.out.size)) (fun z hz => by injection hz with hz; omega)⟩
    ·have d0 : decide (x.1 < 16) = true := decide_eq_true (by omega);go_wp2_with (first
      | ((with_reducible refine ez (.load 151 (.tmp 13)) rfl ?_); refine aq rfl 151 (.tmp 13) rfl g (k * 9) rfl (ct x) _ HX.out Tryz.underlying151 rfl (by rw [ca H8.out]; exact iz) ?_)
      | ((with_reducible refine bf (t := 151) (p := 7) rfl ?_); refine wpList_store_row rfl 151 (.tmp 7) (.tmp 14) rfl wr.heap.size (ct x).toArray rfl rfl 151 _ (heap_alloc_new wr _) ?hi ?ho ?h1 ?_; (case hi => rw [List.size_toArray, ca H8.out]; exact iz); (case ho => simp [ca H8.out]); (case h1 => exact nc _); have BX1 := am (ju wr ie (ct x).toArray 151); have HB1 := am (iq wr ie (ct x).toArray 151); generalize (wr.alloc (.cells ie 151)).setRow wr.heap.size (ct x).toArray = w1 at BX1 HB1 ⊢; have hc0 : w1.cell? ⟨wr.heap.size, 0, none⟩ = some (.int .i64 x.1) := (af BX1.out 0).trans rfl; have HM1 := am (ow HM.out HB1.out))
      | (at_lookup; refine fe (by rfl) ?_; dsimp only; refine wpList_lookup_own_int _ rfl _ _ 172 rfl 3 3 .i64 ru Tryz.underlying172 Tryz.underlying3 (ro _) w.heap.size (k + 1) _ rfl HM2.out _ _ rfl hkey0 ?_; intro cq hcq hwc; obtain rfl : cq = 2 := (by rw [atKey_put_same (j8 _ k) (show WideAt.IsKeyLit (.int .i64 _) from trivial)] at hcq; simpa using hcq.symm); clear hcq hwc)
      | (at_lookup; refine wpList_lookup_own_int _ rfl _ _ 172 rfl 3 3 .i64 ru Tryz.underlying172 Tryz.underlying3 (ro _) w.heap.size k _ rfl HM1.out _ _ rfl hkey0 ?_; intro cq hcq hwc; obtain rfl : cq = 1 := (by have := HAt.out.symm.trans hcq; simpa using this.symm); clear hcq hwc)
      | (at_mapUpdate; refine wpList_mapUpdate_own _ rfl _ _ _ 172 rfl 3 3 ru Tryz.underlying172 _ w.heap.size k _ rfl HM1.out (by unfold maxLen; omega) _ _ _ rfl rfl hkey0 (.lit (.int .i64 2)) [] (plainElem_int Tryz.underlying3 (by decide)) ?_; intro w2 hm2 hg2; have HM2 := am hm2; have HG2 := am hg2; have BX2 : Aside0 (w2.heap[wr.heap.size]? = some (.cells (ct x).toArray 151 (0, 0))) := ⟨(hg2.block _ (df BX1.out) (fun e => by have := HM.out.lt; injection e with e; omega)).trans BX1.out⟩; have hc2 : w2.cell? ⟨wr.heap.size, 0, none⟩ = some (.int .i64 x.1) := (af BX2.out 0).trans rfl; clear hm2 hg2))
     go_ret;have HBo := ab HB.out HB1.out;exact ⟨rfl, HBo.grown HG2.out (Nat.le_trans HB.out.size (HB1.out.size)) (fun z hz => by injection hz with hz; omega)⟩
  ·have hkn : k = n := by omega
   subst hkn;have e1 : res = (decide (lines ≥ 16) && decide ((k : Int) ≥ 1) && decide ((k : Int) ≤ 14)) := by rw [← HRes.out, qis (fun j hj => H1.out j (by rw [HN.out] at hj; exact hj)) (fun i j hij hj => H2.out i j hij (by rw [HN.out] at hj; exact hj)), HN.out]
   have E1 := am e1;clear e1;by_cases l16 : lines ≥ 16
   ·have d0 : decide (lines ≥ 16) = true := decide_eq_true l16;by_cases k1 : (k : Int) ≥ 1
    ·have d1 : decide ((k : Int) ≥ 1) = true := decide_eq_true k1;go_wp2;go_ret;rw [E1.out, d0, d1];exact ⟨by first | rfl | simp, HB.out⟩
    ·have d1 : decide ((k : Int) ≥ 1) = false := decide_eq_false k1;go_wp2;go_ret;rw [E1.out, d0, d1];exact ⟨by first | rfl | simp, HB.out⟩
   ·have d0 : decide (lines ≥ 16) = false := decide_eq_false l16;go_wp2;go_ret;rw [E1.out, d0];exact ⟨by first | rfl | simp, HB.out⟩
end Go.Proofs.YtmfhaliclnnbaaaGreat.Sys
