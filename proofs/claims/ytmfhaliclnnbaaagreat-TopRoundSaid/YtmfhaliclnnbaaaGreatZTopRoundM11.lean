import Derived.Test.YtmfhaliclnnbaaaGreatZTopRoundM5
import Derived.Test.YtmfhaliclnnbaaaGreatZTopRoundM10
import Derived.Shelf.Sort.Plain
import Derived.Shelf.Slices.CompactI
import Derived.Shelf.SlicesE.Clone
namespace Go.Proofs.YtmfhaliclnnbaaaGreat.Sys
open Go.RowKit Go.Proofs.YtmfhaliclnnbaaaGreatW.PrintWords Go.Proofs.YtmfhaliclnnbaaaGreatW.PrintLast Go.Proofs.YtmfhaliclnnbaaaGreatW.PrintMore
open Go.Proofs.YtmfhaliclnnbaaaGreat.XTopWhole Go.Proofs.YtmfhaliclnnbaaaGreat.Pl Go.Maps
set_option linter.unusedVariables false
set_option linter.unusedSimpArgs false
set_option maxRecDepth 100000
set_option maxHeartbeats 8000000
def W64 (l : List Int) : Prop := l.length = 8 ∧ ∀ x ∈ l, 0 ≤ x ∧ x ≤ 18446744073709551615
def lnC (m : Mem) (i : Nat) : List Int := (m.cells.getD i ⟨zL, 0, 0⟩).line
def fk (m : Mem) (i : Nat) : Int := (m.cells.getD i ⟨zL, 0, -1⟩).limit
theorem qb6 {m : Mem} {i : Nat} (h : i < m.cells.length) : fk m i = (m.cells.getD i ⟨zL, 0, 0⟩).limit := by
 unfold fk;rw [List.getD_eq_getElem?_getD, List.getD_eq_getElem?_getD, List.getElem?_eq_getElem h];rfl
theorem qlz : W64 zL := ⟨rfl, by decide⟩
theorem W64.get {l : List Int} (h : W64 l) (j : Nat) : 0 ≤ l.getD j 0 ∧ l.getD j 0 ≤ 18446744073709551615 := by
 rw [List.getD_eq_getElem?_getD];by_cases hj : j < l.length
 ·rw [List.getElem?_eq_getElem hj];exact h.2 _ (List.getElem_mem hj)
 ·rw [List.getElem?_eq_none (by omega)];decide
theorem qkw {old now : List Int} (ho : W64 old) (hn : W64 now) (mask : Int) : W64 (mix old now mask) := by
 refine ⟨ki _ _ _ _, fun x hx => ?_⟩;unfold mix kt at hx;obtain ⟨j, _, rfl⟩ := List.mem_map.1 hx;split
 ·exact hn.get j
 ·exact ho.get j
theorem qj1 : ∀ j, j < 8 → qe7 (-1) j = true := by decide
theorem qk8 {old now : List Int} (hn : now.length = 8) : mix old now (-1) = now := by
 obtain ⟨a, b, c, d, e, f, g, i, rfl⟩ := qc7 hn;have h : mix old [a, b, c, d, e, f, g, i] (-1) = (List.range 8).map fun j => [a, b, c, d, e, f, g, i].getD j 0 := by unfold mix kt;refine List.map_congr_left (fun j hj => ?_);have hj := List.mem_range.1 hj;rw [if_pos (by rw [qj1 j hj]; simp [hj])]
 rw [h];rfl
structure PutR (m m' : Mem) (i : Nat) (l : List Int) (e : Int) : Prop where
 len : m'.cells.length = m.cells.length
 regs : m'.regs = m.regs
 oth : ∀ j, j ≠ i → lnC m' j = lnC m j
 lim : ∀ j, fk m' j = fk m j
 cut : m.cut < 0 → m'.cut = m.cut
 res : (e = 0 ∧ m'.down = false ∧ lnC m' i = l) ∨ (e = 3 ∧ m'.down = false ∧ lnC m' i = lnC m i ∧ 0 ≤ fk m i) ∨ (e = 2 ∧ m'.down = true ∧ W64 (lnC m' i) ∧ 0 ≤ m.cut)
structure SetR (m m' : Mem) (i : Nat) (v : Int) (e : Int) : Prop where
 cells : m'.cells = m.cells
 cut : m.cut < 0 → m'.cut = m.cut
 res : (e = 0 ∧ m'.down = false ∧ m'.regs = m.regs.set i v) ∨ (e = 2 ∧ m'.down = true ∧ (m'.regs = m.regs ∨ m'.regs = m.regs.set i v) ∧ 0 ≤ m.cut)
theorem qc1 {m : Mem} (hd : m.down = false) : ((Nvm.write m).1 = -1 ∧ (Nvm.write m).2.down = false) ∨ ((Nvm.write m).2.down = true ∧ 0 ≤ m.cut) := by
 unfold Nvm.write;by_cases c : m.cut = 0
 ·rw [if_pos c]; exact .inr ⟨rfl, by omega⟩
 ·rw [if_neg c];by_cases c1 : m.cut > 0
  ·rw [if_pos c1]; exact .inl ⟨rfl, hd⟩
  ·rw [if_neg c1]; exact .inl ⟨rfl, hd⟩
theorem xb {m : Mem} (h : m.cut < 0) : (Nvm.write m).2.cut = m.cut := by
 unfold Nvm.write;rw [if_neg (by omega), if_neg (by omega)]
theorem p7 {l : List Cell} {i : Nat} {c d : Cell} (h : i < l.length) : (l.set i c).getD i d = c := by
 rw [List.getD_eq_getElem?_getD, List.getElem?_set_self h];rfl
theorem getD_set_ne {l : List Cell} {i j : Nat} {c d : Cell} (h : j ≠ i) : (l.set i c).getD j d = l.getD j d := by
 rw [List.getD_eq_getElem?_getD, List.getD_eq_getElem?_getD, List.getElem?_set_ne (fun e => h e.symm)]
theorem qjc {m : Mem} {i : Int} {l : List Int} (hd : m.down = false) (h0 : 0 ≤ i) (h1 : i < m.cells.length) (hl : W64 l) (ho : W64 (lnC m i.toNat)) : PutR m (Nvm.put m i l).2 i.toNat l (Nvm.put m i l).1 := by
 have hh : Nvm.has m i = true := by unfold Nvm.has; simp; omega
 have hlt : i.toNat < m.cells.length := by omega
 have hwc := rz m;have hwr := ml m;have hwt : ∀ h : m.cut < 0, (Nvm.write m).2.cut = m.cut := xb;have hwu := qc1 hd;unfold Nvm.put;rw [if_pos hh, hd];simp only [Bool.false_eq_true, if_false];by_cases cw : Nvm.worn m i.toNat = true
 ·rw [if_pos cw];have hlim : 0 ≤ fk m i.toNat := by
   rw [qb6 hlt];unfold Nvm.worn at cw;simp only [Bool.and_eq_true, decide_eq_true_eq] at cw;exact cw.1
  refine ⟨by rw [hwc], hwr, fun j _ => by unfold lnC; rw [hwc], fun j => by unfold fk; rw [hwc], hwt, ?_⟩;have hs : lnC (Nvm.write m).2 i.toNat = lnC m i.toNat := by unfold lnC; rw [hwc]
  unfold Nvm.told;rcases hwu with ⟨_, h2⟩ | ⟨h2, h3⟩
  ·rw [h2];exact .inr (.inl ⟨rfl, rfl, hs, hlim⟩)
  ·rw [h2];exact .inr (.inr ⟨rfl, rfl, by rw [hs]; exact ho, h3⟩)
 ·rw [if_neg cw];have hc : (Nvm.hit (Nvm.write m).2 i.toNat l (Nvm.write m).1).cells = m.cells.set i.toNat ⟨mix (lnC m i.toNat) l (Nvm.write m).1, wrap64 ((m.cells.getD i.toNat ⟨zL, 0, 0⟩).wear + 1), fk m i.toNat⟩ := by
   rw [qb6 hlt];unfold Nvm.hit lnC;rw [hwc]
  refine ⟨by rw [hc, List.length_set], hwr, fun j hj => by unfold lnC; rw [hc, getD_set_ne hj], fun j => ?_, hwt, ?_⟩
  ·unfold fk;rw [hc];by_cases e : j = i.toNat
   ·subst e; rw [p7 hlt]; rfl
   ·rw [getD_set_ne e]
  ·have hs : lnC (Nvm.hit (Nvm.write m).2 i.toNat l (Nvm.write m).1) i.toNat = mix (lnC m i.toNat) l (Nvm.write m).1 := by
    unfold lnC;rw [hc, p7 hlt];rfl
   have hdn : (Nvm.hit (Nvm.write m).2 i.toNat l (Nvm.write m).1).down = (Nvm.write m).2.down := rfl;unfold Nvm.told;rw [hdn];rcases hwu with ⟨h1, h2⟩ | ⟨h2, h3⟩
   ·rw [h2];exact .inl ⟨rfl, rfl, by rw [hs, h1, qk8 hl.1]⟩
   ·rw [h2];exact .inr (.inr ⟨rfl, rfl, by rw [hs]; exact qkw ho hl _, h3⟩)
theorem qja : Nvm.bit0 (-1) = true := by decide
theorem vl {m : Mem} {i : Int} {v : Int} (hd : m.down = false) (h0 : 0 ≤ i) (h1 : i < 35) : SetR m (Nvm.set m i v).2 i.toNat v (Nvm.set m i v).1 := by
 have hh : Nvm.hasReg i = true := by unfold Nvm.hasReg; simp; omega
 have hwc := rz m;have hwr := ml m;have hwu := qc1 hd;unfold Nvm.set;rw [if_pos hh, hd];simp only [Bool.false_eq_true, if_false];by_cases cb : Nvm.bit0 (Nvm.write m).1 = true
 ·rw [if_pos cb];refine ⟨hwc, fun h => xb h, ?_⟩;have hr : (Nvm.setReg (Nvm.write m).2 i v).regs = m.regs.set i.toNat v := by unfold Nvm.setReg; rw [hwr]
  have hdn : (Nvm.setReg (Nvm.write m).2 i v).down = (Nvm.write m).2.down := rfl;unfold Nvm.told;rw [hdn];rcases hwu with ⟨_, h2⟩ | ⟨h2, h3⟩
  ·rw [h2]; exact .inl ⟨rfl, rfl, hr⟩
  ·rw [h2]; exact .inr ⟨rfl, rfl, .inr hr, h3⟩
 ·rw [if_neg cb];refine ⟨hwc, fun h => xb h, ?_⟩;unfold Nvm.told;rcases hwu with ⟨h1, h2⟩ | ⟨h2, h3⟩
  ·rw [h1] at cb;exact absurd qja cb
  ·rw [h2]; exact .inr ⟨rfl, rfl, .inl hwr, h3⟩
structure LOk (slots : Int) (spares : Nat) (m : Mem) : Prop where
 s1 : 1 ≤ slots
 s2 : slots ≤ 2000
 sp : spares ≤ 16
 len : (m.cells.length : Int) = slots + spares
 val : ∀ i, i < m.cells.length → W64 (lnC m i)
 rlen : m.regs.length = 35
 regs : e9 m
 may : yk (Lns.tableTo m spares) slots
def slc (slots : Int) (spares : Nat) (m : Mem) (k : Int) : List Int := lnC m (fj (Lns.tableTo m spares) slots k).toNat
theorem mn {m m' : Mem} (h : m'.regs = m.regs) (k : Nat) : Lns.tableTo m' k = Lns.tableTo m k := by unfold Lns.tableTo; rw [h]
theorem qgo {m m' : Mem} {i : Nat} {v : Int} (hl : m.regs.length = 35) (h : m'.regs = m.regs.set (3 + i) v) {k : Nat} (hi : i < k) (hk : k ≤ 16) : Lns.tableTo m' k = (Lns.tableTo m k).set i v := by
 unfold Lns.tableTo;rw [h];refine List.ext_getElem (by simp) (fun j h1 h2 => ?_);rw [List.getElem_set];simp only [List.getElem_map, List.getElem_range];simp at h1;by_cases e : i = j
 ·subst e;rw [if_pos rfl, List.getD_eq_getElem?_getD, List.getElem?_set_self (by omega)];rfl
 ·rw [if_neg e, List.getD_eq_getElem?_getD, List.getElem?_set_ne (by omega), List.getD_eq_getElem?_getD]
section
variable {slots : Int} {spares : Nat} {m m' : Mem} {slot : Int} {d : List Int}
theorem LOk.place (h : LOk slots spares m) {k : Int} (h0 : 0 ≤ k) (h1 : k < slots) : 0 ≤ fj (Lns.tableTo m spares) slots k ∧ fj (Lns.tableTo m spares) slots k < m.cells.length := by
 have := qb3 (t := Lns.tableTo m spares) h0 h1;rw [dq] at this;have := h.len;omega
theorem LOk.slotW (h : LOk slots spares m) {k : Int} (h0 : 0 ≤ k) (h1 : k < slots) : W64 (slc slots spares m k) := by
 have := h.place h0 h1;exact h.val _ (by omega)
theorem LOk.put (h : LOk slots spares m) {i : Nat} {l : List Int} {e : Int} (hl : W64 l) (hp : PutR m m' i l e) : LOk slots spares m' := by
 refine ⟨h.s1, h.s2, h.sp, by rw [hp.len]; exact h.len, fun j hj => ?_, by rw [hp.regs]; exact h.rlen, h.regs.of hp.regs, by rw [mn hp.regs]; exact h.may⟩;rw [hp.len] at hj;by_cases e1 : j = i
 ·subst e1;rcases hp.res with ⟨_, _, e⟩ | ⟨_, _, e, _⟩ | ⟨_, _, e, _⟩
  ·rw [e]; exact hl
  ·rw [e]; exact h.val _ hj
  ·exact e
 ·rw [hp.oth j e1]; exact h.val _ hj
structure LPutR (slots : Int) (spares : Nat) (m m' : Mem) (slot : Int) (d : List Int) (e : Int) : Prop where
 ok : LOk slots spares m'
 oth : ∀ k, 0 ≤ k → k < slots → k ≠ slot → slc slots spares m' k = slc slots spares m k
 lim : ∀ j, fk m' j = fk m j
 cut : m.cut < 0 → m'.cut = m.cut
 regs : ∀ j, (j < 3 ∨ 19 ≤ j) → m'.regs.getD j 0 = m.regs.getD j 0
 res : (e = 0 ∧ m'.down = false ∧ slc slots spares m' slot = d) ∨ (e = 3 ∧ m'.down = false ∧ slc slots spares m' slot = slc slots spares m slot) ∨ (e = 2 ∧ m'.down = true ∧ 0 ≤ m.cut)
theorem jw {m m' : Mem} (h : m'.cells = m.cells) (j : Nat) : fk m' j = fk m j := by unfold fk; rw [h]
theorem oz {m m' : Mem} (h : m'.cells = m.cells) (j : Nat) : lnC m' j = lnC m j := by unfold lnC; rw [h]
theorem it {m m' : Mem} {i : Nat} {v : Int} (h : m'.regs = m.regs.set i v) {j : Nat} (hj : j ≠ i) : m'.regs.getD j 0 = m.regs.getD j 0 := by
 rw [h, List.getD_eq_getElem?_getD, List.getElem?_set_ne (fun e => hj e.symm), List.getD_eq_getElem?_getD]
theorem LOk.setReg (h : LOk slots spares m) {i : Nat} {v e : Int} (hs : SetR m m' i v e) (h0 : 0 ≤ v) (h1 : v ≤ 18446744073709551615) (hm : yk (Lns.tableTo m' spares) slots) : LOk slots spares m' := by
 have hr : m'.regs = m.regs ∨ m'.regs = m.regs.set i v := by
  rcases hs.res with ⟨_, _, e⟩ | ⟨_, _, e, _⟩
  ·exact .inr e
  ·exact e
 refine ⟨h.s1, h.s2, h.sp, by rw [hs.cells]; exact h.len, fun j hj => by rw [oz hs.cells]; exact h.val _ (by rw [hs.cells] at hj; exact hj), ?_, ?_, hm⟩
 ·rcases hr with e | e <;> rw [e]
  ·exact h.rlen
  ·rw [List.length_set]; exact h.rlen
 ·rcases hr with e | e
  ·exact h.regs.of e
  ·exact h.regs.set e h0 h1
theorem LOk.setTab (h : LOk slots spares m) {i : Nat} {v e : Int} (hi : i < spares) (hs : SetR m m' (3 + i) v e) (h0 : 0 < v) (h1 : v ≤ slots + 1) (hz : rd (Lns.tableTo m spares) i = 0) (hn : ∀ j : Int, 0 ≤ j → j < i → rd (Lns.tableTo m spares) j ≠ 0) : LOk slots spares m' ∧ (Lns.tableTo m' spares = Lns.tableTo m spares ∨ Lns.tableTo m' spares = (Lns.tableTo m spares).set i v) ∧ (e = 0 → Lns.tableTo m' spares = (Lns.tableTo m spares).set i v) := by
 have ht : (e = 0 ∧ m'.regs = m.regs.set (3 + i) v) ∨ (e = 2 ∧ (m'.regs = m.regs ∨ m'.regs = m.regs.set (3 + i) v)) := by
  rcases hs.res with ⟨e0, _, e⟩ | ⟨e2, _, e, _⟩
  ·exact .inl ⟨e0, e⟩
  ·exact .inr ⟨e2, e⟩
 have hset : m'.regs = m.regs.set (3 + i) v → Lns.tableTo m' spares = (Lns.tableTo m spares).set i v := fun e => qgo h.rlen e hi h.sp;have hT : Lns.tableTo m' spares = Lns.tableTo m spares ∨ Lns.tableTo m' spares = (Lns.tableTo m spares).set i v := by
  rcases ht with ⟨_, e⟩ | ⟨_, e | e⟩
  ·exact .inr (hset e)
  ·exact .inl (mn e _)
  ·exact .inr (hset e)
 refine ⟨h.setReg hs (by omega) (by have := h.s2; omega) ?_, hT, fun e0 => ?_⟩
 ·rcases hT with e | e
  ·rw [e]; exact h.may
  ·rw [e];have := qka h.may (r := (i : Int)) (by omega) (by rw [dq]; omega) hz hn h0 h1
   rwa [Int.toNat_natCast] at this
 ·rcases ht with ⟨_, e⟩ | ⟨e2, _⟩
  ·exact hset e
  ·omega
theorem qaa (h0 : 0 ≤ slot) (h1 : slot < slots) (hd : W64 d) : ∀ (n i : Nat) (m : Mem), LOk slots spares m → m.down = false → i + n = spares → (∀ j : Int, 0 ≤ j → j < i → rd (Lns.tableTo m spares) j ≠ 0) → (∀ j : Int, (i : Int) ≤ j → j < spares → rd (Lns.tableTo m spares) j = 0) →
  LPutR slots spares m (Lns.putLoop slots slot d n i m).2 slot d (Lns.putLoop slots slot d n i m).1
 | 0, i, m, h, hu, hin, hn, hz => ⟨h, fun _ _ _ _ => rfl, fun _ => rfl, fun _ => rfl, fun _ _ => rfl, .inr (.inl ⟨rfl, hu, rfl⟩)⟩
 | n + 1, i, m, h, hu, hin, hn, hz => by
  have hs1 := h.s1
  have hs2 := h.s2
  have hsp := h.sp
  have hi : i < spares := by omega
  have hlen := h.len
  have hP := qjc (m := m) (i := slots + i) (l := d) hu (by omega) (by omega) hd (h.val _ (by omega))
  have hzi := hz i (by omega) (by omega)
  have hfree : ∀ k, 0 ≤ k → k < slots → (fj (Lns.tableTo m spares) slots k).toNat ≠ (slots + (i : Int)).toNat := fun k k0 k1 e => by
   have := qfi (r := i) hzi k0 k1
   have := h.place k0 k1
   omega
  unfold Lns.putLoop
  generalize hr1 : Nvm.put m (slots + i) d = r1 at hP
  obtain ⟨e1, m1⟩ := r1
  have L1 := h.put hd hP
  have hT1 := mn (k := spares) hP.regs
  have hsl1 : ∀ k, 0 ≤ k → k < slots → slc slots spares m1 k = slc slots spares m k := fun k k0 k1 => by
   unfold slc
   rw [hT1]
   exact hP.oth _ (hfree k k0 k1)
  have hl1 : W64 (lnC m1 (slots + (i : Int)).toNat) := L1.val _ (by have := L1.len; omega)
  dsimp only at hP ⊢
  by_cases c0 : e1 = 0
  ·rw [if_pos c0]
   have hd1 : m1.down = false ∧ lnC m1 (slots + (i : Int)).toNat = d := by
    rcases hP.res with ⟨_, e⟩ | ⟨e, _⟩ | ⟨e, _⟩
    ·exact e
    ·omega
    ·omega
   have hS := vl (m := m1) (i := 3 + (i : Int)) (v := slot + 1) hd1.1 (by omega) (by omega)
   rw [show (3 + (i : Int)).toNat = 3 + i by omega] at hS
   generalize Nvm.set m1 (3 + (i : Int)) (slot + 1) = r2 at hS
   obtain ⟨e2, m2⟩ := r2
   dsimp only at hS ⊢
   obtain ⟨L2, hT2, hT2'⟩ := L1.setTab hi hS (by omega) (by omega) (by rw [hT1]; exact hzi) (by rw [hT1]; exact hn)
   refine ⟨L2, fun k k0 k1 hk => ?_, fun j => by rw [jw hS.cells, hP.lim], fun hc => by rw [hS.cut (by rw [hP.cut hc]; exact hc), hP.cut hc], fun j hj => ?_, ?_⟩
   ·rw [← hsl1 k k0 k1]
    unfold slc
    rw [oz hS.cells]
    rcases hT2 with e | e
    ·rw [e]
    ·rw [e, qar (by rw [dq]; exact hi) (by rw [hT1]; exact hzi) k0 (by omega)]
   ·rw [← show m1.regs.getD j 0 = m.regs.getD j 0 by rw [hP.regs]]
    rcases hS.res with ⟨_, _, e⟩ | ⟨_, _, e | e, _⟩
    ·exact it e (by omega)
    ·rw [e]
    ·exact it e (by omega)
   ·rcases hS.res with ⟨e, u, _⟩ | ⟨e, u, _, c⟩
    ·refine .inl ⟨e, u, ?_⟩
     unfold slc
     rw [hT2' e, hT1, qff (by rw [dq]; exact hi) (fun j j0 j1 => hz j (by omega) (by rw [dq] at j1; exact j1)) h0, oz hS.cells]
     exact hd1.2
    ·exact .inr (.inr ⟨e, u, by rcases Int.lt_or_le m.cut 0 with hc | hc; rw [hP.cut hc] at c; omega; exact hc⟩)
  ·rw [if_neg c0]
   by_cases c3 : e1 = 3
   ·rw [if_pos c3]
    have hd1 : m1.down = false := by
     rcases hP.res with ⟨e, _⟩ | ⟨_, e, _⟩ | ⟨e, _⟩
     ·omega
     ·exact e
     ·omega
    have hS := vl (m := m1) (i := 3 + (i : Int)) (v := slots + 1) hd1 (by omega) (by omega)
    rw [show (3 + (i : Int)).toNat = 3 + i by omega] at hS
    generalize hr2 : Nvm.set m1 (3 + (i : Int)) (slots + 1) = r2 at hS
    obtain ⟨e2, m2⟩ := r2
    dsimp only at hS ⊢
    obtain ⟨L2, hT2, hT2'⟩ := L1.setTab hi hS (by omega) (by omega) (by rw [hT1]; exact hzi) (by rw [hT1]; exact hn)
    have hsl2 : ∀ k, 0 ≤ k → k < slots → slc slots spares m2 k = slc slots spares m k := fun k k0 k1 => by
     rw [← hsl1 k k0 k1]
     unfold slc
     rw [oz hS.cells]
     rcases hT2 with e | e
     ·rw [e]
     ·rw [e, qar (by rw [dq]; exact hi) (by rw [hT1]; exact hzi) k0 (by omega)]
    have hcut2 : m.cut < 0 → m2.cut = m.cut := fun hc => by rw [hS.cut (by rw [hP.cut hc]; exact hc), hP.cut hc]
    have hreg2 : ∀ j, (j < 3 ∨ 19 ≤ j) → m2.regs.getD j 0 = m.regs.getD j 0 := fun j hj => by
     rw [← show m1.regs.getD j 0 = m.regs.getD j 0 by rw [hP.regs]]
     rcases hS.res with ⟨_, _, e⟩ | ⟨_, _, e | e, _⟩
     ·exact it e (by omega)
     ·rw [e]
     ·exact it e (by omega)
    have hlim2 : ∀ j, fk m2 j = fk m j := fun j => by rw [jw hS.cells, hP.lim]
    by_cases c2 : e2 = 0
    ·rw [if_pos c2]
     have hd2 : m2.down = false := by
      rcases hS.res with ⟨_, e, _⟩ | ⟨e, _⟩
      ·exact e
      ·omega
     have hT := hT2' c2
     have hrd : ∀ j : Int, rd (Lns.tableTo m2 spares) j = if j.toNat = i then slots + 1 else rd (Lns.tableTo m spares) j := fun j => by
      rw [hT, j9 _ _ (by rw [dq]; exact hi), hT1]
     have ih := qaa h0 h1 hd n (i + 1) m2 L2 hd2 (by omega) (fun j j0 j1 => by
      rw [hrd]
      by_cases e : j.toNat = i
      ·rw [if_pos e]; omega
      ·rw [if_neg e]; exact hn j j0 (by omega)) (fun j j0 j1 => by
      rw [hrd, if_neg (by omega)]
      exact hz j (by omega) j1)
     refine ⟨ih.ok, fun k k0 k1 hk => by rw [ih.oth k k0 k1 hk, hsl2 k k0 k1], fun j => by rw [ih.lim, hlim2], fun hc => by rw [ih.cut (by rw [hcut2 hc]; exact hc), hcut2 hc], fun j hj => by rw [ih.regs j hj, hreg2 j hj], ?_⟩
     rcases ih.res with e | ⟨e, u, x⟩ | ⟨e, u, x⟩
     ·exact .inl e
     ·exact .inr (.inl ⟨e, u, by rw [x, hsl2 slot h0 h1]⟩)
     ·exact .inr (.inr ⟨e, u, by rcases Int.lt_or_le m.cut 0 with hc | hc; rw [hcut2 hc] at x; omega; exact hc⟩)
    ·rw [if_neg c2]
     have he2 : e2 = 2 ∧ m2.down = true ∧ 0 ≤ m1.cut := by
      rcases hS.res with ⟨e, _⟩ | ⟨e, u, _, c⟩
      ·exact absurd e c2
      ·exact ⟨e, u, c⟩
     exact ⟨L2, fun k k0 k1 _ => hsl2 k k0 k1, hlim2, hcut2, hreg2, .inr (.inr ⟨he2.1, he2.2.1, by rcases Int.lt_or_le m.cut 0 with hc | hc; (have := hP.cut hc; omega); exact hc⟩)⟩
   ·rw [if_neg c3]
    have he : e1 = 2 ∧ m1.down = true ∧ 0 ≤ m.cut := by
     rcases hP.res with ⟨e, _⟩ | ⟨e, _⟩ | ⟨e, u, _, c⟩
     ·exact absurd e c0
     ·exact absurd e c3
     ·exact ⟨e, u, c⟩
    exact ⟨L1, fun k k0 k1 _ => hsl1 k k0 k1, hP.lim, hP.cut, fun j _ => by rw [hP.regs], .inr (.inr he)⟩
theorem qfz (h : LOk slots spares m) (hu : m.down = false) (h0 : 0 ≤ slot) (h1 : slot < slots) (hd : W64 d) : LPutR slots spares m (Lns.put m slots spares slot d).2 slot d (Lns.put m slots spares slot d).1 ∧ ((Lns.put m slots spares slot d).1 = 3 → ∃ j, 0 ≤ fk m j) := by
 have hp := h.place h0 h1;have hP := qjc (m := m) (l := d) hu hp.1 hp.2 hd (h.val _ (by omega));unfold Lns.put;rw [hu];simp only [Bool.false_eq_true, if_false];generalize Nvm.put m (fj (Lns.tableTo m spares) slots slot) d = r1 at hP;obtain ⟨e1, m1⟩ := r1;dsimp only at hP ⊢;have L1 := h.put hd hP;have hT1 := mn (k := spares) hP.regs;have hoth : ∀ k, 0 ≤ k → k < slots → k ≠ slot → slc slots spares m1 k = slc slots spares m k := fun k k0 k1 hk => by unfold slc;rw [hT1];refine hP.oth _ (fun e => hk ((qgl (t := Lns.tableTo m spares) ⟨k0, k1⟩ ⟨h0, h1⟩).1 ?_));have := h.place k0 k1;omega
 have base : LPutR slots spares m m1 slot d e1 := by
  refine ⟨L1, hoth, hP.lim, hP.cut, fun j _ => by rw [hP.regs], ?_⟩;rcases hP.res with ⟨e, u, x⟩ | ⟨e, u, x, _⟩ | ⟨e, u, _, c⟩
  ·exact .inl ⟨e, u, by unfold slc; rw [hT1]; exact x⟩
  ·exact .inr (.inl ⟨e, u, by unfold slc; rw [hT1]; exact x⟩)
  ·exact .inr (.inr ⟨e, u, c⟩)
 by_cases c3 : e1 = 3
 ·rw [if_pos c3];have hx : m1.down = false ∧ slc slots spares m1 slot = slc slots spares m slot ∧ 0 ≤ fk m (fj (Lns.tableTo m spares) slots slot).toNat := by
   rcases hP.res with ⟨e, _⟩ | ⟨_, u, x, y⟩ | ⟨e, _⟩
   ·omega
   ·exact ⟨u, by unfold slc; rw [hT1]; exact x, y⟩
   ·omega
  by_cases cn : o9 (Lns.tableTo m spares) < 0
  ·rw [if_pos cn];exact ⟨base, fun _ => ⟨_, hx.2.2⟩⟩
  ·rw [if_neg cn];have hN := qat (Lns.tableTo m spares);rcases hN with ⟨r0, r1, r2, r3⟩ | ⟨r0, _⟩
   ·rw [dq] at r1;have ih := qaa (slots := slots) (spares := spares) h0 h1 hd (spares - (o9 (Lns.tableTo m spares)).toNat) (o9 (Lns.tableTo m spares)).toNat m1 L1 hx.1 (by omega) (fun j j0 j1 => by rw [hT1]; exact r3 j j0 (by omega)) (fun j j0 j1 => by
     rw [hT1];exact qmb h.may r0 r2 (j - o9 (Lns.tableTo m spares)).toNat j (by omega) (by rw [dq]; exact j1))
    refine ⟨⟨ih.ok, fun k k0 k1 hk => by rw [ih.oth k k0 k1 hk, hoth k k0 k1 hk], fun j => by rw [ih.lim, hP.lim], fun hc => by rw [ih.cut (by rw [hP.cut hc]; exact hc), hP.cut hc], fun j hj => by rw [ih.regs j hj, hP.regs], ?_⟩, fun _ => ⟨_, hx.2.2⟩⟩;rcases ih.res with e | ⟨e, u, x⟩ | ⟨e, u, x⟩
    ·exact .inl e
    ·exact .inr (.inl ⟨e, u, by rw [x, hx.2.1]⟩)
    ·exact .inr (.inr ⟨e, u, by rcases Int.lt_or_le m.cut 0 with hc | hc; rw [hP.cut hc] at x; omega; exact hc⟩)
   ·omega
 ·rw [if_neg c3];exact ⟨base, fun e => absurd e c3⟩
end
structure MOk (s : Shape) (m : Mem) : Prop where
 ok : s.Ok
 l : LOk (s.n + 1) s.spares m
 mv : Trn.moves m ≤ 4611686018427387903
def lgc (s : Shape) (m : Mem) (line : Int) : List Int := slc (s.n + 1) s.spares m (gj s.n (Trn.moves m) line)
theorem ye {m m' : Mem} {i : Nat} {v : Int} (h : m'.regs = m.regs.set i v) (hi : i < 3 ∨ 19 ≤ i) {k : Nat} (hk : k ≤ 16) : Lns.tableTo m' k = Lns.tableTo m k := by
 unfold Lns.tableTo;refine List.map_congr_left (fun j hj => ?_);have := List.mem_range.1 hj;exact it h (by omega)
section
variable {s : Shape} {m m' : Mem} {line : Int} {d : List Int}
theorem MOk.g (h : MOk s m) : mi s.n (Trn.moves m) := ⟨h.ok.n1, by have := h.ok.n2; omega, (h.l.regs.get 0).1, by have := h.mv; omega⟩
theorem MOk.slotR (h : MOk s m) (line : Int) : 0 ≤ gj s.n (Trn.moves m) line ∧ gj s.n (Trn.moves m) line < s.n + 1 := by
 have := qcf (l := line) h.g;omega
theorem MOk.lineW (h : MOk s m) (line : Int) : W64 (lgc s m line) := h.l.slotW (h.slotR line).1 (h.slotR line).2
theorem qcq {slots : Int} {spares : Nat} (h : LOk slots spares m) (hu : m.down = false) {k : Int} (h0 : 0 ≤ k) (h1 : k < slots) : Lns.get m slots spares k = (slc slots spares m k, 0) := by
 have hp := h.place h0 h1;unfold Lns.get Nvm.get;rw [hu];have hh : Nvm.has m (fj (Lns.tableTo m spares) slots k) = true := by unfold Nvm.has; simp; omega
 rw [hh];rfl
theorem rb (h : MOk s m) (hu : m.down = false) (line : Int) : Trn.get s m line = (lgc s m line, 0) := by
 unfold Trn.get;rw [hu];exact qcq h.l hu (h.slotR line).1 (h.slotR line).2
theorem MOk.setReg (h : MOk s m) {i : Nat} {v e : Int} (hs : SetR m m' i v e) (hi : (1 ≤ i ∧ i < 3) ∨ 19 ≤ i) (h0 : 0 ≤ v) (h1 : v ≤ 18446744073709551615) : MOk s m' ∧ (∀ line, lgc s m' line = lgc s m line) ∧ Trn.moves m' = Trn.moves m ∧ (∀ j, j ≠ i → m'.regs.getD j 0 = m.regs.getD j 0) := by
 have hr : m'.regs = m.regs ∨ m'.regs = m.regs.set i v := by
  rcases hs.res with ⟨_, _, e⟩ | ⟨_, _, e, _⟩
  ·exact .inr e
  ·exact e
 have ht : Lns.tableTo m' s.spares = Lns.tableTo m s.spares := by
  rcases hr with e | e
  ·exact mn e _
  ·exact ye e (by omega) h.ok.sp
 have ho : ∀ j, j ≠ i → m'.regs.getD j 0 = m.regs.getD j 0 := fun j hj => by
  rcases hr with e | e
  ·rw [e]
  ·exact it e hj
 have hm : Trn.moves m' = Trn.moves m := ho 0 (by omega);refine ⟨⟨h.ok, h.l.setReg hs h0 h1 (by rw [ht]; exact h.l.may), by rw [hm]; exact h.mv⟩, fun line => ?_, hm, ho⟩;unfold lgc slc;rw [hm, ht, oz hs.cells]
structure MoveR (s : Shape) (m m' : Mem) (e : Int) : Prop where
 l : LOk (s.n + 1) s.spares m'
 same : ∀ line, 0 ≤ line → line < s.n → lgc s m' line = lgc s m line
 lim : ∀ j, fk m' j = fk m j
 cut : m.cut < 0 → m'.cut = m.cut
 regs : ∀ j, ((1 ≤ j ∧ j < 3) ∨ 19 ≤ j) → m'.regs.getD j 0 = m.regs.getD j 0
 mv : Trn.moves m' = Trn.moves m ∨ Trn.moves m' = Trn.moves m + 1
 res : (e = 0 ∧ m'.down = false ∧ Trn.moves m' = Trn.moves m + 1) ∨ (e = 3 ∧ m'.down = false ∧ ∃ j, 0 ≤ fk m j) ∨ (e = 2 ∧ m'.down = true ∧ 0 ≤ m.cut)
theorem qk6 (h : MOk s m) (hu : m.down = false) : MoveR s m (Trn.move s m).2 (Trn.move s m).1 := by
 have hg := h.g;have hgr := sd hg;have hmv := h.mv;have hmo : 0 ≤ Trn.moves m := hg.2.2.1;obtain ⟨fr, hfr⟩ : ∃ fr, fr = if i8 s.n (Trn.moves m) = 0 then s.n else i8 s.n (Trn.moves m) - 1 := ⟨_, rfl⟩
 have hms : Trn.moveS s.n (Trn.moves m) = (fr, i8 s.n (Trn.moves m)) := by
  unfold Trn.moveS;rw [hfr];by_cases c : i8 s.n (Trn.moves m) = 0
  ·rw [if_pos c, if_pos c, c]
  ·rw [if_neg c, if_neg c]
 have hn1 := h.ok.n1;have hfr2 : 0 ≤ fr ∧ fr ≤ s.n ∧ fr ≠ i8 s.n (Trn.moves m) := by
  by_cases c : i8 s.n (Trn.moves m) = 0
  ·rw [if_pos c] at hfr; omega
  ·rw [if_neg c] at hfr; omega
 have hst := qjq hg hfr;have hG := qcq h.l hu (k := fr) hfr2.1 (by omega);have hw := h.l.slotW (k := fr) hfr2.1 (by omega);obtain ⟨hP, hP3⟩ := qfz h.l hu (slot := i8 s.n (Trn.moves m)) (d := slc (s.n + 1) s.spares m fr) hgr.1 (by omega) hw;unfold Trn.move;rw [hms];dsimp only;rw [hG];dsimp only;rw [if_pos rfl];generalize Lns.put m (s.n + 1) s.spares (i8 s.n (Trn.moves m)) (slc (s.n + 1) s.spares m fr) = r1 at hP hP3;obtain ⟨e1, m1⟩ := r1;dsimp only at hP hP3 ⊢;have hm1 : Trn.moves m1 = Trn.moves m := hP.regs 0 (by omega);have hold : ∀ line, 0 ≤ line → line < s.n → slc (s.n + 1) s.spares m1 (gj s.n (Trn.moves m) line) = lgc s m line := fun line l0 l1 => by have := qcf (l := line) hg;exact hP.oth _ this.1 (by omega) this.2.2
 by_cases c0 : e1 = 0
 ·rw [if_pos c0];have hx : m1.down = false ∧ slc (s.n + 1) s.spares m1 (i8 s.n (Trn.moves m)) = slc (s.n + 1) s.spares m fr := by
   rcases hP.res with ⟨_, e⟩ | ⟨e, _⟩ | ⟨e, _⟩
   ·exact e
   ·omega
   ·omega
  have hS := vl (m := m1) (i := 0) (v := Trn.moves m + 1) hx.1 (by omega) (by omega);generalize Nvm.set m1 0 (Trn.moves m + 1) = r2 at hS;obtain ⟨e2, m2⟩ := r2;dsimp only at hS ⊢;rw [show (0 : Int).toNat = 0 from rfl] at hS;have hr : m2.regs = m1.regs ∨ m2.regs = m1.regs.set 0 (Trn.moves m + 1) := by
   rcases hS.res with ⟨_, _, e⟩ | ⟨_, _, e, _⟩
   ·exact .inr e
   ·exact e
  have ht : Lns.tableTo m2 s.spares = Lns.tableTo m1 s.spares := by
   rcases hr with e | e
   ·exact mn e _
   ·exact ye e (by omega) h.ok.sp
  have hsl : ∀ k, slc (s.n + 1) s.spares m2 k = slc (s.n + 1) s.spares m1 k := fun k => by unfold slc; rw [ht, oz hS.cells]
  have hset0 : m2.regs = m1.regs.set 0 (Trn.moves m + 1) → Trn.moves m2 = Trn.moves m + 1 := fun e => by unfold Trn.moves at *;rw [e, List.getD_eq_getElem?_getD, List.getElem?_set_self (by have := hP.ok.rlen; omega)];rfl
  have hmv2 : Trn.moves m2 = Trn.moves m ∨ Trn.moves m2 = Trn.moves m + 1 := by
   rcases hr with e | e
   ·left; rw [← hm1]; unfold Trn.moves; rw [e]
   ·exact .inr (hset0 e)
  refine ⟨hP.ok.setReg hS (by omega) (by omega) (by rw [ht]; exact hP.ok.may), fun line l0 l1 => ?_, fun j => by rw [jw hS.cells, hP.lim], fun hc => by rw [hS.cut (by rw [hP.cut hc]; exact hc), hP.cut hc], fun j hj => ?_, hmv2, ?_⟩
  ·unfold lgc;rw [hsl];rcases hmv2 with e | e
   ·rw [e]; exact hold line l0 l1
   ·rw [e];obtain ⟨a1, a2⟩ := hst.2 line l0 l1;by_cases c : gj s.n (Trn.moves m) line = fr
    ·rw [a1 c, hx.2, c]
    ·rw [← a2 c]; exact hold line l0 l1
  ·rw [← hP.regs j (by omega)];rcases hr with e | e
   ·rw [e]
   ·exact it e (by omega)
  ·rcases hS.res with ⟨e, u, x⟩ | ⟨e, u, _, c⟩
   ·exact .inl ⟨e, u, hset0 x⟩
   ·exact .inr (.inr ⟨e, u, by rcases Int.lt_or_le m.cut 0 with hc | hc; (have := hP.cut hc; omega); exact hc⟩)
 ·rw [if_neg c0];refine ⟨hP.ok, fun line l0 l1 => by unfold lgc; rw [hm1]; exact hold line l0 l1, hP.lim, hP.cut, fun j hj => hP.regs j (by omega), .inl hm1, ?_⟩;rcases hP.res with ⟨e, _⟩ | ⟨e, u, _⟩ | ⟨e, u, c⟩
  ·exact absurd e c0
  ·exact .inr (.inl ⟨e, u, hP3 e⟩)
  ·exact .inr (.inr ⟨e, u, c⟩)
structure TPutR (s : Shape) (m m' : Mem) (line : Int) (d : List Int) (e : Int) : Prop where
 l : LOk (s.n + 1) s.spares m'
 oth : ∀ k, 0 ≤ k → k < s.n → k ≠ line → lgc s m' k = lgc s m k
 lim : ∀ j, fk m' j = fk m j
 cut : m.cut < 0 → m'.cut = m.cut
 regs : ∀ j, ((1 ≤ j ∧ j < 3) ∨ 19 ≤ j) → m'.regs.getD j 0 = m.regs.getD j 0
 mv : Trn.moves m' = Trn.moves m ∨ Trn.moves m' = Trn.moves m + 1
 res : (e = 0 ∧ m'.down = false ∧ lgc s m' line = d) ∨ (e = 3 ∧ m'.down = false ∧ lgc s m' line = lgc s m line ∧ ∃ j, 0 ≤ fk m j) ∨ (e = 2 ∧ m'.down = true ∧ 0 ≤ m.cut)
theorem qc2 (h : MOk s m) (hu : m.down = false) (h0 : 0 ≤ line) (h1 : line < s.n) (hd : W64 d) : TPutR s m (Trn.putAt s m line d).2 line d (Trn.putAt s m line d).1 ∧ Trn.moves (Trn.putAt s m line d).2 = Trn.moves m := by
 have hs := h.slotR line;obtain ⟨hP, hP3⟩ := qfz h.l hu (slot := gj s.n (Trn.moves m) line) (d := d) hs.1 hs.2 hd;unfold Trn.putAt;generalize Lns.put m (s.n + 1) s.spares (gj s.n (Trn.moves m) line) d = r1 at hP hP3;obtain ⟨e1, m1⟩ := r1;dsimp only at hP hP3 ⊢;have hm1 : Trn.moves m1 = Trn.moves m := hP.regs 0 (by omega);refine ⟨⟨hP.ok, fun k k0 k1 hk => ?_, hP.lim, hP.cut, fun j hj => hP.regs j (by omega), .inl hm1, ?_⟩, hm1⟩
 ·unfold lgc;rw [hm1];exact hP.oth _ (h.slotR k).1 (h.slotR k).2 (fun e => hk (qi0 h.g k0 k1 h0 h1 e))
 ·unfold lgc;rw [hm1];rcases hP.res with ⟨e, u, x⟩ | ⟨e, u, x⟩ | ⟨e, u, c⟩
  ·exact .inl ⟨e, u, x⟩
  ·exact .inr (.inl ⟨e, u, x, hP3 e⟩)
  ·exact .inr (.inr ⟨e, u, c⟩)
theorem qca (h : MOk s m) (hu : m.down = false) (hv : Trn.moves m + 1 ≤ 4611686018427387903) (puts : Int) (h0 : 0 ≤ line) (h1 : line < s.n) (hd : W64 d) : TPutR s m (Trn.put s m puts line d).2.1 line d (Trn.put s m puts line d).1 ∧ ((Trn.put s m puts line d).1 = 0 → Trn.moves (Trn.put s m puts line d).2.1 = Trn.moves m + if wrap64 (puts + 1) = s.period then 1 else 0) := by
 unfold Trn.put;rw [hu];simp only [Bool.false_eq_true, if_false];by_cases cp : wrap64 (puts + 1) = s.period
 ·rw [if_pos cp, if_pos cp];have hM := qk6 h hu;generalize Trn.move s m = r1 at hM;obtain ⟨e1, m1⟩ := r1;dsimp only at hM ⊢;by_cases c0 : e1 = 0
  ·rw [if_pos c0];dsimp only;have hx : m1.down = false ∧ Trn.moves m1 = Trn.moves m + 1 := by
    rcases hM.res with ⟨_, e⟩ | ⟨e, _⟩ | ⟨e, _⟩
    ·exact e
    ·omega
    ·omega
   have h1' : MOk s m1 := ⟨h.ok, hM.l, by omega⟩;obtain ⟨hP, hPm⟩ := qc2 h1' hx.1 h0 h1 hd;generalize Trn.putAt s m1 line d = r2 at hP hPm;obtain ⟨e2, m2⟩ := r2;dsimp only at hP hPm ⊢;refine ⟨⟨hP.l, fun k k0 k1 hk => by rw [hP.oth k k0 k1 hk, hM.same k k0 k1], fun j => by rw [hP.lim, hM.lim], fun hc => by rw [hP.cut (by rw [hM.cut hc]; exact hc), hM.cut hc], fun j hj => by rw [hP.regs j hj, hM.regs j hj], .inr (by rw [hPm, hx.2]), ?_⟩, fun _ => by rw [hPm, hx.2]⟩;rcases hP.res with e | ⟨e, u, x, j, hj⟩ | ⟨e, u, c⟩
   ·exact .inl e
   ·exact .inr (.inl ⟨e, u, by rw [x, hM.same line h0 h1], j, by rw [hM.lim] at hj; exact hj⟩)
   ·exact .inr (.inr ⟨e, u, by rcases Int.lt_or_le m.cut 0 with hc | hc; (have := hM.cut hc; omega); exact hc⟩)
  ·rw [if_neg c0];dsimp only;refine ⟨⟨hM.l, fun k k0 k1 _ => hM.same k k0 k1, hM.lim, hM.cut, hM.regs, hM.mv, ?_⟩, fun e => absurd e c0⟩;rcases hM.res with ⟨e, _⟩ | ⟨e, u, x⟩ | ⟨e, u, c⟩
   ·exact absurd e c0
   ·exact .inr (.inl ⟨e, u, hM.same line h0 h1, x⟩)
   ·exact .inr (.inr ⟨e, u, c⟩)
 ·rw [if_neg cp, if_neg cp];obtain ⟨hP, hPm⟩ := qc2 h hu h0 h1 hd;exact ⟨hP, fun _ => by rw [hPm]; omega⟩
end
namespace Lg
def recover (s : Shape) (m : Mem) (puts : Int) : Int × Mem × Int :=
 if (homes s m).2 = 0 then
  if (homes s m).1.length = 0 then (0, m, puts)
  else if mayH s.n (homes s m).1 then finish s (homes s m).1 m puts
  else (6, m, puts)
 else ((homes s m).2, m, puts)
end Lg
section
variable {w : World} {M C L T G : Nat} {s : Shape} {m : Mem} {puts : Int}
theorem TurnAt.lt (h : TurnAt w M C L T s m puts) : ∀ j, w.heap.size ≤ j → ¬ MCT M C T j := fun j hj => by
 have := h.mem.lt;have := df h.tur;exact px (by omega) (by omega) (by omega)
theorem mr {lines : Int} {h : List ip} (hm : Lg.mayH lines h = true) : ∀ x ∈ h, 16 ≤ x.1 ∧ x.1 < lines := fun x hx => by
 unfold Lg.mayH at hm;simp only [Bool.and_eq_true, List.all_eq_true, decide_eq_true_eq] at hm;exact hm.1.1 x hx
theorem su {lines : Int} {h : List ip} (hm : Lg.mayH lines h = true) : 1 ≤ h.length ∧ h.length ≤ 14 := by
 unfold Lg.mayH at hm;simp only [Bool.and_eq_true, List.all_eq_true, decide_eq_true_eq] at hm;omega
theorem qa6 (h : TurnAt w M C L T s m puts) (hG : iv w G M T) (hng : ¬ MCT M C T G) (hn : 17 ≤ s.n) (hrd : m.down = false → Lg.Rd s m) (hc : Lg.count m ≤ 14) (hv : m.regs.getD 0 0 + 16 ≤ 4611686018427387904) : Calls Tryz.prog 44 #[.pointer (some ⟨G, 0, none⟩)] w fun e w' => e = .returned (.int .i64 (Lg.recover s m puts).1) ∧ TurnAt w' M C L T s (Lg.recover s m puts).2.1 (Lg.recover s m puts).2.2 ∧ ah (MCT M C T) w w' := by
 have H := am h;have HG := am hG;have HHm := am (yc h hG hn hrd hc);have g1 := hG.g1;have HLt := am h.lt;have hn2 := h.ok.n2;have HBd : Aside0 (∀ x ∈ (Lg.homes s m).1, -1 ≤ x.1 ∧ x.1 < s.n) := ⟨by
  unfold Lg.homes;cases hd : m.down
  ·exact sq hn (hrd hd) _ (by omega)
  ·exact fun x hx => by simp at hx⟩
 have hle : (Lg.homes s m).1.length ≤ 14 := by
  unfold Lg.homes;split
  ·simp
  ·simp only [o0]; omega
 have HNG := am hng;clear hG hng hrd hc h;have ER := am (show Lg.recover s m puts = if (Lg.homes s m).2 = 0 then
  if (Lg.homes s m).1.length = 0 then (0, m, puts)
  else if Lg.mayH s.n (Lg.homes s m).1 then Lg.finish s (Lg.homes s m).1 m puts
  else (6, m, puts)
 else ((Lg.homes s m).2, m, puts) from rfl)
 generalize Lg.recover s m puts = RR at ER;generalize Lg.homes s m = q at HHm HBd hle ER;obtain ⟨hs, he⟩ := q;dsimp only at HBd hle ER;have bl := fun b : World => True;by_cases c0 : he = 0
 ·subst c0;by_cases c1 : hs.length = 0
  ·have E1 : Aside0 (RR = (0, m, puts)) := ⟨by rw [ER.out, if_pos rfl, if_pos c1]⟩;have b1 : ((hs.length : Int) == 0) = true := beq_iff_eq.2 (by omega);go_enter Tryz.func44, Tryz.ntmps44;go_wp2_with (first
    | (go_at_call 91; (with_reducible refine HHm.out.mono ?_); rintro e w2 ⟨v, rfl, hr, hb⟩; obtain ⟨A, c, rfl⟩ := Kd.R_slice hr; have HB := am hb; clear hr hb))
   go_ret;rw [E1.out];exact ⟨rfl, H.out.below HB.out, ah.of_below HB.out⟩
  ·have b1 : ((hs.length : Int) == 0) = false := beq_eq_false_iff_ne.2 (by omega);cases hm : Lg.mayH s.n hs
   ·have E1 : Aside0 (RR = (6, m, puts)) := ⟨by rw [ER.out, if_pos rfl, if_neg c1, if_neg (by rw [hm]; decide)]⟩;have HMy := am hm;clear hm;go_enter Tryz.func44, Tryz.ntmps44;go_wp2_with (first
     | (go_at_call 91; (with_reducible refine HHm.out.mono ?_); rintro e w2 ⟨v, rfl, hr, hb⟩; obtain ⟨A, c, rfl⟩ := Kd.R_slice hr; have HR := am hr; have HB := am hb; have H2 := am (H.out.below hb); have G2 := am (HG.out.below hb); clear hr hb g1; have g1 := G2.out.g1)
     | (go_at_call 90; (with_reducible refine (fc H2.out).mono ?_); rintro e w7 ⟨rfl, rfl⟩)
     | (go_at_call 92; (with_reducible refine (l5 _ s.n _ _ A c hs HR.out (by omega) (fun x hx => by have := HBd.out x hx; omega)).mono ?_); rintro e w3 ⟨rfl, hb⟩; rw [HMy.out]; have HB3 := am (ab HB.out hb); clear hb))
    go_ret;rw [E1.out];exact ⟨rfl, H.out.below HB3.out, ah.of_below HB3.out⟩
   ·have E1 : Aside0 (RR = Lg.finish s hs m puts) := ⟨by rw [ER.out, if_pos rfl, if_neg c1, if_pos hm]⟩;have HMy := am hm;clear hm;go_enter Tryz.func44, Tryz.ntmps44;go_wp2_with (first
     | (go_at_call 91; (with_reducible refine HHm.out.mono ?_); rintro e w2 ⟨v, rfl, hr, hb⟩; obtain ⟨A, c, rfl⟩ := Kd.R_slice hr; have HR := am hr; have HB := am hb; have H2 := am (H.out.below hb); have G2 := am (HG.out.below hb); clear hr hb g1; have g1 := G2.out.g1)
     | (go_at_call 90; (with_reducible refine (fc H2.out).mono ?_); rintro e w7 ⟨rfl, rfl⟩)
     | (go_at_call 92; (with_reducible refine (l5 _ s.n _ _ A c hs HR.out (by omega) (fun x hx => by have := HBd.out x hx; omega)).mono ?_); rintro e w3 ⟨rfl, hb⟩; rw [HMy.out]; have HB3 := am (ab HB.out hb); have HR3 := am (Kd.R_below HR.out hb); clear hb)
     | (go_at_call 93; (with_reducible refine (vo (H.out.below HB3.out) (HG.out.below HB3.out) HNG.out hs (by omega) (by omega) _ _ A c HR3.out HLt.out (fun x hx => by have := mr HMy.out x hx; omega)).mono ?_); rintro e w4 ⟨rfl, h4_, k4_⟩))
    go_ret;rw [E1.out];exact ⟨rfl, h4_, (ah.of_below HB3.out).step k4_⟩
 ·have E1 : Aside0 (RR = (he, m, puts)) := ⟨by rw [ER.out, if_neg c0]⟩;have b0 : (he != 0) = true := bne_iff_ne.2 c0;go_enter Tryz.func44, Tryz.ntmps44;go_wp2_with (first
   | (go_at_call 91; (with_reducible refine HHm.out.mono ?_); rintro e w2 ⟨v, rfl, hr, hb⟩; obtain ⟨A, c, rfl⟩ := Kd.R_slice hr; have HB := am hb; clear hr hb))
  go_ret;rw [E1.out];exact ⟨rfl, H.out.below HB.out, ah.of_below HB.out⟩
end
def ss : Kd (List Int) where
 sz := 8
 E := []
 K := fun _ x cs => cs = bb x ∧ x.length = 8
 M := fun _ _ _ x cs => cs = bb x ∧ x.length = 8
 K_len := fun h => by rw [h.1]; simp [an, h.2]
 K_one := fun h u hu => by
  rw [h.1] at hu
  have := xj (by assumption)
  unfold bb at hu
  obtain ⟨z, _, rfl⟩ := List.mem_map.1 hu
  rfl
 K_below := fun _ h => h
 K_of_M := fun h => h
 M_mono := fun _ h => h
 M_bound := fun h => h
 M_move := fun _ h => h
 M_lower := fun _ h => h
theorem lineAt {w : World} {base : Nat} {ok : Nat → Prop} {A : Option Addr} {c n : Nat} {xs : List (List Int)} (h : Kd.R ss 73 w base ok (.slice A n c) xs) (hn : xs.length = n) (i : Nat) (hi : i < n) : ∃ g, A = some ⟨g, 0, none⟩ ∧ (xs.getD i zL).length = 8 ∧ ∀ j u, (bb (xs.getD i zL))[j]? = some u → w.cell? ⟨g, i * 8 + j, none⟩ = some u := by
 obtain ⟨g, cap, e, _⟩ := Kd.R_form h (by omega);obtain ⟨ad, cs, e2, _, hK, hc⟩ := Kd.C_get (Kd.R_reads' h).2.2 zL (i : Int) (by omega) (by omega);rw [Int.toNat_natCast] at hK hc;obtain ⟨rfl, h8⟩ := hK;injection e with e3;subst e3;injection e2 with e4;subst e4;exact ⟨g, rfl, h8, fun j u hu => by have := hc j u hu; rw [mg, Nat.zero_add] at this; exact this⟩
section
variable {ops : Array Oper} {rest : List Oper} {o : Oper} {a : Act} {w w0 : World} {Q : Exit → Act → World → Prop}
theorem wj (hgd : o.guard = none) (x y : Operand) (ho : o.op = .makeSlice 197 x y) (n : Nat) (hx : a.eval x = .int .i64 n) (hy : a.eval y = .int .i64 16) (h1 : n ≤ 16) (base : Nat) (HB : Below base w0 w) (hbase : base ≤ w.heap.size) (h : ∀ w1, Kd.R ss 73 w1 base (fun _ => True) (.slice (some ⟨w.heap.size, 0, none⟩) n 16) (List.replicate n zL) → Below base w0 w1 → Below w.heap.size w w1 → wpList Tryz.prog ops Q rest (a.put o.dst (.slice (some ⟨w.heap.size, 0, none⟩) n 16)) w1) : wpList Tryz.prog ops Q (o :: rest) a w := by
 obtain ⟨i0, hi, hz0, hz1, hz2⟩ := info_parts qee;have hr := run_make (P := Tryz.prog) w 197 73 i0 _ Tryz.underlying197 hi hz0 .i64 .i64 (n : Int) 16 (by omega) (by omega) (by rw [hz2]; decide) (by decide);simp only [Int.toNat_natCast, show (16 : Int).toNat = 16 from rfl] at hr;rw [hz1] at hr;have hrun : (execOp a.eval o).run Tryz.prog w = .ok (.value (.slice (some ⟨w.heap.size, 0, none⟩) n 16)) (w.alloc (.cells (madeCells (Value.agg bp).cells (16 * 8)) 73)) := by simp [execOp, ho, hx, hy, hr, Result.andThen]
 refine Kd.event_run hgd hrun (h _ ?_ (HB.alloc hbase _) ((Below.refl _ _).alloc (Nat.le_refl _) _));have hrep : d6 (ss.M w base (fun _ => True)) 8 (List.replicate 16 zL) (madeCells (Value.agg bp).cells (16 * 8)).toList := Kd.reps_made rfl (by decide) ⟨rfl, rfl⟩ 16;have h16 : Kd.R ss 73 (w.alloc (.cells (madeCells (Value.agg bp).cells (16 * 8)) 73)) base (fun _ => True) (.slice (some ⟨w.heap.size, 0, none⟩) 16 16) (List.replicate 16 zL) :=
  ⟨fun _ _ => trivial, _, World.ownsRow_lit (base := base) (e := 73) (size := 8) w _ 16 hbase (by decide) (by simp [size_madeCells]), hrep.imp_ (fun p c hp => hp)⟩
 have := Kd.R_take h16 (m := n) (by simp; omega)
 rwa [List.take_replicate, Nat.min_eq_left h1] at this
end
theorem qe8 {w : World} {base g n cap : Nat} {ok : Nat → Prop} {xs : List (List Int)} (h : Kd.R ss 73 w base ok (.slice (some ⟨g, 0, none⟩) n cap) xs) (i j : Nat) (hi : i < n) (hj : j < 8) (v : Int) : Kd.R ss 73 (w.setCell ⟨g, i * 8 + j, none⟩ (.int .u64 v)) base ok (.slice (some ⟨g, 0, none⟩) n cap) (xs.set i ((xs.getD i zL).set j v)) := by
 obtain ⟨c, hc8, ⟨rfl, h8⟩, hcc, _⟩ := Kd.R_elem h zL (i : Int) (by omega) (by omega);rw [Int.toNat_natCast] at hc8 hcc;rw [Int.toNat_natCast] at h8;have := (Kd.R_seg h (i : Int) (by omega) (by omega) (c := bb (xs.getD i zL)) (seg := [.int .u64 v]) (j := j) hc8 (fun q u hu => by have := hcc q u hu; exact this) (by simp [ss]; omega) (x' := (xs.getD i zL).set j v) (okp := fun k => ok k ∧ k ≠ g) ⟨by
  unfold bb;apply List.ext_getElem?;intro q;generalize xs.getD i zL = l at h8;obtain ⟨a0, a1, a2, a3, a4, a5, a6, a7, rfl⟩ := qc7 h8;have : j = 0 ∨ j = 1 ∨ j = 2 ∨ j = 3 ∨ j = 4 ∨ j = 5 ∨ j = 6 ∨ j = 7 := by omega
  rcases this with rfl | rfl | rfl | rfl | rfl | rfl | rfl | rfl <;> rfl, by simpa using h8⟩ (fun _ hk => hk)).1
 rw [Int.toNat_natCast] at this;exact this
theorem qx {o : Oper} {a : Act} {w : World} (ty : TypeId) (x i : Operand) (ho : o.op = .indexAddr ty x i) (g n c k : Nat) (hx : a.eval x = .slice (some ⟨g, 0, none⟩) n c) (hi : a.eval i = .int .i64 k) (e sz : Nat) (hu : Tryz.prog.underlying ty = some (.slice e)) (hs : (Tryz.prog.info? e).map (·.size) = some sz) (hk : k < n) : (execOp a.eval o).run Tryz.prog w = .ok (.value (.pointer (some ⟨g, k * sz, none⟩))) w := by
 obtain ⟨i0, h1, h2⟩ := Option.map_eq_some_iff.1 hs;simp [execOp, ho, hx, hi, Instr.indexAt, run_underlying hu, asIntOf, Result.andThen, sizeOf, typeInfo, h1, h2, hk, mg]
theorem xg {o : Oper} {a : Act} {w : World} (ty : TypeId) (x i : Operand) (ho : o.op = .indexAddr ty x i) (g off k : Nat) (hx : a.eval x = .pointer (some ⟨g, off, none⟩)) (hi : a.eval i = .int .i64 k) (e n sz : Nat) (hu : Tryz.prog.underlying ty = some (.array n e)) (hs : (Tryz.prog.info? e).map (·.size) = some sz) (hk : k < n) : (execOp a.eval o).run Tryz.prog w = .ok (.value (.pointer (some ⟨g, off + k * sz, none⟩))) w := by
 obtain ⟨i0, h1, h2⟩ := Option.map_eq_some_iff.1 hs;simp [execOp, ho, hx, hi, Instr.indexAt, run_underlying hu, Instr.sureAddr, asIntOf, Result.andThen, sizeOf, typeInfo, h1, h2, hk, mg]
theorem zz {o : Oper} {a : Act} {w : World} (ty : TypeId) (x i : Operand) (ho : o.op = .indexAddr ty x i) (g off k : Nat) (hx : a.eval x = .pointer (some ⟨g, off, none⟩)) (hi : a.eval i = .int .i64 k) (e n : Nat) (hu : Tryz.prog.underlying ty = some (.array n e)) (hs : (Tryz.prog.info? e).map (·.size) = some 1) (hk : k < n) : (execOp a.eval o).run Tryz.prog w = .ok (.value (.pointer (some ⟨g, off + k, none⟩))) w := by
 have e := xg (w := w) ty x i ho g off k hx hi e n 1 hu hs hk
 rwa [Nat.mul_one] at e
theorem mh {o : Oper} {a : Act} {w : World} (ty : TypeId) (x y : Operand) (ho : o.op = .store ty x y) (g off : Nat) (v : Value) (hx : a.eval x = .pointer (some ⟨g, off, none⟩)) (hy : a.eval y = v) (hv : v.cells.toList = [v]) (ho1 : v.oneCell' = true) (hc : (w.cell? ⟨g, off, none⟩).isSome = true) (hf : w.frozen? ⟨g, off, none⟩ = false) (hs : (Tryz.prog.info? ty).map (·.size) = some 1) : (execOp a.eval o).run Tryz.prog w = .ok .skip (w.setCell ⟨g, off, none⟩ v) := by
 obtain ⟨i, hi, hsz⟩ := Option.map_eq_some_iff.1 hs;have hcz : v.cells.size = i.size := by rw [hsz, ← Array.length_toList, hv]; rfl
 have hst := run_storeCells_cells (P := Tryz.prog) g off [v] 0 w (fun j hj => by rw [show off + 0 + j = off by simp at hj; omega]; exact hc) (fun j hj => by rw [show off + 0 + j = off by simp at hj; omega]; exact hf) (fun q hq => by rw [List.mem_singleton.1 hq]; exact ho1);simp only [Nat.add_zero] at hst;have h : (Instr.storeAt ty (.pointer (some ⟨g, off, none⟩)) v).run Tryz.prog w = .ok () (w.setCells g off [v]) := by simp [Instr.storeAt, Instr.sureAddr, storeVar, sizeOf, typeInfo, hi, hcz, hv, hst]
 unfold execOp;simp only [ho, hx, hy, Sem.run_bind, Sem.run_pure, h, Result.andThen_ok];rfl
theorem qbm {w : World} {base g n cap : Nat} {ok : Nat → Prop} {xs : List (List Int)} (h : Kd.R ss 73 w base ok (.slice (some ⟨g, 0, none⟩) n cap) xs) (i j : Nat) (hi : i < n) (hj : j < 8) : (w.cell? ⟨g, i * 8 + j, none⟩).isSome = true ∧ w.frozen? ⟨g, i * 8 + j, none⟩ = false := by
 obtain ⟨c, hc8, _, hcc, hf⟩ := Kd.R_elem h zL (i : Int) (by omega) (by omega);rw [Int.toNat_natCast] at hcc hf;have hj2 : j < c.length := by rw [hc8]; exact hj
 refine ⟨?_, hf j⟩;have e := hcc j _ (List.getElem?_eq_getElem hj2);rw [show (⟨g, i * 8 + j, none⟩ : Addr) = ⟨g, i * ss.sz + j, none⟩ from rfl, e];rfl
theorem mc {ops : Array Oper} {rest : List Oper} {o : Oper} {a : Act} {w : World} {Q : Exit → Act → World → Prop} (hgd : o.guard = none) (x y : Operand) (ho : o.op = .store 73 x y) (d : List Int) (hx : a.eval x = .pointer (some ⟨w.heap.size, 0, none⟩)) (hy : a.eval y = .agg (bb d).toArray) (h8 : d.length = 8) (hh : ∀ wz, Aside0 (wz.heap[w.heap.size]? = some (.cells (bb d).toArray 73 (0, 0))) → Aside0 (Below w.heap.size w wz) → wpList Tryz.prog ops Q rest (a.put o.dst undef) wz) : wpList Tryz.prog ops Q (o :: rest) a (w.alloc (.cells bp 73)) := by
 refine wpList_store_row hgd 73 x y ho w.heap.size (bb d).toArray hx hy 73 _ (heap_alloc_new w _) ?_ ?_ (xj _) (hh _ ⟨ju w bp (bb d).toArray 73⟩ ⟨iq w bp (bb d).toArray 73⟩)
 ·rw [List.size_toArray, an, h8]; exact cj
 ·simp [an, h8]
theorem qgp {r : List (List Int)} {k : Nat} (hk : k < r.length) : r.drop k = r.getD k zL :: r.drop (k + 1) := by
 rw [List.drop_eq_getElem_cons hk, List.getD_eq_getElem?_getD, List.getElem?_eq_getElem hk];rfl
namespace Lg
def rowsTo (h : List ip) : Nat → List (List Int)
 | 0 => List.replicate (idx h.length).toNat zL
 | k + 1 => (rowsTo h k).set (k / 8) (((rowsTo h k).getD (k / 8) zL).set (k % 8) (h.getD k zH).1) ++ [(h.getD k zH).2]
def putRows (s : Shape) : List (List Int) → Nat → Mem → Int → Int × Mem × Int
 | [], _, m, puts => (0, m, puts)
 | d :: r, i, m, puts =>
  if (Trn.put s m puts i d).1 = 0 then putRows s r (i + 1) (Trn.put s m puts i d).2.1 (Trn.put s m puts i d).2.2 else Trn.put s m puts i d
def sealed (s : Shape) (h : List ip) (m : Mem) (puts : Int) : Int × Mem × Int :=
 if (Nvm.set m 1 h.length).1 = 0 then finish s h (Nvm.set m 1 h.length).2 puts else ((Nvm.set m 1 h.length).1, (Nvm.set m 1 h.length).2, puts)
def commit (s : Shape) (h : List ip) (m : Mem) (puts : Int) : Int × Mem × Int :=
 if !mayH s.n h then (1, m, puts)
 else if m.down then (2, m, puts)
 else if (Nvm.reg m 1).1 ≠ 0 then (5, m, puts)
 else if (putRows s (rowsTo h h.length) 0 m puts).1 = 0 then sealed s h (putRows s (rowsTo h h.length) 0 m puts).2.1 (putRows s (rowsTo h h.length) 0 m puts).2.2
 else putRows s (rowsTo h h.length) 0 m puts
theorem rowsTo_length (h : List ip) : ∀ k, (rowsTo h k).length = (idx h.length).toNat + k
 | 0 => by simp [rowsTo]
 | k + 1 => by simp [rowsTo, rowsTo_length h k]; omega
end Lg
section
variable {w : World} {M C L T G : Nat} {s : Shape} {m : Mem} {puts : Int}
theorem qcm : (Tryz.prog.info? 25).map (·.size) = some 1 := by kernel_rfl
theorem qct (h : TurnAt w M C L T s m puts) (hG : iv w G M T) (hng : ¬ MCT M C T G) (hn : 17 ≤ s.n) (hs : List ip) (hl : hs.length ≤ 1000000) (hb : ∀ x ∈ hs, -1 ≤ x.1 ∧ x.1 ≤ 1000000) (hv : m.regs.getD 0 0 + 40 ≤ 4611686018427387904) (base : Nat) (ok : Nat → Prop) (A : Option Addr) (c : Nat) (hr : Kd.R ui 151 w base ok (.slice A hs.length c) hs) (hbase : ∀ j, base ≤ j → ¬ MCT M C T j) : Calls Tryz.prog 143 #[.pointer (some ⟨G, 0, none⟩), .slice A hs.length c] w fun e w' => e = .returned (.int .i64 (Lg.commit s hs m puts).1) ∧ TurnAt w' M C L T s (Lg.commit s hs m puts).2.1 (Lg.commit s hs m puts).2.2 ∧ ah (MCT M C T) w w' := by
 have H := am h;have HG := am hG;have HNG := am hng;have HR := am hr;have HBs := am hbase;have HLt := am h.lt;have HBb := am hb;have hn2 := h.ok.n2;have g1 := hG.g1;have g0 := hG.g0;have HMay := am (l5 w s.n base ok A c hs hr hl hb);clear h hG hng hr hbase hb;cases hm : Lg.mayH s.n hs
 ·have E := am (show Lg.commit s hs m puts = (1, m, puts) by unfold Lg.commit; rw [hm]; rfl);rw [hm] at HMay;clear hm;rw [E.out];go_enter Tryz.func143, Tryz.ntmps143;go_wp2_with (first
   | (go_at_call 90; (with_reducible refine (fc H.out).mono ?_); rintro e w7 ⟨rfl, rfl⟩)
   | (go_at_call 92; (with_reducible refine HMay.out.mono ?_); rintro e w3 ⟨rfl, hb⟩; have HB3 := am hb; clear hb))
  go_ret;exact ⟨rfl, H.out.below HB3.out, ah.of_below HB3.out⟩
 ·have HLines := am (mr hm);have hlen := su hm;have HM := am hm;rw [hm] at HMay;clear hm;cases hd : m.down;rotate_left
  ·have E := am (show Lg.commit s hs m puts = (2, m, puts) by unfold Lg.commit; rw [HM.out, hd]; rfl);have HD := am hd;clear hd;rw [E.out];go_enter Tryz.func143, Tryz.ntmps143;go_wp2_with (first
    | (go_at_call 90; (with_reducible refine (fc H.out).mono ?_); rintro e w7 ⟨rfl, rfl⟩)
    | (go_at_call 92; (with_reducible refine HMay.out.mono ?_); rintro e w3 ⟨rfl, hb⟩; have HB3 := am hb; have H3 := am (H.out.below hb); have G3 := am (HG.out.below hb); clear hb g0 g1; have g0 := G3.out.g0; have g1 := G3.out.g1)
    | (go_at_call 30; (with_reducible refine (jv H3.out.mem).mono ?_); rintro e w4 ⟨rfl, rfl⟩; rw [HD.out]))
   go_ret;exact ⟨rfl, H.out.below HB3.out, ah.of_below HB3.out⟩
  ·have HD := am hd;by_cases hp : (Nvm.reg m 1).1 = 0;rotate_left
   ·have E := am (show Lg.commit s hs m puts = (5, m, puts) by unfold Lg.commit; rw [HM.out, hd, if_neg (by decide), if_neg (by decide), if_pos hp]);have HP := am (show ((Nvm.reg m 1).1 != 0) = true from bne_iff_ne.2 hp);clear hd hp;rw [E.out];go_enter Tryz.func143, Tryz.ntmps143;go_wp2_with (first
     | (go_at_call 90; (with_reducible refine (fc H.out).mono ?_); rintro e w7 ⟨rfl, rfl⟩)
     | (go_at_call 92; (with_reducible refine HMay.out.mono ?_); rintro e w3 ⟨rfl, hb⟩; have HB3 := am hb; have H3 := am (H.out.below hb); have G3 := am (HG.out.below hb); clear hb g0 g1; have g0 := G3.out.g0; have g1 := G3.out.g1)
     | (go_at_call 30; (with_reducible refine (jv H3.out.mem).mono ?_); rintro e w4 ⟨rfl, rfl⟩; rw [HD.out])
     | (go_at_call 60; (with_reducible refine (p6 H3.out.mem G3.out).mono ?_); rintro e w4 ⟨rfl, rfl⟩; rw [HP.out]))
    go_ret;exact ⟨rfl, H.out.below HB3.out, ah.of_below HB3.out⟩
   ·have E := am (show Lg.commit s hs m puts = if (Lg.putRows s (Lg.rowsTo hs hs.length) 0 m puts).1 = 0 then Lg.sealed s hs (Lg.putRows s (Lg.rowsTo hs hs.length) 0 m puts).2.1 (Lg.putRows s (Lg.rowsTo hs hs.length) 0 m puts).2.2 else Lg.putRows s (Lg.rowsTo hs hs.length) 0 m puts by unfold Lg.commit; rw [HM.out, hd, if_neg (by decide), if_neg (by decide), if_neg (by omega)]);have HP := am (show ((Nvm.reg m 1).1 != 0) = false from by rw [hp]; rfl);clear hd hp;generalize Lg.commit s hs m puts = RR at E ⊢;have HIdx := am (qdl (n := hs.length) (by omega) (by omega));have hix : 0 ≤ Lg.idx hs.length ∧ Lg.idx hs.length ≤ 2 := by unfold Lg.idx; omega
    go_enter Tryz.func143, Tryz.ntmps143;go_wp2_with (first
     | (go_at_call 90; (with_reducible refine (fc H.out).mono ?_); rintro e w7 ⟨rfl, rfl⟩)
     | (go_at_call 92; (with_reducible refine HMay.out.mono ?_); rintro e w3 ⟨rfl, hb⟩; have HB3 := am hb; have H3 := am (H.out.below hb); have G3 := am (HG.out.below hb); clear hb g0 g1; have g0 := G3.out.g0; have g1 := G3.out.g1)
     | (go_at_call 30; (with_reducible refine (jv H3.out.mem).mono ?_); rintro e w4 ⟨rfl, rfl⟩; rw [HD.out])
     | (go_at_call 60; (with_reducible refine (p6 H3.out.mem G3.out).mono ?_); rintro e w4 ⟨rfl, rfl⟩; rw [HP.out])
     | (go_at_call 135; (with_reducible refine (nb.calls (hs.length : Int) (Lg.idx hs.length) _ HIdx.out).mono ?_); rintro e w4 ⟨rfl, ⟨nd, rfl⟩⟩; have HB4 := am (bg HB3.out nd))
     | ((with_reducible refine bn (N := 37) rfl ?_); refine wj rfl (.tmp 36) (.const (.int .i64 16)) rfl (Lg.idx hs.length).toNat ?hx rfl (by omega) w.heap.size HB4.out HB4.out.size ?_; (case hx => rw [show (((Lg.idx hs.length).toNat : Nat) : Int) = Lg.idx hs.length by omega]; rfl); intro w5 ho hb hb2; have HO := am ho; have HB5 := am hb; clear ho hb hb2))
    clear g0 g1;have hrl := Lg.rowsTo_length hs;have HRL := am hrl;clear hrl;go_loopw [5, 40] (fun v i wr => ∃ k : Nat, i = .int .i64 k ∧ k ≤ hs.length ∧ Aside0 (Kd.R ss 73 wr w.heap.size (fun _ => True) v (Lg.rowsTo hs k)) ∧ Aside0 (Below w.heap.size w wr)) (fun _ i _ => hs.length - (intOf i).toNat)
    case atStart => exact ⟨0, rfl, by omega, HO, HB5⟩
    case round =>
     clear HO HB5;obtain ⟨k, rfl, hk, HO, HB⟩ := hrel;by_cases hlt : k < hs.length
     ·have d3 : decide ((k : Int) < hs.length) = true := decide_eq_true (by omega);obtain ⟨g, ea, h8, hx⟩ := homeAt (Kd.R_below HR.out HB.out) rfl k hlt;subst ea;have HX := am hx;have H8 := am h8;have HXB := am (HLines.out (hs.getD k zH) (by rw [List.getD_eq_getElem?_getD, List.getElem?_eq_getElem hlt]; exact List.getElem_mem _));have HSu : Aside0 (Lg.rowsTo hs (k + 1) = (Lg.rowsTo hs k).set (k / 8) (((Lg.rowsTo hs k).getD (k / 8) zL).set (k % 8) (hs.getD k zH).1) ++ [(hs.getD k zH).2]) := ⟨rfl⟩;clear hx h8;generalize hs.getD k zH = x at HX H8 HXB HSu;have hlk := HRL.out k;have hk14 : k / 8 < (Lg.idx hs.length).toNat := by unfold Lg.idx; omega
      obtain ⟨gr, cap, ev, hgr, _, _⟩ := Kd.R_form HO.out (by rw [hlk]; omega);subst ev;have HLk := am hlk;have HNn : Aside0 (k / 8 < (Lg.rowsTo hs k).length) := ⟨by omega⟩;clear hlk;generalize hrw : Lg.rowsTo hs k = rw_ at HO HLk HSu HNn;generalize hnn : rw_.length = nn at HO HLk HNn;have HNN := am hnn;clear hrw hnn;go_wp2_with (first
       | ((with_reducible refine ez (.load 151 (.tmp 43)) rfl ?_); refine aq rfl 151 (.tmp 43) rfl g (k * 9) rfl (ct x) _ HX.out Tryz.underlying151 rfl (by rw [ca H8.out]; exact iz) ?_)
       | ((with_reducible refine bf (t := 151) (p := 7) rfl ?_); refine kc rfl (.tmp 7) (.tmp 44) rfl x rfl rfl H8.out ?_; intro w6 BZ HZ))
      refine dy (n := 11) (S := fun w' => w'.heap[wr.heap.size]? = some (.cells (ct x).toArray 151 (0, 0))) (ds := [10]) (onA 11 0) (by kernel_rfl) rfl rfl BZ.out (fun hHeld => ?_);refine pu 0 (some 45) (bA 11 1) (h := ?_);refine pu 1 (some 46) (bA 11 3) (h := ?_);refine pu (v := .int .i64 ((k / 8 : Nat) : Int)) 2 (some 47) (bA 11 7) (hy := by intro w'; go_simp; rw [IntKind.wrap_i64]; omega) (h := ?_);refine pu 3 (some 48) (bA 11 15) (h := ?_);refine pu (v := .int .i64 ((k % 8 : Nat) : Int)) 4 (some 49) (bA 11 31) (hy := by intro w'; go_simp; exact Int.tmod_eq_emod_of_nonneg (by omega)) (h := ?_);refine pu 5 (some 50) (bA 11 63) (h := ?_);refine pu 8 (some 53) (bA 11 319) (hy := fun w' => qx 197 (.tmp 45) (.tmp 47) rfl gr nn cap (k / 8) rfl rfl 73 8 Tryz.underlying197 cj HNn.out) (h := ?_);refine tv 6 (some 51) (bA 11 383) rfl hHeld (fun w' hs => bc 3 (.tmp 50) rfl wr.heap.size 0 (.int .i64 x.1) rfl ((af hs 0).trans rfl) _ Tryz.underlying3 rfl) (h := ?_);refine pu (v := .int .u64 x.1) 7 (some 52) (bA 11 511) (hy := by intro w'; go_simp; rw [IntKind.wrap_u64]; have := HXB.out; omega) (h := ?_);refine pu 9 (some 54) (bA 11 1023) (hy := fun w' => zz 73 (.tmp 53) (.tmp 49) rfl gr (k / 8 * 8) (k % 8) rfl rfl 25 8 Tryz.underlying73 qcm (by omega)) (h := ?_);refine jr (i := 10) (N := none) (bA 11 2047) rfl rfl (by kernel_rfl) (by decide) (fun K hK => ?_);have HO6 := am (Kd.R_drew (Kd.R_below HO.out HZ.out));have HB6 := am (bm (ab HB.out HZ.out));have BZ6 := am (ay BZ.out);have hgl : gr < wr.heap.size := Kd.R_lt HO.out gr (by simp [Value.ownBlock]);refine p3 (by rfl) rfl (mh 25 (.tmp 54) (.tmp 52) rfl gr (k / 8 * 8 + k % 8) (.int .u64 x.1) rfl rfl rfl rfl (qbm HO6.out (k / 8) (k % 8) HNn.out (by omega)).1 (qbm HO6.out (k / 8) (k % 8) HNn.out (by omega)).2 qcm) ?_;refine hK.out _ _ ?_;clear hK K hHeld;refine fp (by kernel_rfl) ?_;have HO7 := am (qe8 HO6.out (k / 8) (k % 8) HNn.out (by omega) x.1);have HB7 := am (ao (j := k / 8 * 8 + k % 8) (v := .int .u64 x.1) HB6.out hgr);have BZ7 : Aside0 ((w6.drew.setCell ⟨gr, k / 8 * 8 + k % 8, none⟩ (.int .u64 x.1)).heap[wr.heap.size]? = some (.cells (ct x).toArray 151 (0, 0))) := ⟨by rw [Below.heap_setCell _ _ _ _ (by show wr.heap.size ≠ gr; omega)]; exact BZ6.out⟩;clear HO6 HB6 BZ6 BZ HZ HO HB HX;generalize w6.drew.setCell ⟨gr, k / 8 * 8 + k % 8, none⟩ (.int .u64 x.1) = w7 at HO7 HB7 BZ7 ⊢;generalize hq : rw_.set (k / 8) ((rw_.getD (k / 8) zL).set (k % 8) x.1) = q_ at HO7 HSu;have HQ : Aside0 (q_.length = nn) := ⟨by rw [← hq, List.length_set]; exact HNN.out⟩;clear hq;go_wp2_with (first
       | ((with_reducible refine ez (.load 73 (.tmp 56)) rfl ?_); refine aq rfl 73 (.tmp 56) rfl wr.heap.size 1 rfl (bb x.2) _ (fun j v hv => by rw [Nat.add_comm 1 j]; exact bh BZ7.out (j + 1) v (by simpa [ct] using hv)) Tryz.underlying73 rfl (by rw [an, H8.out]; exact cj) ?_)
       | ((with_reducible refine bn (N := 58) rfl ?_); refine yl rfl (.tmp 57) rfl x.2 H8.out rfl ?_)
       | ((with_reducible refine dn (b := .append) (xs := #[.tmp 55, .tmp 58]) rfl ?_); at_builtin; refine Kd.R_append ss (w0 := w) w.heap.size rfl (.tmp 55) (.tmp 58) 197 73 (.agg bp) 64 rfl Tryz.underlying197 qee rfl (by decide) (by omega) _ q_ x.2 (bb x.2) (fun _ => True) (fun _ => False) rfl rfl ?aP (fun _ hk => hk.elim) ?aF HO7.out HB7.out (ba HB7.out) ?aL ?_; (case aP => exact ⟨rfl, H8.out⟩); (case aF => exact (fun _ _ => trivial)); (case aL => (have := HQ.out; have := HLk.out; omega)); intro v1 w8 ho hb hg hat; have HO8 := am ho; have HB8 := am hb; clear ho hb hg hat))
      go_roundw
      case rel => exact ⟨k + 1, by go_num, by omega, ⟨by rw [HSu.out]; exact HO8.out⟩, HB8⟩
      case measure => simp [intOf]; omega
     ·have hkk : k = hs.length := by omega
      subst hkk;have d3 : decide ((hs.length : Int) < hs.length) = false := decide_eq_false (by omega);have hlk := HRL.out hs.length;obtain ⟨Ar, cr, er⟩ := Kd.R_slice HO.out;subst er;have HRows := am (show Lg.rowsTo hs hs.length = Lg.rowsTo hs hs.length from rfl);generalize Lg.rowsTo hs hs.length = rows at HO E hlk;generalize hPP : Lg.putRows s rows 0 m puts = PP at E;have HPP := am hPP;clear hPP HRows;have H1 := am (H.out.below HB.out);have G1 := am (HG.out.below HB.out);have KW : Aside0 (ah (MCT M C T) w wr) := ⟨ah.of_below HB.out⟩;have hrl : rows.length ≤ 16 := by rw [hlk]; unfold Lg.idx; omega
      clear hlk;go_wp2;obtain ⟨wo, hwo⟩ : ∃ z, z = wr := ⟨_, rfl⟩;subst hwo;go_loopw [63] (fun i wr2 => ∃ (k : Nat) (mm : Mem) (pp : Int), i = .int .i64 k ∧ k ≤ rows.length ∧ Aside0 (TurnAt wr2 M C L T s mm pp) ∧ Aside0 (ah (MCT M C T) wo wr2) ∧ Aside0 (mm.regs.getD 0 0 ≤ m.regs.getD 0 0 + k) ∧ Aside0 (Lg.putRows s (rows.drop k) k mm pp = PP)) (fun i _ => rows.length - (intOf i).toNat)
      case atStart => exact ⟨0, m, puts, rfl, by omega, H1, ⟨ah.refl _ _⟩, ⟨by omega⟩, HPP⟩
      case round =>
       clear H1;obtain ⟨k, mm, pp, rfl, hk, H1, K1, HV1, HE⟩ := hrel;by_cases hlt : k < rows.length
       ·have d4 : decide ((k : Int) < rows.length) = true := decide_eq_true (by omega);have HRow := am (pd HO.out K1.out HLt.out);have G2 := am (G1.out.kept K1.out HNG.out);obtain ⟨g, ea, h8, hx⟩ := lineAt HRow.out rfl k hlt;subst ea;have HX := am hx;have H8 := am h8;clear hx h8;have HDr := am (qgp hlt);generalize rows.getD k zL = d at HX H8 HDr;go_wp2_with (first
         | ((with_reducible refine ez (.load 73 (.tmp 66)) rfl ?_); refine aq rfl 73 (.tmp 66) rfl g (k * 8) rfl (bb d) _ HX.out Tryz.underlying73 rfl (by rw [an, H8.out]; exact cj) ?_)
         | ((with_reducible refine bf (t := 73) (p := 9) rfl ?_); refine mc rfl (.tmp 9) (.tmp 67) rfl d rfl rfl H8.out ?_; intro w6 BZ HZ))
        have H5 := am (H1.out.below HZ.out);have G5 := am (G2.out.below HZ.out);refine dy (n := 8) (S := fun w' => w'.cell? ⟨G, 1, none⟩ = some (.pointer (some ⟨T, 0, none⟩)) ∧ w'.heap[wr.heap.size]? = some (.cells (bb d).toArray 73 (0, 0))) (ds := [6]) (onA 8 0) (by kernel_rfl) rfl rfl ⟨G5.out.g1, BZ.out⟩ (fun hHeld => ?_);refine pu 0 (some 68) (bA 8 1) (h := ?_);refine pu 1 (some 69) (bA 8 3) (h := ?_);refine pu 2 (some 70) (bA 8 7) (h := ?_);refine pu 4 (some 72) (bA 8 23) (h := ?_);refine tv 3 (some 71) (bA 8 31) rfl hHeld (fun w' hs => bc 79 (.tmp 70) rfl G 1 _ rfl hs.1 _ Tryz.underlying79 rfl) (h := ?_);refine tv 5 (some 73) (bA 8 63) rfl hHeld (fun w' hs => bv 73 (.tmp 9) rfl wr.heap.size 0 rfl (bb d) _ (fun j v hv => by rw [Nat.zero_add]; exact bh hs.2 j v hv) Tryz.underlying73 rfl (by rw [an, H8.out]; exact cj)) (h := ?_);refine jr (i := 6) (N := some 74) (bA 8 127) rfl rfl (by kernel_rfl) (by decide) (fun K hK => ?_);refine dw Tryz.func42 (by kernel_rfl) rfl #[.pointer (some ⟨T, 0, none⟩), .int .i64 k, gm d] (by rfl) rfl rfl (by simp only [List.map_toArray, List.map_cons, List.map_nil]; rfl) ?_;refine (ut H5.out.drew (by have := HV1.out; omega) (line := (k : Int)) (by omega) (by omega) d H8.out).mono ?_;rintro e w9 ⟨rfl, h6_, k6_⟩;refine ⟨_, rfl, ?_⟩;refine hK.out _ _ ?_;clear hK K hHeld;have HVx := am (zi H1.out (line := (k : Int)) (by omega) (by omega) d);have K9 : Aside0 (ah (MCT M C T) wo w9) := ⟨(K1.out.step (ah.of_below HZ.out)).step ((ah.refl (MCT M C T) w6).drew.step k6_)⟩;generalize hpt : Trn.put s mm pp (k : Int) d = pt at h6_ HVx ⊢;have HPT := am hpt;clear hpt;have H9 := am h6_;clear h6_ k6_;refine pu 7 (some 10) (bA 8 255) (h := ?_);refine fp (by kernel_rfl) ?_;clear H5 G5 BZ HZ HX HRow H1 K1 G2;obtain ⟨pe, m2, p2⟩ := pt;by_cases c0 : pe = 0
        ·subst c0;have E1 : Aside0 (Lg.putRows s (rows.drop (k + 1)) (k + 1) m2 p2 = PP) := ⟨by rw [← HE.out, HDr.out, Lg.putRows, HPT.out]; rfl⟩;go_wp2;go_roundw
         case rel => exact ⟨k + 1, m2, p2, by go_num, by omega, H9, K9, ⟨by have := HV1.out; have := HVx.out; dsimp only at this; omega⟩, E1⟩
         case measure => simp [intOf]; omega
        ·have b0 : (pe != 0) = true := bne_iff_ne.2 c0;have E1 : Aside0 (RR = (pe, m2, p2)) := ⟨by
          have e : PP = (pe, m2, p2) := by rw [← HE.out, HDr.out, Lg.putRows, HPT.out, if_neg c0]
          rw [E.out, e, if_neg c0]⟩
         go_wp2;go_ret;rw [E1.out];exact ⟨rfl, H9.out, KW.out.step K9.out⟩
       ·have hkk : k = rows.length := by omega
        subst hkk;have d4 : decide ((rows.length : Int) < rows.length) = false := decide_eq_false (by omega);have G2 := am (G1.out.kept K1.out HNG.out);have g0 := G2.out.g0;have E1 : Aside0 (RR = Lg.sealed s hs mm pp) := ⟨by
         have e : PP = (0, mm, pp) := by rw [← HE.out, List.drop_length]; rfl
         rw [E.out, e, if_pos rfl]⟩
        have hw : IntKind.u64.wrap (hs.length : Int) = hs.length := by rw [IntKind.wrap_u64]; omega
        have KA : Aside0 (ah (MCT M C T) w wr) := ⟨KW.out.step K1.out⟩;have HRe := am (pd HR.out KA.out HBs.out);generalize hst : Nvm.set mm 1 hs.length = st;have HST := am hst;clear hst;have HRk : Aside0 (e9 st.2) := ⟨by rw [← HST.out]; exact py H1.out.regs 1 (by omega) (by omega)⟩;have HV0 : Aside0 (st.2.regs.getD 0 0 = mm.regs.getD 0 0) := ⟨by rw [← HST.out]; exact mu _ _ _ _ (by decide)⟩;obtain ⟨se, m3⟩ := st;dsimp only at HRk HV0;by_cases c0 : se = 0
        ·subst c0;have E2 : Aside0 (RR = Lg.finish s hs m3 pp) := ⟨by rw [E1.out, Lg.sealed, HST.out]; rfl⟩;go_wp2_with (first
          | (go_at_call 107; (with_reducible refine (lq H1.out.mem 1 (hs.length : Int)).mono ?_); rintro e w8 ⟨rfl, h8_, k8_⟩; rw [HST.out] at h8_ ⊢; dsimp only at h8_ ⊢; have H8 := am (H1.out.step h8_ k8_ HRk.out (by have := HV0.out; have := H1.out.mv; omega)); have K8 : Aside0 (ah (MCT M C T) w w8) := ⟨KA.out.step k8_.MCT⟩; clear h8_ k8_)
          | (go_at_call 93; (with_reducible refine (vo H8.out (HG.out.kept K8.out HNG.out) HNG.out hs (by have := HV0.out; have := HV1.out; omega) (by omega) base ok _ c (pd HR.out K8.out HBs.out) HBs.out (fun x hx => by have := HLines.out x hx; omega)).mono ?_); rintro e w9 ⟨rfl, h9_, k9_⟩))
         go_ret;rw [E2.out];exact ⟨rfl, h9_, K8.out.step k9_⟩
        ·have b0 : (se != 0) = true := bne_iff_ne.2 c0;have E2 : Aside0 (RR = (se, m3, pp)) := ⟨by rw [E1.out, Lg.sealed, HST.out, if_neg c0]⟩;go_wp2_with (first
          | (go_at_call 107; (with_reducible refine (lq H1.out.mem 1 (hs.length : Int)).mono ?_); rintro e w8 ⟨rfl, h8_, k8_⟩; rw [HST.out] at h8_ ⊢; dsimp only at h8_ ⊢; have H8 := am (H1.out.step h8_ k8_ HRk.out (by have := HV0.out; have := H1.out.mv; omega)); have K8 : Aside0 (ah (MCT M C T) w w8) := ⟨KA.out.step k8_.MCT⟩; clear h8_ k8_))
         go_ret;rw [E2.out];exact ⟨rfl, H8.out, K8.out⟩
end
structure CBlk where
 K : Nat
 NB : Nat
 KB : Nat
 c1 : Nat
 c2 : Nat
def CBlk.At (q : CBlk) (k : Nat) : Prop := k = q.K ∨ k = q.NB ∨ k = q.KB
structure CntAt (w : World) (q : CBlk) (b : Int) (now kept : List Int) : Prop where
 box : w.heap[q.K]? = some (.cells #[.int .i64 b, .slice (some ⟨q.NB, 0, none⟩) now.length q.c1, .slice (some ⟨q.KB, 0, none⟩) kept.length q.c2] 141 (0, 0))
 nr : Kd.R (Kd.int .i64) 3 w 0 (fun k => k = q.NB) (.slice (some ⟨q.NB, 0, none⟩) now.length q.c1) now
 kr : Kd.R (Kd.int .i64) 3 w 0 (fun k => k = q.KB) (.slice (some ⟨q.KB, 0, none⟩) kept.length q.c2) kept
 n1 : q.K ≠ q.NB
 n2 : q.K ≠ q.KB
 n3 : q.NB ≠ q.KB
 len : kept.length = now.length
section
variable {w : World} {q : CBlk} {b : Int} {now kept : List Int}
theorem CntAt.step (h : CntAt w q b now kept) {w' : World} {S : Nat → Prop} (k : ah S w w') (hS : ∀ j, q.At j → ¬ S j) : CntAt w' q b now kept :=
 ⟨k.of h.box (hS _ (.inl rfl)), Kd.R_step h.nr (fun j hj hlt => k.block j hlt (by subst hj; exact hS _ (.inr (.inl rfl)))), Kd.R_step h.kr (fun j hj hlt => k.block j hlt (by subst hj; exact hS _ (.inr (.inr rfl)))), h.n1, h.n2, h.n3, h.len⟩
theorem CntAt.below (h : CntAt w q b now kept) {w' : World} (hb : Below w.heap.size w w') : CntAt w' q b now kept := h.step (S := fun _ => False) (ah.of_below hb) (fun _ _ => id)
theorem CntAt.k0 (h : CntAt w q b now kept) : w.cell? ⟨q.K, 0, none⟩ = some (.int .i64 b) := (af h.box 0).trans rfl
theorem CntAt.k1 (h : CntAt w q b now kept) : w.cell? ⟨q.K, 1, none⟩ = some (.slice (some ⟨q.NB, 0, none⟩) now.length q.c1) := (af h.box 1).trans rfl
theorem CntAt.k2 (h : CntAt w q b now kept) : w.cell? ⟨q.K, 2, none⟩ = some (.slice (some ⟨q.KB, 0, none⟩) kept.length q.c2) := (af h.box 2).trans rfl
theorem ir {w : World} {base g n cap : Nat} {ok : Nat → Prop} {xs : List Int} (h : Kd.R (Kd.int .i64) 3 w base ok (.slice (some ⟨g, 0, none⟩) n cap) xs) (p : Nat) (hp : p < n) : w.cell? ⟨g, p, none⟩ = some (.int .i64 (xs.getD p 0)) ∧ w.frozen? ⟨g, p, none⟩ = false := by
 obtain ⟨c, hc8, hM, hcc, hf⟩ := Kd.R_elem h 0 (p : Int) (by omega) (by omega);rw [Int.toNat_natCast] at hcc hf hM;have e : c = [Value.int .i64 (xs.getD p 0)] := hM;subst e;have h1 := hcc 0 _ rfl;have h2 := hf 0;have e1 : p * (Kd.int .i64).sz + 0 = p := by show p * 1 + 0 = p; omega
 rw [e1] at h1 h2;exact ⟨h1, h2⟩
theorem CntAt.setNow (h : CntAt w q b now kept) (p : Nat) (hp : p < now.length) (v : Int) : CntAt (w.setCell ⟨q.NB, p, none⟩ (.int .i64 v)) q b (now.set p v) kept := by
 have e := Kd.R_put h.nr (p : Int) v;rw [Int.toNat_natCast] at e;refine ⟨?_, by rw [List.length_set]; exact e.1, ?_, h.n1, h.n2, h.n3, by rw [List.length_set]; exact h.len⟩
 ·rw [Below.heap_setCell _ _ _ _ (fun e => h.n1 e), List.length_set]; exact h.box
 ·exact Kd.R_step h.kr (fun j hj _ => Below.heap_setCell _ _ _ _ (fun e => h.n3 (by rw [← hj]; exact e.symm)))
theorem CntAt.setKept (h : CntAt w q b now kept) (p : Nat) (hp : p < kept.length) (v : Int) : CntAt (w.setCell ⟨q.KB, p, none⟩ (.int .i64 v)) q b now (kept.set p v) := by
 have e := Kd.R_put h.kr (p : Int) v;rw [Int.toNat_natCast] at e;refine ⟨?_, ?_, by rw [List.length_set]; exact e.1, h.n1, h.n2, h.n3, by rw [List.length_set]; exact h.len⟩
 ·rw [Below.heap_setCell _ _ _ _ (fun e => h.n2 e), List.length_set]; exact h.box
 ·exact Kd.R_step h.nr (fun j hj _ => Below.heap_setCell _ _ _ _ (fun e => h.n3 (by rw [← hj]; exact e)))
end
theorem qlw : (Tryz.prog.info? 3).map (·.size) = some 1 := by kernel_rfl
theorem l9 {o : Oper} {a : Act} {w : World} (ty : TypeId) (x i : Operand) (ho : o.op = .indexAddr ty x i) (g n c k : Nat) (hx : a.eval x = .slice (some ⟨g, 0, none⟩) n c) (hi : a.eval i = .int .i64 k) (hu : Tryz.prog.underlying ty = some (.slice 3)) (hk : k < n) : (execOp a.eval o).run Tryz.prog w = .ok (.value (.pointer (some ⟨g, k, none⟩))) w := by
 have e := qx (w := w) ty x i ho g n c k hx hi 3 1 hu qlw hk
 rwa [Nat.mul_one] at e
namespace Cnt
def lag (now kept : List Int) (p : Nat) : Int := wrap64 (now.getD p 0 - kept.getD p 0)
def note (b : Int) (now kept : List Int) (p : Nat) : Int × Bool × List Int × List Int :=
 (wrap64 (now.getD p 0 + 1), decide (b ≤ lag (now.set p (wrap64 (now.getD p 0 + 1))) kept p), now.set p (wrap64 (now.getD p 0 + 1)),
  if b ≤ lag (now.set p (wrap64 (now.getD p 0 + 1))) kept p then kept.set p (wrap64 (now.getD p 0 + 1)) else kept)
end Cnt
section
variable {w : World} {q : CBlk} {b : Int} {now kept : List Int}
theorem wm (h : CntAt w q b now kept) (p : Nat) : Calls Tryz.prog 167 #[.pointer (some ⟨q.K, 0, none⟩), .int .i64 p] w fun e w' => e = .returned (.bool (decide (p < now.length))) ∧ w = w' := by
 have k1 := h.k1;clear h;have d0 : decide ((p : Int) ≥ 0) = true := decide_eq_true (by omega);go_enter Tryz.func167, Tryz.ntmps167;go_wp2;go_ret;exact ⟨by simp, rfl⟩
theorem qge (h : CntAt w q b now kept) (p : Nat) (hp : p < now.length) : Calls Tryz.prog 168 #[.pointer (some ⟨q.K, 0, none⟩), .int .i64 p] w fun e w' => e = .returned (.int .i64 (Cnt.lag now kept p)) ∧ Below w.heap.size w w' := by
 have H := am h;have HN := am (ir h.nr p hp).1;have HK := am (ir h.kr p (by rw [h.len]; exact hp)).1;have d0 : decide (p < now.length) = true := decide_eq_true hp;have hp2 := h.len;have HL := am hp2;have HLag := am (show Cnt.lag now kept p = wrap64 (now.getD p 0 - kept.getD p 0) from rfl);generalize now.getD p 0 = nv at HN HLag;generalize kept.getD p 0 = kv at HK HLag;clear h hp2;go_enter Tryz.func168, Tryz.ntmps168;go_wp2_with (first | (go_at_call 167; (with_reducible refine (wm H.out p).mono ?_); rintro e w1 ⟨rfl, rfl⟩; rw [d0]))
 refine dy (n := 16) (S := fun w' => w'.cell? ⟨q.K, 1, none⟩ = some (.slice (some ⟨q.NB, 0, none⟩) now.length q.c1) ∧ w'.cell? ⟨q.K, 2, none⟩ = some (.slice (some ⟨q.KB, 0, none⟩) kept.length q.c2) ∧ w'.cell? ⟨q.NB, p, none⟩ = some (.int .i64 nv) ∧ w'.cell? ⟨q.KB, p, none⟩ = some (.int .i64 kv)) (ds := []) (onA 16 0) (by kernel_rfl) rfl rfl ⟨H.out.k1, H.out.k2, HN.out, HK.out⟩ (fun hHeld => ?_);refine pu 0 (some 9) (bA 16 1) (h := ?_);refine pu 1 (some 10) (bA 16 3) (h := ?_);refine pu 2 (some 11) (bA 16 7) (h := ?_);refine pu 4 (some 13) (bA 16 23) (h := ?_);refine pu 7 (some 16) (bA 16 151) (h := ?_);refine pu 8 (some 17) (bA 16 407) (h := ?_);refine pu 9 (some 18) (bA 16 919) (h := ?_);refine pu 11 (some 20) (bA 16 2967) (h := ?_);refine tv 3 (some 12) (bA 16 2975) rfl hHeld (fun w' hs => bc 44 (.tmp 11) rfl q.K 1 _ rfl hs.1 _ Tryz.underlying44 rfl) (h := ?_);refine pu 5 (some 14) (bA 16 3007) (hy := fun w' => l9 44 (.tmp 12) (.tmp 13) rfl q.NB _ _ p rfl rfl Tryz.underlying44 hp) (h := ?_);refine tv 6 (some 15) (bA 16 3071) rfl hHeld (fun w' hs => bc 3 (.tmp 14) rfl q.NB p _ rfl hs.2.2.1 _ Tryz.underlying3 rfl) (h := ?_);refine tv 10 (some 19) (bA 16 4095) rfl hHeld (fun w' hs => bc 44 (.tmp 18) rfl q.K 2 _ rfl hs.2.1 _ Tryz.underlying44 rfl) (h := ?_);refine pu 12 (some 21) (bA 16 8191) (hy := fun w' => l9 44 (.tmp 19) (.tmp 20) rfl q.KB _ _ p rfl rfl Tryz.underlying44 (by rw [HL.out]; exact hp)) (h := ?_);refine tv 13 (some 22) (bA 16 16383) rfl hHeld (fun w' hs => bc 3 (.tmp 21) rfl q.KB p _ rfl hs.2.2.2 _ Tryz.underlying3 rfl) (h := ?_);refine pu 14 (some 23) (bA 16 32767) (h := ?_);refine pu 15 (some 4) (bA 16 65535) (h := ?_);refine fp (by kernel_rfl) ?_;go_wp2;go_ret;rw [HLag.out];exact ⟨rfl, rm (Below.refl _ _)⟩
theorem y8 (h : CntAt w q b now kept) (p : Nat) (hp : p < now.length) : Calls Tryz.prog 144 #[.pointer (some ⟨q.K, 0, none⟩), .int .i64 p] w fun e w' => e = .returned (.tuple #[.int .i64 (Cnt.note b now kept p).1, .bool (Cnt.note b now kept p).2.1]) ∧ CntAt w' q b (Cnt.note b now kept p).2.2.1 (Cnt.note b now kept p).2.2.2 ∧ ah q.At w w' := by
 have H := am h;have hcN := (ir h.nr p hp).1;have hfN := (ir h.nr p hp).2;have d0 : decide (p < now.length) = true := decide_eq_true hp;have k1 := h.k1;have HS := am (fun v => h.setNow p hp v);have HL := am h.len;have HNt := am (show Cnt.note b now kept p = (wrap64 (now.getD p 0 + 1), decide (b ≤ Cnt.lag (now.set p (wrap64 (now.getD p 0 + 1))) kept p), now.set p (wrap64 (now.getD p 0 + 1)),
  if b ≤ Cnt.lag (now.set p (wrap64 (now.getD p 0 + 1))) kept p then kept.set p (wrap64 (now.getD p 0 + 1)) else kept) from rfl)
 have HGet : Aside0 (∀ v, (now.set p v).getD p 0 = v) := ⟨fun v => by simp [hp]⟩;clear h;generalize now.getD p 0 = nv at hcN HNt;go_enter Tryz.func144, Tryz.ntmps144;go_wp2_with (first | (go_at_call 167; (with_reducible refine (wm H.out p).mono ?_); rintro e w1 ⟨rfl, rfl⟩; rw [d0]))
 have H1 := am (HS.out (wrap64 (nv + 1)));have K1 : Aside0 (ah q.At w (w.setCell ⟨q.NB, p, none⟩ (.int .i64 (wrap64 (nv + 1))))) := ⟨(ah.refl _ _).set (p := ⟨q.NB, p, none⟩) (.inl (.inr (.inl rfl))) _⟩;have HG1 := am (HGet.out (wrap64 (nv + 1)));have HLn : Aside0 ((now.set p (wrap64 (nv + 1))).length = now.length) := ⟨List.length_set⟩;clear hcN hfN k1 H HS HGet;generalize w.setCell ⟨q.NB, p, none⟩ (.int .i64 (wrap64 (nv + 1))) = w1 at H1 K1 ⊢;generalize wrap64 (nv + 1) = wn at *;generalize now.set p wn = now1 at H1 HG1 HLn HNt;refine dy (n := 9) (S := fun w' => w'.cell? ⟨q.K, 0, none⟩ = some (.int .i64 b)) (ds := []) (onA 9 0) (by kernel_rfl) rfl rfl H1.out.k0 (fun hHeld => ?_);refine pu 0 (some 20) (bA 9 1) (h := ?_);refine pu 1 (some 21) (bA 9 3) (h := ?_);refine pu 3 (some 23) (bA 9 11) (h := ?_);refine pu 4 (some 24) (bA 9 27) (h := ?_);refine pu 5 (some 25) (bA 9 59) (h := ?_);refine tv 6 (some 26) (bA 9 123) rfl hHeld (fun w' hs => bc 3 (.tmp 25) rfl q.K 0 _ rfl hs _ Tryz.underlying3 rfl) (h := ?_);refine gq (i := 2) (N := some 22) (bA 9 127) rfl rfl (by kernel_rfl) (by decide) (fun K hK => ?_);refine dw Tryz.func168 (by kernel_rfl) rfl #[.pointer (some ⟨q.K, 0, none⟩), .int .i64 p] (by rfl) rfl rfl (by simp only [List.map_toArray, List.map_cons, List.map_nil]; rfl) ?_;have H1d := am (H1.out.below (bm (Below.refl _ _)));refine (qge H1d.out p (by rw [HLn.out]; exact hp)).mono ?_;rintro e w2 ⟨rfl, hb⟩;refine ⟨_, rfl, ?_⟩;have H2 := am (H1d.out.below hb);have K2 : Aside0 (ah q.At w w2) := ⟨K1.out.drew.step (ah.of_below hb)⟩;refine hK.out _ _ H2.out.k0 (fun hHeld => ?_);clear hK K hHeld H1 H1d K1 hb;refine pu 7 (some 27) (bA 9 255) (h := ?_);refine pu 8 (some 6) (bA 9 511) (h := ?_);refine fp (by kernel_rfl) ?_;generalize Cnt.lag now1 kept p = lg at HNt;have hcN := (ir H2.out.nr p (by rw [HLn.out]; exact hp)).1;rw [HG1.out] at hcN;have k1 := H2.out.k1;have hlt1 : p < now1.length := by rw [HLn.out]; exact hp
 by_cases c : b ≤ lg
 ·have d1 : decide (b ≤ lg) = true := decide_eq_true c;have E : Aside0 (Cnt.note b now kept p = (wn, decide (b ≤ lg), now1, kept.set p wn)) := ⟨by rw [HNt.out, if_pos c]⟩;clear HNt;go_wp2;refine dy (n := 14) (S := fun w' => w'.cell? ⟨q.K, 1, none⟩ = some (.slice (some ⟨q.NB, 0, none⟩) now1.length q.c1) ∧ w'.cell? ⟨q.K, 2, none⟩ = some (.slice (some ⟨q.KB, 0, none⟩) kept.length q.c2) ∧ w'.cell? ⟨q.NB, p, none⟩ = some (.int .i64 wn)) (ds := [13]) (onA 14 0) (by kernel_rfl) rfl rfl ⟨H2.out.k1, H2.out.k2, hcN⟩ (fun hHeld => ?_);refine pu 0 (some 29) (bA 14 1) (h := ?_);refine pu 1 (some 30) (bA 14 3) (h := ?_);refine pu 2 (some 31) (bA 14 7) (h := ?_);refine pu 4 (some 33) (bA 14 23) (h := ?_);refine pu 5 (some 34) (bA 14 55) (h := ?_);refine pu 6 (some 35) (bA 14 119) (h := ?_);refine pu 7 (some 36) (bA 14 247) (h := ?_);refine pu 9 (some 38) (bA 14 759) (h := ?_);refine tv 3 (some 32) (bA 14 767) rfl hHeld (fun w' hs => bc 44 (.tmp 31) rfl q.K 2 _ rfl hs.2.1 _ Tryz.underlying44 rfl) (h := ?_);refine tv 8 (some 37) (bA 14 1023) rfl hHeld (fun w' hs => bc 44 (.tmp 36) rfl q.K 1 _ rfl hs.1 _ Tryz.underlying44 rfl) (h := ?_);refine pu 10 (some 39) (bA 14 2047) (hy := fun w' => l9 44 (.tmp 37) (.tmp 38) rfl q.NB _ _ p rfl rfl Tryz.underlying44 hlt1) (h := ?_);refine tv 11 (some 40) (bA 14 4095) rfl hHeld (fun w' hs => bc 3 (.tmp 39) rfl q.NB p _ rfl hs.2.2 _ Tryz.underlying3 rfl) (h := ?_);refine pu 12 (some 41) (bA 14 8191) (hy := fun w' => l9 44 (.tmp 32) (.tmp 33) rfl q.KB _ _ p rfl rfl Tryz.underlying44 (by rw [HL.out]; exact hp)) (h := ?_);refine jr (i := 13) (N := none) (bA 14 16383) rfl rfl (by kernel_rfl) (by decide) (fun K hK => ?_);have H3 := am (H2.out.below (bm (Below.refl _ _)));refine p3 (by rfl) rfl (mh 3 (.tmp 41) (.tmp 40) rfl q.KB p (.int .i64 wn) rfl rfl rfl rfl (by rw [(ir H3.out.kr p (by rw [HL.out]; exact hp)).1]; rfl) (ir H3.out.kr p (by rw [HL.out]; exact hp)).2 qlw) ?_;refine hK.out _ _ ?_;clear hK K hHeld k1 hcN;refine fp (by kernel_rfl) ?_;have H4 := am (H3.out.setKept p (by rw [HL.out]; exact hp) wn);have K4 : Aside0 (ah q.At w (w2.drew.setCell ⟨q.KB, p, none⟩ (.int .i64 wn))) := ⟨K2.out.drew.set (p := ⟨q.KB, p, none⟩) (.inl (.inr (.inr rfl))) _⟩;clear H3 H2 K2;generalize w2.drew.setCell ⟨q.KB, p, none⟩ (.int .i64 wn) = w3 at H4 K4 ⊢;have k1 := H4.out.k1;have hcN := (ir H4.out.nr p hlt1).1;rw [HG1.out] at hcN;go_wp2;go_ret2;rw [E.out];exact ⟨rfl, H4.out, K4.out⟩
 ·have d1 : decide (b ≤ lg) = false := decide_eq_false c;have E : Aside0 (Cnt.note b now kept p = (wn, false, now1, kept)) := ⟨by rw [HNt.out, d1, if_neg c]⟩;clear HNt;go_wp2;go_ret2;rw [E.out];exact ⟨rfl, H2.out, K2.out⟩
end
end Go.Proofs.YtmfhaliclnnbaaaGreat.Sys
namespace Go.Proofs.YtmfhaliclnnbaaaGreat.Sys
open Go.Shelf Go.Lib Go.Proofs
def qde : Go.Shelf.Ren := ⟨fun | 189 => 165 | 125 => 177 | 257 => 176 | 128 => 189 | 129 => 190 | 294 => 180 | 295 => 181 | 296 => 182 | 297 => 183 | 298 => 184 | 299 => 185 | 216 => 186 | 300 => 187 | 301 => 188 | 328 => 191 | 329 => 192 | 330 => 193 | 331 => 194 | 332 => 195 | 215 => 196 | 343 => 197 | n => n, fun | 28 => 44 | 3 => 3 | 46 => 163 | 0 => 0 | 51 => 214 | 53 => 25 | 4 => 4 | 183 => 208 | 182 => 207 | 131 => 176 | 5 => 5 | 9 => 9 | 218 => 216 | 222 => 220 | 228 => 222 | 229 => 168 | n => n, fun | n => n⟩
theorem qks : Lays.n189 Tryz.prog qde := {
 mixed := by kernel_rfl
 f125 := Tryz.func177.trans (congrArg some (by kernel_rfl))
 f128 := Tryz.func189.trans (congrArg some (by kernel_rfl))
 f129 := Tryz.func190.trans (congrArg some (by kernel_rfl))
 f189 := Tryz.func165.trans (congrArg some (by kernel_rfl))
 f215 := Tryz.func196.trans (congrArg some (by kernel_rfl))
 f216 := Tryz.func186.trans (congrArg some (by kernel_rfl))
 f257 := Tryz.func176.trans (congrArg some (by kernel_rfl))
 f294 := Tryz.func180.trans (congrArg some (by kernel_rfl))
 f295 := Tryz.func181.trans (congrArg some (by kernel_rfl))
 f296 := Tryz.func182.trans (congrArg some (by kernel_rfl))
 f297 := Tryz.func183.trans (congrArg some (by kernel_rfl))
 f298 := Tryz.func184.trans (congrArg some (by kernel_rfl))
 f299 := Tryz.func185.trans (congrArg some (by kernel_rfl))
 f300 := Tryz.func187.trans (congrArg some (by kernel_rfl))
 f301 := Tryz.func188.trans (congrArg some (by kernel_rfl))
 f328 := Tryz.func191.trans (congrArg some (by kernel_rfl))
 f329 := Tryz.func192.trans (congrArg some (by kernel_rfl))
 f330 := Tryz.func193.trans (congrArg some (by kernel_rfl))
 f331 := Tryz.func194.trans (congrArg some (by kernel_rfl))
 f332 := Tryz.func195.trans (congrArg some (by kernel_rfl))
 f343 := Tryz.func197.trans (congrArg some (by kernel_rfl))
 t0 := Tryz.underlying0
 a0 := Tryz.isAgg0
 z0 := Tryz.sizeOf0
 v0 := Tryz.zeroValue0
 t3 := Tryz.underlying3
 a3 := Tryz.isAgg3
 z3 := Tryz.sizeOf3
 v3 := Tryz.zeroValue3
 t4 := Tryz.underlying4
 a4 := Tryz.isAgg4
 z4 := Tryz.sizeOf4
 v4 := Tryz.zeroValue4
 t5 := Tryz.underlying5
 a5 := Tryz.isAgg5
 z5 := Tryz.sizeOf5
 v5 := Tryz.zeroValue5
 t9 := Tryz.underlying9
 a9 := Tryz.isAgg9
 z9 := Tryz.sizeOf9
 v9 := Tryz.zeroValue9
 t28 := Tryz.underlying44
 a28 := Tryz.isAgg44
 z28 := Tryz.sizeOf44
 v28 := Tryz.zeroValue44
 t46 := Tryz.underlying163
 a46 := Tryz.isAgg163
 z46 := Tryz.sizeOf163
 v46 := Tryz.zeroValue163
 t51 := Tryz.underlying214
 a51 := Tryz.isAgg214
 z51 := Tryz.sizeOf214
 v51 := Tryz.zeroValue214
 t53 := Tryz.underlying25
 a53 := Tryz.isAgg25
 z53 := Tryz.sizeOf25
 v53 := Tryz.zeroValue25
 t131 := Tryz.underlying176
 a131 := Tryz.isAgg176
 z131 := Tryz.sizeOf176
 v131 := Tryz.zeroValue176
 t182 := Tryz.underlying207
 a182 := Tryz.isAgg207
 z182 := Tryz.sizeOf207
 v182 := Tryz.zeroValue207
 t183 := Tryz.underlying208
 a183 := Tryz.isAgg208
 z183 := Tryz.sizeOf208
 v183 := Tryz.zeroValue208
 t218 := Tryz.underlying216
 a218 := Tryz.isAgg216
 z218 := Tryz.sizeOf216
 v218 := Tryz.zeroValue216
 t222 := Tryz.underlying220
 a222 := Tryz.isAgg220
 z222 := Tryz.sizeOf220
 v222 := Tryz.zeroValue220
 t228 := Tryz.underlying222
 a228 := Tryz.isAgg222
 z228 := Tryz.sizeOf222
 v228 := Tryz.zeroValue222
 t229 := Tryz.underlying168
 a229 := Tryz.isAgg168
 z229 := Tryz.sizeOf168
 v229 := Tryz.zeroValue168 }
def qe9 : Go.Shelf.Ren := ⟨fun | 20 => 166 | n => n, fun | 22 => 44 | 3 => 3 | 4 => 4 | 0 => 0 | n => n, fun | n => n⟩
theorem qmu : Lays2.n20 Tryz.prog qe9 := {
 mixed := by kernel_rfl
 f20 := Tryz.func166.trans (congrArg some (by kernel_rfl))
 t0 := Tryz.underlying0
 a0 := Tryz.isAgg0
 z0 := Tryz.sizeOf0
 v0 := Tryz.zeroValue0
 t3 := Tryz.underlying3
 a3 := Tryz.isAgg3
 z3 := Tryz.sizeOf3
 v3 := Tryz.zeroValue3
 t4 := Tryz.underlying4
 a4 := Tryz.isAgg4
 z4 := Tryz.sizeOf4
 v4 := Tryz.zeroValue4
 t22 := Tryz.underlying44
 a22 := Tryz.isAgg44
 z22 := Tryz.sizeOf44
 v22 := Tryz.zeroValue44
 i3 := by kernel_rfl }
def ql6 : Go.Shelf.Ren := ⟨fun | 41 => 122 | n => n, fun | 22 => 44 | 23 => 3 | n => n, fun | n => n⟩
theorem ql2 : SlLaysE0.n41 Tryz.prog ql6 := { mixed := by kernel_rfl, f41 := ⟨Tryz.f122.name, by decide, Tryz.func122.trans (congrArg some (by kernel_rfl))⟩, t4 := Tryz.underlying4, a4 := Tryz.isAgg4, z4 := Tryz.sizeOf4, v4 := Tryz.zeroValue4, t22 := Tryz.underlying44, a22 := Tryz.isAgg44, z22 := Tryz.sizeOf44, v22 := Tryz.zeroValue44 }
def qm3 : Go.Shelf.Ren := ⟨fun | 41 => 164 | n => n, fun | 22 => 51 | 23 => 25 | n => n, fun | n => n⟩
theorem qmr : SlLaysE0.n41 Tryz.prog qm3 := { mixed := by kernel_rfl, f41 := ⟨Tryz.f164.name, by decide, Tryz.func164.trans (congrArg some (by kernel_rfl))⟩, t4 := Tryz.underlying4, a4 := Tryz.isAgg4, z4 := Tryz.sizeOf4, v4 := Tryz.zeroValue4, t22 := Tryz.underlying51, a22 := Tryz.isAgg51, z22 := Tryz.sizeOf51, v22 := Tryz.zeroValue51 }
open Go.RowKit Go.Proofs.YtmfhaliclnnbaaaGreatW.PrintWords Go.Proofs.YtmfhaliclnnbaaaGreatW.PrintLast Go.Proofs.YtmfhaliclnnbaaaGreatW.PrintMore
theorem uj : (Tryz.prog.info? 3).map (fun i => (i.zero, i.size, i.bytes)) = some (some (.int .i64 0), 1, 8) := by kernel_rfl
theorem zm : (Tryz.prog.info? 25).map (fun i => (i.zero, i.size, i.bytes)) = some (some (.int .u64 0), 1, 8) := by kernel_rfl
set_option maxRecDepth 100000 in
theorem qc0 (w : World) (base : Nat) (ok : Nat → Prop) (A : Option Addr) (c : Nat) (xs : List Int) (hr : Kd.R (Kd.int .i64) 3 w base ok (.slice A xs.length c) xs) (h0 : 0 < xs.length) (hl : xs.length ≤ 1000000) : Calls Tryz.prog 122 #[.slice A xs.length c] w fun e w' => ∃ v, e = .returned v ∧ Kd.R (Kd.int .i64) 3 w' w.heap.size (fun _ => True) v xs ∧ Below w.heap.size w w' := by
 obtain ⟨i0, hi, hz0, hz1, hz2⟩ := info_parts uj;obtain ⟨g, cap, ev, _⟩ := Kd.R_form hr h0;injection ev with e1 _ e2;subst e1;subst e2;have h := AnyE.slices_Clone ql2 i0 (.int .i64 0) 1 8 hi hz0 hz1 hz2 rfl (by omega) Tryz.sizeOf3 g 0 xs.length c (xs.map (Value.int .i64)) w (by simp) (by unfold maxLen; omega) (by omega) (fun j u hu => by
  rw [List.getElem?_map, Option.map_eq_some_iff] at hu;obtain ⟨x, hx, rfl⟩ := hu;have hj := (List.getElem?_eq_some_iff.1 hx).1;have e := (Kd.R_cell (0 : Int) hr (j : Int) (by omega) (by omega)).1;rw [Int.toNat_natCast] at e;rw [Nat.zero_add, e];unfold qex;rw [Int.toNat_natCast, List.getD_eq_getElem?_getD, hx];rfl) (fun u hu => by obtain ⟨x, _, rfl⟩ := List.mem_map.1 hu; rfl)
 refine h.mono ?_;rintro e w' ⟨v', rfl, ho, _, hb⟩;exact ⟨v', rfl, Kd.R_of_own ho (fun _ _ => trivial), hb⟩
set_option maxRecDepth 100000 in
theorem qa5 (w : World) (base : Nat) (ok : Nat → Prop) (A : Option Addr) (c : Nat) (xs : List Int) (hr : Kd.R (Kd.int .u64) 25 w base ok (.slice A xs.length c) xs) (h0 : 0 < xs.length) (hl : xs.length ≤ 1000000) : Calls Tryz.prog 164 #[.slice A xs.length c] w fun e w' => ∃ v, e = .returned v ∧ Kd.R (Kd.int .u64) 25 w' w.heap.size (fun _ => True) v xs ∧ Below w.heap.size w w' := by
 obtain ⟨i0, hi, hz0, hz1, hz2⟩ := info_parts zm;obtain ⟨g, cap, ev, _⟩ := Kd.R_form hr h0;injection ev with e1 _ e2;subst e1;subst e2;have h := AnyE.slices_Clone qmr i0 (.int .u64 0) 1 8 hi hz0 hz1 hz2 rfl (by omega) Tryz.sizeOf25 g 0 xs.length c (xs.map (Value.int .u64)) w (by simp) (by unfold maxLen; omega) (by omega) (fun j u hu => by
  rw [List.getElem?_map, Option.map_eq_some_iff] at hu;obtain ⟨x, hx, rfl⟩ := hu;have hj := (List.getElem?_eq_some_iff.1 hx).1;have e := (Kd.R_cell (0 : Int) hr (j : Int) (by omega) (by omega)).1;rw [Int.toNat_natCast] at e;rw [Nat.zero_add, e];unfold qex;rw [Int.toNat_natCast, List.getD_eq_getElem?_getD, hx];rfl) (fun u hu => by obtain ⟨x, _, rfl⟩ := List.mem_map.1 hu; rfl)
 refine h.mono ?_;rintro e w' ⟨v', rfl, ho, _, hb⟩;exact ⟨v', rfl, Kd.R_of_own ho (fun _ _ => trivial), hb⟩
theorem qdh (w : World) (g : Nat) (ys : Array Int) (cur : Array Value) (t : TypeId) (fr : Nat × Nat) (hg : w.heap[g]? = some (.cells cur t fr)) : (Sort.putRow (Value.int .i64) w g 0 ys).heap[g]? = some (.cells (Sort.putCells (Value.int .i64) 0 ys cur) t fr) := by
 unfold Sort.putRow Sort.mapBlock;rw [Array.getElem?_modify, if_pos rfl, hg];rfl
theorem qfa (w : World) (g k : Nat) (ys : Array Int) (h : k ≠ g) : (Sort.putRow (Value.int .i64) w g 0 ys).heap[k]? = w.heap[k]? := by
 unfold Sort.putRow Sort.mapBlock;rw [Array.getElem?_modify, if_neg (fun e => h e.symm)]
theorem yd (w : World) (g : Nat) (ys : Array Int) : (Sort.putRow (Value.int .i64) w g 0 ys).heap.size = w.heap.size := by
 unfold Sort.putRow Sort.mapBlock;simp
theorem qd4 {w : World} {base g n cap q : Nat} {ok : Nat → Prop} {xs : List Int} {os : Array Obj} (hr : Kd.R (Kd.int .i64) 3 w base ok (.slice (some ⟨g, 0, none⟩) n cap) xs) (ys : List Int) (hl : ys.length = xs.length) : Kd.R (Kd.int .i64) 3 (Sort.grow (Sort.putRow (Value.int .i64) (Sort.ahead w q) g 0 ys.toArray) os) base ok (.slice (some ⟨g, 0, none⟩) n cap) ys ∧ w.grownBy (Sort.grow (Sort.putRow (Value.int .i64) (Sort.ahead w q) g 0 ys.toArray) os) (some g) := by
 have hn := (Kd.R_reads' hr).1;obtain ⟨ho1, ho2⟩ := Kd.own_of_R hr;rcases ho2 with ⟨hv, _⟩ | ⟨g', cap', cur, hv, hb, hh, hnc, hcm, hcs, ht⟩
 ·cases hv
 injection hv with ha _ hc;injection ha with ha;injection ha with hg;subst hg; subst hc;have hlt : g < w.heap.size := df hh;have hgr : ∀ k, k < w.heap.size → (Sort.grow (Sort.putRow (Value.int .i64) (Sort.ahead w q) g 0 ys.toArray) os).heap[k]? = (Sort.putRow (Value.int .i64) (Sort.ahead w q) g 0 ys.toArray).heap[k]? := fun k hk => by unfold Sort.grow;rw [Array.getElem?_append_left];rw [yd];exact hk
 refine ⟨Kd.R_of_own ⟨by simp [oh], .inr ⟨g, cap, Sort.putCells (Value.int .i64) 0 ys.toArray cur, ?_, hb, ?_, by rw [hl]; exact hnc, hcm, ?_, ?_⟩⟩ hr.1, rfl, rfl, rfl, ?_, fun k hk hne => ?_⟩
 ·rw [hl, hn]
 ·rw [hgr g hlt];exact qdh (Sort.ahead w q) g ys.toArray cur 3 (0, 0) hh
 ·rw [← hcs];simp [Sort.putCells]
 ·apply List.ext_getElem?;intro i;have hsz : n ≤ cur.size := by rw [hcs]; omega
  simp only [List.getElem?_take, Sort.putCells, Array.getElem?_toList, Array.getElem?_mapIdx, oh, List.getElem?_map];split
  ·rename_i hi
   have hi2 : i < ys.length := by omega
   have hi3 : i < cur.size := by omega
   simp [hi3, hi2]
  ·rename_i hi
   rw [List.getElem?_eq_none (by omega)];rfl
 ·show w.heap.size ≤ _;unfold Sort.grow;simp only [Array.size_append, yd];show w.heap.size ≤ w.heap.size + _;omega
 ·rw [hgr k hk];exact qfa (Sort.ahead w q) g k ys.toArray (fun e => hne (by rw [e]))
theorem z7 {w : World} {base g n cap : Nat} {ok : Nat → Prop} {xs : List Int} (hr : Kd.R (Kd.int .i64) 3 w base ok (.slice (some ⟨g, 0, none⟩) n cap) xs) : Sort.Holds (Value.int .i64) w g 0 xs.toArray := fun j hj => by
 have hn := (Kd.R_reads' hr).1;have hj2 : j < xs.length := by simpa using hj
 have e := ir hr j (by omega);rw [Nat.zero_add, e.1];refine ⟨?_, e.2⟩;rw [getElem!_pos _ j hj, List.getD_eq_getElem?_getD, List.getElem?_eq_getElem hj2];simp
theorem qek (w : World) (base : Nat) (ok : Nat → Prop) (A : Option Addr) (c : Nat) (xs : List Int) (hr : Kd.R (Kd.int .i64) 3 w base ok (.slice A xs.length c) xs) (h0 : 0 < xs.length) (hl : xs.length ≤ 1000000) : Calls Tryz.prog 165 #[.slice A xs.length c] w fun e w' => e = .returned (.tuple #[]) ∧ ∃ g, A = some ⟨g, 0, none⟩ ∧ base ≤ g ∧ Kd.R (Kd.int .i64) 3 w' base ok (.slice A xs.length c) (xs.mergeSort fun x y => decide (x ≤ y)) ∧ w.grownBy w' (some g) := by
 obtain ⟨g, cap, ev, hbg, hgl, _⟩ := Kd.R_form hr h0;injection ev with e1 _ e2;subst e1;subst e2;refine (Any.slices_Sort_int qks g 0 c xs w (z7 hr) hgl (by omega)).mono ?_;rintro e w' ⟨rfl, q, os, rfl⟩;have := qd4 (q := q) (os := os) hr (xs.mergeSort fun x y => decide (x ≤ y)) (List.length_mergeSort _);exact ⟨rfl, g, rfl, hbg, this.1, this.2⟩
theorem qa7 (w : World) (base : Nat) (ok : Nat → Prop) (A : Option Addr) (c : Nat) (xs : List Int) (hr : Kd.R (Kd.int .i64) 3 w base ok (.slice A xs.length c) xs) (h0 : 0 < xs.length) (hl : xs.length ≤ 1000000) : Calls Tryz.prog 166 #[.slice A xs.length c] w fun e w' => e = .returned (.slice A (compact xs).length c) ∧ ∃ g, A = some ⟨g, 0, none⟩ ∧ base ≤ g ∧ Kd.R (Kd.int .i64) 3 w' base ok (.slice A (compact xs).length c) (compact xs) ∧ w.grownBy w' (some g) := by
 obtain ⟨g, cap, ev, hbg, hgl, _⟩ := Kd.R_form hr h0;injection ev with e1 _ e2;subst e1;subst e2;have hc := (Kd.R_reads' hr).2.1;refine (Any.slices_Compact_int qmu g 0 c xs w (z7 hr) (by omega) hc).mono ?_;rintro e w' ⟨rfl, q, rfl⟩;have hle : (compact xs).length ≤ xs.length := by unfold compact compactUpTo;simp only [List.length_map];exact Nat.le_trans (List.length_filter_le _ _) (by simp)
 have := qd4 (q := q) (os := #[]) hr (compact xs ++ List.replicate (xs.length - (compact xs).length) 0) (by simp; omega);rw [Sort.grow_empty] at this;have e := Kd.R_take this.1 (m := (compact xs).length) (by simp);rw [List.take_left] at e;exact ⟨rfl, g, rfl, hbg, e, this.2⟩
end Go.Proofs.YtmfhaliclnnbaaaGreat.Sys
