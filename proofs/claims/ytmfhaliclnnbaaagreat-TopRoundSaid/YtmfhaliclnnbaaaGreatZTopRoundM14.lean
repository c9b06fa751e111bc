import Derived.Test.YtmfhaliclnnbaaaGreatZTopRoundM13
import Derived.Test.YtmfhaliclnnbaaaGreatZTopRoundM10
import Derived.Defers
import Derived.Recover
import Derived.Laws.Panics
import Derived.RegionDies
namespace Go.Proofs.YtmfhaliclnnbaaaGreat.Sys
open Go.RowKit Go.Proofs.YtmfhaliclnnbaaaGreatW.PrintWords Go.Proofs.YtmfhaliclnnbaaaGreatW.PrintLast Go.Proofs.YtmfhaliclnnbaaaGreatW.PrintMore
open Go.Proofs.YtmfhaliclnnbaaaGreat.XTopWhole Go.Proofs.YtmfhaliclnnbaaaGreat.Pl Go.Maps
set_option linter.unusedVariables false
set_option linter.unusedSimpArgs false
set_option maxRecDepth 100000
set_option maxHeartbeats 8000000
section
variable {p : Pn} {m m' : Mem} {s : Shape} {st : St}
theorem LInv.setReg (h : LInv s m) {i : Nat} {v e : Int} (hs : SetR m m' i v e) (hi : i = 2 ∨ 19 ≤ i) (h0 : 0 ≤ v) (h1 : v ≤ 18446744073709551615) : LInv s m' ∧ (∀ line, vw s m' line = vw s m line) ∧ Trn.moves m' = Trn.moves m ∧ Lg.count m' = Lg.count m ∧ (∀ j, j ≠ i → m'.regs.getD j 0 = m.regs.getD j 0) := by
 obtain ⟨a, b, c, d⟩ := h.ok.setReg hs (by omega) h0 h1;have hc : Lg.count m' = Lg.count m := d 1 (by omega);have hh : hms s m' = hms s m := by unfold hms;rw [hc];refine List.map_congr_left (fun i _ => ?_);unfold qg9;rw [hc, b, b]
 have hv : ∀ line, vw s m' line = vw s m line := fun line => by
  unfold vw;rw [hh];have : nv (hms s m) (lgc s m') line = nv (hms s m) (lgc s m) line := by unfold nv; rw [b]
  rw [this, b]
 refine ⟨⟨a, ?_⟩, hv, c, hc, d⟩;rw [hc, hh];exact h.cnt
structure NoteR (p : Pn) (st st' : St) (e : Int) : Prop where
 inv : LInv p.shape st'.m
 view : ∀ line, vw p.shape st'.m line = vw p.shape st.m line
 lim : ∀ j, fk st'.m j = fk st.m j
 cut : st.m.cut < 0 → st'.m.cut = st.m.cut
 regs : ∀ j, j < 19 → st'.m.regs.getD j 0 = st.m.regs.getD j 0
 now : st'.now.length = st.now.length
 kept : st'.kept.length = st.kept.length
 worn : st'.worn = st.worn
 puts : st'.puts = st.puts
 res : (e = 0 ∧ st'.m.down = false) ∨ (e = 2 ∧ st'.m.down = true ∧ 0 ≤ st.m.cut)
theorem qg8 (b : Int) (now kept : List Int) (q : Nat) : (Cnt.note b now kept q).2.2.1.length = now.length ∧ (Cnt.note b now kept q).2.2.2.length = kept.length := by
 unfold Cnt.note;dsimp only;refine ⟨List.length_set, ?_⟩;split
 ·exact List.length_set
 ·rfl
theorem uo (b : Int) : ∀ (ls : List Int) (st : St), LInv p.shape st.m → st.m.down = false → (∀ i ∈ ls, 0 ≤ i ∧ i < 64) → NoteR p st (Hp.noteAll b ls st).2 (Hp.noteAll b ls st).1
 | [], st, h, hu, hl => ⟨h, fun _ => rfl, fun _ => rfl, fun _ => rfl, fun _ _ => rfl, rfl, rfl, rfl, rfl, .inl ⟨rfl, hu⟩⟩
 | i :: ls, st, h, hu, hl => by
  have hi := hl i List.mem_cons_self
  have hls : ∀ j ∈ ls, 0 ≤ j ∧ j < 64 := fun j hj => hl j (List.mem_cons_of_mem _ hj)
  obtain ⟨n1, n2⟩ := qg8 b st.now st.kept (i / 4).toNat
  unfold Hp.noteAll
  generalize Cnt.note b st.now st.kept (i / 4).toNat = nt at n1 n2
  obtain ⟨nn, kp, now1, kept1⟩ := nt
  dsimp only at n1 n2 ⊢
  cases kp
  ·rw [if_neg (by decide)]
   have ih := uo b ls { st with now := now1, kept := kept1 } h hu hls
   exact ⟨ih.inv, ih.view, ih.lim, ih.cut, ih.regs, by rw [ih.now]; exact n1, by rw [ih.kept]; exact n2, ih.worn, ih.puts, ih.res⟩
  ·rw [if_pos rfl]
   have hS := vl (m := st.m) (i := 19 + i / 4) (v := IntKind.u64.wrap nn) hu (by omega) (by omega)
   generalize Nvm.set st.m (19 + i / 4) (IntKind.u64.wrap nn) = r at hS
   obtain ⟨e, m1⟩ := r
   dsimp only at hS ⊢
   obtain ⟨a, v, mv, cn, ot⟩ := h.setReg hS (by omega) (lr nn).1 (lr nn).2
   by_cases c0 : e = 0
   ·rw [if_pos c0]
    have hy : m1.down = false := by
     rcases hS.res with ⟨_, e, _⟩ | ⟨e, _⟩
     ·exact e
     ·omega
    have ih := uo b ls { st with m := m1, now := now1, kept := kept1 } a hy hls
    refine ⟨ih.inv, fun line => by rw [ih.view]; exact v line, fun j => by rw [ih.lim]; exact jw hS.cells j, fun hc => ?_, fun j hj => by rw [ih.regs j hj]; exact ot j (by omega), by rw [ih.now]; exact n1, by rw [ih.kept]; exact n2, ih.worn, ih.puts, ?_⟩
    ·have h1 := hS.cut hc
     have h2 := ih.cut (by show m1.cut < 0; rw [h1]; exact hc)
     rw [h2]
     exact h1
    ·rcases ih.res with x | ⟨x, y, z⟩
     ·exact .inl x
     ·exact .inr ⟨x, y, ph hS.cut z⟩
   ·rw [if_neg c0]
    dsimp only
    have hy : e = 2 ∧ m1.down = true ∧ 0 ≤ st.m.cut := by
     rcases hS.res with ⟨e, _⟩ | ⟨e, u, _, c⟩
     ·exact absurd e c0
     ·exact ⟨e, u, c⟩
    exact ⟨a, v, jw hS.cells, hS.cut, fun j hj => ot j (by omega), n1, n2, rfl, rfl, .inr hy⟩
theorem sj {es : List S160} (hp : p.Ok) (he : EdFit p es) (ws : List Int) : Lg.mayH p.shape.n (Hp.homesOf (Sp.lines es) ws) = true := by
 obtain ⟨l1, l2, l3⟩ := he.lines;have hn : p.shape.n = 16 + p.lines := rfl;have hl1 := hp.l1;unfold Lg.mayH Hp.homesOf;simp only [Bool.and_eq_true, List.all_eq_true, decide_eq_true_eq];refine ⟨⟨fun x hx => ?_, ?_⟩, ⟨by omega, by rw [List.length_map]; omega⟩, by rw [List.length_map]; omega⟩
 ·obtain ⟨i, hi, rfl⟩ := List.mem_map.1 hx;have := l3 i hi;dsimp only;omega
 ·rw [List.map_map];have hu := qd6 es;refine List.Pairwise.imp (R := fun a b : Int => a < b) (fun h e => by omega) ?_;rw [List.pairwise_map];exact hu.imp (fun h => by dsimp only [Function.comp]; omega)
theorem s8 (es : List S160) (ws : List Int) : (Sp.apply ws es).length = ws.length := Sp.apply_length es ws
theorem uk : ∀ (es : List S160) (ws : List Int), (∀ x ∈ ws, 0 ≤ x ∧ x ≤ 18446744073709551615) → (∀ e ∈ es, 0 ≤ e.f1 ∧ e.f1 ≤ 18446744073709551615) → ∀ x ∈ Sp.apply ws es, 0 ≤ x ∧ x ≤ 18446744073709551615
 | [], ws, h, _ => h
 | e :: es, ws, h, he => by
  refine uk es (Sp.apply1 ws e) (fun x hx => ?_) (fun y hy => he y (List.mem_cons_of_mem _ hy))
  unfold Sp.apply1 at hx
  split at hx
  ·rcases List.mem_or_eq_of_mem_set hx with h1 | h1
   ·exact h x h1
   ·rw [h1]; exact he e List.mem_cons_self
  ·exact h x hx
theorem qay {ws : List Int} {i : Nat} (hi : i * 8 + 8 ≤ ws.length) (h : ∀ x ∈ ws, 0 ≤ x ∧ x ≤ 18446744073709551615) : W64 (dd ws i) := ⟨fy hi, fun x hx => h x (List.mem_of_mem_drop (List.mem_of_mem_take hx))⟩
theorem qcn (h : LInv p.shape m) : ∀ k, ∀ x ∈ wv p m k, 0 ≤ x ∧ x ≤ 18446744073709551615
 | 0, x, hx => by cases hx
 | k + 1, x, hx => by
  rcases List.mem_append.1 hx with h1 | h1
  ·exact qcn h k x h1
  ·exact (qe5 h _).2 x h1
theorem qgg {es : List S160} (hp : p.Ok) (h : LInv p.shape m) (h' : LInv p.shape m') (he : EdFit p es) (hv : ∀ line, 16 ≤ line → line < p.shape.n → vw p.shape m' line = nv (Hp.homesOf (Sp.lines es) (Sp.apply (wv p m p.lines.toNat) es)) (vw p.shape m) line) : wv p m' p.lines.toNat = Sp.apply (wv p m p.lines.toNat) es := by
 have hl1 := hp.l1;have hwl := ov h p.lines.toNat;obtain ⟨l1, l2, l3⟩ := he.lines;symm;refine qfn h' _ (by rw [s8, hwl]) (fun i hi => ?_);rw [hv _ (by omega) (by show 16 + (i : Int) < 16 + p.lines; omega)];by_cases c : (i : Int) ∈ Sp.lines es
 ·have hm : (16 + (i : Int), dd (Sp.apply (wv p m p.lines.toNat) es) i) ∈ Hp.homesOf (Sp.lines es) (Sp.apply (wv p m p.lines.toNat) es) := List.mem_map.2 ⟨(i : Int), c, by rw [Int.toNat_natCast]⟩;exact (qcr hm (rg (sj hp he _))).symm
 ·rw [yy (fun x hx => by
   obtain ⟨j, hj, rfl⟩ := List.mem_map.1 hx;intro e;dsimp only at e;exact c (by rw [show (i : Int) = j by omega]; exact hj)), ← qcs h _ hi]
  refine qej (by rw [s8, hwl]; omega) (by rw [hwl]; omega) (fun j hj => qdg es _ _ (fun e hx e2 => c ?_));have := qbg hx (by omega);rw [show (i : Int) = e.f0 / 8 by omega];exact this
structure HComR (p : Pn) (st st' : St) (es : List S160) (e : Int) : Prop where
 inv : LInv p.shape st'.m
 lim : ∀ j, fk st'.m j = fk st.m j
 cut : st.m.cut < 0 → st'.m.cut = st.m.cut
 root : st'.m.regs.getD 2 0 = st.m.regs.getD 2 0
 mv : Trn.moves st.m ≤ Trn.moves st'.m ∧ Trn.moves st'.m ≤ Trn.moves st.m + 40
 now : st'.now.length = st.now.length
 kept : st'.kept.length = st.kept.length
 worn : st'.worn = true → st.worn = true ∨ ∃ j, 0 ≤ fk st.m j
 cln : st'.m.down = false → Lg.count st'.m = 0 ∨ ∃ j, 0 ≤ fk st.m j
 res : (e = 0 ∧ st'.m.down = false ∧ wv p st'.m p.lines.toNat = Sp.apply (wv p st.m p.lines.toNat) es) ∨ (e = 3 ∧ st'.m.down = false ∧ wv p st'.m p.lines.toNat = wv p st.m p.lines.toNat ∧ ∃ j, 0 ≤ fk st.m j) ∨
  (e = 2 ∧ st'.m.down = true ∧ 0 ≤ st.m.cut ∧ (wv p st'.m p.lines.toNat = wv p st.m p.lines.toNat ∨ wv p st'.m p.lines.toNat = Sp.apply (wv p st.m p.lines.toNat) es))
theorem qez {es : List S160} (hp : p.Ok) (h : LInv p.shape st.m) (hu : st.m.down = false) (hc : Lg.count st.m = 0) (he : EdFit p es) (hb : Trn.moves st.m + 40 ≤ 4611686018427387903) : HComR p st (Hp.commit p st (wv p st.m p.lines.toNat) es).2 es (Hp.commit p st (wv p st.m p.lines.toNat) es).1 := by
 have hl1 := hp.l1;have hl2 := hp.l2;obtain ⟨l1, l2, l3⟩ := he.lines;have hwl := ov h p.lines.toNat;have hC := qbk (s := p.shape) (hs := Hp.homesOf (Sp.lines es) (Sp.apply (wv p st.m p.lines.toNat) es)) h hu hc (sj hp he _) (by show 17 ≤ 16 + p.lines; omega) (fun x hx => by
  obtain ⟨i, hi, rfl⟩ := List.mem_map.1 hx;have := l3 i hi;exact qay (by rw [s8, hwl]; omega) (uk es _ (qcn h _) he.val)) st.puts hb
 unfold Hp.commit;generalize Lg.commit p.shape (Hp.homesOf (Sp.lines es) (Sp.apply (wv p st.m p.lines.toNat) es)) st.m st.puts = r at hC;obtain ⟨e, m1, p1⟩ := r;dsimp only at hC ⊢;have hS := hC.same;have old : (∀ line, 16 ≤ line → line < p.shape.n → vw p.shape m1 line = vw p.shape st.m line) → wv p m1 p.lines.toNat = wv p st.m p.lines.toNat := fun hv => yz h hS.inv (by omega) hv;have new : (∀ line, 16 ≤ line → line < p.shape.n → vw p.shape m1 line = nv (Hp.homesOf (Sp.lines es) (Sp.apply (wv p st.m p.lines.toNat) es)) (vw p.shape st.m) line) → wv p m1 p.lines.toNat = Sp.apply (wv p st.m p.lines.toNat) es := fun hv => qgg hp h hS.inv he hv;by_cases c0 : e = 0
 ·rw [if_pos c0];have hy : m1.down = false ∧ wv p m1 p.lines.toNat = Sp.apply (wv p st.m p.lines.toNat) es := by
   rcases hC.res with ⟨_, u, v⟩ | ⟨e, _⟩ | ⟨e, _⟩
   ·exact ⟨u, new v⟩
   ·omega
   ·omega
  have hN := uo (p := p) p.batch (Sp.lines es) { st with m := m1, puts := p1 } hS.inv hy.1 (fun i hi => by have := l3 i hi; omega);have hwn : wv p (Hp.noteAll p.batch (Sp.lines es) { st with m := m1, puts := p1 }).2.m p.lines.toNat = Sp.apply (wv p st.m p.lines.toNat) es := by rw [← hy.2];exact yz hS.inv hN.inv (by omega) (fun line _ _ => hN.view line)
  have hm0 : Trn.moves (Hp.noteAll p.batch (Sp.lines es) { st with m := m1, puts := p1 }).2.m = Trn.moves m1 := hN.regs 0 (by omega);have hmv := hS.mv;refine ⟨hN.inv, fun j => by rw [hN.lim]; exact hS.lim j, fun hc => ?_, by rw [hN.regs 2 (by omega)]; exact hS.regs 2 (by omega), by rw [hm0]; exact hmv, hN.now, hN.kept, fun hw => .inl (by rw [← hN.worn]; exact hw), fun hu => ?_, ?_⟩
  ·have h1 := hS.cut hc;have h2 := hN.cut (by show m1.cut < 0; rw [h1]; exact hc);rw [h2];exact h1
  ·have : Lg.count (Hp.noteAll p.batch (Sp.lines es) { st with m := m1, puts := p1 }).2.m = Lg.count m1 := hN.regs 1 (by omega);rw [this];exact hS.cln hy.1
  ·rcases hN.res with ⟨x, y⟩ | ⟨x, y, z⟩
   ·exact .inl ⟨x, y, hwn⟩
   ·exact .inr (.inr ⟨x, y, ph hS.cut z, .inr hwn⟩)
 ·rw [if_neg c0];dsimp only;refine ⟨hS.inv, hS.lim, hS.cut, hS.regs 2 (by omega), hS.mv, rfl, rfl, ?_, hS.cln, ?_⟩
  ·intro hw;rcases hC.res with ⟨e, _⟩ | ⟨_, _, _, _, x⟩ | ⟨e, _⟩
   ·exact absurd e c0
   ·exact .inr x
   ·left;subst e;simpa using hw
  rcases hC.res with ⟨e, _⟩ | ⟨e, u, _, v, x⟩ | ⟨e, u, c, v | v⟩
  ·exact absurd e c0
  ·exact .inr (.inl ⟨e, u, old v, x⟩)
  ·exact .inr (.inr ⟨e, u, c, .inl (old v)⟩)
  ·exact .inr (.inr ⟨e, u, c, .inr (new v)⟩)
end
end Go.Proofs.YtmfhaliclnnbaaaGreat.Sys
namespace Go.Proofs.YtmfhaliclnnbaaaGreat.Pl
open Go.RowKit Go.Proofs.YtmfhaliclnnbaaaGreatW.PrintWords Go.Proofs.YtmfhaliclnnbaaaGreatW.PrintLast Go.Proofs.YtmfhaliclnnbaaaGreatW.PrintMore Go.Proofs.YtmfhaliclnnbaaaGreat.XTopWhole
set_option linter.unusedVariables false
set_option linter.unusedSimpArgs false
set_option maxRecDepth 100000
set_option maxHeartbeats 8000000
theorem qe1 {l : List S116} {c need : Int} (h0 : 0 ≤ c) (h1 : c < l.length) {x : S116} : x ∈ crv l c need ↔ x ∈ l.take c.toNat ∨ x ∈ tkn (aa l c) need ∨ x ∈ l.drop (c.toNat + 1) := by
 unfold crv;rw [List.mem_append, List.mem_append, or_assoc]
theorem qn3 {l : List S116} {c : Int} (h0 : 0 ≤ c) (h1 : c < l.length) {x : S116} : x ∈ l ↔ x ∈ l.take c.toNat ∨ x = aa l c ∨ x ∈ l.drop (c.toNat + 1) := by
 conv => lhs; rw [yv h0 h1]
 rw [List.mem_append, List.mem_cons]
theorem qeo (a : Int) (n : Nat) : ∀ k, ∀ e ∈ jk a k n, a + k ≤ e.f0 ∧ e.f0 < a + k + n := by
 induction n with
 | zero => intro k e he; cases he
 | succ n ih =>
  intro k e he;rcases List.mem_cons.1 he with h | h
  ·rw [h]; dsimp only; omega
  ·have := ih (k + 1) e h;omega
theorem qmo {b : S116} {need : Int} (h0 : tk b.f1 need ≠ 0) (h2 : 2 ≤ b.f1) (h3 : need ≤ 57) : ∀ e ∈ eds b need, b.f0 ≤ e.f0 ∧ e.f0 < b.f0 + 64 ∧ e.f0 < b.f0 + b.f1 := by
 have ht := qed h0 h2;have hk : tk b.f1 need ≤ 58 := by unfold tk; split <;> (try split) <;> omega
 intro e he;unfold eds at he;rcases List.mem_cons.1 he with h | h
 ·rw [h]; dsimp only; omega
 ·rcases List.mem_append.1 h with h | h
  ·have := qeo b.f0 _ _ e h;omega
  ·split at h
   ·rw [List.mem_singleton.1 h];dsimp only;omega
   ·cases h
def qag (v B : List Int) (o : Int) (acc : List S160) (i : Nat) : Prop :=
 Eds v B o acc i ∧ ∀ e ∈ acc, o / 8 ≤ e.f0 ∧ e.f0 ≤ (o + i - 1) / 8 ∧ 0 ≤ e.f1 ∧ e.f1 ≤ 18446744073709551615
theorem qg0 {v B : List Int} {o : Int} {acc : List S160} {i : Nat} (hV : Wds v) (hB : Bys B) (ho : 0 ≤ o) (hl : o + i < v.length * 8) (h : qag v B o acc i) : ((acc = [] ∨ ∃ pre x, acc = pre ++ [(⟨(o + i - 1) / 8, x⟩ : S160)] ∧ (o + i - 1) / 8 ≠ (o + i) / 8) → qag v B o (qc5 (acc ++ [(⟨(o + i) / 8, rd v ((o + i) / 8)⟩ : S160)]) (rd B i) ((o + i) % 8 * 8)) (i + 1)) ∧ ((∃ pre x, acc = pre ++ [(⟨(o + i - 1) / 8, x⟩ : S160)] ∧ (o + i - 1) / 8 = (o + i) / 8) → qag v B o (qc5 acc (rd B i) ((o + i) % 8 * 8)) (i + 1)) := by
 obtain ⟨s1, s2⟩ := qig hV hB ho hl h.1;have hn := h.2;constructor
 ·intro hc;refine ⟨s1 hc, ?_⟩;rw [y3];intro e he;rcases List.mem_append.1 he with h | h
  ·have := hn e h;omega
  ·rw [List.mem_singleton.1 h];have := (xd (hV.2 ((o + i) / 8)) (hB i) (i := (o + i) % 8) (j := 0) (by omega) (by omega)).1;exact ⟨by dsimp only; omega, by dsimp only; omega, this⟩
 ·rintro ⟨pre, x, hc, hq⟩;refine ⟨s2 ⟨pre, x, hc, hq⟩, ?_⟩;rw [hc] at hn;rw [hc, y3];intro e he;rcases List.mem_append.1 he with h | h
  ·have := hn e (List.mem_append_left _ h);omega
  ·rw [List.mem_singleton.1 h];have h1 := hn ⟨(o + i - 1) / 8, x⟩ (List.mem_append_right _ List.mem_cons_self);dsimp only at h1;have := (xd (x := x) ⟨h1.2.2.1, h1.2.2.2⟩ (hB i) (i := (o + i) % 8) (j := 0) (by omega) (by omega)).1;exact ⟨h1.1, by dsimp only; omega, this⟩
theorem ql4 {w B : List Int} {off : Int} (hw : Wds w) (hB : Bys B) (hn : B.length ≤ 448) (ho : 0 ≤ off ∧ off + B.length ≤ w.length * 8) (d : Nat) : ∀ (acc : List S160) (i : Nat), i + d = B.length → qag w B off acc i → ∃ r, Ev (fun k => ax.l0 k w off acc B (B.length : Int) (i : Int)) (r, true) ∧ qag w B off r B.length := by
 have hwl := hw.1
 induction d with
 | zero =>
  intro acc i h1 h2;have e : i = B.length := by omega
  subst e;refine ⟨acc, Ev.step (fun k => by rw [ax.l0]) ?_, h2⟩;exact br (by omega) (Ev.now _)
 | succ d ih =>
  intro acc i h1 h2;have ei : wrap64 (off + (i : Int)) = off + i := w64 (by omega);have ed : wrap64 (Int.tdiv (off + (i : Int)) 8) = (off + i) / 8 := by rw [qbu (by omega), w64 (by omega)]
  have es : wrap64 (Int.tmod (off + (i : Int)) 8 * 8) = (off + i) % 8 * 8 := by rw [zf (by omega), w64 (by omega)]
  obtain ⟨s1, s2⟩ := qg0 hw hB ho.1 (by omega) h2;have hal := h2.1.2.1;have next : ∀ acc2 : List S160, qag w B off acc2 (i + 1) → ∃ r, Ev (fun k => ax.j2 k w off acc2 B (B.length : Int) (i : Int)) (r, true) ∧ qag w B off r B.length := by intro acc2 h3;obtain ⟨r, h4, h5⟩ := ih acc2 (i + 1) (by omega) h3;refine ⟨r, Ev.step (fun k => by rw [ax.j2]) ?_, h5⟩;rw [w64 (n := (i : Int) + 1) (by omega)];exact h4
  have Jt : qag w B off (qc5 (acc ++ [(⟨(off + i) / 8, rd w ((off + i) / 8)⟩ : S160)]) (rd B i) ((off + i) % 8 * 8)) (i + 1) → ∃ r, Ev (fun k => ax.j1 k w off acc (rd B i) (off + i) B (B.length : Int) (i : Int) true) (r, true) ∧ qag w B off r B.length := by
   intro h3;obtain ⟨r, h4, h5⟩ := next _ h3;have hy : (acc ++ [(⟨(off + i) / 8, rd w ((off + i) / 8)⟩ : S160)]).length = acc.length + 1 := by simp
   refine ⟨r, Ev.step (fun k => by rw [ax.j1]) ?_, h5⟩;rw [ed, es];refine aj rfl (aj (by omega) (aj (by omega) (aj (by omega) (cy rfl ?_))));rw [w64 (n := ((acc ++ [(⟨(off + i) / 8, rd w ((off + i) / 8)⟩ : S160)]).length : Int) - 1) (by omega)];exact aj (by omega) (aj (by omega) (aj (by omega) h4))
  have Jf : acc.length ≠ 0 → qag w B off (qc5 acc (rd B i) ((off + i) % 8 * 8)) (i + 1) → ∃ r, Ev (fun k => ax.j1 k w off acc (rd B i) (off + i) B (B.length : Int) (i : Int) false) (r, true) ∧ qag w B off r B.length := by intro hz h3;obtain ⟨r, h4, h5⟩ := next _ h3;refine ⟨r, Ev.step (fun k => by rw [ax.j1]) ?_, h5⟩;rw [es, w64 (n := (acc.length : Int) - 1) (by omega)];exact br (by decide) (aj (by omega) (aj (by omega) (aj (by omega) h4)))
  rcases h2.1.2.2 with ⟨h3, h4⟩ | ⟨h3, pre, x, h4⟩
  ·obtain ⟨r, h5, h6⟩ := Jt (s1 (.inl h4));refine ⟨r, Ev.step (fun k => by rw [ax.l0]) ?_, h6⟩;rw [ei];exact aj (by omega) (aj (by omega) (aj (by omega) (aj (by rw [h4]; rfl) h5)))
  ·have hz : acc.length ≠ 0 := by rw [h4]; simp
   have hlast : (bo acc ((acc.length : Int) - 1)).f0 = (off + i - 1) / 8 := by rw [h4, show (((pre ++ [(⟨(off + i - 1) / 8, x⟩ : S160)]).length : Int) - 1) = (pre.length : Int) by simp, qfl pre [] _]
   by_cases hq : (off + i - 1) / 8 = (off + i) / 8
   ·obtain ⟨r, h5, h6⟩ := Jf hz (s2 ⟨pre, x, h4, hq⟩);refine ⟨r, Ev.step (fun k => by rw [ax.l0]) ?_, h6⟩;rw [ei, ed, w64 (n := (acc.length : Int) - 1) (by omega), hlast, bne_eq_false_iff_eq.mpr hq];exact aj (by omega) (aj (by omega) (aj (by omega) (br (by omega) (aj (by omega) (aj (by omega) h5)))))
   ·obtain ⟨r, h5, h6⟩ := Jt (s1 (.inr ⟨pre, x, h4, hq⟩));refine ⟨r, Ev.step (fun k => by rw [ax.l0]) ?_, h6⟩;rw [ei, ed, w64 (n := (acc.length : Int) - 1) (by omega), hlast, bne_iff_ne.mpr hq];exact aj (by omega) (aj (by omega) (aj (by omega) (br (by omega) (aj (by omega) (aj (by omega) h5)))))
def uw (l : List S116) (o n : Int) : Prop := 0 ≤ n ∧ n ≤ 448 ∧ ∃ b ∈ l, b.f2 = true ∧ (b.f0 + 1) * 8 ≤ o ∧ o ≤ (b.f0 + b.f1) * 8 - n
theorem qht {l : List S116} {v B : List Int} {words o : Int} (hV : HV l v words) (hB : Bys B) : (¬ uw l o B.length ∧ Ev (fun k => ff.f k v o B) ([], 1)) ∨ (uw l o B.length ∧ ∃ es, Ev (fun k => ff.f k v o B) (es, 0) ∧ app v es = l8 v B o B.length ∧ es.length ≤ 448 ∧ (es = [] ↔ B = []) ∧ ∀ e ∈ es, 0 ≤ o / 8 ∧ o / 8 ≤ e.f0 ∧ e.f0 < o / 8 + 64 ∧ e.f0 < words ∧ 0 ≤ e.f1 ∧ e.f1 ≤ 18446744073709551615) := by
 obtain ⟨r, h1, h2⟩ := qd7 (o := o) (n := (B.length : Int)) hV;have h4 := qfv hV h1;unfold ff.f;cases r with
 | false => exact .inl ⟨fun h => (by cases h2.2 h), ec h4 (br (by decide) (Ev.now _))⟩
 | true =>
  right;obtain ⟨_, h5, b, hb, hu, h6, h7⟩ := h2.1 rfl;have hg := js hV hb;have hlen := hV.2.2.1;obtain ⟨es, e1, e2, e3⟩ := ql4 hV.2.1 hB (by omega) (off := o) (by omega) B.length [] 0 (by omega) ⟨⟨rfl, by simp, .inl ⟨rfl, rfl⟩⟩, fun e he => by cases he⟩;have h8 : Ev (fun k => ax.f k v o B) (es, true) := by unfold ax.f;exact cy (qfq hV.2.1.1 ⟨by omega, h5, by omega, by omega⟩) (aj rfl e1)
  refine ⟨h2.1 rfl, es, ec h4 (aj rfl (ec h8 (Ev.now _))), e2.1, by have := e2.2.1; omega, ?_, fun e he => by have := e3 e he; omega⟩;rcases e2.2.2 with ⟨z, e⟩ | ⟨z, pre, x, e⟩
  ·exact ⟨fun _ => List.eq_nil_of_length_eq_zero z, fun _ => e⟩
  ·exact ⟨fun h => by rw [e] at h; simp at h, fun h => by rw [h] at z; simp at z⟩
def qd2 (l : List S116) (off : Int) : Prop := ∃ b ∈ l, b.f2 = true ∧ off = (b.f0 + 1) * 8
theorem qmk {l : List S116} {v : List Int} {words off : Int} (hV : HV l v words) : (∃ c : Int, 0 ≤ c ∧ c < l.length ∧ (aa l c).f2 = true ∧ off = ((aa l c).f0 + 1) * 8) ∨ (¬ qd2 l off ∧ ∀ b ∈ l, b.f2 = true → rj b.f0 ≠ off) := by
 by_cases h : qd2 l off
 ·obtain ⟨b, hb, hu, ho⟩ := h;obtain ⟨c, c0, c1, rfl⟩ := qch hb;exact .inl ⟨c, c0, c1, hu, ho⟩
 ·refine .inr ⟨h, fun b hb hu e => h ⟨b, hb, hu, ?_⟩⟩;have hg := js hV hb;rw [← e, wb (by omega)]
theorem qnf {l : List S116} {v : List Int} {words off : Int} (hV : HV l v words) : (qd2 l off ∧ Ev (fun k => i5.f k v off) true) ∨ (¬ qd2 l off ∧ Ev (fun k => i5.f k v off) false) := by
 have hf := qfs hV off;unfold i5.f;rcases qmk (off := off) hV with ⟨c, c0, c1, hu, ho⟩ | ⟨h, hno⟩
 ·rw [qd0 hV.1 c0 c1 hu ho] at hf;refine .inl ⟨⟨_, sx c0 c1, hu, ho⟩, ec hf ?_⟩;dsimp only;rw [decide_eq_true c0];exact Ev.now _
 ·rw [xn off l 0 hno] at hf;exact .inr ⟨h, ec hf (Ev.now _)⟩
end Go.Proofs.YtmfhaliclnnbaaaGreat.Pl
namespace Go.Proofs.YtmfhaliclnnbaaaGreat.Sys
open Go.RowKit Go.Proofs.YtmfhaliclnnbaaaGreatW.PrintWords Go.Proofs.YtmfhaliclnnbaaaGreatW.PrintLast Go.Proofs.YtmfhaliclnnbaaaGreatW.PrintMore
open Go.Proofs.YtmfhaliclnnbaaaGreat.XTopWhole Go.Proofs.YtmfhaliclnnbaaaGreat.Pl Go.Maps
set_option linter.unusedVariables false
set_option linter.unusedSimpArgs false
set_option maxRecDepth 100000
set_option maxHeartbeats 8000000
def d5 (e off : Int) (d : Value) : List Value := [.int .i64 e, .int .i64 off, d]
theorem e6 : (Tryz.prog.info? 36).map (·.size) = some 3 := by kernel_rfl
theorem qt {ops : Array Oper} {rest : List Oper} {o : Oper} {a : Act} {w : World} {Q : Exit → Act → World → Prop} (hg : o.guard = none) (t : TypeId) (i : Nat) (x : Operand) (ho : o.op = .build t #[(i, x)]) (u : Value) (hx : a.eval x = u) (cells : Array Value) (hb : Tryz.prog.built t [(i, u)] = some cells)
  (h : wpList Tryz.prog ops Q rest (a.put o.dst (.agg cells)) w) : wpList Tryz.prog ops Q (o :: rest) a w :=
 ku hg t _ ho [(i, u)] cells (by subst hx; simp) hb h
theorem xh (n : Int) : Tryz.prog.built 36 [(0, .int .i64 n)] = some (d5 n 0 (.slice none 0 0)).toArray := by kernel_rfl
theorem jb {e off : Int} {A : Option Addr} {n c : Nat} : ∀ v ∈ d5 e off (.slice A n c), v.oneCell' = true := by
 intro v hv;unfold d5 at hv;simp only [List.mem_cons, List.not_mem_nil, or_false] at hv;rcases hv with rfl | rfl | rfl <;> rfl
theorem qeq (p : Addr) (w : World) : CallsD Tryz.prog 49 #[.pointer (some p)] .returning w fun e u' w' => e = .returned (.tuple #[]) ∧ u' = .returning ∧ w' = w := by
 refine callsD_of_wpS Tryz.func49 rfl fun c₀ cs hu => ?_;apply wpS_seq;apply wpS_region;simp [wpOpsS, go_sem, recoverD, hu, Tryz.ntmps49, Exit.thenS];apply wpS_seq;apply wpS_region;simp [wpOpsS, go_sem, hu, Tryz.ntmps49, Exit.thenS];refine wpS_cond (t := false) (by simp [Act.eval, Array.replicate]) ?_;simp only [Bool.false_eq_true, if_false];refine wpS_of_wp (wp_skip ?_);cases c₀;simp_all [bodyPostS, results, Tryz.results49]
theorem yi (g : Nat) (cur : List Value) (n : Int) (older : List PanicEntry) (w : World) (hb : w.heap[g]? = some (.cells cur.toArray 36 (0, 0))) (h3 : cur.length = 3) : CallsD Tryz.prog 49 #[.pointer (some ⟨g, 0, none⟩)] (.panicking ({ v := .iface 29 (.int .i64 n), recovered := false } :: older)) w fun e u' w' => e = .returned (.tuple #[]) ∧ u' = .panicking ({ v := .iface 29 (.int .i64 n), recovered := true } :: older) ∧ w' = w.setRow g (d5 n 0 (.slice none 0 0)).toArray := by
 refine callsD_of_wpS Tryz.func49 rfl fun c₀ cs hu => ?_;apply wpS_seq;apply wpS_region;simp [wpOpsS, go_sem, recoverD, hu, Tryz.ntmps49, Exit.thenS];apply wpS_seq;apply wpS_region;simp [wpOpsS, go_sem, hu, Tryz.ntmps49, Exit.thenS];refine wpS_cond (t := true) (by simp [Act.eval, Array.replicate]) ?_;simp only [if_true];have hta : (Instr.typeAssert (.iface 29 (.int .i64 n)) 20 29 true).run Tryz.prog w = .ok (.tuple #[.int .i64 n, .bool true]) w := by unfold Instr.typeAssert;rw [Sem.run_bind, run_underlying Tryz.underlying29 w];simp
 have HB := am hb;have H3 := am h3;have HU := am hu;clear hb h3 hu;refine wpS_of_wp ?_;generalize hT : (#[Value.pointer (some { block := g, off := 0 })] ++ _ : Array Value) = T;have hT2 : T = #[.pointer (some ⟨g, 0, none⟩), .iface 29 (.int .i64 n), undef, undef, .iface 29 (.int .i64 n), .iface 29 (.int .i64 n), .bool true, undef, undef, undef, undef, undef, undef, undef, undef, undef, undef] := by rw [← hT]; simp [Array.replicate]
 subst hT2;clear hT;go_wp2_with (first
  | ((with_reducible refine bn (N := 16) rfl ?_); refine qt rfl 36 0 (.tmp 15) rfl (.int .i64 n) rfl _ (xh n) ?_; refine dk rfl 36 (.tmp 0) (.tmp 16) rfl g 0 (d5 n 0 (.slice none 0 0)) rfl rfl 36 cur HB.out e6 (by rw [H3.out]; exact Nat.le_refl 3) jb ?_))
 rw [iy _ _ (by rw [H3.out]; rfl)];simp [bodyPostS, results, Tryz.results49]
theorem qli {w : World} {H M C T : Nat} {p : Pn} {lv cv : Value} {worn : Bool} {m : Mem} (hH : lp w H M p T lv cv worn) (h : MemAt w M C m) (hd : m.down = true) : Calls Tryz.prog 55 #[.pointer (some ⟨H, 0, none⟩)] w fun e w' => Leaves 2 e ∧ Below w.heap.size w w' := by
 have k1 : w.cell? ⟨H, 0, none⟩ = some (.pointer (some ⟨M, 0, none⟩)) := (af hH 0).trans rfl;have HW := am (jf h 2);have E : Nvm.reg m 2 = (0, 2) := by unfold Nvm.reg; rw [hd]; rfl
 rw [E] at HW;clear h hH hd E;go_enter Tryz.func55, Tryz.ntmps55;go_wp2_with (first
  | (go_at_call 35; (with_reducible refine HW.out.mono ?_); rintro e w1 ⟨rfl, rfl⟩)
  | (go_at_call 102; (with_reducible refine (kf (by decide) _).mono ?_); rintro e w2 ⟨rfl, hb⟩))
 exact ⟨rfl, rfl, hb⟩
namespace Hp
def qnz (st : St) (e off : Int) : Prop := (st.m.down = true ∧ e = 2 ∧ off = 0) ∨ (st.m.down = false ∧ e = 0 ∧ off = wrap64 (st.m.regs.getD 2 0))
def DoR (p : Pn) (st : St) (op : S39) (e off : Int) (bs : List Int) (st' : St) : Prop :=
 (op.f0 = 1 ∧ bs = [] ∧ AllocR p st op.f2 e off st') ∨
 (op.f0 = 2 ∧ off = 0 ∧ bs = [] ∧ FreeR p st op.f1 e st') ∨
 (op.f0 = 3 ∧ off = 0 ∧ st' = st ∧ ReadR p st op.f1 op.f2 e bs) ∨
 (op.f0 = 4 ∧ off = 0 ∧ bs = [] ∧ WriteR p st op.f1 op.f4 e st') ∨
 (op.f0 = 5 ∧ off = 0 ∧ bs = [] ∧ RootR p st op.f1 e st') ∨
 (op.f0 = 6 ∧ bs = [] ∧ st' = st ∧ qnz st e off) ∨
 ((op.f0 < 1 ∨ 6 < op.f0) ∧ e = 1 ∧ off = 0 ∧ bs = [] ∧ st' = st)
end Hp
theorem kz {R : Ending → World → Prop} {tmps : Array Value} {w : World} {g : Nat} {e off : Int} {d : Value} (hp : tmps.getD 4 undef = .pointer (some ⟨g, 0, none⟩)) (hb : w.heap[g]? = some (.cells (d5 e off d).toArray 36 (0, 0))) (hR : R (.returned (.agg (d5 e off d).toArray)) w) : _root_.Go.Leaves Tryz.prog Tryz.f12 tmps R [{ target := .fn (.func 49) #[.pointer (some ⟨g, 0, none⟩)], args := #[] }] .returning w := by
 refine leaves_cons (f := 49) (args := #[.pointer (some ⟨g, 0, none⟩)]) (by simp) (by simp [go_sem]) ?_;refine (qeq ⟨g, 0, none⟩ _).mono ?_;rintro e u' w'' ⟨rfl, rfl, rfl⟩;exact ⟨_, sb (fn := Tryz.f12) (p := 4) (ty := 36) rfl _ _ g _ _ hp (bh hb) Tryz.underlying36 rfl e6, hR⟩
theorem ox {R : Ending → World → Prop} {tmps : Array Value} {w : World} {g : Nat} {cur : List Value} {n : Int} (hp : tmps.getD 4 undef = .pointer (some ⟨g, 0, none⟩)) (hb : w.heap[g]? = some (.cells cur.toArray 36 (0, 0))) (h3 : cur.length = 3) (hR : R (.returned (.agg (d5 n 0 (.slice none 0 0)).toArray)) (w.setRow g (d5 n 0 (.slice none 0 0)).toArray)) : _root_.Go.Leaves Tryz.prog Tryz.f12 tmps R [{ target := .fn (.func 49) #[.pointer (some ⟨g, 0, none⟩)], args := #[] }] (.panicking [{ v := .iface 29 (.int .i64 n), recovered := false }]) w := by
 refine leaves_cons (f := 49) (args := #[.pointer (some ⟨g, 0, none⟩)]) (by simp) (by simp [go_sem]) ?_;refine (yi g cur n [] _ hb h3).mono ?_;rintro e u' w'' ⟨rfl, rfl, rfl⟩;exact ⟨_, sb (fn := Tryz.f12) (p := 4) (ty := 36) rfl _ _ g _ _ hp (bh (setRow_heap _ _ _ _ _ _ hb)) Tryz.underlying36 rfl e6, hR⟩
theorem qmj : ∀ q, q ∈ 5 :: (Kd.int .u8).E → q ≠ 36 := by
 intro q hq;rcases List.mem_cons.1 hq with rfl | h
 ·decide
 ·cases h
theorem qng {w : World} {g : Nat} {e : Int} {d : Value} (h : w.heap[g]? = some (.cells (d5 e 0 d).toArray 36 (0, 0))) (off : Int) : (w.setCell ⟨g, 1, none⟩ (.int .i64 off)).heap[g]? = some (.cells (d5 e off d).toArray 36 (0, 0)) := by
 rw [heap_setCell_same _ _ _ _ _ _ h];rfl
theorem qnu {w : World} {g : Nat} {e off : Int} {d : Value} (h : w.heap[g]? = some (.cells (d5 e off d).toArray 36 (0, 0))) (d' : Value) : (w.setCell ⟨g, 2, none⟩ d').heap[g]? = some (.cells (d5 e off d').toArray 36 (0, 0)) := by
 rw [heap_setCell_same _ _ _ _ _ _ h];rfl
theorem HeapAt.away {w : World} {b : Bl} {p : Pn} {st : St} (h : HeapAt w b p st) {g : Nat} (hg : ¬ b.All g) (i : Nat) (v : Value) : HeapAt (w.setCell ⟨g, i, none⟩ v) b p st :=
 h.step (S := fun k => k = g) ((ah.refl (fun k => k = g) w).set (p := ⟨g, i, none⟩) (.inl rfl) v) (fun j hj e => hg (by rw [← e]; exact hj))
theorem HeapAt.awayRow {w : World} {b : Bl} {p : Pn} {st : St} (h : HeapAt w b p st) {g : Nat} (hg : ¬ b.All g) (cs : Array Value) : HeapAt (w.setRow g cs) b p st :=
 h.step (S := fun k => k = g) ((ah.refl (fun k => k = g) w).setRow (.inl rfl) cs) (fun j hj e => hg (by rw [← e]; exact hj))
theorem Hp.AllocR.off {p : Pn} {st st' : St} {n e off : Int} (h : Hp.AllocR p st n e off st') (he : e ≠ 0) : off = 0 := by
 rcases h with ⟨_, _, h, _⟩ | ⟨_, _, _, h, _⟩ | ⟨_, _, _, _, _, _, h, _⟩ | ⟨_, _, _, _, _, _, _, _, h, _⟩ | ⟨_, _, _, _, _, _, _, _, _, _, _, h⟩ <;> first | exact h | (rw [h, if_neg he])
theorem Hp.ReadR.bs {p : Pn} {st : St} {off n e : Int} {bs : List Int} (h : Hp.ReadR p st off n e bs) (he : e ≠ 0) : bs = [] := by
 rcases h with ⟨_, _, h⟩ | ⟨_, _, _, h, _⟩ | ⟨_, h, _⟩
 ·exact h
 ·exact h
 ·exact absurd h he
def opV (op : S39) (A : Option Addr) (c : Nat) : List Value := [.int .i64 op.f0, .int .i64 op.f1, .int .i64 op.f2, .int .i64 op.f3, .slice A op.f4.length c]
def qnv (w : World) (b : Bl) (p : Pn) (e off : Int) (bs : List Int) (st' : St) (x : Ending) (w' : World) : Prop :=
 ∃ d, x = .returned (.agg (d5 e off d).toArray) ∧ Kd.R (Kd.int .u8) 5 w' w.heap.size (fun _ => True) d bs ∧ HeapAt w' b p st' ∧ ah b.W w w'
section
variable {w : World} {b : Bl} {p : Pn} {st : St}
theorem xo (h : HeapAt w b p st) (hp : p.Ok) (hs : StOk p st) (op : S39) (A : Option Addr) (c : Nat) (hbs : Kd.C (Kd.int .u8) w A op.f4.length op.f4) (hbc : op.f4.length ≤ c) (e off : Int) (bs : List Int) (st' : St) (hr : Hp.DoR p st op e off bs st') : Calls Tryz.prog 12 #[.pointer (some ⟨b.H, 0, none⟩), .agg (opV op A c).toArray] w (qnv w b p e off bs st') := by
 have hmf : ∀ (fn : Fn) (first cap : Array Value) (w : World), (Instr.makeFunc fn first cap).run Tryz.prog w = .ok (.func fn first cap) w := fun _ _ _ _ => rfl;have H0 := am h;have HLt := am h.lt;have HBs := am hbs;have HBc := am hbc;have HP := am hp;have HS := am hs;clear h hbs hbc hp hs;unfold opV;obtain ⟨k0, k1, k2, k3, k4⟩ := op;dsimp only at *;unfold Hp.DoR at hr;dsimp only at hr;have HBz : Aside0 (Below w.heap.size w ((w.alloc (.cells #[.int .i64 k0, .int .i64 k1, .int .i64 k2, .int .i64 k3, .slice A k4.length c] 39)).alloc (.cells #[.int .i64 0, .int .i64 0, .slice none 0 0] 36))) := ⟨((Below.refl _ _).alloc (Nat.le_refl _) _).alloc (by simp) _⟩;have HGz : Aside0 (((w.alloc (.cells #[.int .i64 k0, .int .i64 k1, .int .i64 k2, .int .i64 k3, .slice A k4.length c] 39)).alloc (.cells #[.int .i64 0, .int .i64 0, .slice none 0 0] 36)).heap[w.heap.size + 1]? = some (.cells (d5 0 0 (.slice none 0 0)).toArray 36 (0, 0))) := ⟨heap_alloc2_new w _ _⟩;have HNot : Aside0 (¬ b.W (w.heap.size + 1)) := ⟨fun e => HLt.out (w.heap.size + 1) (by omega) (.inl e)⟩;rcases hr with ⟨hk, hb, ha⟩ | ⟨hk, ho, hb, ha⟩ | ⟨hk, ho, hst, ha⟩ | ⟨hk, ho, hb, ha⟩ | ⟨hk, ho, hb, ha⟩ | ⟨hk, hb, hst, ha⟩ | ⟨hk, he, ho, hb, hst⟩
 ·subst hk;subst hb;have hoff := ha.off;have HA := am ha;clear ha;by_cases c0 : e = 0
  ·subst c0;clear hoff;go_enter_defers Tryz.func12, Tryz.ntmps12;go_wp2_with (first
    | (go_at_call 50; (with_reducible refine (xt (H0.out.below HBz.out) HP.out HS.out k2 0 off st' HA.out).mono ?_); rintro x w1 ⟨h1, kk1, hE⟩; obtain rfl := hE.1 rfl; have G1 := am (kk1.of HGz.out HNot.out); have GX := am (qng G1.out off); have c1 : w1.cell? ⟨w.heap.size + 1, 1, none⟩ = some (.int .i64 0) := (af G1.out 1).trans rfl; have f1 : w1.frozen? ⟨w.heap.size + 1, 1, none⟩ = false := ac G1.out 1; have K1 := am (ah.step (ah.of_below HBz.out) kk1); have HA1 := am h1; clear h1 kk1 hE)
    | ((with_reducible refine ez (.load 36 (.tmp 4)) rfl ?_); refine aq rfl 36 (.tmp 4) rfl (w.heap.size + 1) 0 rfl (d5 0 off (.slice none 0 0)) _ (fun j v hv => by rw [Nat.zero_add]; exact bh GX.out j v hv) Tryz.underlying36 rfl e6 ?_)
    | ((with_reducible refine bf (t := 36) (p := 4) rfl ?_); refine dk rfl 36 (.tmp 4) (.tmp 53) rfl (w.heap.size + 1) 0 (d5 0 off (.slice none 0 0)) rfl rfl 36 (d5 0 off (.slice none 0 0)) GX.out e6 (Nat.le_refl _) jb ?_; rw [iy _ _ rfl, jh _ _ _ _ _ GX.out]))
   exact kz rfl GX.out ⟨_, rfl, Kd.R_nil _ _ _ _ _, HA1.out.away (HLt.out _ (by omega)) 1 _, K1.out.set (p := ⟨w.heap.size + 1, 1, none⟩) (.inr (by simp)) _⟩
  ·have E0 := am c0;clear c0;obtain rfl := hoff E0.out;go_enter_defers Tryz.func12, Tryz.ntmps12;go_wp2_with (first
    | (go_at_call 50; (with_reducible refine (xt (H0.out.below HBz.out) HP.out HS.out k2 e 0 st' HA.out).mono ?_); rintro x w1 ⟨h1, kk1, hE⟩; obtain rfl := hE.2 E0.out; have G1 := am (kk1.of HGz.out HNot.out); have K1 := am (ah.step (ah.of_below HBz.out) kk1); have HA1 := am h1; clear h1 kk1 hE))
   exact ox rfl G1.out rfl ⟨_, rfl, Kd.R_nil _ _ _ _ _, HA1.out.awayRow (HLt.out _ (by omega)) _, K1.out.setRow (.inr (by omega)) _⟩
 ·subst hk;subst hb;subst ho;have HA := am ha;clear ha;by_cases c0 : e = 0
  ·subst c0;go_enter_defers Tryz.func12, Tryz.ntmps12;go_wp2_with (first
    | (go_at_call 51; (with_reducible refine (qao (H0.out.below HBz.out) HP.out HS.out k1 0 st' HA.out).mono ?_); rintro x w1 ⟨h1, kk1, hE⟩; obtain rfl := hE.1 rfl; have G1 := am (kk1.of HGz.out HNot.out); have GX := G1; have K1 := am (ah.step (ah.of_below HBz.out) kk1); have HA1 := am h1; clear h1 kk1 hE)
    | ((with_reducible refine ez (.load 36 (.tmp 4)) rfl ?_); refine aq rfl 36 (.tmp 4) rfl (w.heap.size + 1) 0 rfl (d5 0 0 (.slice none 0 0)) _ (fun j v hv => by rw [Nat.zero_add]; exact bh GX.out j v hv) Tryz.underlying36 rfl e6 ?_)
    | ((with_reducible refine bf (t := 36) (p := 4) rfl ?_); refine dk rfl 36 (.tmp 4) (.tmp 53) rfl (w.heap.size + 1) 0 (d5 0 0 (.slice none 0 0)) rfl rfl 36 (d5 0 0 (.slice none 0 0)) GX.out e6 (Nat.le_refl _) jb ?_; rw [iy _ _ rfl, jh _ _ _ _ _ GX.out]))
   exact kz rfl GX.out ⟨_, rfl, Kd.R_nil _ _ _ _ _, HA1.out, K1.out⟩
  ·have E0 := am c0;clear c0;go_enter_defers Tryz.func12, Tryz.ntmps12;go_wp2_with (first
    | (go_at_call 51; (with_reducible refine (qao (H0.out.below HBz.out) HP.out HS.out k1 e st' HA.out).mono ?_); rintro x w1 ⟨h1, kk1, hE⟩; obtain rfl := hE.2 E0.out; have G1 := am (kk1.of HGz.out HNot.out); have K1 := am (ah.step (ah.of_below HBz.out) kk1); have HA1 := am h1; clear h1 kk1 hE))
   exact ox rfl G1.out rfl ⟨_, rfl, Kd.R_nil _ _ _ _ _, HA1.out.awayRow (HLt.out _ (by omega)) _, K1.out.setRow (.inr (by omega)) _⟩
 ·subst hk;subst hst;subst ho;have HA := am ha;have hbs := ha.bs;clear ha;by_cases c0 : e = 0
  ·subst c0;clear hbs;go_enter_defers Tryz.func12, Tryz.ntmps12;go_wp2_with (first
    | (go_at_call 52; (with_reducible refine (y7 (H0.out.below HBz.out) HP.out HS.out k1 k2 0 bs HA.out).mono ?_); rintro x w1 ⟨h1, kk0, v, hE, ho⟩; have kk1 := ah.of_below (S := b.W) kk0; obtain rfl := hE.1 rfl; have G1 := am (kk1.of HGz.out HNot.out); obtain ⟨Av, cv, ev⟩ := Kd.R_slice ho; subst ev; have GX := am (qnu G1.out (.slice Av bs.length cv)); have HO := am (Kd.R_lower (Kd.R_set ho G1.out qmj 2 (.slice Av bs.length cv)) (show w.heap.size ≤ _ by simp; omega)); have c1 : w1.cell? ⟨w.heap.size + 1, 2, none⟩ = some (.slice none 0 0) := (af G1.out 2).trans rfl; have f1 : w1.frozen? ⟨w.heap.size + 1, 2, none⟩ = false := ac G1.out 2; have K1 := am (ah.step (ah.of_below HBz.out) kk1); have HA1 := am h1; clear h1 kk1 hE kk0 ho)
    | ((with_reducible refine ez (.load 36 (.tmp 4)) rfl ?_); refine aq rfl 36 (.tmp 4) rfl (w.heap.size + 1) 0 rfl (d5 0 0 (.slice Av bs.length cv)) _ (fun j v hv => by rw [Nat.zero_add]; exact bh GX.out j v hv) Tryz.underlying36 rfl e6 ?_)
    | ((with_reducible refine bf (t := 36) (p := 4) rfl ?_); refine dk rfl 36 (.tmp 4) (.tmp 53) rfl (w.heap.size + 1) 0 (d5 0 0 (.slice Av bs.length cv)) rfl rfl 36 (d5 0 0 (.slice Av bs.length cv)) GX.out e6 (Nat.le_refl _) jb ?_; rw [iy _ _ rfl, jh _ _ _ _ _ GX.out]))
   exact kz rfl GX.out ⟨_, rfl, HO.out, HA1.out.away (HLt.out _ (by omega)) 2 _, K1.out.set (p := ⟨w.heap.size + 1, 2, none⟩) (.inr (by simp)) _⟩
  ·have E0 := am c0;obtain rfl := hbs c0;clear c0 hbs;go_enter_defers Tryz.func12, Tryz.ntmps12;go_wp2_with (first
    | (go_at_call 52; (with_reducible refine (y7 (H0.out.below HBz.out) HP.out HS.out k1 k2 e [] HA.out).mono ?_); rintro x w1 ⟨h1, kk0, v, hE, ho⟩; have kk1 := ah.of_below (S := b.W) kk0; obtain rfl := hE.2 E0.out; have G1 := am (kk1.of HGz.out HNot.out); have K1 := am (ah.step (ah.of_below HBz.out) kk1); have HA1 := am h1; clear h1 kk1 hE kk0 ho))
   exact ox rfl G1.out rfl ⟨_, rfl, Kd.R_nil _ _ _ _ _, HA1.out.awayRow (HLt.out _ (by omega)) _, K1.out.setRow (.inr (by omega)) _⟩
 ·subst hk;subst hb;subst ho;have HA := am ha;clear ha;by_cases c0 : e = 0
  ·subst c0;go_enter_defers Tryz.func12, Tryz.ntmps12;go_wp2_with (first
    | (go_at_call 53; (with_reducible refine (wk (H0.out.below HBz.out) HP.out HS.out k1 0 A c k4 (Kd.C_below HBs.out HBz.out) HBc.out st' HA.out).mono ?_); rintro x w1 ⟨h1, kk1, hE⟩; obtain rfl := hE.1 rfl; have G1 := am (kk1.of HGz.out HNot.out); have GX := G1; have K1 := am (ah.step (ah.of_below HBz.out) kk1); have HA1 := am h1; clear h1 kk1 hE)
    | ((with_reducible refine ez (.load 36 (.tmp 4)) rfl ?_); refine aq rfl 36 (.tmp 4) rfl (w.heap.size + 1) 0 rfl (d5 0 0 (.slice none 0 0)) _ (fun j v hv => by rw [Nat.zero_add]; exact bh GX.out j v hv) Tryz.underlying36 rfl e6 ?_)
    | ((with_reducible refine bf (t := 36) (p := 4) rfl ?_); refine dk rfl 36 (.tmp 4) (.tmp 53) rfl (w.heap.size + 1) 0 (d5 0 0 (.slice none 0 0)) rfl rfl 36 (d5 0 0 (.slice none 0 0)) GX.out e6 (Nat.le_refl _) jb ?_; rw [iy _ _ rfl, jh _ _ _ _ _ GX.out]))
   exact kz rfl GX.out ⟨_, rfl, Kd.R_nil _ _ _ _ _, HA1.out, K1.out⟩
  ·have E0 := am c0;clear c0;go_enter_defers Tryz.func12, Tryz.ntmps12;go_wp2_with (first
    | (go_at_call 53; (with_reducible refine (wk (H0.out.below HBz.out) HP.out HS.out k1 e A c k4 (Kd.C_below HBs.out HBz.out) HBc.out st' HA.out).mono ?_); rintro x w1 ⟨h1, kk1, hE⟩; obtain rfl := hE.2 E0.out; have G1 := am (kk1.of HGz.out HNot.out); have K1 := am (ah.step (ah.of_below HBz.out) kk1); have HA1 := am h1; clear h1 kk1 hE))
   exact ox rfl G1.out rfl ⟨_, rfl, Kd.R_nil _ _ _ _ _, HA1.out.awayRow (HLt.out _ (by omega)) _, K1.out.setRow (.inr (by omega)) _⟩
 ·subst hk;subst hb;subst ho;have HA := am ha;clear ha;by_cases c0 : e = 0
  ·subst c0;go_enter_defers Tryz.func12, Tryz.ntmps12;go_wp2_with (first
    | (go_at_call 54; (with_reducible refine (ug (H0.out.below HBz.out) HP.out HS.out k1 0 st' HA.out).mono ?_); rintro x w1 ⟨h1, kk1, hE⟩; obtain rfl := hE.1 rfl; have G1 := am (kk1.of HGz.out HNot.out); have GX := G1; have K1 := am (ah.step (ah.of_below HBz.out) kk1); have HA1 := am h1; clear h1 kk1 hE)
    | ((with_reducible refine ez (.load 36 (.tmp 4)) rfl ?_); refine aq rfl 36 (.tmp 4) rfl (w.heap.size + 1) 0 rfl (d5 0 0 (.slice none 0 0)) _ (fun j v hv => by rw [Nat.zero_add]; exact bh GX.out j v hv) Tryz.underlying36 rfl e6 ?_)
    | ((with_reducible refine bf (t := 36) (p := 4) rfl ?_); refine dk rfl 36 (.tmp 4) (.tmp 53) rfl (w.heap.size + 1) 0 (d5 0 0 (.slice none 0 0)) rfl rfl 36 (d5 0 0 (.slice none 0 0)) GX.out e6 (Nat.le_refl _) jb ?_; rw [iy _ _ rfl, jh _ _ _ _ _ GX.out]))
   exact kz rfl GX.out ⟨_, rfl, Kd.R_nil _ _ _ _ _, HA1.out, K1.out⟩
  ·have E0 := am c0;clear c0;go_enter_defers Tryz.func12, Tryz.ntmps12;go_wp2_with (first
    | (go_at_call 54; (with_reducible refine (ug (H0.out.below HBz.out) HP.out HS.out k1 e st' HA.out).mono ?_); rintro x w1 ⟨h1, kk1, hE⟩; obtain rfl := hE.2 E0.out; have G1 := am (kk1.of HGz.out HNot.out); have K1 := am (ah.step (ah.of_below HBz.out) kk1); have HA1 := am h1; clear h1 kk1 hE))
   exact ox rfl G1.out rfl ⟨_, rfl, Kd.R_nil _ _ _ _ _, HA1.out.awayRow (HLt.out _ (by omega)) _, K1.out.setRow (.inr (by omega)) _⟩
 ·subst hk;subst hb;subst hst;rcases ha with ⟨hd, he, ho⟩ | ⟨hd, he, ho⟩
  ·subst he;subst ho;have HA := am hd;clear hd;go_enter_defers Tryz.func12, Tryz.ntmps12;go_wp2_with (first
    | (go_at_call 55; (with_reducible refine (qli (H0.out.below HBz.out).box (H0.out.below HBz.out).tur.mem HA.out).mono ?_); rintro x w1 ⟨rfl, kk0⟩; have kk1 := ah.of_below (S := b.W) kk0; have h1 := (H0.out.below HBz.out).below kk0; have G1 := am (kk1.of HGz.out HNot.out); have K1 := am (ah.step (ah.of_below HBz.out) kk1); have HA1 := am h1; clear h1 kk1 kk0))
   exact ox rfl G1.out rfl ⟨_, rfl, Kd.R_nil _ _ _ _ _, HA1.out.awayRow (HLt.out _ (by omega)) _, K1.out.setRow (.inr (by omega)) _⟩
  ·subst he;subst ho;have HA := am hd;clear hd;obtain ⟨rv, hrv⟩ : ∃ rv, wrap64 (st'.m.regs.getD 2 0) = rv := ⟨_, rfl⟩;have HRv := am hrv;rw [hrv];clear hrv;go_enter_defers Tryz.func12, Tryz.ntmps12;go_wp2_with (first
    | (go_at_call 55; (with_reducible refine (y4 (H0.out.below HBz.out).box (H0.out.below HBz.out).tur.mem HA.out).mono ?_); rintro x w1 ⟨rfl, kk0⟩; rw [HRv.out]; have kk1 := ah.of_below (S := b.W) kk0; have h1 := (H0.out.below HBz.out).below kk0; have G1 := am (kk1.of HGz.out HNot.out); have GX := am (qng G1.out rv); have c1 : w1.cell? ⟨w.heap.size + 1, 1, none⟩ = some (.int .i64 0) := (af G1.out 1).trans rfl; have f1 : w1.frozen? ⟨w.heap.size + 1, 1, none⟩ = false := ac G1.out 1; have K1 := am (ah.step (ah.of_below HBz.out) kk1); have HA1 := am h1; clear h1 kk1 kk0)
    | ((with_reducible refine ez (.load 36 (.tmp 4)) rfl ?_); refine aq rfl 36 (.tmp 4) rfl (w.heap.size + 1) 0 rfl (d5 0 rv (.slice none 0 0)) _ (fun j v hv => by rw [Nat.zero_add]; exact bh GX.out j v hv) Tryz.underlying36 rfl e6 ?_)
    | ((with_reducible refine bf (t := 36) (p := 4) rfl ?_); refine dk rfl 36 (.tmp 4) (.tmp 53) rfl (w.heap.size + 1) 0 (d5 0 rv (.slice none 0 0)) rfl rfl 36 (d5 0 rv (.slice none 0 0)) GX.out e6 (Nat.le_refl _) jb ?_; rw [iy _ _ rfl, jh _ _ _ _ _ GX.out]))
   exact kz rfl GX.out ⟨_, rfl, Kd.R_nil _ _ _ _ _, HA1.out.away (HLt.out _ (by omega)) 1 _, K1.out.set (p := ⟨w.heap.size + 1, 1, none⟩) (.inr (by simp)) _⟩
 ·subst he;subst ho;subst hb;subst hst;have b1 : (k0 == 1) = false := beq_eq_false_iff_ne.2 (by omega);have b2 : (k0 == 2) = false := beq_eq_false_iff_ne.2 (by omega);have b3 : (k0 == 3) = false := beq_eq_false_iff_ne.2 (by omega);have b4 : (k0 == 4) = false := beq_eq_false_iff_ne.2 (by omega);have b5 : (k0 == 5) = false := beq_eq_false_iff_ne.2 (by omega);have b6 : (k0 == 6) = false := beq_eq_false_iff_ne.2 (by omega);clear hk;have HBy : Aside0 (Below w.heap.size w ((w.alloc (.cells #[.int .i64 k0, .int .i64 k1, .int .i64 k2, .int .i64 k3, .slice A k4.length c] 39)).alloc (.cells #[.int .i64 1, .int .i64 0, .slice none 0 0] 36))) := ⟨((Below.refl _ _).alloc (Nat.le_refl _) _).alloc (by simp) _⟩;have GX : Aside0 (((w.alloc (.cells #[.int .i64 k0, .int .i64 k1, .int .i64 k2, .int .i64 k3, .slice A k4.length c] 39)).alloc (.cells #[.int .i64 1, .int .i64 0, .slice none 0 0] 36)).heap[w.heap.size + 1]? = some (.cells (d5 1 0 (.slice none 0 0)).toArray 36 (0, 0))) := ⟨heap_alloc2_new w _ _⟩;go_enter_defers Tryz.func12, Tryz.ntmps12;go_wp2_with (first
   | ((with_reducible refine ez (.load 36 (.tmp 4)) rfl ?_); refine aq rfl 36 (.tmp 4) rfl (w.heap.size + 1) 0 rfl (d5 1 0 (.slice none 0 0)) _ (fun j v hv => by rw [Nat.zero_add]; exact bh GX.out j v hv) Tryz.underlying36 rfl e6 ?_)
   | ((with_reducible refine bf (t := 36) (p := 4) rfl ?_); refine dk rfl 36 (.tmp 4) (.tmp 53) rfl (w.heap.size + 1) 0 (d5 1 0 (.slice none 0 0)) rfl rfl 36 (d5 1 0 (.slice none 0 0)) GX.out e6 (Nat.le_refl _) jb ?_; rw [iy _ _ rfl, jh _ _ _ _ _ GX.out]))
  exact kz rfl GX.out ⟨_, rfl, Kd.R_nil _ _ _ _ _, H0.out.below HBy.out, ah.of_below HBy.out⟩
end
theorem qhw (es : List S160) : ∀ ws, Sp.apply ws es = app ws es := by
 induction es with
 | nil => intro ws; rfl
 | cons e es ih => intro ws; exact ih (Sp.apply1 ws e)
def xl (l : List S116) (r : Int) : Prop := r = 0 ∨ qd2 l r
structure HInv (p : Pn) (st : St) (l : List S116) (v : List Int) (r : Int) : Prop where
 inv : LInv p.shape st.m
 wd : wv p st.m p.lines.toNat = v
 hv : HV l v (p.lines * 8)
 rt : st.m.regs.getD 2 0 = r
 ri : xl l r
 now : st.now.length = ((p.lines + 3) / 4).toNat
def qnc (l : List S116) (v : List Int) (r : Int) (now : List Int) (op : S39) (off : Int) (l' : List S116) (v' : List Int) (r' : Int) : Prop :=
 (op.f0 = 1 ∧ r' = r ∧ ∃ c, qa2 l c (ij op.f2) ∧ ij op.f2 ≠ 0 ∧ Ev (fun k => dp.f k v op.f2 now) (eds (aa l c) (ij op.f2), off, 0) ∧ off = ((aa l c).f0 + 1) * 8 ∧ l' = crv l c (ij op.f2) ∧ v' = app v (eds (aa l c) (ij op.f2))) ∨
 (op.f0 = 2 ∧ r' = r ∧ off = 0 ∧ ∃ c : Int, 0 ≤ c ∧ c < l.length ∧ (aa l c).f2 = true ∧ op.f1 = ((aa l c).f0 + 1) * 8 ∧ r ≠ op.f1 ∧ l' = mrg l c ∧ v' = v.set (aa l (fa l c)).f0.toNat (l7 (dh (mM l c)) false)) ∨
 (op.f0 = 4 ∧ r' = r ∧ off = 0 ∧ op.f4 ≠ [] ∧ uw l op.f1 op.f4.length ∧ l' = l ∧ v' = l8 v op.f4 op.f1 op.f4.length) ∨
 (op.f0 = 5 ∧ r' = op.f1 ∧ off = 0 ∧ xl l op.f1 ∧ l' = l ∧ v' = v)
def qm1 (op : S39) : Prop := op.f0 = 3 ∨ op.f0 = 6 ∨ (op.f0 = 4 ∧ op.f4 = [])
structure Kp (st st' : St) : Prop where
 lim : ∀ j, fk st'.m j = fk st.m j
 cut : st.m.cut < 0 → st'.m.cut = st.m.cut
 mv : Trn.moves st.m ≤ Trn.moves st'.m ∧ Trn.moves st'.m ≤ Trn.moves st.m + 40
 fresh : Hp.isWorn st.worn st.m = false → st'.m.down = false → Hp.isWorn st'.worn st'.m = false ∨ ∃ j, 0 ≤ fk st.m j
theorem Kp.refl (st : St) : Kp st st := ⟨fun _ => rfl, fun _ => rfl, by omega, fun h _ => .inl h⟩
structure DoneR (p : Pn) (st : St) (op : S39) (e off : Int) (st' : St) (l : List S116) (v : List Int) (r : Int) : Prop where
 kp : Kp st st'
 stuck : Hp.isWorn st.worn st.m = true → st' = st ∧ (e = 0 → qm1 op)
 two : (e = 2 → st'.m.down = true) ∧ (st.m.down = false → st'.m.down = true → e = 2)
 cutd : st.m.down = false → st'.m.down = true → 0 ≤ st.m.cut
 three : e = 3 → Hp.isWorn st.worn st.m = true ∨ ∃ j, 0 ≤ fk st.m j
 err : e ≠ 0 → off = 0
 eff : (e = 0 ∧ qm1 op ∧ st' = st) ∨ (e = 0 ∧ ∃ l' v' r', qnc l v r st.now op off l' v' r' ∧ HInv p st' l' v' r') ∨ (e ≠ 0 ∧ HInv p st' l v r) ∨ (e = 2 ∧ ∃ o l' v' r', qnc l v r st.now op o l' v' r' ∧ HInv p st' l' v' r')
section
variable {p : Pn} {st : St} {l : List S116} {v : List Int} {r : Int}
theorem HInv.rd (h : HInv p st l v r) (hu : st.m.down = false) : Lg.Rd p.shape st.m := fun line _ _ => by
 rw [rb h.inv.ok hu];exact ⟨rfl, (h.inv.ok.lineW line).2⟩
theorem LInv.c14 {s : Shape} {m : Mem} (h : LInv s m) : 0 ≤ Lg.count m ∧ Lg.count m ≤ 14 := by rcases h.cnt with c | ⟨a, b, _⟩ <;> omega
theorem HInv.stOk (h : HInv p st l v r) (hb : Trn.moves st.m + 40 ≤ 4611686018427387903) : StOk p st :=
 ⟨h.rd, h.inv.c14.2, h.now, by unfold Trn.moves at hb; omega⟩
theorem HInv.ws (h : HInv p st l v r) (hp : p.Ok) (hu : st.m.down = false) : Hp.ws p st = v := by
 rw [← h.wd];exact qan h.inv hu _ (by have := hp.l1; omega)
theorem HInv.rr (h : HInv p st l v r) (hp : p.Ok) : 0 ≤ r ∧ r ≤ 4104 := by
 have := hp.l2;rcases h.ri with e | ⟨b, hb, _, e⟩
 ·omega
 ·have := js h.hv hb;omega
theorem ky {f : Bool} {m : Mem} (hu : m.down = false) : Hp.isWorn f m = false ↔ f = false ∧ Lg.count m = 0 := by
 unfold Hp.isWorn Nvm.reg;rw [hu];show (f || (m.regs.getD 1 0 != 0)) = false ↔ _;rw [Bool.or_eq_false_iff, bne_eq_false_iff_eq];rfl
theorem qas {es : List S160} (hne : es ≠ []) (hlen : es.length ≤ 1000) (a : Int) (a0 : 0 ≤ a) (h : ∀ e ∈ es, a ≤ e.f0 ∧ e.f0 < a + 64 ∧ e.f0 < p.lines * 8) (hv : ∀ e ∈ es, 0 ≤ e.f1 ∧ e.f1 ≤ 18446744073709551615) : EdFit p es := by
 refine ⟨⟨hlen, ?_, fun e he => by have := h e he; omega⟩, ⟨a, a0, fun e he => by have := h e he; omega⟩, hv⟩;obtain ⟨e, he⟩ := List.exists_mem_of_ne_nil es hne;refine List.length_pos_iff.2 (List.ne_nil_of_mem (a := e.f0 / 8) ?_);unfold Sp.linesTo;exact List.mem_map.2 ⟨e, List.mem_filter.2 ⟨he, by have := h e he; simp; omega⟩, rfl⟩
structure ComO (p : Pn) (st : St) (e : Int) (st' : St) (l : List S116) (v : List Int) (r : Int) (l' : List S116) (v' : List Int) : Prop where
 kp : Kp st st'
 two : e = 2 ↔ st'.m.down = true
 cutd : st'.m.down = true → 0 ≤ st.m.cut
 three : e = 3 → ∃ j, 0 ≤ fk st.m j
 kind : e = 0 ∨ e = 2 ∨ e = 3
 eff : (e = 0 ∧ HInv p st' l' v' r) ∨ (e ≠ 0 ∧ HInv p st' l v r) ∨ (e = 2 ∧ HInv p st' l' v' r)
theorem qep {es : List S160} {l' : List S116} (h : HInv p st l v r) (hp : p.Ok) (hu : st.m.down = false) (hw : Hp.isWorn st.worn st.m = false) (hb : Trn.moves st.m + 40 ≤ 4611686018427387903) (he : EdFit p es) (hn : HV l' (app v es) (p.lines * 8)) (hr : xl l' r) : ComO p st (Hp.commit p st v es).1 (Hp.commit p st v es).2 l v r l' (app v es) := by
 obtain ⟨hw1, hw2⟩ := (ky hu).1 hw;have hC := qez hp h.inv hu hw2 he hb;rw [h.wd] at hC;have hres := hC.res;rw [h.wd, qhw] at hres;generalize Hp.commit p st v es = c at hC hres;obtain ⟨e, st'⟩ := c;dsimp only at hC hres ⊢;have old : wv p st'.m p.lines.toNat = v → HInv p st' l v r := fun e => ⟨hC.inv, e, h.hv, by rw [hC.root]; exact h.rt, h.ri, by rw [hC.now]; exact h.now⟩;have new : wv p st'.m p.lines.toNat = app v es → HInv p st' l' (app v es) r := fun e => ⟨hC.inv, e, hn, by rw [hC.root]; exact h.rt, hr, by rw [hC.now]; exact h.now⟩;refine ⟨⟨hC.lim, hC.cut, hC.mv, fun _ hd => ?_⟩, ?_, fun hd => ?_, fun e3 => ?_, ?_, ?_⟩
 ·rcases hC.cln hd with c | c
  ·by_cases hf : st'.worn = true
   ·rcases hC.worn hf with e | e
    ·rw [hw1] at e; cases e
    ·exact .inr e
   ·exact .inl ((ky hd).2 ⟨by simpa using hf, c⟩)
  ·exact .inr c
 ·rcases hres with ⟨a, b, _⟩ | ⟨a, b, _⟩ | ⟨a, b, _⟩
  ·rw [a, b]; exact ⟨fun h => absurd h (by decide), fun h => (by cases h)⟩
  ·rw [a, b]; exact ⟨fun h => absurd h (by decide), fun h => (by cases h)⟩
  ·exact ⟨fun _ => b, fun _ => a⟩
 ·rcases hres with ⟨a, b, _⟩ | ⟨a, b, _⟩ | ⟨a, b, c, _⟩
  ·rw [b] at hd; cases hd
  ·rw [b] at hd; cases hd
  ·exact c
 ·rcases hres with ⟨a, b, _⟩ | ⟨a, b, _, c⟩ | ⟨a, b, c, _⟩
  ·omega
  ·exact c
  ·omega
 ·rcases hres with ⟨a, _⟩ | ⟨a, _⟩ | ⟨a, _⟩ <;> omega
 ·rcases hres with ⟨a, b, c⟩ | ⟨a, b, c, _⟩ | ⟨a, b, _, c | c⟩
  ·exact .inl ⟨a, new c⟩
  ·exact .inr (.inl ⟨by omega, old c⟩)
  ·exact .inr (.inl ⟨by omega, old c⟩)
  ·exact .inr (.inr ⟨a, new c⟩)
theorem DoneR.same {op : S39} {e off : Int} (h : HInv p st l v r) (h2 : e = 2 → st.m.down = true) (h3 : e = 3 → Hp.isWorn st.worn st.m = true) (h0 : e = 0 → qm1 op) (he : e ≠ 0 → off = 0) : DoneR p st op e off st l v r := by
 refine ⟨Kp.refl st, fun _ => ⟨rfl, h0⟩, ⟨h2, fun a b => (by rw [a] at b; cases b)⟩, fun a b => (by rw [a] at b; cases b), fun e => .inl (h3 e), he, ?_⟩;by_cases c : e = 0
 ·exact .inl ⟨c, h0 c, rfl⟩
 ·exact .inr (.inr (.inl ⟨c, h⟩))
end
section
variable {p : Pn} {st : St} {l : List S116} {v : List Int} {r : Int} {op : S39}
theorem qny {b : Bool} (h : ¬ b = true) : b = false := by simpa using h
theorem qeg {l : List S116} {c need r : Int} (can : qa2 l c need) (h : xl l r) : xl (crv l c need) r := by
 obtain ⟨_, h0, h1, hf, _⟩ := can;rcases h with e | ⟨b, hb, hu, ho⟩
 ·exact .inl e
 ·refine .inr ⟨b, (qe1 h0 h1).2 ?_, hu, ho⟩;rcases (qn3 h0 h1).1 hb with hx | hx | hx
  ·exact .inl hx
  ·rw [hx, hf] at hu; cases hu
  ·exact .inr (.inr hx)
theorem qm5 (h : HInv p st l v r) (hp : p.Ok) : wrap64 (st.m.regs.getD 2 0) = r := by
 have := h.rr hp;rw [h.rt, w64 (by omega)]
theorem qlf {l : List S116} {v : List Int} {words i : Int} (h : HV l v words) (hc : Pl.Can l i) : HV (mrg l i) (app v [⟨(aa l (fa l i)).f0, l7 (dh (mM l i)) false⟩]) words := by
 have hi : 0 ≤ i ∧ i < l.length := ⟨hc.2.1, hc.2.2.1⟩;have ft := tr hi;have hg := js h (sx ft.1 (by omega));have hlen := h.2.2.1;have : app v [⟨(aa l (fa l i)).f0, l7 (dh (mM l i)) false⟩] = v.set (aa l (fa l i)).f0.toNat (l7 (dh (mM l i)) false) := by show (if 0 ≤ (aa l (fa l i)).f0 ∧ (aa l (fa l i)).f0 < v.length then _ else _) = _;rw [if_pos (by omega)]
 rw [this];exact qmz h hc
theorem qiv (n : Int) : 0 ≤ l7 n false ∧ l7 n false ≤ 18446744073709551615 := by
 unfold l7;split
 ·simp only [Bool.false_eq_true, if_false]; omega
 ·omega
theorem qhi (h : HV l v (p.lines * 8)) {B : List Int} (hB : Bys B) {o : Int} (hi : uw l o B.length) : HV l (l8 v B o B.length) (p.lines * 8) := by
 obtain ⟨n0, n1, b, hb, hu, h3, h4⟩ := hi;have hg := js h hb;have hlen := h.2.2.1;refine ⟨h.1, qaw h.2.1 hB _, by rw [qak]; exact hlen, fun x hx => ?_⟩;have hxg := js h hx;rw [← h.2.2.2 x hx];refine qbz h.2.1 hB (by omega) _ (by omega) _ (by omega) ?_;rcases qji h.1 hx hb with e | e | e
 ·left; rw [e]; omega
 ·left; omega
 ·right; omega
end
theorem qi9 : ∀ q, q ∈ 3 :: (Kd.int .i64).E → q ≠ 141 := by
 intro q hq;rcases List.mem_cons.1 hq with rfl | h
 ·decide
 ·cases h
structure NewP (w0 W : World) (v1 v2 : Value) (xs ys : List Int) : Prop where
 r1 : Kd.R (Kd.int .i64) 3 W w0.heap.size (fun k => True ∧ some k ≠ v2.ownBlock) v1 xs
 r2 : Kd.R (Kd.int .i64) 3 W w0.heap.size (fun k => True ∧ some k ≠ v1.ownBlock) v2 ys
 bel : Below w0.heap.size w0 W
theorem NewP.swap {w0 W : World} {v1 v2 : Value} {xs ys : List Int} (h : NewP w0 W v1 v2 xs ys) : NewP w0 W v2 v1 ys xs := ⟨h.r2, h.r1, h.bel⟩
theorem NewP.below {w0 W W' : World} {v1 v2 : Value} {xs ys : List Int} (h : NewP w0 W v1 v2 xs ys) (hb : Below W.heap.size W W') : NewP w0 W' v1 v2 xs ys := ⟨Kd.R_below h.r1 hb, Kd.R_below h.r2 hb, ab h.bel hb⟩
theorem qjy : (Tryz.prog.info? 44).map (·.size) = some 1 := by kernel_rfl
theorem NewP.set1 {w0 W : World} {v1 v2 : Value} {xs ys : List Int} (h : NewP w0 W v1 v2 xs ys) {g : Nat} {cs : Array Value} (hg : W.heap[g]? = some (.cells cs 141 (0, 0))) (hb : w0.heap.size ≤ g) (i : Nat) (u : Value) : NewP w0 (W.setCell ⟨g, i, none⟩ u) v1 v2 xs ys :=
 ⟨Kd.R_set h.r1 hg qi9 i u, Kd.R_set h.r2 hg qi9 i u, h.bel.setCell hb _⟩
theorem qdp {w : World} {base g n c : Nat} {ok : Nat → Prop} {xs : List Int} (h : Kd.R (Kd.int .i64) 3 w base ok (.slice (some ⟨g, 0, none⟩) n c) xs) : Kd.R (Kd.int .i64) 3 w base (fun k => k = g) (.slice (some ⟨g, 0, none⟩) n c) xs :=
 ⟨fun k hk => (by simpa [Value.ownBlock] using hk : g = k).symm, h.2.imp_ (fun _ _ hp => hp)⟩
theorem qhr {w : World} {g : Nat} {n : Int} (h : w.heap[g]? = some (.cells #[.int .i64 n] 3 (0, 0))) : gu (fun (x : Int) cs => cs = [Value.int .i64 x]) 1 w (some ⟨g, 0, none⟩) 1 [n] := by
 refine ⟨rfl, by decide, fun _ => ⟨⟨g, 0, none⟩, rfl, fun j p hp => ?_⟩⟩
 match j, hp with
 | 0, hp =>
  obtain rfl : n = p := by simpa using hp
  refine ⟨[.int .i64 n], rfl, rfl, fun i u hu => ?_⟩
  match i, hu with
  | 0, hu =>
   obtain rfl : Value.int .i64 n = u := by simpa using hu
   exact (af h 0).trans rfl
section
variable {ops : Array Oper} {o : Oper} {a : Act} {Q : Exit → Act → World → Prop} {Kc : Act → World → Prop}
theorem oq {w0 W : World} {v1 v2 : Value} {xs ys : List Int} {n : Int} {g : Nat} (hw : Region.wanted o (yielded ops a.tmps) = true) (s x : Operand) (ho : o.op = .call { callee := .builtin .append, args := #[s, x], argTypes := #[44, 44] }) (hs : a.eval s = v1) (hx : a.eval x = .slice (some ⟨g, 0, none⟩) 1 1) (hg : W.heap[g]? = some (.cells #[.int .i64 n] 3 (0, 0))) (hP : NewP w0 W v1 v2 xs ys) (hl : xs.length ≤ 1000) (h : ∀ v1' w1, NewP w0 w1 v1' v2 (xs ++ [n]) ys → W.grownBy w1 v1.ownBlock → Kc (a.put o.dst v1') w1) : if Region.wanted o (yielded ops a.tmps) = true then Oper.wp Tryz.prog o a W Kc Q else Kc (a.put o.dst undef) W := by
 refine Kd.R_append_rows_step (Kd.int .i64) (Rr := fun x cs => cs = [Value.int .i64 x]) (w0 := w0) w0.heap.size hw s x 44 3 (.int .i64 0) 8 ho Tryz.underlying44 uj rfl (by decide) (by omega) v1 xs [n] (some ⟨g, 0, none⟩) 1 1 (fun k => True ∧ some k ≠ v2.ownBlock) (fun _ => False) hs hx hP.r1 (qhr hg) (fun _ _ h => h) (fun _ h => h.elim) (fun k hk => ⟨trivial, fun e => ?_⟩) hP.bel hP.bel.size (by omega) (fun v1' w1 ho hb hg hat => h v1' w1 ⟨ho, Kd.R_after hP.r2 hg hat, hb⟩ hg);have := Kd.R_lt hP.r2 k e.symm;omega
end
section
theorem zp (w : World) (b : Int) (hb1 : 1 ≤ b) (hb2 : b ≤ 100) (A : Option Addr) (c : Nat) (ks : List Int) (base : Nat) (ok : Nat → Prop) (hr : Kd.R (Kd.int .i64) 3 w base ok (.slice A ks.length c) ks) (h0 : 0 < ks.length) (hl : ks.length ≤ 16) (hk : ∀ x ∈ ks, 0 ≤ x ∧ x ≤ 1099511627776) : Calls Tryz.prog 48 #[.int .i64 b, .slice A ks.length c] w fun e w' => ∃ q : CBlk, e = .returned (.pointer (some ⟨q.K, 0, none⟩)) ∧ CntAt w' q b ks ks ∧ (∀ j, q.At j → w.heap.size ≤ j) ∧ Below w.heap.size w w' := by
 have HR := am hr;have HKs := am hk;clear hr hk;have HBw : Aside0 (Below w.heap.size w (w.alloc (.cells #[.int .i64 b, .slice none 0 0, .slice none 0 0] 141))) := ⟨(Below.refl _ _).alloc (Nat.le_refl _) _⟩;have HG0 : Aside0 ((w.alloc (.cells #[.int .i64 b, .slice none 0 0, .slice none 0 0] 141)).heap[w.heap.size]? = some (.cells #[.int .i64 b, .slice none 0 0, .slice none 0 0] 141 (0, 0))) := ⟨heap_alloc_new w _⟩;go_enter Tryz.func48, Tryz.ntmps48;go_wp2;go_loopw [7, 24] (fun _ i wr => ∃ (k : Nat) (va vb : Value), i = .int .i64 k ∧ k ≤ ks.length ∧ Aside0 (NewP w wr va vb (ks.take k) (ks.take k)) ∧ Aside0 (wr.heap[w.heap.size]? = some (.cells #[.int .i64 b, va, vb] 141 (0, 0)))) (fun _ i _ => ks.length - (intOf i).toNat)
 case atStart => exact ⟨0, _, _, rfl, by omega, ⟨⟨Kd.R_nil _ _ _ _ _, Kd.R_nil _ _ _ _ _, HBw.out⟩⟩, HG0⟩
 case round =>
  clear HBw HG0;obtain ⟨k, va, vb, rfl, hk, HP, HG⟩ := hrel;by_cases hlt : k < ks.length
  ·have HLT := am hlt;have hx0 := HKs.out (ks.getD k 0) (by rw [List.getD_eq_getElem?_getD, List.getElem?_eq_getElem hlt]; exact List.getElem_mem _);have HTk : Aside0 (ks.take (k + 1) = ks.take k ++ [ks.getD k 0]) := ⟨by rw [List.take_succ_eq_append_getElem hlt, List.getD_eq_getElem?_getD, List.getElem?_eq_getElem hlt]; rfl⟩;have hxl : (ks.take k).length ≤ 1000 := by rw [List.length_take]; omega
   have HLr := am (Kd.R_below HR.out HP.out.bel);obtain ⟨gl, cap, ev, _⟩ := Kd.R_form HLr.out (by omega);injection ev with e1 _ e2;subst e1;subst e2;have hcell := (ir HLr.out k hlt).1;generalize ks.getD k 0 = nv at hx0 HTk hcell;have e1 : max nv 0 = nv := by omega
   have e2 : min nv 1099511627776 = nv := by omega
   have d3 : decide ((k : Int) < ks.length) = true := decide_eq_true (by omega);have HVa : Aside0 (∀ j, va.ownBlock = some j → j < wr.heap.size) := ⟨fun j hj => Kd.R_lt HP.out.r1 j hj⟩;have HVb : Aside0 (∀ j, vb.ownBlock = some j → j < wr.heap.size) := ⟨fun j hj => Kd.R_lt HP.out.r2 j hj⟩;go_wp2;clear e1 e2;refine dy (n := 22) (S := fun w' => w'.heap[w.heap.size]? = some (.cells #[.int .i64 b, va, vb] 141 (0, 0))) (ds := [18, 21]) (onA 22 0) (by kernel_rfl) rfl rfl HG.out (fun hHeld => ?_);refine pu 0 (some 31) (bA 22 1) (h := ?_);refine pu 1 (some 32) (bA 22 3) (h := ?_);refine pu 2 (some 33) (bA 22 7) (h := ?_);refine pu 3 (some 34) (bA 22 15) (h := ?_);refine pu 4 (some 35) (bA 22 31) (h := ?_);refine pu 6 (some 37) (bA 22 95) (h := ?_);refine pu 9 (some 40) (bA 22 607) (h := ?_);refine pu 10 (some 41) (bA 22 1631) (h := ?_);refine pu 11 (some 42) (bA 22 3679) (h := ?_);refine pu 13 (some 44) (bA 22 11871) (h := ?_);refine tv 5 (some 36) (bA 22 11903) rfl hHeld (fun w' hs => bc 44 (.tmp 35) rfl w.heap.size 1 va rfl (by rw [af hs]; rfl) _ Tryz.underlying44 rfl) (h := ?_);refine tv 12 (some 43) (bA 22 15999) rfl hHeld (fun w' hs => bc 44 (.tmp 42) rfl w.heap.size 2 vb rfl (by rw [af hs]; rfl) _ Tryz.underlying44 rfl) (h := ?_);refine qfx (σ := Value × Value × Value × Value) 6 (bA 22 65535) (fun s => [(38, s.1), (45, s.2.1), (39, s.2.2.1), (46, s.2.2.2)]) (fun s w' => NewP w w' s.2.2.1 s.2.2.2 (ks.take k ++ [nv]) (ks.take k ++ [nv]) ∧ w'.heap[w.heap.size]? = some (.cells #[.int .i64 b, va, vb] 141 (0, 0))) ?_ ?_;rotate_left
   ·intro hCont;have hp_0 := HP.out.below (bm (Below.refl _ _));have h_0 : wr.drew.heap[w.heap.size]? = _ := HG.out;have hva := HVa.out;have hvb := HVb.out;refine qc3 (i := 7) (j := 14) (Ni := some 38) (Nj := some 45) (bA 22 16127) (bA 22 32383) rfl rfl rfl rfl (by kernel_rfl) (by decide) (by decide) (fun K hK => ?_) (fun K hK => ?_)
    ·skip;refine je (w1 := wr.drew.alloc (.cells #[.int .i64 nv] 3)) (v := .slice (some ⟨wr.drew.heap.size, 0, none⟩) 1 1) (by rfl) rfl ?_ ?_
     ·first | (go_simp; done) | (go_simp; rfl)
     have l_1 := heap_alloc_new wr.drew (.cells #[.int .i64 nv] 3);have p_2 := hp_0.below (bt (Below.refl _ _) (.cells #[.int .i64 nv] 3));have h_3 := ai h_0 (bt (Below.refl _ _) (.cells #[.int .i64 nv] 3));refine hK.out _ _ h_3 (fun hHeld => ?_);clear hK K;refine nm ?_;refine qc3 (i := 8) (j := 14) (Ni := some 39) (Nj := some 45) (bA 22 16383) (bA 22 32511) rfl rfl rfl rfl (by kernel_rfl) (by decide) (by decide) (fun K hK => ?_) (fun K hK => ?_)
     ·skip;refine oq rfl (.tmp 36) (.tmp 38) rfl rfl rfl l_1 p_2 hxl ?_;intro v_4 w_5 hp_6 hg_7;have h_8 := gv h_3 hg_7 (Kd.R_ne (p_2).r1 h_3 (by decide));have p_9 := hp_6;refine hK.out _ _ h_8 (fun hHeld => ?_);clear hK K;refine nm ?_;refine gq (i := 14) (N := some 45) (bA 22 32767) rfl rfl (by kernel_rfl) (by decide) (fun K hK => ?_);refine je (w1 := w_5.alloc (.cells #[.int .i64 nv] 3)) (v := .slice (some ⟨w_5.heap.size, 0, none⟩) 1 1) (by rfl) rfl ?_ ?_
      ·first | (go_simp; done) | (go_simp; rfl)
      have l_10 := heap_alloc_new w_5 (.cells #[.int .i64 nv] 3);have p_11 := p_9.below (bt (Below.refl _ _) (.cells #[.int .i64 nv] 3));have h_12 := ai h_8 (bt (Below.refl _ _) (.cells #[.int .i64 nv] 3));have l_13 := ai l_1 (bt (Below.refl _ _) (.cells #[.int .i64 nv] 3));refine hK.out _ _ h_12 (fun hHeld => ?_);clear hK K;refine nm ?_;refine gq (i := 15) (N := some 46) (bA 22 65535) rfl rfl (by kernel_rfl) (by decide) (fun K hK => ?_);refine oq rfl (.tmp 43) (.tmp 45) rfl rfl rfl l_10 p_11.swap hxl ?_;intro v_14 w_15 hp_16 hg_17;have h_18 := gv h_12 hg_17 (Kd.R_ne (p_11.swap).r1 h_12 (by decide));have p_19 := hp_16.swap;refine hK.out _ _ h_18 (fun hHeld => ?_);clear hK K;refine nm ?_;exact i6 (by simp only [jn, Act.put, List.setIfInBounds_toArray, List.set_cons_zero, List.set_cons_succ, az] <;> rfl) (hCont (.slice (some ⟨wr.drew.heap.size, 0, none⟩) 1 1, .slice (some ⟨w_5.heap.size, 0, none⟩) 1 1, v_4, v_14) _ ⟨p_19, h_18⟩)
     ·skip;refine je (w1 := (wr.drew.alloc (.cells #[.int .i64 nv] 3)).alloc (.cells #[.int .i64 nv] 3)) (v := .slice (some ⟨(wr.drew.alloc (.cells #[.int .i64 nv] 3)).heap.size, 0, none⟩) 1 1) (by rfl) rfl ?_ ?_
      ·first | (go_simp; done) | (go_simp; rfl)
      have l_20 := heap_alloc_new (wr.drew.alloc (.cells #[.int .i64 nv] 3)) (.cells #[.int .i64 nv] 3);have p_21 := p_2.below (bt (Below.refl _ _) (.cells #[.int .i64 nv] 3));have h_22 := ai h_3 (bt (Below.refl _ _) (.cells #[.int .i64 nv] 3));have l_23 := ai l_1 (bt (Below.refl _ _) (.cells #[.int .i64 nv] 3));refine hK.out _ _ h_22 (fun hHeld => ?_);clear hK K;refine nm ?_;refine gq (i := 8) (N := some 39) (bA 22 32767) rfl rfl (by kernel_rfl) (by decide) (fun K hK => ?_);refine oq rfl (.tmp 36) (.tmp 38) rfl rfl rfl l_23 p_21 hxl ?_;intro v_24 w_25 hp_26 hg_27;have h_28 := gv h_22 hg_27 (Kd.R_ne (p_21).r1 h_22 (by decide));have l_29 := gv l_20 hg_27 (by have := hva; intro e; have := this _ e.symm; simp at this; try omega);have p_30 := hp_26;refine hK.out _ _ h_28 (fun hHeld => ?_);clear hK K;refine nm ?_;refine gq (i := 15) (N := some 46) (bA 22 65535) rfl rfl (by kernel_rfl) (by decide) (fun K hK => ?_);refine oq rfl (.tmp 43) (.tmp 45) rfl rfl rfl l_29 p_30.swap hxl ?_;intro v_31 w_32 hp_33 hg_34;have h_35 := gv h_28 hg_34 (Kd.R_ne (p_30.swap).r1 h_28 (by decide));have p_36 := hp_33.swap;refine hK.out _ _ h_35 (fun hHeld => ?_);clear hK K;refine nm ?_;exact i6 (by simp only [jn, Act.put, List.setIfInBounds_toArray, List.set_cons_zero, List.set_cons_succ, az] <;> rfl) (hCont (.slice (some ⟨wr.drew.heap.size, 0, none⟩) 1 1, .slice (some ⟨(wr.drew.alloc (.cells #[.int .i64 nv] 3)).heap.size, 0, none⟩) 1 1, v_24, v_31) _ ⟨p_36, h_35⟩)
    ·skip;refine je (w1 := wr.drew.alloc (.cells #[.int .i64 nv] 3)) (v := .slice (some ⟨wr.drew.heap.size, 0, none⟩) 1 1) (by rfl) rfl ?_ ?_
     ·first | (go_simp; done) | (go_simp; rfl)
     have l_37 := heap_alloc_new wr.drew (.cells #[.int .i64 nv] 3);have p_38 := hp_0.below (bt (Below.refl _ _) (.cells #[.int .i64 nv] 3));have h_39 := ai h_0 (bt (Below.refl _ _) (.cells #[.int .i64 nv] 3));refine hK.out _ _ h_39 (fun hHeld => ?_);clear hK K;refine nm ?_;refine gq (i := 7) (N := some 38) (bA 22 32511) rfl rfl (by kernel_rfl) (by decide) (fun K hK => ?_);refine je (w1 := (wr.drew.alloc (.cells #[.int .i64 nv] 3)).alloc (.cells #[.int .i64 nv] 3)) (v := .slice (some ⟨(wr.drew.alloc (.cells #[.int .i64 nv] 3)).heap.size, 0, none⟩) 1 1) (by rfl) rfl ?_ ?_
     ·first | (go_simp; done) | (go_simp; rfl)
     have l_40 := heap_alloc_new (wr.drew.alloc (.cells #[.int .i64 nv] 3)) (.cells #[.int .i64 nv] 3);have p_41 := p_38.below (bt (Below.refl _ _) (.cells #[.int .i64 nv] 3));have h_42 := ai h_39 (bt (Below.refl _ _) (.cells #[.int .i64 nv] 3));have l_43 := ai l_37 (bt (Below.refl _ _) (.cells #[.int .i64 nv] 3));refine hK.out _ _ h_42 (fun hHeld => ?_);clear hK K;refine nm ?_;refine gq (i := 8) (N := some 39) (bA 22 32767) rfl rfl (by kernel_rfl) (by decide) (fun K hK => ?_);refine oq rfl (.tmp 36) (.tmp 38) rfl rfl rfl l_40 p_41 hxl ?_;intro v_44 w_45 hp_46 hg_47;have h_48 := gv h_42 hg_47 (Kd.R_ne (p_41).r1 h_42 (by decide));have l_49 := gv l_43 hg_47 (by have := hva; intro e; have := this _ e.symm; simp at this; try omega);have p_50 := hp_46;refine hK.out _ _ h_48 (fun hHeld => ?_);clear hK K;refine nm ?_;refine gq (i := 15) (N := some 46) (bA 22 65535) rfl rfl (by kernel_rfl) (by decide) (fun K hK => ?_);refine oq rfl (.tmp 43) (.tmp 45) rfl rfl rfl l_49 p_50.swap hxl ?_;intro v_51 w_52 hp_53 hg_54;have h_55 := gv h_48 hg_54 (Kd.R_ne (p_50.swap).r1 h_48 (by decide));have p_56 := hp_53.swap;refine hK.out _ _ h_55 (fun hHeld => ?_);clear hK K;refine nm ?_;exact i6 (by simp only [jn, Act.put, List.setIfInBounds_toArray, List.set_cons_zero, List.set_cons_succ, az] <;> rfl) (hCont (.slice (some ⟨(wr.drew.alloc (.cells #[.int .i64 nv] 3)).heap.size, 0, none⟩) 1 1, .slice (some ⟨wr.drew.heap.size, 0, none⟩) 1 1, v_44, v_51) _ ⟨p_56, h_55⟩)
   rintro ⟨a38, a45, v39, v46⟩ W' ⟨hP, hG'⟩;dsimp only at hP hG' ⊢;obtain ⟨A1, c1, ea⟩ := Kd.R_slice hP.r1;obtain ⟨A2, c2, eb⟩ := Kd.R_slice hP.r2;subst ea;subst eb;have hL : (ks.take k ++ [nv]).length = k + 1 := by rw [List.length_append, List.length_take]; simp; omega
   rw [hL] at hP ⊢;clear hL;have HP1 := am hP;have HG1 := am hG';clear hP hG' hHeld;refine i6 (a' := ?_) ?_ ?_;rotate_left
   ·simp only [jn, Act.put, List.setIfInBounds_toArray, List.set_cons_zero, List.set_cons_succ, az, dr];rfl
   refine pu 16 (some 47) (bA 22 131071) (h := ?_);refine pu 17 (some 48) (bA 22 262143) (h := ?_);refine jr (i := 18) (N := none) (bA 22 524287) rfl rfl (by kernel_rfl) (by decide) (fun K hK => ?_);refine p3 (by rfl) rfl (mh 44 (.tmp 48) (.tmp 39) rfl w.heap.size 1 (.slice A1 (k + 1) c1) rfl rfl rfl rfl (by rw [af HG1.out]; rfl) (ac HG1.out 1) qjy) ?_;refine hK.out _ _ ?_;clear hK K;refine pu 19 (some 49) (bA 22 1048575) (h := ?_);refine pu 20 (some 50) (bA 22 2097151) (h := ?_);refine jr (i := 21) (N := none) (bA 22 4194303) rfl rfl (by kernel_rfl) (by decide) (fun K hK => ?_);have HG2 : Aside0 ((W'.setCell ⟨w.heap.size, 1, none⟩ (.slice A1 (k + 1) c1)).heap[w.heap.size]? = some (.cells #[.int .i64 b, .slice A1 (k + 1) c1, vb] 141 (0, 0))) := ⟨by rw [heap_setCell_same _ _ _ _ _ _ HG1.out]; rfl⟩;refine p3 (by rfl) rfl (mh 44 (.tmp 50) (.tmp 46) rfl w.heap.size 2 (.slice A2 (k + 1) c2) rfl rfl rfl rfl (by rw [af HG2.out]; rfl) (ac HG2.out 2) qjy) ?_;refine hK.out _ _ ?_;clear hK K;refine fp (by kernel_rfl) ?_;have HG3 : Aside0 (((W'.setCell ⟨w.heap.size, 1, none⟩ (.slice A1 (k + 1) c1)).setCell ⟨w.heap.size, 2, none⟩ (.slice A2 (k + 1) c2)).heap[w.heap.size]? = some (.cells #[.int .i64 b, .slice A1 (k + 1) c1, .slice A2 (k + 1) c2] 141 (0, 0))) := ⟨by rw [heap_setCell_same _ _ _ _ _ _ HG2.out]; rfl⟩;have HP3 := am ((HP1.out.set1 HG1.out (Nat.le_refl _) 1 (.slice A1 (k + 1) c1)).set1 HG2.out (Nat.le_refl _) 2 (.slice A2 (k + 1) c2));clear HP1 HG1 HG2;go_wp2;go_roundw
   case rel => exact ⟨k + 1, _, _, by go_num, HLT.out, ⟨by rw [HTk.out]; exact HP3.out⟩, HG3⟩
   case measure => have := HLT.out; simp [intOf]; omega
  ·have hkk : k = ks.length := by omega
   subst hkk;rw [List.take_length] at HP;have d3 : decide ((ks.length : Int) < ks.length) = false := decide_eq_false (by omega);go_wp2;go_ret;obtain ⟨g1, c1, rfl, e1, _⟩ := Kd.R_form HP.out.r1 (by omega);obtain ⟨g2, c2, rfl, e2, _⟩ := Kd.R_form HP.out.r2 (by omega);refine ⟨⟨w.heap.size, g1, g2, c1, c2⟩, rfl, ⟨HG.out, qdp (Kd.R_lower HP.out.r1 (Nat.zero_le _)), qdp (Kd.R_lower HP.out.r2 (Nat.zero_le _)), ?_, ?_, ?_, rfl⟩, ?_, HP.out.bel⟩
   ·intro e;exact Kd.R_ne HP.out.r1 HG.out (by decide) (congrArg some e)
   ·intro e;exact Kd.R_ne HP.out.r2 HG.out (by decide) (congrArg some e)
   ·intro e;exact (HP.out.r1.1 g1 rfl).2 (congrArg some e)
   ·rintro j (rfl | rfl | rfl)
    ·exact Nat.le_refl _
    ·exact e1
    ·exact e2
end
end Go.Proofs.YtmfhaliclnnbaaaGreat.Sys
