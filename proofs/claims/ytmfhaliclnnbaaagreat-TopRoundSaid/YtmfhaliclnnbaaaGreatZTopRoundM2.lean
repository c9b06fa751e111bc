import Derived.Test.YtmfhaliclnnbaaaGreatZTopRoundM1
import Derived.Deep.RegionWith
import Derived.Lib.Hide
namespace Go.Proofs.YtmfhaliclnnbaaaGreat.Sys
open Go.RowKit Go.Proofs.YtmfhaliclnnbaaaGreatW.PrintWords Go.Proofs.YtmfhaliclnnbaaaGreatW.PrintLast Go.Proofs.YtmfhaliclnnbaaaGreatW.PrintMore
def spl : List Value → Nat → List Value → List Value
 | l, _, [] => l
 | l, i, v :: r => spl (l.set i v) (i + 1) r
theorem qev : ∀ (vs A B D : List Value), B.length = vs.length → spl (A ++ B ++ D) A.length vs = A ++ vs ++ D
 | [], A, B, D, h => by obtain rfl := List.eq_nil_of_length_eq_zero h; rfl
 | v :: r, A, [], D, h => by cases h
 | v :: r, A, b :: B, D, h => by
  have ih := qev r (A ++ [v]) B D (by simpa using h)
  rw [List.length_append, List.length_singleton] at ih
  rw [spl, show (A ++ b :: B ++ D).set A.length v = A ++ [v] ++ B ++ D by simp]
  rw [ih]
  simp
theorem iy (vs l : List Value) (h : l.length = vs.length) : spl l 0 vs = vs := by
 have := qev vs [] l [] h;simpa using this
def qbc : TypeDesc → Bool
 | .struct _ => true
 | .array _ _ => true
 | _ => false
section
variable {P : Program}
theorem qcg (w : World) (g j : Nat) (cur : List Value) (t : TypeId) (v : Value) (hg : w.heap[g]? = some (.cells cur.toArray t (0, 0))) (hj : j < cur.length) (hv : v.oneCell' = true) : (store ⟨g, j, none⟩ v).run P w = .ok () (w.setRow g (cur.set j v).toArray) := by
 have hcell : w.cell? ⟨g, j, none⟩ = some cur[j] := by simp [World.cell?, hg, hj]
 have hfro : w.frozen? ⟨g, j, none⟩ = false := by simp [World.frozen?, hg]
 rw [run_store P w _ v _ hv, hcell];simp [hfro, setCell_eq_setRow w g j cur.toArray t (0, 0) v hg]
theorem jh (w : World) (g : Nat) (cur : Array Value) (t : TypeId) (fr : Nat × Nat) (hg : w.heap[g]? = some (.cells cur t fr)) : w.setRow g cur = w := by
 have hlt : g < w.heap.size := (Array.getElem?_eq_some_iff.1 hg).1;have hv : w.heap[g] = .cells cur t fr := (Array.getElem?_eq_some_iff.1 hg).2;unfold World.setRow;cases w with
 | mk heap tape drawn os output =>
  congr 1;apply Array.ext
  ·simp
  ·intro k h1 h2;simp only [Array.getElem_modify];split
   ·rename_i hk; subst hk; simp at hv; simp [hv]
   ·rfl
theorem mg (g off i : Nat) : (⟨g, off, none⟩ : Addr).add i = ⟨g, off + i, none⟩ := by unfold Addr.add; split <;> simp_all
theorem pm (g off : Nat) (t : TypeId) : ∀ (vs : List Value) (i : Nat) (cur : List Value) (w : World), w.heap[g]? = some (.cells cur.toArray t (0, 0)) → off + i + vs.length ≤ cur.length → (∀ v ∈ vs, v.oneCell' = true) →
  (storeCells ⟨g, off, none⟩ vs i).run P w = .ok () (w.setRow g (spl cur (off + i) vs).toArray)
 | [], i, cur, w, hg, hl, _ => by
  rw [spl, jh w g _ t _ hg]
  rfl
 | v :: rest, i, cur, w, hg, hl, h1 => by
  have hst := qcg (P := P) w g (off + i) cur t v hg (by simp at hl; omega) (h1 v (by simp))
  have ih := pm g off t rest (i + 1) (cur.set (off + i) v) (w.setRow g (cur.set (off + i) v).toArray) (setRow_heap w g _ _ t _ hg) (by simp at hl ⊢; omega) (fun x hx => h1 x (by simp [hx]))
  rw [storeCells, Sem.run_bind, mg, hst]
  simp only [Result.andThen_ok]
  rw [ih, setRow_setRow, spl]
  rfl
theorem rp (w : World) (g off : Nat) (t ty : TypeId) (cur vs : List Value) (hg : w.heap[g]? = some (.cells cur.toArray t (0, 0))) (hi : (P.info? ty).map (·.size) = some vs.length) (ho : off + vs.length ≤ cur.length) (h1 : ∀ v ∈ vs, v.oneCell' = true) : (storeVar ty ⟨g, off, none⟩ (.agg vs.toArray)).run P w = .ok () (w.setRow g (spl cur off vs).toArray) := by
 have := pm (P := P) g off t vs 0 cur w hg (by omega) h1;cases hq : P.info? ty with
 | none => simp [hq] at hi
 | some i =>
  have hs : vs.length = i.size := by simp [hq] at hi; omega
  simp [storeVar, sizeOf, typeInfo, hq, Value.cells, hs, this]
theorem dk {ops : Array Oper} {rest : List Oper} {o : Oper} {a : Act} {w : World} {Q : Exit → Act → World → Prop} (hgd : o.guard = none) (ty : TypeId) (x y : Operand) (ho : o.op = .store ty x y)
  (g off : Nat) (vs : List Value) (hx : a.eval x = .pointer (some ⟨g, off, none⟩)) (hy : a.eval y = .agg vs.toArray)
  (t : TypeId) (cur : List Value) (hg : w.heap[g]? = some (.cells cur.toArray t (0, 0))) (hi : (P.info? ty).map (·.size) = some vs.length)
  (hold : off + vs.length ≤ cur.length) (h1 : ∀ v ∈ vs, v.oneCell' = true)
  (h : wpList P ops Q rest (a.put o.dst undef) (w.setRow g (spl cur off vs).toArray)) : wpList P ops Q (o :: rest) a w :=
 wpList_plain hgd fun _ hK => by
  unfold Oper.wp execOp
  simp only [ho, hx, hy, Instr.storeAt, Instr.sureAddr, Sem.run_bind, Sem.run_pure, Result.andThen_ok, rp w g off t ty cur vs hg hi hold h1]
  exact hK _ _ h
theorem mb (w : World) (g off : Nat) (ty : TypeId) (cs : List Value) (d : TypeDesc) (hc : ∀ j v, cs[j]? = some v → w.cell? ⟨g, off + j, none⟩ = some v) (hu : P.underlying ty = some d) (hd : qbc d = true) (hi : (P.info? ty).map (·.size) = some cs.length) : (loadVar ty ⟨g, off, none⟩).run P w = .ok (.agg cs.toArray) w := by
 have hl : (loadCells ⟨g, off, none⟩ cs.length).run P w = .ok cs.toArray w :=
  run_loadCells_list (P := P) (w := w) ⟨g, off, none⟩ cs (fun j v hv => by rw [mg]; exact hc j v hv)
 cases hq : P.info? ty with
 | none => simp [hq] at hi
 | some i =>
  have hs : i.size = cs.length := by simpa [hq] using hi
  have hagg : (isAgg ty).run P w = .ok true w := by unfold isAgg;rw [Sem.run_bind, run_underlying hu w];cases d <;> simp_all [qbc]
  simp [loadVar, Sem.run_bind, hagg, sizeOf, typeInfo, hq, hs, hl]
theorem aq {ops : Array Oper} {rest : List Oper} {o : Oper} {a : Act} {w : World} {Q : Exit → Act → World → Prop} (hgd : o.guard = none) (ty : TypeId) (x : Operand) (ho : o.op = .load ty x)
  (g off : Nat) (hx : a.eval x = .pointer (some ⟨g, off, none⟩)) (cs : List Value) (d : TypeDesc) (hc : ∀ j v, cs[j]? = some v → w.cell? ⟨g, off + j, none⟩ = some v)
  (hu : P.underlying ty = some d) (hd : qbc d = true) (hi : (P.info? ty).map (·.size) = some cs.length)
  (h : wpList P ops Q rest (a.put o.dst (.agg cs.toArray)) w) : wpList P ops Q (o :: rest) a w :=
 wpList_plain hgd fun _ hK => by
  unfold Oper.wp execOp
  simp only [ho, hx, Instr.loadAt, Instr.sureAddr, Sem.run_bind, Sem.run_pure, Result.andThen_ok, mb w g off ty cs d hc hu hd hi]
  exact hK _ _ h
theorem bv {o : Oper} {a : Act} {w : World} (ty : TypeId) (x : Operand) (ho : o.op = .load ty x) (g off : Nat) (hx : a.eval x = .pointer (some ⟨g, off, none⟩)) (cs : List Value) (d : TypeDesc) (hc : ∀ j v, cs[j]? = some v → w.cell? ⟨g, off + j, none⟩ = some v) (hu : P.underlying ty = some d) (hd : qbc d = true) (hi : (P.info? ty).map (·.size) = some cs.length) : (execOp a.eval o).run P w = .ok (.value (.agg cs.toArray)) w := by
 unfold execOp;simp only [ho, hx, Instr.loadAt, Instr.sureAddr, Sem.run_bind, Sem.run_pure, Result.andThen_ok, mb w g off ty cs d hc hu hd hi]
theorem i7 {o : Oper} {a : Act} {w : World} (ty : TypeId) (x y : Operand) (ho : o.op = .store ty x y) (g off : Nat) (vs : List Value) (hx : a.eval x = .pointer (some ⟨g, off, none⟩)) (hy : a.eval y = .agg vs.toArray) (t : TypeId) (cur : List Value) (hg : w.heap[g]? = some (.cells cur.toArray t (0, 0))) (hi : (P.info? ty).map (·.size) = some vs.length) (hold : off + vs.length ≤ cur.length) (h1 : ∀ v ∈ vs, v.oneCell' = true) : (execOp a.eval o).run P w = .ok .skip (w.setRow g (spl cur off vs).toArray) := by
 unfold execOp;simp only [ho, hx, hy, Instr.storeAt, Instr.sureAddr, Sem.run_bind, Sem.run_pure, Result.andThen_ok, rp w g off t ty cur vs hg hi hold h1]
variable {ops : Array Oper} {Q : Exit → Act → World → Prop} {md : Region.Mode} {S : World → Prop} {ds : List Nat}
theorem pu {oi : Oper} {v : Value} {fuel : Nat} {l : Array Bool} {a a' : Act} {w : World} (i : Nat) (N : Option Tmp) (l' : Array Bool)
  (hi : ops[i]? = some oi := by exact rfl) (hN : oi.dst = N := by exact rfl) (hc : qgs md ops l l' i = true := by kernel_rfl) (hQ : ∀ c a w, Q (.panic c) (a.put oi.dst v) w → Q (.panic c) a w := by exact fun _ _ _ h => h) (hw : Region.wanted oi (yielded ops a.tmps) = true := by rfl)
  (hy : ∀ w, (execOp a.eval oi).run P w = .ok (.value v) w := by (intro w'; go_simp; with_reducible rfl)) (ha : a.put N v = a' := by (simp only [Act.put, List.setIfInBounds_toArray, List.set_cons_zero, List.set_cons_succ, az, dr]; rfl)) (h : bj P md ops Q S ds fuel l' a' w) : bj P md ops Q S ds (fuel + 1) l a w :=
 ik l' hi hN hc hQ (Or.inl ⟨hw, hy⟩) ha h
theorem tu {oi : Oper} {v : Value} {fuel : Nat} {l : Array Bool} {a a' : Act} {w : World} (i : Nat) (N : Option Tmp) (l' : Array Bool) (hS : S w) (hy : ∀ w, S w → (execOp a.eval oi).run P w = .ok (.value v) w)
  (hi : ops[i]? = some oi := by exact rfl) (hN : oi.dst = N := by exact rfl) (hc : ya md ops ds l l' i = true := by kernel_rfl) (hQ : ∀ c a w, Q (.panic c) (a.put oi.dst v) w → Q (.panic c) a w := by exact fun _ _ _ h => h) (hw : Region.wanted oi (yielded ops a.tmps) = true := by rfl)
  (ha : a.put N v = a' := by (simp only [Act.put, List.setIfInBounds_toArray, List.set_cons_zero, List.set_cons_succ, az, dr]; rfl)) (h : bj P md ops Q S ds fuel l' a' w) : bj P md ops Q S ds (fuel + 1) l a w :=
 take_ l' hi hN hc hQ (Or.inl ⟨hw, hy⟩) hS ha h
theorem tv {oi : Oper} {v : Value} {fuel : Nat} {l : Array Bool} {a a' : Act} {w : World} (i : Nat) (N : Option Tmp) (l' : Array Bool) (hi : ops[i]? = some oi) (hS : S w) (hy : ∀ w, S w → (execOp a.eval oi).run P w = .ok (.value v) w)
  (hN : oi.dst = N := by exact rfl) (hc : ya md ops ds l l' i = true := by kernel_rfl) (hQ : ∀ c a w, Q (.panic c) (a.put oi.dst v) w → Q (.panic c) a w := by exact fun _ _ _ h => h) (hw : Region.wanted oi (yielded ops a.tmps) = true := by rfl)
  (ha : a.put N v = a' := by (simp only [Act.put, List.setIfInBounds_toArray, List.set_cons_zero, List.set_cons_succ, az, dr]; rfl)) (h : bj P md ops Q S ds fuel l' a' w) : bj P md ops Q S ds (fuel + 1) l a w :=
 take_ l' hi hN hc hQ (Or.inl ⟨hw, hy⟩) hS ha h
theorem bc {o : Oper} {a : Act} {w : World} (ty : TypeId) (x : Operand) (ho : o.op = .load ty x) (g off : Nat) (v : Value) (hx : a.eval x = .pointer (some ⟨g, off, none⟩)) (hc : w.cell? ⟨g, off, none⟩ = some v) (d : TypeDesc) (hu : P.underlying ty = some d) (hd : qbc d = false) : (execOp a.eval o).run P w = .ok (.value v) w := by
 have hagg : (isAgg ty).run P w = .ok false w := by unfold isAgg;rw [Sem.run_bind, run_underlying hu w];cases d <;> simp_all [qbc]
 unfold execOp;simp [ho, hx, Instr.loadAt, Instr.sureAddr, Sem.run_bind, loadVar, hagg, hc]
theorem yh {fn : Func} {p u : Tmp} {ty : TypeId} (h : fn.results = #[.cell p ty, .tmp u]) (tmps : Array Value) (w : World) (g : Nat) (cs : List Value) (d : TypeDesc) (hp : tmps.getD p undef = .pointer (some ⟨g, 0, none⟩)) (hc : ∀ j v, cs[j]? = some v → w.cell? ⟨g, j, none⟩ = some v) (hu : P.underlying ty = some d) (hd : qbc d = true) (hi : (P.info? ty).map (·.size) = some cs.length) : (results fn tmps).run P w = .ok (.tuple #[.agg cs.toArray, tmps.getD u undef]) w := by
 have hp' : tmps[p]?.getD undef = .pointer (some ⟨g, 0, none⟩) := by simpa using hp
 have hl := mb (P := P) w g 0 ty cs d (fun j v hv => by rw [Nat.zero_add]; exact hc j v hv) hu hd hi;simp [results, h, hp', asAddr, hl]
theorem sb {fn : Func} {p : Tmp} {ty : TypeId} (h : fn.results = #[.cell p ty]) (tmps : Array Value) (w : World) (g : Nat) (cs : List Value) (d : TypeDesc) (hp : tmps.getD p undef = .pointer (some ⟨g, 0, none⟩)) (hc : ∀ j v, cs[j]? = some v → w.cell? ⟨g, j, none⟩ = some v) (hu : P.underlying ty = some d) (hd : qbc d = true) (hi : (P.info? ty).map (·.size) = some cs.length) : (results fn tmps).run P w = .ok (.agg cs.toArray) w := by
 have hp' : tmps[p]?.getD undef = .pointer (some ⟨g, 0, none⟩) := by simpa using hp
 have hl := mb (P := P) w g 0 ty cs d (fun j v hv => by rw [Nat.zero_add]; exact hc j v hv) hu hd hi;simp [results, h, hp', asAddr, hl]
end
theorem bh {w : World} {g : Nat} {t : TypeId} {cs : List Value} {fr : Nat × Nat} (h : w.heap[g]? = some (.cells cs.toArray t fr)) : ∀ j v, cs[j]? = some v → w.cell? ⟨g, j, none⟩ = some v := fun j v hv => by
 rw [cell_of_row w g j _ t fr h];simpa using hv
theorem ah.setRow {S : Nat → Prop} {a w : World} (h : ah S a w) {g : Nat} (hp : S g ∨ a.heap.size ≤ g) (cs : Array Value) : ah S a (w.setRow g cs) :=
 ⟨h.os, h.tape, h.output, by simp; exact h.size, fun i hi hn => by
  rw [setRow_other _ _ _ _ (fun e => by rcases hp with hp | hp; exact hn (e ▸ hp); omega)]
  exact h.block i hi hn⟩
theorem em {a w : World} {B g : Nat} (h : Below B a w) (hg : B ≤ g) (cs : Array Value) : Below B a (w.setRow g cs) :=
 ⟨h.os, h.tape, h.output, by simp; exact h.size, fun i hi => by
  rw [setRow_other _ _ _ _ (by omega)]
  exact h.block i hi⟩
theorem qkv (vs A l : List Value) (i : Nat) : spl (A ++ l) (A.length + i) vs = A ++ spl l i vs := by
 induction vs generalizing l i with
 | nil => rfl
 | cons v r ih =>
  rw [spl, spl, show (A ++ l).set (A.length + i) v = A ++ l.set i v by rw [List.set_append_right _ _ (by omega)]; congr 2; omega, show A.length + i + 1 = A.length + (i + 1) by omega];exact ih _ _
theorem qav : ∀ {l : List Cell} {i : Nat} {c : Cell} {n : List Int}, (∀ c ∈ l, c.line.length = 8) → l[i]? = some c → n.length = 8 → spl (fg l) (i * 10) (bb n) = fg (l.set i ⟨n, c.wear, c.limit⟩)
 | [], _, _, _, _, h, _ => by cases h
 | x :: r, 0, c, n, hl, h, hn => by
  obtain rfl : x = c := by simpa using h
  have e := qev (bb n) [] (bb x.line) ([.int .i64 x.wear, .int .i64 x.limit] ++ fg r) (by rw [an, an, hl _ List.mem_cons_self, hn])
  show spl (ji x ++ fg r) _ _ = ji _ ++ fg r
  rw [Nat.zero_mul]
  simpa [ji] using e
 | x :: r, i + 1, c, n, hl, h, hn => by
  have ih := qav (l := r) (i := i) (c := c) (n := n) (fun y hy => hl y (List.mem_cons_of_mem _ hy)) h hn
  have h10 := jq (hl x List.mem_cons_self)
  show spl (ji x ++ fg r) _ _ = ji x ++ fg (r.set i _)
  rw [show (i + 1) * 10 = (ji x).length + i * 10 by rw [h10]; omega, qkv, ih]
theorem xf {l : List Cell} (h : ∀ c ∈ l, c.line.length = 8) {i : Nat} {c : Cell} (hc : c.line.length = 8) : ∀ x ∈ l.set i c, x.line.length = 8 := fun x hx => by
 rcases List.mem_or_eq_of_mem_set hx with h1 | rfl
 ·exact h x h1
 ·exact hc
theorem MemAt.putLine {w : World} {M C : Nat} {m : Mem} (h : MemAt w M C m) {i : Nat} {c : Cell} (hc : m.cells[i]? = some c) {n : List Int} (hn : n.length = 8) :
  MemAt (w.setRow C (spl (fg m.cells) (i * 10) (bb n)).toArray) M C { m with cells := m.cells.set i ⟨n, c.wear, c.limit⟩ } :=
 ⟨by rw [setRow_other _ _ _ _ h.ne, h.mem]; simp only [List.length_set]; rfl, by rw [setRow_heap _ _ _ _ _ _ h.arr, qav h.lines hc hn], h.ne, h.regs, xf h.lines hn, by simp only [List.length_set]; exact h.few⟩
theorem MemAt.setWear {w : World} {M C : Nat} {m : Mem} (h : MemAt w M C m) {i : Nat} {c : Cell} (hc : m.cells[i]? = some c) (v : Int) : MemAt (w.setCell ⟨C, i * 10 + 8, none⟩ (.int .i64 v)) M C { m with cells := m.cells.set i ⟨c.line, v, c.limit⟩ } := by
 have hl := h.lines c (List.mem_of_getElem? hc);exact ⟨by rw [Below.heap_setCell _ _ _ _ h.ne, h.mem]; simp only [List.length_set]; rfl, by
  rw [heap_setCell_same _ _ _ _ _ _ h.arr, List.setIfInBounds_toArray, ux (c' := ⟨c.line, v, c.limit⟩) 8 _ h.lines hc (by omega) (by unfold ji; rw [List.set_append_right _ _ (by rw [an, hl]; omega), an, hl]; rfl)], h.ne, h.regs, xf h.lines hl, by simp only [List.length_set]; exact h.few⟩
theorem MemAt.setLimit {w : World} {M C : Nat} {m : Mem} (h : MemAt w M C m) {i : Nat} {c : Cell} (hc : m.cells[i]? = some c) (v : Int) : MemAt (w.setCell ⟨C, i * 10 + 9, none⟩ (.int .i64 v)) M C { m with cells := m.cells.set i ⟨c.line, c.wear, v⟩ } := by
 have hl := h.lines c (List.mem_of_getElem? hc);exact ⟨by rw [Below.heap_setCell _ _ _ _ h.ne, h.mem]; simp only [List.length_set]; rfl, by
  rw [heap_setCell_same _ _ _ _ _ _ h.arr, List.setIfInBounds_toArray, ux (c' := ⟨c.line, c.wear, v⟩) 9 _ h.lines hc (by omega) (by unfold ji; rw [List.set_append_right _ _ (by rw [an, hl]; omega), an, hl]; rfl)], h.ne, h.regs, xf h.lines hl, by simp only [List.length_set]; exact h.few⟩
theorem MemAt.wearCell {w : World} {M C : Nat} {m : Mem} (h : MemAt w M C m) {i : Nat} {c : Cell} (hc : m.cells[i]? = some c) : w.cell? ⟨C, i * 10 + 8, none⟩ = some (.int .i64 c.wear) := by
 have hl := h.lines c (List.mem_of_getElem? hc);rw [af h.arr, List.getElem?_toArray, na 8 h.lines hc (by omega)];unfold ji;rw [List.getElem?_append_right (by rw [an, hl]; omega), an, hl];rfl
theorem MemAt.limitCell {w : World} {M C : Nat} {m : Mem} (h : MemAt w M C m) {i : Nat} {c : Cell} (hc : m.cells[i]? = some c) : w.cell? ⟨C, i * 10 + 9, none⟩ = some (.int .i64 c.limit) := by
 have hl := h.lines c (List.mem_of_getElem? hc);rw [af h.arr, List.getElem?_toArray, na 9 h.lines hc (by omega)];unfold ji;rw [List.getElem?_append_right (by rw [an, hl]; omega), an, hl];rfl
theorem MemAt.lineCells {w : World} {M C : Nat} {m : Mem} (h : MemAt w M C m) {i : Nat} {c : Cell} (hc : m.cells[i]? = some c) : ∀ j v, (bb c.line)[j]? = some v → w.cell? ⟨C, i * 10 + j, none⟩ = some v := fun j v hv => by
 have hl := h.lines c (List.mem_of_getElem? hc);have hj := (List.getElem?_eq_some_iff.1 hv).1;rw [an, hl] at hj;rw [af h.arr, List.getElem?_toArray, na j h.lines hc (by omega)];unfold ji;rw [List.getElem?_append_left (by rw [an, hl]; omega)];exact hv
theorem wa (l : List Int) : (bb l).toArray.all (·.oneCell') = true := by simp [bb, Value.oneCell']
theorem ix (l : List Int) : ∀ v ∈ bb l, v.oneCell' = true := fun v hv => by
 obtain ⟨x, _, rfl⟩ := List.mem_map.1 hv;rfl
end Go.Proofs.YtmfhaliclnnbaaaGreat.Sys
namespace Go.Proofs.YtmfhaliclnnbaaaGreat.Sys
open Go.RowKit Go.Proofs.YtmfhaliclnnbaaaGreatW.PrintWords Go.Proofs.YtmfhaliclnnbaaaGreatW.PrintLast Go.Proofs.YtmfhaliclnnbaaaGreatW.PrintMore
set_option linter.unusedVariables false
set_option linter.unusedSimpArgs false
namespace Nvm
def has (m : Mem) (i : Int) : Bool := decide (i ≥ 0) && decide (i < m.cells.length)
def hasReg (i : Int) : Bool := decide (i ≥ 0) && decide (i < 35)
def write (m : Mem) : Int × Mem :=
 if m.cut = 0 then (m.mask, { m with writes := wrap64 (m.writes + 1), down := true })
 else if m.cut > 0 then (-1, { m with writes := wrap64 (m.writes + 1), cut := wrap64 (m.cut - 1) })
 else (-1, { m with writes := wrap64 (m.writes + 1) })
def told (m : Mem) (worn : Bool) : Int := if m.down then 2 else if worn then 3 else 0
end Nvm
section
variable {w : World} {M C : Nat} {m : Mem}
theorem nz (h : MemAt w M C m) : Calls Tryz.prog 56 #[.pointer (some ⟨M, 0, none⟩)] w fun e w' => e = .returned (.int .i64 m.cells.length) ∧ w = w' := by
 have h0 := h.c0;clear h;go_enter Tryz.func56, Tryz.ntmps56;go_wp2;go_ret;exact ⟨rfl, rfl⟩
theorem jv (h : MemAt w M C m) : Calls Tryz.prog 30 #[.pointer (some ⟨M, 0, none⟩)] w fun e w' => e = .returned (.bool m.down) ∧ w = w' := by
 have h0 := h.down;clear h;go_enter Tryz.func30, Tryz.ntmps30;go_wp2;go_ret;exact ⟨rfl, rfl⟩
theorem wg (h : MemAt w M C m) : Calls Tryz.prog 62 #[.pointer (some ⟨M, 0, none⟩)] w fun e w' => e = .returned (.int .i64 m.writes) ∧ w = w' := by
 have h0 := h.writes;clear h;go_enter Tryz.func62, Tryz.ntmps62;go_wp2;go_ret;exact ⟨rfl, rfl⟩
theorem o8 (h : MemAt w M C m) (worn : Bool) : Calls Tryz.prog 150 #[.pointer (some ⟨M, 0, none⟩), .bool worn] w fun e w' => e = .returned (.int .i64 (Nvm.told m worn)) ∧ w = w' := by
 have h0 := h.down;clear h;unfold Nvm.told;generalize m.down = d at h0 ⊢;cases d <;> cases worn
 all_goals
  go_enter Tryz.func150, Tryz.ntmps150
  go_wp2
  go_ret
  exact ⟨rfl, rfl⟩
theorem jj (h : MemAt w M C m) (i : Int) : Calls Tryz.prog 81 #[.pointer (some ⟨M, 0, none⟩), .int .i64 i] w fun e w' => e = .returned (.bool (Nvm.hasReg i)) ∧ w = w' := by
 clear h;unfold Nvm.hasReg;by_cases h1 : i ≥ 0
 ·have h2 : decide (i ≥ 0) = true := decide_eq_true h1;go_enter Tryz.func81, Tryz.ntmps81;go_wp2;go_ret;exact ⟨by simp [h1], rfl⟩
 ·have h2 : decide (i ≥ 0) = false := decide_eq_false h1;go_enter Tryz.func81, Tryz.ntmps81;go_wp2;go_ret;exact ⟨by simp [h1], rfl⟩
theorem lu (h : MemAt w M C m) (i : Int) : Calls Tryz.prog 108 #[.pointer (some ⟨M, 0, none⟩), .int .i64 i] w fun e w' => e = .returned (.bool (Nvm.has m i)) ∧ w = w' := by
 unfold Nvm.has;have hf := h.few;have H := Aside0.mk h;clear h;by_cases h1 : i ≥ 0
 ·have h2 : decide (i ≥ 0) = true := decide_eq_true h1;go_enter Tryz.func108, Tryz.ntmps108;go_wp2_with (go_at_call 56; (with_reducible refine (nz H.out).mono ?_); rintro e w' ⟨rfl, rfl⟩)
  go_ret;exact ⟨by simp [h1], rfl⟩
 ·have h2 : decide (i ≥ 0) = false := decide_eq_false h1;go_enter Tryz.func108, Tryz.ntmps108;go_wp2;go_ret;exact ⟨by simp [h1], rfl⟩
theorem r8 (h : MemAt w M C m) : Calls Tryz.prog 149 #[.pointer (some ⟨M, 0, none⟩)] w fun e w' => e = .returned (.int .i64 (Nvm.write m).1) ∧ MemAt w' M C (Nvm.write m).2 ∧ ah (MC M C) w w' := by
 have H := Aside0.mk h;have h0 := h.writes;have h1 := h.cut;have h2 := h.mask;have h3 := h.down;have f0 := h.free 36;have f1 := h.free 37;have f2 := h.free 39;clear h;by_cases c0 : m.cut = 0
 ·have e : Nvm.write m = (m.mask, { m with writes := wrap64 (m.writes + 1), down := true }) := by unfold Nvm.write; rw [if_pos c0]
  have b0 : (m.cut == 0) = true := beq_iff_eq.2 c0;rw [e];clear e c0;go_enter Tryz.func149, Tryz.ntmps149;go_wp2;go_ret;exact ⟨rfl, (H.out.setWrites _).setDown _, ((ah.refl _ _).set (.inl (.inl rfl)) _).set (.inl (.inl rfl)) _⟩
 ·have b0 : (m.cut == 0) = false := beq_eq_false_iff_ne.2 c0;by_cases c1 : m.cut > 0
  ·have e : Nvm.write m = (-1, { m with writes := wrap64 (m.writes + 1), cut := wrap64 (m.cut - 1) }) := by unfold Nvm.write; rw [if_neg c0, if_pos c1]
   have b1 : decide (m.cut > 0) = true := decide_eq_true c1;rw [e];clear e c0 c1;go_enter Tryz.func149, Tryz.ntmps149;go_wp2;go_ret;exact ⟨rfl, (H.out.setWrites _).setCut _, ((ah.refl _ _).set (.inl (.inl rfl)) _).set (.inl (.inl rfl)) _⟩
  ·have e : Nvm.write m = (-1, { m with writes := wrap64 (m.writes + 1) }) := by unfold Nvm.write; rw [if_neg c0, if_neg c1]
   have b1 : decide (m.cut > 0) = false := decide_eq_false c1;rw [e];clear e c0 c1;go_enter Tryz.func149, Tryz.ntmps149;go_wp2;go_ret;exact ⟨rfl, H.out.setWrites _, (ah.refl _ _).set (.inl (.inl rfl)) _⟩
end
theorem cj : (Tryz.prog.info? 73).map (·.size) = some 8 := by kernel_rfl
theorem qc7 {l : List Int} (h : l.length = 8) : ∃ a b c d e f g i, l = [a, b, c, d, e, f, g, i] := by
 match l, h with
 | [a, b, c, d, e, f, g, i], _ => exact ⟨a, b, c, d, e, f, g, i, rfl⟩
set_option maxRecDepth 100000 in
theorem qkq {now : List Int} (hn : now.length = 8) {k : Nat} (hk : k < 8) (w : World) : (Instr.index 73 (.agg (bb now).toArray) (.int .i64 k)).run Tryz.prog w = .ok (.int .u64 (now.getD k 0)) w := by
 obtain ⟨a, b, c, d, e, f, g, i, rfl⟩ := qc7 hn
 match k, hk with
 | 0, _ => rfl
 | 1, _ => rfl
 | 2, _ => rfl
 | 3, _ => rfl
 | 4, _ => rfl
 | 5, _ => rfl
 | 6, _ => rfl
 | 7, _ => rfl
def qe7 (mask : Int) (i : Nat) : Bool := bits .and .i64 (mask / 2 ^ i) 1 == 1
def kt (old now : List Int) (mask : Int) (k : Nat) : List Int := (List.range 8).map fun j => if (decide (j < k) && qe7 mask j) = true then now.getD j 0 else old.getD j 0
def mix (old now : List Int) (mask : Int) : List Int := kt old now mask 8
theorem ki (old now : List Int) (mask : Int) (k : Nat) : (kt old now mask k).length = 8 := by simp [kt]
theorem qfc {old now : List Int} {mask : Int} (h : old.length = 8) : kt old now mask 0 = old := by
 obtain ⟨a, b, c, d, e, f, g, i, rfl⟩ := qc7 h;rfl
theorem qhe (old now : List Int) (mask : Int) (k : Nat) (hk : k < 8) (h : qe7 mask k = true) : (kt old now mask k).set k (now.getD k 0) = kt old now mask (k + 1) := by
 apply List.ext_getElem
 ·simp [kt]
 ·intro j h1 h2;simp only [kt, List.getElem_set, List.getElem_map, List.getElem_range];by_cases e : k = j
  ·subst e; simp [h]
  ·rw [if_neg e];simp only [show (j < k + 1) = (j < k) from by simp only [eq_iff_iff]; omega]
theorem qi5 (old now : List Int) (mask : Int) (k : Nat) (hk : k < 8) (h : qe7 mask k = false) : kt old now mask k = kt old now mask (k + 1) := by
 apply List.ext_getElem
 ·simp [kt]
 ·intro j h1 h2;simp only [kt, List.getElem_map, List.getElem_range];by_cases e : k = j
  ·subst e; simp [h]
  ·simp only [show (j < k + 1) = (j < k) from by simp only [eq_iff_iff]; omega]
theorem rl {fn : Func} {R : Ending → World → Prop} {a : Act} {w : World} {p : Tmp} {ty : TypeId} (h : fn.results = #[.cell p ty]) (g : Nat) (t : TypeId) (cs : List Value) (d : TypeDesc)
  (hp : a.tmps.getD p undef = .pointer (some ⟨g, 0, none⟩)) (hg : w.heap[g]? = some (.cells cs.toArray t (0, 0)))
  (hu : Tryz.prog.underlying ty = some d) (hd : qbc d = true) (hi : (Tryz.prog.info? ty).map (·.size) = some cs.length)
  (hdf : a.defers = []) (hR : R (.returned (.agg cs.toArray)) w) : bodyPost Tryz.prog fn R .ret a w :=
 bodyPost_ret (sb h _ w g cs d hp (bh hg) hu hd hi) hdf hR
abbrev bp : Array Value := #[.int .u64 0, .int .u64 0, .int .u64 0, .int .u64 0, .int .u64 0, .int .u64 0, .int .u64 0, .int .u64 0]
set_option maxRecDepth 100000 in
theorem qbp (w : World) (old now : List Int) (mask : Int) (ho : old.length = 8) (hn : now.length = 8) : Calls Tryz.prog 160 #[gm old, gm now, .int .i64 mask] w fun e w' => e = .returned (gm (mix old now mask)) ∧ Below w.heap.size w w' := by
 have HO := Aside0.mk ho;have HN := Aside0.mk hn;clear ho hn;unfold gm;go_enter Tryz.func160, Tryz.ntmps160;go_wp2_with (first | ((with_reducible refine ez (.load 73 (.tmp 4)) rfl ?_); refine wpList_load_row rfl 73 (.tmp 4) rfl (w.heap.size + 1) rfl 73 (bb now).toArray (0, 0) _ ?hb Tryz.underlying73 rfl ?hi ?_; (case hb => exact (heap_alloc_old _ _ (by simp)).trans (heap_alloc2_new w _ _)); (case hi => rw [List.size_toArray, an, HN.out]; exact cj)))
 generalize hW : ((w.alloc (.cells (bb old).toArray 73)).alloc (.cells (bb now).toArray 73)).alloc (.cells #[.int .u64 0, .int .u64 0, .int .u64 0, .int .u64 0, .int .u64 0, .int .u64 0, .int .u64 0, .int .u64 0] 73) = W;have g0 : Aside0 (W.heap[w.heap.size]? = some (.cells (bb old).toArray 73 (0, 0))) := ⟨by rw [← hW]; exact (heap_alloc_old _ _ (by simp; try omega)).trans ((heap_alloc_old _ _ (by simp)).trans (heap_alloc_new _ _))⟩;have g2 : Aside0 (W.heap[w.heap.size + 2]? = some (.cells bp 73 (0, 0))) := ⟨by rw [← hW]; exact (by simp : ((w.alloc (.cells (bb old).toArray 73)).alloc (.cells (bb now).toArray 73)).heap.size = w.heap.size + 2) ▸ heap_alloc_new _ _⟩;have gb : Aside0 (Below w.heap.size w W) := ⟨by rw [← hW]; exact (((Below.refl _ _).alloc (Nat.le_refl _) _).alloc (by simp) _).alloc (by simp; try omega) _⟩;clear hW;have hs : w.heap.size + 2 < W.heap.size := df g2.out;go_loopw [10] (fun i wr => ∃ (k : Nat), k ≤ 8 ∧ i = .int .i64 k ∧ Aside0 (wr.heap[w.heap.size]? = some (.cells (bb (kt old now mask k)).toArray 73 (0, 0))) ∧ Aside0 (wr.heap[w.heap.size + 2]? = some (.cells bp 73 (0, 0))) ∧ Aside0 (Below w.heap.size w wr)) (fun i _ => 8 - (intOf i).toNat)
 case atStart => exact ⟨0, by omega, rfl, ⟨by rw [qfc HO.out]; exact g0.out⟩, g2, gb⟩
 case round =>
  clear g0 g2 gb hs;obtain ⟨k, hk, rfl, g0, g2, gb⟩ := hrel;by_cases hlt : k < 8
  ·have hix := qkq HN.out hlt;have hml : k < (bb (kt old now mask k)).length := by rw [an, ki]; exact hlt
   cases hb : qe7 mask k
   ·have E0 := Aside0.mk (qi5 old now mask k hlt hb);unfold qe7 at hb;go_wp2;go_roundw
    case rel => exact ⟨k + 1, by omega, by go_num, ⟨by rw [← E0.out]; exact g0.out⟩, g2, gb⟩
    case measure => simp [intOf]; omega
   ·have E0 := Aside0.mk (qhe old now mask k hlt hb);unfold qe7 at hb;have hc0 : wr.cell? ⟨w.heap.size, k, none⟩ = some (.int .u64 ((kt old now mask k).getD k 0)) := by rw [af g0.out];simp [bb, List.getElem?_eq_getElem (show k < (kt old now mask k).length by rw [ki]; exact hlt)]
    have hf0 : wr.frozen? ⟨w.heap.size, k, none⟩ = false := ac g0.out k;go_wp2;go_roundw
    case rel => exact ⟨k + 1, by omega, by go_num, ⟨by
     rw [heap_setCell_same _ _ _ _ _ _ g0.out, ← E0.out, List.setIfInBounds_toArray];simp only [bb, List.map_set, List.getD_eq_getElem?_getD]⟩, ⟨by rw [Below.heap_setCell _ _ _ _ (by simp)]; exact g2.out⟩, ⟨gb.out.setCell (Nat.le_refl _) _⟩⟩
    case measure => simp [intOf]; omega
  ·have hb8 : decide ((k : Int) < 8) = false := decide_eq_false (by omega);have hk8 : k = 8 := by omega
   subst hk8;have hcl := Aside0.mk (ki old now mask 8);go_wp2_with (first | ((with_reducible refine ez (.load 73 (.tmp 3)) rfl ?_); refine wpList_load_row rfl 73 (.tmp 3) rfl w.heap.size rfl 73 (bb (kt old now mask 8)).toArray (0, 0) _ g0.out Tryz.underlying73 rfl ?hi ?_; (case hi => rw [List.size_toArray, an, hcl.out]; exact cj)) | ((with_reducible refine bf (t := 73) (p := 6) rfl ?_); refine wpList_store_row rfl 73 (.tmp 6) (.tmp 23) rfl (w.heap.size + 2) (bb (kt old now mask 8)).toArray rfl rfl 73 _ g2.out ?hi ?ho ?h1 ?_; (case hi => rw [List.size_toArray, an, hcl.out]; exact cj); (case ho => simp [an, hcl.out]); (case h1 => simp [bb, Value.oneCell'])))
   exact rl rfl (w.heap.size + 2) 73 (bb (kt old now mask 8)) _ rfl (setRow_heap _ _ _ _ _ _ g2.out) Tryz.underlying73 rfl (by rw [an, hcl.out]; exact cj) rfl ⟨rfl, em gb.out (by omega) _⟩
def zL : List Int := [0, 0, 0, 0, 0, 0, 0, 0]
def Nvm.get (m : Mem) (i : Int) : List Int × Int := if Nvm.has m i then (if m.down then (zL, 2) else ((m.cells.getD i.toNat ⟨zL, 0, 0⟩).line, 0)) else (zL, 1)
theorem fv {fn : Func} {R : Ending → World → Prop} {a : Act} {w : World} {p u : Tmp} {ty : TypeId} (h : fn.results = #[.cell p ty, .tmp u]) (g : Nat) (t : TypeId) (cs : List Value) (d : TypeDesc)
  (hp : a.tmps.getD p undef = .pointer (some ⟨g, 0, none⟩)) (hg : w.heap[g]? = some (.cells cs.toArray t (0, 0)))
  (hu : Tryz.prog.underlying ty = some d) (hd : qbc d = true) (hi : (Tryz.prog.info? ty).map (·.size) = some cs.length)
  (hdf : a.defers = []) (hR : R (.returned (.tuple #[.agg cs.toArray, a.tmps.getD u undef])) w) : bodyPost Tryz.prog fn R .ret a w :=
 bodyPost_ret (yh h _ w g cs d hp (bh hg) hu hd hi) hdf hR
section
variable {w : World} {M C : Nat} {m : Mem}
theorem rk {i : Int} (h : Nvm.has m i = true) : 0 ≤ i ∧ i < m.cells.length := by
 unfold Nvm.has at h;simp only [Bool.and_eq_true, decide_eq_true_eq] at h;omega
theorem MemAt.cellOf (h : MemAt w M C m) {i : Int} (h0 : 0 ≤ i) (h1 : i < m.cells.length) : ∃ c, m.cells[i.toNat]? = some c ∧ c.line.length = 8 ∧ m.cells.getD i.toNat ⟨zL, 0, 0⟩ = c ∧ ∀ j v, (ji c)[j]? = some v → w.cell? ⟨C, i.toNat * 10 + j, none⟩ = some v := by
 have hlt : i.toNat < m.cells.length := by omega
 have hc : m.cells[i.toNat]? = some m.cells[i.toNat] := List.getElem?_eq_getElem hlt;have hl := h.lines _ (List.getElem_mem hlt);refine ⟨_, hc, hl, by simp [List.getD, hc], fun j v hv => ?_⟩;have hj : j < 10 := by rw [← jq hl];exact (List.getElem?_eq_some_iff.1 hv).1
 rw [af h.arr];rw [List.getElem?_toArray, na j h.lines hc hj];exact hv
theorem qhx (h : MemAt w M C m) (i : Int) : Calls Tryz.prog 127 #[.pointer (some ⟨M, 0, none⟩), .int .i64 i] w fun e w' => e = .returned (.tuple #[gm (Nvm.get m i).1, .int .i64 (Nvm.get m i).2]) ∧ Below w.heap.size w w' := by
 have H := Aside0.mk h;have hlt := h.lt;have h0 := h.c0;have h3 := h.down;clear h;by_cases c0 : Nvm.has m i = true
 ·have b0 : (!Nvm.has m i) = false := by rw [c0]; rfl
  obtain ⟨hi0, hi1⟩ := rk c0;cases hd : m.down
  ·have e : Nvm.get m i = ((m.cells.getD i.toNat ⟨zL, 0, 0⟩).line, 0) := by unfold Nvm.get; rw [c0, hd]; rfl
   rw [e];obtain ⟨c, hc, hl, hq, hcs⟩ := H.out.cellOf hi0 hi1;rw [hq];rw [hd] at h3;have hcs' : Aside0 (∀ j v, (bb c.line)[j]? = some v → w.cell? ⟨C, i.toNat * 10 + j, none⟩ = some v) := ⟨fun j v hv => hcs j v (by unfold ji; rw [List.getElem?_append_left (List.getElem?_eq_some_iff.1 hv).1]; exact hv)⟩;have hl' : Aside0 (c.line.length = 8) := ⟨hl⟩;have C0 := Aside0.mk c0;clear e hd hq hc hcs hl c0;go_enter Tryz.func127, Tryz.ntmps127;go_wp2_with (first | (go_at_call 108; (with_reducible refine (lu (H.out.alloc _) i).mono ?_); rintro e w' ⟨rfl, rfl⟩) | ((with_reducible refine bn (N := 25) rfl ?_); refine aq rfl 73 (.tmp 24) rfl C (i.toNat * 10) rfl (bb c.line) _ (fun j v hv => (World.cell?_alloc_lt _ _ ⟨C, i.toNat * 10 + j, none⟩ hlt.2).trans (hcs'.out j v hv)) Tryz.underlying73 rfl (by rw [an, hl'.out]; exact cj) ?_) | ((with_reducible refine bf (t := 73) (p := 4) rfl ?_); refine wpList_store_row rfl 73 (.tmp 4) (.tmp 25) rfl w.heap.size (bb c.line).toArray rfl rfl 73 _ (heap_alloc_new w _) (by rw [List.size_toArray, an, hl'.out]; exact cj) (by simp [an, hl'.out]) (by simp [bb, Value.oneCell']) ?_))
   exact fv rfl w.heap.size 73 (bb c.line) _ rfl (setRow_heap _ _ _ _ _ _ (heap_alloc_new w _)) Tryz.underlying73 rfl (by rw [an, hl'.out]; exact cj) rfl ⟨rfl, em ((Below.refl _ _).alloc (Nat.le_refl _) _) (Nat.le_refl _) _⟩
  ·have e : Nvm.get m i = (zL, 2) := by unfold Nvm.get; rw [c0, hd]; rfl
   rw [e];rw [hd] at h3;clear e hd c0;go_enter Tryz.func127, Tryz.ntmps127;go_wp2_with (first | (go_at_call 108; (with_reducible refine (lu (H.out.alloc _) i).mono ?_); rintro e w' ⟨rfl, rfl⟩))
   exact fv rfl w.heap.size 73 (bb zL) _ rfl (heap_alloc_new w _) (Tryz.underlying73) rfl cj rfl ⟨rfl, (Below.refl _ _).alloc (Nat.le_refl _) _⟩
 ·have c1 : Nvm.has m i = false := by simpa using c0
  have e : Nvm.get m i = (zL, 1) := by unfold Nvm.get; rw [c1]; rfl
  rw [e];clear c0 e;have b0 : (!Nvm.has m i) = true := by rw [c1]; rfl
  go_enter Tryz.func127, Tryz.ntmps127;go_wp2_with (go_at_call 108; (with_reducible refine (lu (H.out.alloc _) i).mono ?_); rintro e w' ⟨rfl, rfl⟩)
  exact fv rfl w.heap.size 73 (bb zL) _ rfl (heap_alloc_new w _) (Tryz.underlying73) rfl cj rfl ⟨rfl, (Below.refl _ _).alloc (Nat.le_refl _) _⟩
end
end Go.Proofs.YtmfhaliclnnbaaaGreat.Sys
namespace Go.Proofs.YtmfhaliclnnbaaaGreat.Sys
open Go.RowKit Go.Proofs.YtmfhaliclnnbaaaGreatW.PrintWords Go.Proofs.YtmfhaliclnnbaaaGreatW.PrintLast Go.Proofs.YtmfhaliclnnbaaaGreatW.PrintMore
open Go.Proofs.YtmfhaliclnnbaaaGreat.XTopWhole (tt_ ff_ onA am bA nm)
set_option linter.unusedVariables false
set_option linter.unusedSimpArgs false
set_option maxRecDepth 100000
set_option maxHeartbeats 8000000
namespace Nvm
def hit (m : Mem) (i : Nat) (l : List Int) (mask : Int) : Mem := { m with cells := m.cells.set i ⟨mix (m.cells.getD i ⟨zL, 0, 0⟩).line l mask, wrap64 ((m.cells.getD i ⟨zL, 0, 0⟩).wear + 1), (m.cells.getD i ⟨zL, 0, 0⟩).limit⟩ }
def worn (m : Mem) (i : Nat) : Bool := decide ((m.cells.getD i ⟨zL, 0, 0⟩).limit ≥ 0) && decide ((m.cells.getD i ⟨zL, 0, 0⟩).wear ≥ (m.cells.getD i ⟨zL, 0, 0⟩).limit)
def put (m : Mem) (i : Int) (l : List Int) : Int × Mem :=
 if has m i then
  if m.down then (2, m)
  else
   if worn m i.toNat then (told (write m).2 true, (write m).2)
   else (told (hit (write m).2 i.toNat l (write m).1) false, hit (write m).2 i.toNat l (write m).1)
 else (1, m)
end Nvm
section
variable {w : World} {M C : Nat} {m : Mem}
theorem rz (m : Mem) : (Nvm.write m).2.cells = m.cells := by unfold Nvm.write; split; rfl; split <;> rfl
theorem tf {m : Mem} {i : Nat} {c : Cell} (h : m.cells[i]? = some c) : m.cells.getD i ⟨zL, 0, 0⟩ = c := by simp [List.getD, h]
theorem qby (h : MemAt w M C m) (i : Int) (l : List Int) (hl : l.length = 8) : Calls Tryz.prog 132 #[.pointer (some ⟨M, 0, none⟩), .int .i64 i, gm l] w fun e w' => e = .returned (.int .i64 (Nvm.put m i l).1) ∧ MemAt w' M C (Nvm.put m i l).2 ∧ ah (MC M C) w w' := by
 have H := am h;have hlt := h.lt;have HL := am hl;clear h hl;have HM := am (H.out.alloc (.cells (bb l).toArray 73));have h0 := HM.out.c0;have h3 := HM.out.down;unfold gm;by_cases c0 : Nvm.has m i = true
 ·have b0 : (!Nvm.has m i) = false := by rw [c0]; rfl
  obtain ⟨hi0, hi1⟩ := rk c0;cases hd : m.down
  ·rw [hd] at h3;have hwc := am (rz m);obtain ⟨c, hc⟩ : ∃ c, m.cells[i.toNat]? = some c := ⟨_, List.getElem?_eq_getElem (by omega)⟩;have HC := am hc;have HCL := am (H.out.lines c (List.mem_of_getElem? hc));have ew : Aside0 (Nvm.worn m i.toNat = (decide (c.limit ≥ 0) && decide (c.wear ≥ c.limit))) := ⟨by unfold Nvm.worn; rw [tf hc]⟩;have ep : Aside0 (Nvm.put m i l = if (decide (c.limit ≥ 0) && decide (c.wear ≥ c.limit)) = true then (Nvm.told (Nvm.write m).2 true, (Nvm.write m).2) else (Nvm.told (Nvm.hit (Nvm.write m).2 i.toNat l (Nvm.write m).1) false, Nvm.hit (Nvm.write m).2 i.toNat l (Nvm.write m).1)) := ⟨by unfold Nvm.put; rw [c0, hd, ew.out]; rfl⟩;clear hc ew hd c0;generalize Nvm.put m i l = pr at ep ⊢;go_enter Tryz.func132, Tryz.ntmps132;go_wp2_with (first | (go_at_call 108; (with_reducible refine (lu HM.out i).mono ?_); rintro e w' ⟨rfl, rfl⟩) | (go_at_call 149; (with_reducible refine (r8 HM.out).mono ?_); rintro e w1 ⟨rfl, h1, k1⟩; have K1 := am k1; have H1 := am h1; clear k1 h1; have h0 := H1.out.c0; rw [hwc.out] at h0))
   have HC1 : Aside0 ((Nvm.write m).2.cells[i.toNat]? = some c) := ⟨by rw [hwc.out]; exact HC.out⟩;have hc8 := H1.out.wearCell HC1.out;have hc9 := H1.out.limitCell HC1.out;have B1 := am (K1.out.of (heap_alloc_new w (.cells (bb l).toArray 73)) (o7 (by omega) (by omega)));have K0 : Aside0 (ah (MC M C) w w1) := ⟨((ah.refl _ w).alloc _).step K1.out⟩;clear K1;have hfin : Aside0 ((decide (c.limit ≥ 0) && decide (c.wear ≥ c.limit)) = true ∨ (decide (c.limit ≥ 0) && decide (c.wear ≥ c.limit)) = false) := ⟨by cases (decide (c.limit ≥ 0) && decide (c.wear ≥ c.limit)) <;> simp⟩;by_cases d0 : c.limit ≥ 0
   ·have d1 : decide (c.limit ≥ 0) = true := decide_eq_true d0;by_cases d2 : c.wear ≥ c.limit
    ·have d3 : decide (c.wear ≥ c.limit) = true := decide_eq_true d2;have e1 : Aside0 (pr = (Nvm.told (Nvm.write m).2 true, (Nvm.write m).2)) := ⟨by rw [ep.out, d1, d3]; rfl⟩;clear ep hfin;go_quiet (fail);go_wp2_with (go_at_call 150; (with_reducible refine (o8 (H1.out.drewN nq) true).mono ?_); rintro e w' ⟨rfl, rfl⟩)
     go_ret;rw [e1.out];exact ⟨rfl, H1.out.drewN nq, K0.out.drewN nq⟩
    ·have d3 : decide (c.wear ≥ c.limit) = false := decide_eq_false d2;have e1 : Aside0 (pr = (Nvm.told (Nvm.hit (Nvm.write m).2 i.toNat l (Nvm.write m).1) false, Nvm.hit (Nvm.write m).2 i.toNat l (Nvm.write m).1)) := ⟨by rw [ep.out, d1, d3]; rfl⟩;clear ep hfin;go_quiet (fail);go_wp2;have B2 := am (ap B1.out nq);have H2 := am (H1.out.drewN nq);have K2 := am (K0.out.drewN nq);clear H1 K0 B1 hc8 hc9 h0 h3;generalize w1.drewN nq = w2 at B2 H2 K2 ⊢;refine dy (n := 11) (S := fun w' => (∀ j v, (bb c.line)[j]? = some v → w'.cell? ⟨C, i.toNat * 10 + j, none⟩ = some v) ∧ (∀ j v, (bb l)[j]? = some v → w'.cell? ⟨w.heap.size, 0 + j, none⟩ = some v)) (ds := [7, 10]) (onA 11 0) (by kernel_rfl) rfl rfl ⟨H2.out.lineCells HC1.out, fun j v hv => by rw [Nat.zero_add]; exact bh B2.out j v hv⟩ (fun hHeld => ?_);refine pu 0 (some 46) (bA 11 1) (h := ?_);refine pu 1 (some 47) (bA 11 3) (h := ?_);refine pu 2 (some 48) (bA 11 7) (h := ?_);refine pu 3 (some 49) (bA 11 15) (h := ?_);refine pu 6 (some 52) (bA 11 79) (h := ?_);refine tu 4 (some 50) (bA 11 95) hHeld (v := .agg (bb c.line).toArray) (fun w' hs => bv 73 (.tmp 49) rfl C (i.toNat * 10) rfl (bb c.line) _ hs.1 Tryz.underlying73 rfl (by rw [an, HCL.out]; exact cj)) (h := ?_);refine tu 5 (some 51) (bA 11 127) hHeld (v := .agg (bb l).toArray) (fun w' hs => bv 73 (.tmp 5) rfl w.heap.size 0 rfl (bb l) _ hs.2 Tryz.underlying73 rfl (by rw [an, HL.out]; exact cj)) (h := ?_);refine jr (i := 7) (N := some 53) (bA 11 255) rfl rfl (by kernel_rfl) (by decide) (fun K hK => ?_);refine dw Tryz.func160 (by kernel_rfl) rfl #[gm c.line, gm l, .int .i64 (Nvm.write m).1] (by rfl) rfl rfl (by simp only [List.map_toArray, List.map_cons, List.map_nil]; rfl) ?_;refine (qbp _ c.line l _ HCL.out HL.out).mono ?_;rintro e w3 ⟨rfl, hb2⟩;refine ⟨_, rfl, ?_⟩;refine hK.out _ _ ?_;clear hK K hHeld;have H3 := am (H2.out.drew.below hb2);have K3 : Aside0 (ah (MC M C) w w3) := ⟨K2.out.drew.step (.of_below hb2)⟩;clear H2 K2 B2 hb2;refine pu 8 (some 54) (bA 11 511) (h := ?_);refine pu 9 (some 55) (bA 11 1023) (h := ?_);have hsz : Aside0 (i.toNat * 10 + (bb (mix c.line l (Nvm.write m).1)).length ≤ (fg (Nvm.write m).2.cells).length) := ⟨by
      rw [an, nj H3.out.lines, hwc.out];show _ + 8 ≤ _;omega⟩
     refine jr (i := 10) (N := none) (bA 11 2047) rfl rfl (by kernel_rfl) (by decide) (fun K hK => ?_);refine p3 (by rfl) rfl (i7 73 (.tmp 55) (.tmp 53) rfl C (i.toNat * 10) (bb (mix c.line l (Nvm.write m).1)) rfl rfl 75 _ H3.out.arr (by rw [an]; exact cj) hsz.out (ix _)) ?_;refine hK.out _ _ ?_;clear hK K;refine fp (by kernel_rfl) ?_;have H4 := am (H3.out.putLine HC1.out (n := mix c.line l (Nvm.write m).1) (ki _ _ _ _));have K4 : Aside0 (ah (MC M C) w _) := ⟨K3.out.setRow (.inl (.inr rfl)) (spl (fg (Nvm.write m).2.cells) (i.toNat * 10) (bb (mix c.line l (Nvm.write m).1))).toArray⟩;clear H3 K3;generalize w3.setRow C _ = w4 at H4 K4 ⊢;have HC4 : Aside0 (((Nvm.write m).2.cells.set i.toNat ⟨mix c.line l (Nvm.write m).1, c.wear, c.limit⟩)[i.toNat]? = some ⟨mix c.line l (Nvm.write m).1, c.wear, c.limit⟩) := ⟨by rw [List.getElem?_set_self (by rw [hwc.out]; omega)]⟩;have hc8 := H4.out.wearCell HC4.out;have hf8 := H4.out.freeC (i.toNat * 10 + 8);have H5 := am (show MemAt _ M C { (Nvm.write m).2 with cells := (Nvm.write m).2.cells.set i.toNat ⟨mix c.line l (Nvm.write m).1, wrap64 (c.wear + 1), c.limit⟩ } by have h := H4.out.setWear HC4.out (wrap64 (c.wear + 1)); rw [List.set_set] at h; exact h);have K5 : Aside0 (ah (MC M C) w _) := ⟨K4.out.set (p := ⟨C, i.toNat * 10 + 8, none⟩) (.inl (.inr rfl)) (.int .i64 (wrap64 (c.wear + 1)))⟩;clear H4 K4;have eh : Aside0 (Nvm.hit (Nvm.write m).2 i.toNat l (Nvm.write m).1 = { (Nvm.write m).2 with cells := (Nvm.write m).2.cells.set i.toNat ⟨mix c.line l (Nvm.write m).1, wrap64 (c.wear + 1), c.limit⟩ }) := ⟨by unfold Nvm.hit; rw [tf HC1.out]⟩;rw [eh.out] at e1;go_wp2_with (go_at_call 150; (with_reducible refine (o8 H5.out false).mono ?_); rintro e w' ⟨rfl, rfl⟩)
     go_ret;rw [e1.out];exact ⟨rfl, H5.out, K5.out⟩
   ·have d1 : decide (c.limit ≥ 0) = false := decide_eq_false d0;have e1 : Aside0 (pr = (Nvm.told (Nvm.hit (Nvm.write m).2 i.toNat l (Nvm.write m).1) false, Nvm.hit (Nvm.write m).2 i.toNat l (Nvm.write m).1)) := ⟨by rw [ep.out, d1]; rfl⟩;clear ep hfin;go_quiet (fail);go_wp2;have B2 := am (ap B1.out nq);have H2 := am (H1.out.drewN nq);have K2 := am (K0.out.drewN nq);clear H1 K0 B1 hc8 hc9 h0 h3;generalize w1.drewN nq = w2 at B2 H2 K2 ⊢;refine dy (n := 11) (S := fun w' => (∀ j v, (bb c.line)[j]? = some v → w'.cell? ⟨C, i.toNat * 10 + j, none⟩ = some v) ∧ (∀ j v, (bb l)[j]? = some v → w'.cell? ⟨w.heap.size, 0 + j, none⟩ = some v)) (ds := [7, 10]) (onA 11 0) (by kernel_rfl) rfl rfl ⟨H2.out.lineCells HC1.out, fun j v hv => by rw [Nat.zero_add]; exact bh B2.out j v hv⟩ (fun hHeld => ?_);refine pu 0 (some 46) (bA 11 1) (h := ?_);refine pu 1 (some 47) (bA 11 3) (h := ?_);refine pu 2 (some 48) (bA 11 7) (h := ?_);refine pu 3 (some 49) (bA 11 15) (h := ?_);refine pu 6 (some 52) (bA 11 79) (h := ?_);refine tu 4 (some 50) (bA 11 95) hHeld (v := .agg (bb c.line).toArray) (fun w' hs => bv 73 (.tmp 49) rfl C (i.toNat * 10) rfl (bb c.line) _ hs.1 Tryz.underlying73 rfl (by rw [an, HCL.out]; exact cj)) (h := ?_);refine tu 5 (some 51) (bA 11 127) hHeld (v := .agg (bb l).toArray) (fun w' hs => bv 73 (.tmp 5) rfl w.heap.size 0 rfl (bb l) _ hs.2 Tryz.underlying73 rfl (by rw [an, HL.out]; exact cj)) (h := ?_);refine jr (i := 7) (N := some 53) (bA 11 255) rfl rfl (by kernel_rfl) (by decide) (fun K hK => ?_);refine dw Tryz.func160 (by kernel_rfl) rfl #[gm c.line, gm l, .int .i64 (Nvm.write m).1] (by rfl) rfl rfl (by simp only [List.map_toArray, List.map_cons, List.map_nil]; rfl) ?_;refine (qbp _ c.line l _ HCL.out HL.out).mono ?_;rintro e w3 ⟨rfl, hb2⟩;refine ⟨_, rfl, ?_⟩;refine hK.out _ _ ?_;clear hK K hHeld;have H3 := am (H2.out.drew.below hb2);have K3 : Aside0 (ah (MC M C) w w3) := ⟨K2.out.drew.step (.of_below hb2)⟩;clear H2 K2 B2 hb2;refine pu 8 (some 54) (bA 11 511) (h := ?_);refine pu 9 (some 55) (bA 11 1023) (h := ?_);have hsz : Aside0 (i.toNat * 10 + (bb (mix c.line l (Nvm.write m).1)).length ≤ (fg (Nvm.write m).2.cells).length) := ⟨by
     rw [an, nj H3.out.lines, hwc.out];show _ + 8 ≤ _;omega⟩
    refine jr (i := 10) (N := none) (bA 11 2047) rfl rfl (by kernel_rfl) (by decide) (fun K hK => ?_);refine p3 (by rfl) rfl (i7 73 (.tmp 55) (.tmp 53) rfl C (i.toNat * 10) (bb (mix c.line l (Nvm.write m).1)) rfl rfl 75 _ H3.out.arr (by rw [an]; exact cj) hsz.out (ix _)) ?_;refine hK.out _ _ ?_;clear hK K;refine fp (by kernel_rfl) ?_;have H4 := am (H3.out.putLine HC1.out (n := mix c.line l (Nvm.write m).1) (ki _ _ _ _));have K4 : Aside0 (ah (MC M C) w _) := ⟨K3.out.setRow (.inl (.inr rfl)) (spl (fg (Nvm.write m).2.cells) (i.toNat * 10) (bb (mix c.line l (Nvm.write m).1))).toArray⟩;clear H3 K3;generalize w3.setRow C _ = w4 at H4 K4 ⊢;have HC4 : Aside0 (((Nvm.write m).2.cells.set i.toNat ⟨mix c.line l (Nvm.write m).1, c.wear, c.limit⟩)[i.toNat]? = some ⟨mix c.line l (Nvm.write m).1, c.wear, c.limit⟩) := ⟨by rw [List.getElem?_set_self (by rw [hwc.out]; omega)]⟩;have hc8 := H4.out.wearCell HC4.out;have hf8 := H4.out.freeC (i.toNat * 10 + 8);have H5 := am (show MemAt _ M C { (Nvm.write m).2 with cells := (Nvm.write m).2.cells.set i.toNat ⟨mix c.line l (Nvm.write m).1, wrap64 (c.wear + 1), c.limit⟩ } by have h := H4.out.setWear HC4.out (wrap64 (c.wear + 1)); rw [List.set_set] at h; exact h);have K5 : Aside0 (ah (MC M C) w _) := ⟨K4.out.set (p := ⟨C, i.toNat * 10 + 8, none⟩) (.inl (.inr rfl)) (.int .i64 (wrap64 (c.wear + 1)))⟩;clear H4 K4;have eh : Aside0 (Nvm.hit (Nvm.write m).2 i.toNat l (Nvm.write m).1 = { (Nvm.write m).2 with cells := (Nvm.write m).2.cells.set i.toNat ⟨mix c.line l (Nvm.write m).1, wrap64 (c.wear + 1), c.limit⟩ }) := ⟨by unfold Nvm.hit; rw [tf HC1.out]⟩;rw [eh.out] at e1;go_wp2_with (go_at_call 150; (with_reducible refine (o8 H5.out false).mono ?_); rintro e w' ⟨rfl, rfl⟩)
    go_ret;rw [e1.out];exact ⟨rfl, H5.out, K5.out⟩
  ·rw [hd] at h3;have e1 : Nvm.put m i l = (2, m) := by unfold Nvm.put; rw [c0, hd]; rfl
   rw [e1];clear e1 hd c0;go_enter Tryz.func132, Tryz.ntmps132;go_wp2_with (first | (go_at_call 108; (with_reducible refine (lu HM.out i).mono ?_); rintro e w' ⟨rfl, rfl⟩))
   go_ret;exact ⟨rfl, HM.out, (ah.refl _ w).alloc _⟩
 ·have c1 : Nvm.has m i = false := by simpa using c0
  have b0 : (!Nvm.has m i) = true := by rw [c1]; rfl
  have e1 : Nvm.put m i l = (1, m) := by unfold Nvm.put; rw [c1]; rfl
  rw [e1];clear e1 c0;go_enter Tryz.func132, Tryz.ntmps132;go_wp2_with (first | (go_at_call 108; (with_reducible refine (lu HM.out i).mono ?_); rintro e w' ⟨rfl, rfl⟩))
  go_ret;exact ⟨rfl, HM.out, (ah.refl _ w).alloc _⟩
end
namespace Nvm
def reg (m : Mem) (i : Int) : Int × Int := if hasReg i then if m.down then (0, 2) else (m.regs.getD i.toNat 0, 0) else (0, 1)
def bit0 (mask : Int) : Bool := bits .and .i64 mask 1 == 1
def setReg (m : Mem) (i v : Int) : Mem := { m with regs := m.regs.set i.toNat v }
def set (m : Mem) (i v : Int) : Int × Mem :=
 if hasReg i then
  if m.down then (2, m)
  else if bit0 (write m).1 then (told (setReg (write m).2 i v) false, setReg (write m).2 i v) else (told (write m).2 false, (write m).2)
 else (1, m)
def wear (m : Mem) (i : Int) : Int := if has m i then (m.cells.getD i.toNat ⟨zL, 0, 0⟩).wear else 0
def cutAt (m : Mem) (n mask : Int) : Mem := { m with cut := max n (-1), mask := mask }
def power (m : Mem) : Mem := { m with cut := -1, down := false }
end Nvm
section
variable {w : World} {M C : Nat} {m : Mem}
theorem ue {i : Int} (h : Nvm.hasReg i = true) : 0 ≤ i ∧ i < 35 := by
 unfold Nvm.hasReg at h;simp only [Bool.and_eq_true, decide_eq_true_eq] at h;omega
theorem qf1 (h : MemAt w M C m) {i : Int} (h0 : 0 ≤ i) (h1 : i < 35) : w.cell? ⟨M, 1 + i.toNat, none⟩ = some (.int .u64 (m.regs.getD i.toNat 0)) := h.reg _ (by omega)
theorem jf (h : MemAt w M C m) (i : Int) : Calls Tryz.prog 35 #[.pointer (some ⟨M, 0, none⟩), .int .i64 i] w fun e w' => e = .returned (.tuple #[.int .u64 (Nvm.reg m i).1, .int .i64 (Nvm.reg m i).2]) ∧ w = w' := by
 have H := am h;have h3 := h.down;by_cases c0 : Nvm.hasReg i = true
 ·have b0 : (!Nvm.hasReg i) = false := by rw [c0]; rfl
  obtain ⟨hi0, hi1⟩ := ue c0;have hc := qf1 h hi0 hi1;clear h;cases hd : m.down
  ·have e1 : Nvm.reg m i = (m.regs.getD i.toNat 0, 0) := by unfold Nvm.reg; rw [c0, hd]; rfl
   rw [hd] at h3;rw [e1];clear e1 hd c0;generalize m.regs.getD i.toNat 0 = v at hc ⊢;go_enter Tryz.func35, Tryz.ntmps35;go_wp2_with (first | (go_at_call 81; (with_reducible refine (jj H.out i).mono ?_); rintro e w' ⟨rfl, rfl⟩))
   go_ret2;exact ⟨rfl, rfl⟩
  ·have e1 : Nvm.reg m i = (0, 2) := by unfold Nvm.reg; rw [c0, hd]; rfl
   rw [hd] at h3;rw [e1];clear e1 hd c0;go_enter Tryz.func35, Tryz.ntmps35;go_wp2_with (first | (go_at_call 81; (with_reducible refine (jj H.out i).mono ?_); rintro e w' ⟨rfl, rfl⟩))
   go_ret2;exact ⟨rfl, rfl⟩
 ·have c1 : Nvm.hasReg i = false := by simpa using c0
  have b0 : (!Nvm.hasReg i) = true := by rw [c1]; rfl
  have e1 : Nvm.reg m i = (0, 1) := by unfold Nvm.reg; rw [c1]; rfl
  rw [e1];clear e1 c0 h;go_enter Tryz.func35, Tryz.ntmps35;go_wp2_with (first | (go_at_call 81; (with_reducible refine (jj H.out i).mono ?_); rintro e w' ⟨rfl, rfl⟩))
  go_ret2;exact ⟨rfl, rfl⟩
theorem lq (h : MemAt w M C m) (i v : Int) : Calls Tryz.prog 107 #[.pointer (some ⟨M, 0, none⟩), .int .i64 i, .int .u64 v] w fun e w' => e = .returned (.int .i64 (Nvm.set m i v).1) ∧ MemAt w' M C (Nvm.set m i v).2 ∧ ah (MC M C) w w' := by
 have H := am h;have h3 := h.down;clear h;by_cases c0 : Nvm.hasReg i = true
 ·have b0 : (!Nvm.hasReg i) = false := by rw [c0]; rfl
  obtain ⟨hi0, hi1⟩ := ue c0;cases hd : m.down
  ·rw [hd] at h3;cases hb : Nvm.bit0 (Nvm.write m).1
   ·have e1 : Aside0 (Nvm.set m i v = (Nvm.told (Nvm.write m).2 false, (Nvm.write m).2)) := ⟨by unfold Nvm.set; rw [c0, hd, hb]; rfl⟩;unfold Nvm.bit0 at hb;clear hd c0;generalize Nvm.set m i v = pr at e1 ⊢;go_enter Tryz.func107, Tryz.ntmps107;go_wp2_with (first | (go_at_call 81; (with_reducible refine (jj H.out i).mono ?_); rintro e w' ⟨rfl, rfl⟩) | (go_at_call 149; (with_reducible refine (r8 H.out).mono ?_); rintro e w1 ⟨rfl, h1, k1⟩; have K1 := am k1; have H1 := am h1; clear k1 h1) | (go_at_call 150; (with_reducible refine (o8 H1.out false).mono ?_); rintro e w' ⟨rfl, rfl⟩))
    go_ret;rw [e1.out];exact ⟨rfl, H1.out, K1.out⟩
   ·have e1 : Aside0 (Nvm.set m i v = (Nvm.told (Nvm.setReg (Nvm.write m).2 i v) false, Nvm.setReg (Nvm.write m).2 i v)) := ⟨by unfold Nvm.set; rw [c0, hd, hb]; rfl⟩;unfold Nvm.bit0 at hb;clear hd c0;generalize Nvm.set m i v = pr at e1 ⊢;go_enter Tryz.func107, Tryz.ntmps107;go_wp2_with (first | (go_at_call 81; (with_reducible refine (jj H.out i).mono ?_); rintro e w' ⟨rfl, rfl⟩) | (go_at_call 149; (with_reducible refine (r8 H.out).mono ?_); rintro e w1 ⟨rfl, h1, k1⟩; have K1 := am k1; have H1 := am h1; clear k1 h1; have hc := qf1 H1.out hi0 hi1; have hf := H1.out.free (1 + i.toNat)) | (go_at_call 150; (with_reducible refine (o8 (m := Nvm.setReg (Nvm.write m).2 i v) (H1.out.setReg i.toNat (by omega) v) false).mono ?_); rintro e w' ⟨rfl, rfl⟩))
    go_ret;rw [e1.out];exact ⟨rfl, H1.out.setReg i.toNat (by omega) v, K1.out.set (.inl (.inl rfl)) _⟩
  ·have e1 : Nvm.set m i v = (2, m) := by unfold Nvm.set; rw [c0, hd]; rfl
   rw [hd] at h3;rw [e1];clear e1 hd c0;go_enter Tryz.func107, Tryz.ntmps107;go_wp2_with (first | (go_at_call 81; (with_reducible refine (jj H.out i).mono ?_); rintro e w' ⟨rfl, rfl⟩))
   go_ret;exact ⟨rfl, H.out, ah.refl _ _⟩
 ·have c1 : Nvm.hasReg i = false := by simpa using c0
  have b0 : (!Nvm.hasReg i) = true := by rw [c1]; rfl
  have e1 : Nvm.set m i v = (1, m) := by unfold Nvm.set; rw [c1]; rfl
  rw [e1];clear e1 c0;go_enter Tryz.func107, Tryz.ntmps107;go_wp2_with (first | (go_at_call 81; (with_reducible refine (jj H.out i).mono ?_); rintro e w' ⟨rfl, rfl⟩))
  go_ret;exact ⟨rfl, H.out, ah.refl _ _⟩
theorem qfh (h : MemAt w M C m) (i : Int) : Calls Tryz.prog 57 #[.pointer (some ⟨M, 0, none⟩), .int .i64 i] w fun e w' => e = .returned (.int .i64 (Nvm.wear m i)) ∧ w = w' := by
 have H := am h;have h0 := h.c0;clear h;by_cases c0 : Nvm.has m i = true
 ·have b0 : (!Nvm.has m i) = false := by rw [c0]; rfl
  obtain ⟨hi0, hi1⟩ := rk c0;obtain ⟨c, hc⟩ : ∃ c, m.cells[i.toNat]? = some c := ⟨_, List.getElem?_eq_getElem (by omega)⟩;have e1 : Nvm.wear m i = c.wear := by unfold Nvm.wear; rw [c0, tf hc]; rfl
  have hc8 := H.out.wearCell hc;rw [e1];clear e1 hc c0;go_enter Tryz.func57, Tryz.ntmps57;go_wp2_with (first | (go_at_call 108; (with_reducible refine (lu H.out i).mono ?_); rintro e w' ⟨rfl, rfl⟩))
  go_ret;exact ⟨rfl, rfl⟩
 ·have c1 : Nvm.has m i = false := by simpa using c0
  have b0 : (!Nvm.has m i) = true := by rw [c1]; rfl
  have e1 : Nvm.wear m i = 0 := by unfold Nvm.wear; rw [c1]; rfl
  rw [e1];clear e1 c0;go_enter Tryz.func57, Tryz.ntmps57;go_wp2_with (first | (go_at_call 108; (with_reducible refine (lu H.out i).mono ?_); rintro e w' ⟨rfl, rfl⟩))
  go_ret;exact ⟨rfl, rfl⟩
theorem qdb (h : MemAt w M C m) : Calls Tryz.prog 110 #[.pointer (some ⟨M, 0, none⟩)] w fun e w' => e = .returned (.tuple #[]) ∧ MemAt w' M C (Nvm.power m) ∧ ah (MC M C) w w' := by
 have H := am h;have h1 := h.cut;have h3 := h.down;have f1 := h.free 37;have f3 := h.free 39;clear h;go_enter Tryz.func110, Tryz.ntmps110;go_wp2;go_end0;exact ⟨rfl, (H.out.setCut (-1)).setDown false, ((ah.refl _ _).set (.inl (.inl rfl)) _).set (.inl (.inl rfl)) _⟩
theorem qhd (h : MemAt w M C m) (n mask : Int) : Calls Tryz.prog 109 #[.pointer (some ⟨M, 0, none⟩), .int .i64 n, .int .i64 mask] w fun e w' => e = .returned (.tuple #[]) ∧ MemAt w' M C (Nvm.cutAt m n mask) ∧ ah (MC M C) w w' := by
 have H := am h;have h1 := h.cut;have h2 := h.mask;have f1 := h.free 37;have f2 := h.free 38;clear h;go_enter Tryz.func109, Tryz.ntmps109;go_wp2;go_end0;exact ⟨rfl, (H.out.setCut _).setMask _, ((ah.refl _ _).set (.inl (.inl rfl)) _).set (.inl (.inl rfl)) _⟩
end
namespace Nvm
def lim (limits : List Int) (i : Nat) : Int := if i < limits.length then limits.getD i 0 else -1
def freshTo (n : Nat) (limits : List Int) (k : Nat) : Mem := ⟨(List.range n).map fun i => ⟨zL, 0, if i < k then lim limits i else 0⟩, List.replicate 35 0, 0, -1, 0, false⟩
def fresh (n : Nat) (limits : List Int) : Mem := freshTo n limits n
end Nvm
theorem ql5 : (Tryz.prog.info? 75).map (fun i => (i.zero, i.size, i.bytes)) = some (some (.agg #[.int .u64 0, .int .u64 0, .int .u64 0, .int .u64 0, .int .u64 0, .int .u64 0, .int .u64 0, .int .u64 0, .int .i64 0, .int .i64 0]), 10, 80) := by kernel_rfl
theorem ga (n : Nat) (limits : List Int) (k : Nat) : (Nvm.freshTo n limits k).cells.length = n := by simp [Nvm.freshTo]
theorem p5 (n : Nat) (limits : List Int) (k : Nat) : ∀ c ∈ (Nvm.freshTo n limits k).cells, c.line.length = 8 := fun c hc => by
 simp only [Nvm.freshTo, List.mem_map] at hc;obtain ⟨i, _, rfl⟩ := hc;rfl
theorem lf (n : Nat) (limits : List Int) (k i : Nat) (hi : i < n) : (Nvm.freshTo n limits k).cells[i]? = some ⟨zL, 0, if i < k then Nvm.lim limits i else 0⟩ := by
 simp [Nvm.freshTo, hi]
theorem yg (n : Nat) (limits : List Int) (k : Nat) (hk : k < n) (x : Int) : ((Nvm.freshTo n limits k).cells.set k ⟨zL, 0, x⟩).set k ⟨zL, 0, Nvm.lim limits k⟩ = (Nvm.freshTo n limits (k + 1)).cells := by
 rw [List.set_set];apply List.ext_getElem
 ·simp [Nvm.freshTo]
 ·intro j h1 h2;simp only [Nvm.freshTo, List.getElem_set, List.getElem_map, List.getElem_range];by_cases e : k = j
  ·subst e; simp
  ·rw [if_neg e];simp only [show (j < k + 1) = (j < k) from by simp only [eq_iff_iff]; omega]
theorem qcd (n : Nat) (limits : List Int) (k : Nat) (hk : k < n) (h : Nvm.lim limits k = -1) : (Nvm.freshTo n limits k).cells.set k ⟨zL, 0, -1⟩ = (Nvm.freshTo n limits (k + 1)).cells := by
 rw [← yg n limits k hk (-1), h, List.set_set]
theorem qmf (n : Nat) (limits : List Int) : madeCells (Value.agg #[.int .u64 0, .int .u64 0, .int .u64 0, .int .u64 0, .int .u64 0, .int .u64 0, .int .u64 0, .int .u64 0, .int .i64 0, .int .i64 0]).cells (n * 10) = (fg (Nvm.freshTo n limits 0).cells).toArray := by
 apply Array.ext';apply List.ext_getElem?;intro j;have hl := nj (p5 n limits 0);rw [ga] at hl;by_cases hj : j < n * 10
 ·have h1 := na (j % 10) (p5 n limits 0) (lf n limits 0 (j / 10) (by omega)) (by omega);rw [show j / 10 * 10 + j % 10 = j by omega] at h1;rw [h1];simp only [Nat.not_lt_zero, if_false];simp only [madeCells, Array.toList_map, List.getElem?_map, Array.toList_range, List.getElem?_range hj, Option.map_some];have h10 : j % 10 < 10 := by omega
  show some ((Value.agg #[.int .u64 0, .int .u64 0, .int .u64 0, .int .u64 0, .int .u64 0, .int .u64 0, .int .u64 0, .int .u64 0, .int .i64 0, .int .i64 0]).cells[j % 10]!) = _;generalize j % 10 = q at h10 ⊢
  match q, h10 with
  | 0, _ => rfl
  | 1, _ => rfl
  | 2, _ => rfl
  | 3, _ => rfl
  | 4, _ => rfl
  | 5, _ => rfl
  | 6, _ => rfl
  | 7, _ => rfl
  | 8, _ => rfl
  | 9, _ => rfl
 ·rw [List.getElem?_eq_none (by simp [madeCells]; omega), List.getElem?_eq_none (by show (fg _).length ≤ j; omega)]
theorem qbx (w : World) (n : Nat) (A : Option Addr) (c : Nat) (limits : List Int) (hn : 1 ≤ n) (hn2 : n ≤ 200) (hr : Kd.C (Kd.int .i64) w A limits.length limits) (hc : limits.length ≤ c) : Calls Tryz.prog 8 #[.int .i64 n, .slice A limits.length c] w fun e w' => ∃ M C, e = .returned (.pointer (some ⟨M, 0, none⟩)) ∧ MemAt w' M C (Nvm.fresh n limits) ∧ w.heap.size ≤ M ∧ w.heap.size ≤ C ∧ Below w.heap.size w w' := by
 have HR := am hr;have HM := Kd.C_max hr;clear hr;obtain ⟨i0, hi, hz0, hz1, hz2⟩ := info_parts ql5;have hmk : (Instr.makeSlice 68 (.int .i64 (n : Int)) (.int .i64 (n : Int))).run Tryz.prog w = .ok (.slice (some ⟨w.heap.size, 0, none⟩) n n) (w.alloc (.cells (fg (Nvm.freshTo n limits 0).cells).toArray 75)) := by have h := run_make (P := Tryz.prog) w 68 75 i0 _ Tryz.underlying68 hi hz0 .i64 .i64 (n : Int) (n : Int) (by omega) (by omega) (by rw [hz2]; omega) (by omega);rw [hz1, Int.toNat_natCast, qmf n limits] at h;exact h
 clear hi hz0 hz1 hz2;have hn1 : decide ((n : Int) < 1) = false := decide_eq_false (by omega);have hn3 : decide ((n : Int) > 200) = false := decide_eq_false (by omega);go_enter Tryz.func8, Tryz.ntmps8;go_wp2;have HMem : Aside0 (MemAt ((w.alloc (.cells (fg (Nvm.freshTo n limits 0).cells).toArray 75)).alloc (.cells (vu w.heap.size n (Nvm.freshTo n limits 0)).toArray 71)) (w.heap.size + 1) w.heap.size (Nvm.freshTo n limits 0)) := ⟨by
  refine ⟨?_, ?_, by omega, by simp [Nvm.freshTo], p5 _ _ _, by rw [ga]; exact hn2⟩
  ·rw [ga];exact (by simp : (w.alloc (.cells (fg (Nvm.freshTo n limits 0).cells).toArray 75)).heap.size = w.heap.size + 1) ▸ heap_alloc_new _ _
  ·exact (heap_alloc_old _ _ (by simp)).trans (heap_alloc_new _ _)⟩
 have HB : Aside0 (Below w.heap.size w ((w.alloc (.cells (fg (Nvm.freshTo n limits 0).cells).toArray 75)).alloc (.cells (vu w.heap.size n (Nvm.freshTo n limits 0)).toArray 71))) := ⟨((Below.refl _ _).alloc (Nat.le_refl _) _).alloc (by simp) _⟩;change Code.wp _ _ _ _ ((w.alloc (.cells (fg (Nvm.freshTo n limits 0).cells).toArray 75)).alloc (.cells (vu w.heap.size n (Nvm.freshTo n limits 0)).toArray 71));generalize ((w.alloc (.cells (fg (Nvm.freshTo n limits 0).cells).toArray 75)).alloc (.cells (vu w.heap.size n (Nvm.freshTo n limits 0)).toArray 71)) = w1 at HMem HB ⊢;clear hmk;go_loopw [22] (fun i wr => ∃ (k : Nat), k ≤ n ∧ i = .int .i64 k ∧ Aside0 (MemAt wr (w.heap.size + 1) w.heap.size (Nvm.freshTo n limits k)) ∧ Aside0 (Below w.heap.size w wr)) (fun i _ => n - (intOf i).toNat)
 case atStart => exact ⟨0, by omega, rfl, HMem, HB⟩
 case round =>
  clear HMem HB;obtain ⟨k, hk, rfl, HMem, HB⟩ := hrel;by_cases hlt : k < n
  ·have h0 := HMem.out.c0;rw [ga] at h0;have hcl := HMem.out.limitCell (lf n limits k k hlt);have hfl := HMem.out.freeC (k * 10 + 9);by_cases hl : k < limits.length
   ·have hl2 : decide ((k : Int) < limits.length) = true := decide_eq_true (by omega);obtain ⟨ad, rfl, hx⟩ := Kd.at_int (Kd.C_below HR.out HB.out) (k : Int) (by omega) (by omega);rw [Int.toNat_natCast] at hx;have hg1 : (Nvm.freshTo n limits k).cells.set k ⟨zL, 0, -1⟩ = (Nvm.freshTo n limits k).cells.set k ⟨zL, 0, -1⟩ := rfl;have H1 := am (HMem.out.setLimit (lf n limits k k hlt) (-1));have B1 : Aside0 (Below w.heap.size w _) := ⟨HB.out.setCell (p := ⟨w.heap.size, k * 10 + 9, none⟩) (Nat.le_refl _) (.int .i64 (-1))⟩;go_wp2;clear h0 hcl hfl hx HMem HB hg1;generalize wr.setCell ⟨w.heap.size, k * 10 + 9, none⟩ (.int .i64 (-1)) = w2 at H1 B1 ⊢;have h02 := H1.out.c0;rw [List.length_set, ga] at h02;have hg2 : ((Nvm.freshTo n limits k).cells.set k ⟨zL, 0, -1⟩)[k]? = some ⟨zL, 0, -1⟩ := List.getElem?_set_self (by rw [ga]; exact hlt);have hcl := H1.out.limitCell hg2;have hfl := H1.out.freeC (k * 10 + 9);obtain ⟨ad2, e2, hx⟩ := Kd.at_int (Kd.C_below HR.out B1.out) (k : Int) (by omega) (by omega);cases e2;rw [Int.toNat_natCast] at hx;have H3 := am (H1.out.drew.setLimit hg2 (rd limits k));have B3 : Aside0 (Below w.heap.size w _) := ⟨B1.out.drew.setCell (p := ⟨w.heap.size, k * 10 + 9, none⟩) (Nat.le_refl _) (.int .i64 (rd limits k))⟩;have E3 : Aside0 (((Nvm.freshTo n limits k).cells.set k ⟨zL, 0, -1⟩).set k ⟨zL, 0, rd limits k⟩ = (Nvm.freshTo n limits (k + 1)).cells) := ⟨by
     have e := yg n limits k hlt (-1);rw [← e];unfold Nvm.lim;rw [if_pos hl];rfl⟩
    clear hg2;go_region
    all_goals
     go_wp2
     go_roundw
     case rel => exact ⟨k + 1, by omega, by go_num, ⟨by have h := H3.out; rw [E3.out] at h; exact h⟩, B3⟩
     case measure => simp [intOf]; omega
   ·have hl2 : decide ((k : Int) < limits.length) = false := decide_eq_false (by omega);have H1 := am (HMem.out.setLimit (lf n limits k k hlt) (-1));have B1 : Aside0 (Below w.heap.size w _) := ⟨HB.out.setCell (p := ⟨w.heap.size, k * 10 + 9, none⟩) (Nat.le_refl _) (.int .i64 (-1))⟩;have E3 : Aside0 ((Nvm.freshTo n limits k).cells.set k ⟨zL, 0, -1⟩ = (Nvm.freshTo n limits (k + 1)).cells) := ⟨qcd n limits k hlt (by unfold Nvm.lim; rw [if_neg hl])⟩;go_wp2;go_roundw
    case rel => exact ⟨k + 1, by omega, by go_num, ⟨by have h := H1.out; rw [E3.out] at h; exact h⟩, B1⟩
    case measure => simp [intOf]; omega
  ·have hkn : k = n := by omega
   subst hkn;go_wp2;go_ret;exact ⟨w.heap.size + 1, w.heap.size, rfl, HMem.out, by omega, Nat.le_refl _, HB.out⟩
end Go.Proofs.YtmfhaliclnnbaaaGreat.Sys
