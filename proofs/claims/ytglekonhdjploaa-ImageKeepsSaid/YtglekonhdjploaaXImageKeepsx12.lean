-- Laid by this session's own printer (wip/xprint.py): each Go function that the law reaches as a plain Lean function, and that the call comes to it.
import Derived.Test.YtglekonhdjploaaXImageKeepsx0
import Derived.Test.YtglekonhdjploaaXImageKeepsx1
import Derived.Test.YtglekonhdjploaaXImageKeepsx2
import Derived.Test.YtglekonhdjploaaXImageKeepsx6
import Derived.Test.YtglekonhdjploaaXImageKeepsx9
import Derived.Test.YtglekonhdjploaaXImageKeepsx10
import Derived.Test.YtglekonhdjploaaXImageKeepsx11
import Derived.Test.YtglekonhdjploaaXImageKeepsx7
namespace Go.Proofs.Ytglekonhdjploaa.XImageKeeps
open Go.RowKit Go.Proofs.YtglekonhdjploaaW.PrintWords Go.Proofs.YtglekonhdjploaaW.PrintLast Go.Proofs.YtglekonhdjploaaW.PrintMore
attribute [local go_sem] max2_int min2_int max_two min_two max_three min_three max_four min_four   -- for this text's walks alone
set_option linter.unusedVariables false
set_option linter.unusedSimpArgs false

/-! ### darninglaw19_mput: function 108, told by hand -/
/-- What a list of stores and strikings, the last one first, holds at a key. -/
def lookS : List S122 → Int → Option ByteArray
  | [], _ => none
  | x :: r, k => if x.f0 = k then (if x.f2 = true then some x.f1 else none) else lookS r k
def getS (l : List S122) (a : Int) : ByteArray := (lookS l a).getD (⟨#[]⟩ : ByteArray)
def strD (s : ByteArray) : DataW Unit := .agg [.lit (.string s.data.toList)]
def RSl : List Value → Option (DataW Unit × List MemPlace)
  | [.string s] => if s.size ≤ maxLen then some (strD s, []) else none
  | _ => none
def RS : Value → Option (DataW Unit × List MemPlace)
  | .agg cs => RSl cs.toList
  | _ => none
theorem RS_mk {s : ByteArray} (h : s.size ≤ maxLen) : RS (.agg #[.string s]) = some (strD s, []) := if_pos h
theorem RS_inv {v : Value} {z : DataW Unit × List MemPlace} (h : RS v = some z) : ∃ s, v = .agg #[.string s] ∧ z = (strD s, []) ∧ s.size ≤ maxLen := by
  cases v with
  | agg cs =>
    have h : RSl cs.toList = some z := h
    unfold RSl at h
    split at h
    · next s hs =>
      split at h
      · next hle => cases h; exact ⟨s, congrArg Value.agg (Array.toList_inj.1 hs), rfl, hle⟩
      · cases h
    · cases h
  | _ => cases h
theorem strD_inj {s t : ByteArray} (h : strD s = strD t) : s = t := by
  unfold strD at h
  have h1 : s.data.toList = t.data.toList := by
    injection h with h
    injection h with h _
    injection h with h
    injection h
  cases s; cases t
  exact congrArg ByteArray.mk (Array.toList_inj.1 h1)
theorem und73 : Try.prog.underlying 73 = some (.map 3 77) := by kernel_rfl
theorem und3 : Try.prog.underlying 3 = some (.int .i64) := by kernel_rfl
theorem zero77 (w : World) : (zeroValue 77).run Try.prog w = .ok (.agg #[.string ⟨#[]⟩]) w := by kernel_rfl
theorem field77 (s : ByteArray) (w : World) : (Instr.field 77 (.agg #[.string s]) 0).run Try.prog w = .ok (.string s) w := by kernel_rfl
theorem keyI {a : Int} (h : (Lit.int .i64 a).wf = true) : keyOf Try.prog 3 (.int .i64 a) = some (.int .i64 a) := Maps.keyOf_int_mk und3 h
/-- The map's block of a world is what the list says. -/
def MR (w : World) (base : Nat) (ok : Nat → Prop) (v : Value) (xs : List S122) : Prop :=
  ∃ b D, v = .map (some b) ∧ base ≤ b ∧ ok b ∧ w.ownsMap Try.prog 3 RS b xs.length D ∧ ∀ k : Int, (Lit.int .i64 k).wf = true → Maps.has D (.int .i64 k) = (lookS xs k).isSome ∧ D.atKey (.int .i64 k) (strD ⟨#[]⟩) = strD (getS xs k)
section
variable {w w1 W : World} {base : Nat} {ok ok' : Nat → Prop} {v u : Value} {xs : List S122} {b : Nat}
theorem MR_map (h : MR w base ok v xs) : ∃ b, v = .map (some b) := by obtain ⟨b, _, h, _⟩ := h; exact ⟨b, h⟩
theorem MR_move (h : MR w base ok v xs) (hm : ∀ k, ok k → k < w.heap.size → w1.heap[k]? = w.heap[k]?) : MR w1 base ok v xs := by
  obtain ⟨b, D, h1, h2, h3, h4, h5⟩ := h
  have hlt := h4.lt
  obtain ⟨es, clock, hb, F, hs, hD⟩ := h4
  exact ⟨b, D, h1, h2, h3, ⟨es, clock, (hm b h3 hlt).trans hb, F, hs, hD⟩, h5⟩
theorem MR_below (h : MR w base ok v xs) (hb : Below w.heap.size w w1) : MR w1 base ok v xs := MR_move h (fun k _ hk => hb.block k hk)
theorem MR_alloc (h : MR w base ok v xs) (o : Obj) : MR (w.alloc o) base ok v xs := MR_below h (below_alloc (Below.refl _ _) o)
theorem MR_drewN (h : MR w base ok v xs) (m : Nat) : MR (w.drewN m) base ok v xs := MR_below h (pw_below_drewN (Below.refl _ _) m)
theorem MR_drew (h : MR w base ok v xs) : MR w.drew base ok v xs := MR_below h (below_drew1 (Below.refl _ _))
theorem MR_mono (h : MR w base ok v xs) (hok : ∀ k, ok k → ok' k) : MR w base ok' v xs := by
  obtain ⟨b, D, h1, h2, h3, h4⟩ := h
  exact ⟨b, D, h1, h2, hok b h3, h4⟩
theorem MR_types (h : MR w base ok v xs) {g t : Nat} {cells : Array Value} (hb : w.heap[g]? = some (.cells cells t (0, 0))) (_ht : True) : MR w base (fun k => ok k ∧ k ≠ g) v xs := by
  obtain ⟨b, D, h1, h2, h3, h4, h5⟩ := h
  refine ⟨b, D, h1, h2, ⟨h3, fun e => ?_⟩, h4, h5⟩
  obtain ⟨es, clock, hb2, _⟩ := h4
  rw [e, hb] at hb2
  cases hb2
theorem MR_far (h : MR w base ok v xs) {p : Addr} (hok : ∀ k, ok k → k ≠ p.block) (x : Value) : MR (w.setCell p x) base ok v xs :=
  MR_move h (fun k ho _ => Below.heap_setCell w p x k (hok k ho))
theorem MR_elder' (h : MR w base ok v xs) (hbase : ∀ k, u.ownBlock = some k → w.heap.size ≤ k) (hb : Below w.heap.size w w1) : MR w1 base (fun k => ok k ∧ some k ≠ u.ownBlock) v xs := by
  have h' := MR_below h hb
  obtain ⟨b, D, h1, h2, h3, h4, h5⟩ := h
  obtain ⟨b', D', g1, g2, g3, g4, g5⟩ := h'
  rw [h1] at g1
  cases g1
  have hlt := h4.lt
  exact ⟨b, D', h1, g2, ⟨g3, fun e => by have := hbase b e.symm; omega⟩, g4, g5⟩
theorem MR_own (h : MR w base ok v xs) (k : Nat) : v.ownBlock ≠ some k := by
  obtain ⟨b, _, rfl, _⟩ := h
  simp [Value.ownBlock]
theorem MR_over' (h : MR w base ok v xs) {e' : Nat} (hty : ∀ k, u.ownBlock = some k → ∃ cells, w.heap[k]? = some (.cells cells e' (0, 0))) (_ht : True) (hg : w.grownBy w1 u.ownBlock) : MR w1 base ok v xs := by
  obtain ⟨b, D, h1, h2, h3, h4, h5⟩ := h
  refine ⟨b, D, h1, h2, h3, h4.kept hg (fun e => ?_), h5⟩
  obtain ⟨cells, hc⟩ := hty b e.symm
  obtain ⟨es, clock, hb2, _⟩ := h4
  rw [hc] at hb2
  cases hb2
theorem MR_made (w : World) (hb : base ≤ w.heap.size) : MR (w.alloc (.map #[] 0)) base (fun _ => True) (.map (some w.heap.size)) [] :=
  ⟨w.heap.size, .map [], rfl, hb, trivial, World.ownsMap_made w Try.prog 3 RS, fun k _ => ⟨rfl, rfl⟩⟩
/-- A row of the call's own beside the map's block. -/
theorem MR_beside {α : Type} {d : Kd α} {e base' : Nat} {u : Value} {ys : List α} {ok2 : Nat → Prop} (h : MR w base ok (.map (some b)) xs) (hu : d.R e w base' ok2 u ys) (hg : w.grownBy w1 (some b)) : d.R e w1 base' ok2 u ys := by
  obtain ⟨b', D, h1, h2, h3, ⟨es, clock, hb2, _⟩, h5⟩ := h
  cases h1
  refine Kd.R_mono (Kd.R_grown (Kd.R_bound hu) hg (fun k hk => ?_)) (fun k hk => hk.1)
  obtain ⟨_, _, _, q, _, cells, hc⟩ := hk
  intro e
  cases e
  rw [hc] at hb2
  cases hb2
theorem MR_box {g t : Nat} {cells : Array Value} (h : MR w base ok (.map (some b)) xs) (hb : w.heap[g]? = some (.cells cells t (0, 0))) (hg : w.grownBy w1 (some b)) : w1.heap[g]? = some (.cells cells t (0, 0)) := by
  obtain ⟨b', D, h1, h2, h3, ⟨es, clock, hb2, _⟩, h5⟩ := h
  cases h1
  refine (hg.block g (Array.getElem?_eq_some_iff.1 hb).1 (fun e => ?_)).trans hb
  cases e
  rw [hb] at hb2
  cases hb2
theorem MR_belowB {w0 : World} (h : MR w w0.heap.size ok (.map (some b)) xs) (hb : Below w0.heap.size w0 w) (hg : w.grownBy w1 (some b)) : Below w0.heap.size w0 w1 := by
  obtain ⟨b', D, h1, h2, h3, h4, h5⟩ := h
  cases h1
  refine ⟨hg.os.trans hb.os, hg.tape.trans hb.tape, hg.output.trans hb.output, Nat.le_trans hb.size hg.size, fun k hk => ?_⟩
  exact (hg.block k (Nat.lt_of_lt_of_le hk hb.size) (fun e => by cases e; omega)).trans (hb.block k hk)
theorem MR_run_look (h : MR w base ok (.map (some b)) xs) {a : Int} (ha : (Lit.int .i64 a).wf = true) : (Instr.lookup 73 (.map (some b)) (.int .i64 a) false).run Try.prog w = .ok (.agg #[.string (getS xs a)]) w := by
  obtain ⟨b', D, h1, h2, h3, h4, h5⟩ := h
  cases h1
  obtain ⟨x, ps, hrun, hv⟩ := h4.lookup (Maps.int_keyed und3) und73 (zero77 w) (RS_mk (s := ⟨#[]⟩) (by decide)) (keyI ha)
  obtain ⟨s, rfl, hz, _⟩ := RS_inv hv
  have e := (h5 a ha).2
  rw [(Prod.mk.inj hz).1] at e
  rw [hrun, strD_inj e]
theorem MR_run_put (h : MR w base ok (.map (some b)) xs) {a : Int} {s : ByteArray} (ha : (Lit.int .i64 a).wf = true) (hs : s.size ≤ maxLen) (hn : xs.length < maxLen) :
    ∃ w', (Instr.mapUpdate 73 (.map (some b)) (.int .i64 a) (.agg #[.string s])).run Try.prog w = .ok () w' ∧ MR w' base ok (.map (some b)) (⟨a, s, true⟩ :: xs) ∧ w.grownBy w' (some b) := by
  obtain ⟨b', D, h1, h2, h3, h4, h5⟩ := h
  cases h1
  obtain ⟨w', hrun, r1, r2⟩ := h4.update (Maps.int_keyed und3) und73 hn (keyI ha) (RS_mk hs)
  refine ⟨w', hrun, ⟨b, _, rfl, h2, h3, r1, fun k hk => ?_⟩, r2⟩
  have hI : Maps.IsMap D := h4.isMap
  by_cases e : a = k
  · subst e
    refine ⟨?_, ?_⟩
    · rw [Maps.has_put_same hI (show WideAt.IsKeyLit (.int .i64 a) from trivial)]
      show true = (if a = a then (if true = true then some s else none) else lookS xs a).isSome
      rw [if_pos rfl, if_pos rfl]; rfl
    · rw [Maps.atKey_put_same hI (show WideAt.IsKeyLit (.int .i64 a) from trivial)]
      show strD s = strD ((if a = a then (if true = true then some s else none) else lookS xs a).getD _)
      rw [if_pos rfl, if_pos rfl]; rfl
  · have ne : (Lit.int .i64 k) ≠ .int .i64 a := fun h => e (Lit.int.inj h).2.symm
    have el : lookS (⟨a, s, true⟩ :: xs) k = lookS xs k := if_neg e
    unfold getS
    rw [Maps.has_put_other ne, Maps.atKey_put_other ne, el]
    exact h5 k hk
theorem MR_run_del (h : MR w base ok (.map (some b)) xs) {a : Int} (ha : (Lit.int .i64 a).wf = true) (ty : TypeId) :
    ∃ w', (Builtin.delete_ #[73, 3] ty #[.map (some b), .int .i64 a]).run Try.prog w = .ok (.tuple #[]) w' ∧ MR w' base ok (.map (some b)) (⟨a, ⟨#[]⟩, false⟩ :: xs) ∧ w.grownBy w' (some b) := by
  obtain ⟨b', D, h1, h2, h3, h4, h5⟩ := h
  cases h1
  obtain ⟨w', hrun, r1, r2⟩ := h4.drop (Maps.int_keyed und3) und73 (keyI ha) ty
  refine ⟨w', hrun, ⟨b, _, rfl, h2, h3, r1.mono (by simp), fun k hk => ?_⟩, r2.grown⟩
  by_cases e : a = k
  · subst e
    have el : lookS (⟨a, ⟨#[]⟩, false⟩ :: xs) a = none := (if_pos rfl).trans (if_neg Bool.false_ne_true)
    unfold getS
    rw [Maps.has_del_same, Maps.atKey_del_same, el]
    exact ⟨rfl, rfl⟩
  · have ne : (Lit.int .i64 k) ≠ .int .i64 a := fun h => e (Lit.int.inj h).2.symm
    have el : lookS (⟨a, ⟨#[]⟩, false⟩ :: xs) k = lookS xs k := if_neg e
    unfold getS
    rw [Maps.has_del_other ne, Maps.atKey_del_other ne, el]
    exact h5 k hk
end
section
variable {w : World} {ops : Array Oper} {rest : List Oper} {o : Oper} {a : Act} {Q : Exit → Act → World → Prop} {Kc : Act → World → Prop} {base : Nat} {ok : Nat → Prop} {xs : List S122} {b : Nat} {k : Int}
theorem MR_lt {v : Value} (h : MR w base ok v xs) : ∀ k, v.ownBlock = some k → k < w.heap.size := fun k hk => absurd hk (MR_own h k)
theorem exec_look {ev : Operand → Value} {m x : Operand} (hop : o.op = Op.lookup 73 m x false) (hm : ev m = .map (some b)) (h : MR w base ok (.map (some b)) xs) (hx : ev x = .int .i64 k) (hk : (Lit.int .i64 k).wf = true) :
    (execOp ev o).run Try.prog w = .ok (.value (.agg #[.string (getS xs k)])) w := by
  simp [execOp, hop, hm, hx, MR_run_look h hk, Result.andThen]
theorem exec_put {ev : Operand → Value} {m x v : Operand} (hop : o.op = Op.mapUpdate 73 m x v) (hm : ev m = .map (some b)) (h : MR w base ok (.map (some b)) xs) (hx : ev x = .int .i64 k) {s : ByteArray} (hv : ev v = .agg #[.string s]) (hk : (Lit.int .i64 k).wf = true) (hs : s.size ≤ maxLen) (hn : xs.length < maxLen) :
    ∃ w', (execOp ev o).run Try.prog w = .ok .skip w' ∧ MR w' base ok (.map (some b)) (⟨k, s, true⟩ :: xs) ∧ w.grownBy w' (some b) := by
  obtain ⟨w', h1, h2, h3⟩ := MR_run_put h hk hs hn
  exact ⟨w', by simp [execOp, hop, hm, hx, hv, h1, Result.andThen], h2, h3⟩
theorem exec_del {ev : Operand → Value} {m x : Operand} (hop : o.op = Op.call { callee := Callee.builtin Builtin.delete, args := #[m, x], argTypes := #[73, 3] }) (hm : ev m = .map (some b)) (h : MR w base ok (.map (some b)) xs) (hx : ev x = .int .i64 k) (hk : (Lit.int .i64 k).wf = true) :
    ∃ w', (execOp ev o).run Try.prog w = .ok (.value (.tuple #[])) w' ∧ MR w' base ok (.map (some b)) (⟨k, ⟨#[]⟩, false⟩ :: xs) ∧ w.grownBy w' (some b) := by
  obtain ⟨w', h1, h2, h3⟩ := MR_run_del h hk o.type
  exact ⟨w', by simp [execOp, hop, resolve, invoke, builtin, hm, hx, h1, Result.andThen], h2, h3⟩
end
theorem grown_below {w w1 : World} (hg : w.grownBy w1 none) : Below w.heap.size w w1 := ⟨hg.os, hg.tape, hg.output, hg.size, fun k hk => hg.block k hk (by simp)⟩
section
variable {w w1 : World} {r b n : Nat} {D : DataW Unit} {left : Lit → Bool} {cnt : Nat}
theorem RG_move (h : w.ranges Try.prog 3 RS b r n D left cnt) (hb : w1.heap[b]? = w.heap[b]?) (hr : w1.heap[r]? = w.heap[r]?) : w1.ranges Try.prog 3 RS b r n D left cnt := by
  obtain ⟨es, clock, since, seen, c0, h1, h2, h3, h4, h5, h6⟩ := h
  exact ⟨es, clock, since, seen, c0, hb.trans h1, h2, h3, h4, hr.trans h5, h6⟩
theorem RG_below (h : w.ranges Try.prog 3 RS b r n D left cnt) (hb : Below w.heap.size w w1) : w1.ranges Try.prog 3 RS b r n D left cnt :=
  RG_move h (hb.block b h.owns.lt) (hb.block r h.lt)
theorem RG_drewN (h : w.ranges Try.prog 3 RS b r n D left cnt) (m : Nat) : (w.drewN m).ranges Try.prog 3 RS b r n D left cnt := RG_below h (pw_below_drewN (Below.refl _ _) m)
theorem RG_drew (h : w.ranges Try.prog 3 RS b r n D left cnt) : w.drew.ranges Try.prog 3 RS b r n D left cnt := RG_below h (below_drew1 (Below.refl _ _))
theorem RG_set (h : w.ranges Try.prog 3 RS b r n D left cnt) {g t : Nat} {cells : Array Value} (hb : w.heap[g]? = some (.cells cells t (0, 0))) (j : Nat) (u : Value) : (w.setCell ⟨g, j, none⟩ u).ranges Try.prog 3 RS b r n D left cnt := by
  have h0 := h
  obtain ⟨es, clock, since, seen, c0, h1, h2, h3, h4, h5, h6⟩ := h
  refine RG_move h0 (Below.heap_setCell w _ u b (fun e => ?_)) (Below.heap_setCell w _ u r (fun e => ?_))
  · have e : b = g := e
    rw [e, hb] at h1; cases h1
  · have e : r = g := e
    rw [e, hb] at h5; cases h5
theorem RG_not (h : w.ranges Try.prog 3 RS b r n D left cnt) {t : Nat} {cells : Array Value} : w.heap[r]? ≠ some (.cells cells t (0, 0)) := by
  obtain ⟨es, clock, since, seen, c0, h1, h2, h3, h4, h5, h6⟩ := h
  intro e
  rw [e] at h5; cases h5
theorem RG_row {α : Type} {d : Kd α} {e base : Nat} {u : Value} {ys : List α} {ok : Nat → Prop} (h : w.ranges Try.prog 3 RS b r n D left cnt) (hu : d.R e w base ok u ys) (hg : w.grownBy w1 (some r)) : d.R e w1 base ok u ys := by
  refine Kd.R_mono (Kd.R_grown (Kd.R_bound hu) hg (fun k hk => ?_)) (fun k hk => hk.1)
  obtain ⟨_, _, _, q, _, cells, hc⟩ := hk
  intro e
  cases e
  exact RG_not h hc
theorem RG_box {g t : Nat} {cells : Array Value} (h : w.ranges Try.prog 3 RS b r n D left cnt) (hb : w.heap[g]? = some (.cells cells t (0, 0))) (hg : w.grownBy w1 (some r)) : w1.heap[g]? = some (.cells cells t (0, 0)) :=
  (hg.block g (Array.getElem?_eq_some_iff.1 hb).1 (fun e => by cases e; exact RG_not h hb)).trans hb
theorem RG_far {w0 : World} (hr : w0.heap.size ≤ r) (hb : Below w0.heap.size w0 w) (hg : w.grownBy w1 (some r)) : Below w0.heap.size w0 w1 :=
  ⟨hg.os.trans hb.os, hg.tape.trans hb.tape, hg.output.trans hb.output, Nat.le_trans hb.size hg.size, fun k hk => (hg.block k (Nat.lt_of_lt_of_le hk hb.size) (fun e => by cases e; omega)).trans (hb.block k hk)⟩
/-- What an entry that comes holds is what the list says. -/
theorem MR_entry {xs : List S122} (hD : ∀ k : Int, (Lit.int .i64 k).wf = true → Maps.has D (.int .i64 k) = (lookS xs k).isSome ∧ D.atKey (.int .i64 k) (strD ⟨#[]⟩) = strD (getS xs k)) {k : Int} {s : ByteArray} (hk : (Lit.int .i64 k).wf = true) (hat : ∀ zd, D.atKey (.int .i64 k) zd = strD s) : lookS xs k = some s := by
  obtain ⟨h1, h2⟩ := hD k hk
  rw [Maps.has_true_of_atKey hat] at h1
  rw [hat] at h2
  have h3 := strD_inj h2
  unfold getS at h3
  cases hl : lookS xs k with
  | none => rw [hl] at h1; cases h1
  | some t => rw [hl] at h3; rw [h3]; rfl
end
def darninglaw19_mput.f (l0 : List S122) (a1 : Int) (a2_0 : ByteArray) : Option (List S122) := if (Lit.int .i64 a1).wf = true ∧ a2_0.size ≤ maxLen ∧ l0.length < maxLen then some (⟨a1, a2_0, true⟩ :: l0) else none
theorem wpList_put {w : World} {ops : Array Oper} {rest : List Oper} {o : Oper} {a : Act} {Q : Exit → Act → World → Prop} {base : Nat} {ok : Nat → Prop} {xs ys : List S122} {b : Nat} {k : Int} {s : ByteArray} (hg : o.guard = none) (m x v : Operand) (hop : o.op = Op.mapUpdate 73 m x v) (hm : a.eval m = .map (some b))
    (h : MR w base ok (.map (some b)) xs) (hx : a.eval x = .int .i64 k) (hv : a.eval v = .agg #[.string s]) (hf : darninglaw19_mput.f xs k s = some ys) (hK : ∀ w', MR w' base ok (.map (some b)) ys → w.grownBy w' (some b) → wpList Try.prog ops Q rest (a.put o.dst undef) w') : wpList Try.prog ops Q (o :: rest) a w := by
  unfold darninglaw19_mput.f at hf
  split at hf
  · next hc =>
    obtain ⟨w', h1, h2, h3⟩ := exec_put hop hm h hx hv hc.1 hc.2.1 hc.2.2
    rw [Option.some.inj hf] at h2
    refine wpList_plain hg fun K' hK' => ?_
    unfold Oper.wp
    rw [h1]
    exact hK' _ _ (hK w' h2 h3)
  · cases hf
theorem step_put {w : World} {ops : Array Oper} {o : Oper} {a : Act} {Q : Exit → Act → World → Prop} {Kc : Act → World → Prop} {base : Nat} {ok : Nat → Prop} {xs ys : List S122} {b : Nat} {k : Int} {s : ByteArray} {N : Option Tmp} (hw : Region.wanted o (yielded ops a.tmps) = true) (hN : o.dst = N) (m x v : Operand) (hop : o.op = Op.mapUpdate 73 m x v) (hm : a.eval m = .map (some b))
    (h : MR w base ok (.map (some b)) xs) (hx : a.eval x = .int .i64 k) (hv : a.eval v = .agg #[.string s]) (hf : darninglaw19_mput.f xs k s = some ys) (hK : ∀ w', MR w' base ok (.map (some b)) ys → w.grownBy w' (some b) → Kc (a.put N undef) w') : if Region.wanted o (yielded ops a.tmps) = true then Oper.wp Try.prog o a w Kc Q else Kc (a.put N undef) w := by
  subst hN
  unfold darninglaw19_mput.f at hf
  split at hf
  · next hc =>
    obtain ⟨w', h1, h2, h3⟩ := exec_put hop hm h hx hv hc.1 hc.2.1 hc.2.2
    rw [Option.some.inj hf] at h2
    rw [if_pos hw]
    unfold Oper.wp
    rw [h1]
    exact hK w' h2 h3
  · cases hf

/-! ### darninglaw19_mget: function 109, told by hand -/
def darninglaw19_mget.f (l0 : List S122) (a1 : Int) : Option ByteArray := if (Lit.int .i64 a1).wf = true then some (getS l0 a1) else none
theorem wpList_look {w : World} {ops : Array Oper} {rest : List Oper} {o : Oper} {a : Act} {Q : Exit → Act → World → Prop} {base : Nat} {ok : Nat → Prop} {xs : List S122} {b : Nat} {k : Int} {s : ByteArray} (hg : o.guard = none) (m x : Operand) (hop : o.op = Op.lookup 73 m x false) (hm : a.eval m = .map (some b))
    (h : MR w base ok (.map (some b)) xs) (hx : a.eval x = .int .i64 k) (hf : darninglaw19_mget.f xs k = some s) (hK : ∀ w', Below w.heap.size w w' → wpList Try.prog ops Q rest (a.put o.dst (.agg #[.string s])) w') : wpList Try.prog ops Q (o :: rest) a w := by
  unfold darninglaw19_mget.f at hf
  split at hf
  · next hc =>
    have h1 := exec_look hop hm h hx hc
    rw [Option.some.inj hf] at h1
    exact Kd.event_run hg h1 (hK w (Below.refl _ _))
  · cases hf
theorem step_look {w : World} {ops : Array Oper} {o : Oper} {a : Act} {Q : Exit → Act → World → Prop} {Kc : Act → World → Prop} {base : Nat} {ok : Nat → Prop} {xs : List S122} {b : Nat} {k : Int} {s : ByteArray} {N : Option Tmp} (hw : Region.wanted o (yielded ops a.tmps) = true) (hN : o.dst = N) (m x : Operand) (hop : o.op = Op.lookup 73 m x false) (hm : a.eval m = .map (some b))
    (h : MR w base ok (.map (some b)) xs) (hx : a.eval x = .int .i64 k) (hf : darninglaw19_mget.f xs k = some s) (hK : ∀ w', Below w.heap.size w w' → Kc (a.put N (.agg #[.string s])) w') : if Region.wanted o (yielded ops a.tmps) = true then Oper.wp Try.prog o a w Kc Q else Kc (a.put N undef) w := by
  subst hN
  unfold darninglaw19_mget.f at hf
  split at hf
  · next hc =>
    have h1 := exec_look hop hm h hx hc
    rw [Option.some.inj hf] at h1
    exact event_step hw h1 (hK w (Below.refl _ _))
  · cases hf

/-! ### darninglaw19_mdel: function 110, told by hand -/
def darninglaw19_mdel.f (l0 : List S122) (a1 : Int) : Option (List S122) := if (Lit.int .i64 a1).wf = true then some (⟨a1, ⟨#[]⟩, false⟩ :: l0) else none
theorem wpList_del {w : World} {ops : Array Oper} {rest : List Oper} {o : Oper} {a : Act} {Q : Exit → Act → World → Prop} {base : Nat} {ok : Nat → Prop} {xs ys : List S122} {b : Nat} {k : Int} (hg : o.guard = none) (m x : Operand) (hop : o.op = Op.call { callee := Callee.builtin Builtin.delete, args := #[m, x], argTypes := #[73, 3] }) (hm : a.eval m = .map (some b))
    (h : MR w base ok (.map (some b)) xs) (hx : a.eval x = .int .i64 k) (hf : darninglaw19_mdel.f xs k = some ys) (hK : ∀ w', MR w' base ok (.map (some b)) ys → w.grownBy w' (some b) → wpList Try.prog ops Q rest (a.put o.dst (.tuple #[])) w') : wpList Try.prog ops Q (o :: rest) a w := by
  unfold darninglaw19_mdel.f at hf
  split at hf
  · next hc =>
    obtain ⟨w', h1, h2, h3⟩ := exec_del hop hm h hx hc
    rw [Option.some.inj hf] at h2
    exact Kd.event_run hg h1 (hK w' h2 h3)
  · cases hf

/-! ### darninglaw19_mone: function 111 -/
def darninglaw19_mone.f (k : Nat) (l0 : List Int) (a1 : Int) (a2_0 : ByteArray) : Option (Bool) := (image_Read.f k l0 a1 (mn (a2_0.size : Int) 448)).bind fun bt300 => (if bt300.2 = 0 then (if 0 ≤ (mn (a2_0.size : Int) 448) then (if (mn (a2_0.size : Int) 448) ≤ (a2_0.size : Int) then (if (strOfNums bt300.1).toList = (a2_0.extract 0 ((mn (a2_0.size : Int) 448) : Int).toNat).toList then (some true) else (some false)) else (none)) else (none)) else (some false))
theorem darninglaw19_mone.mono : ∀ a0 a1 a2 k, LeO (darninglaw19_mone.f k a0 a1 a2) (darninglaw19_mone.f (k + 1) a0 a1 a2) := by
 intro a0 a1 a2 k
 unfold darninglaw19_mone.f
 repeat' first
   | (with_reducible exact image_Read.mono _ _ _ _)
   | (with_reducible exact LeO.refl _)
   | (with_reducible exact LeO.none _)
   | (with_reducible refine LeO.ite ?_ ?_)
   | (with_reducible refine LeO.bind ?_ (fun _ => ?_))
   | exact image_Read.mono _ _ _ _
   | exact LeO.none _
   | refine LeO.ite ?_ ?_
   | refine LeO.bind ?_ (fun _ => ?_)
/-! ### darninglaw19_mall: function 112, told by hand -/
def mallGo (k : Nat) (v : List Int) (l : List S122) : List S122 → Option Bool
  | [] => some true
  | x :: r => match lookS l x.f0 with
    | none => mallGo k v l r
    | some s => (darninglaw19_mone.f k v x.f0 s).bind fun b => if b = true then mallGo k v l r else some false
def darninglaw19_mall.f (k : Nat) (l0 : List Int) (l1 : List S122) : Option Bool := mallGo k l0 l1 l1
theorem mallGo.mono (v : List Int) (l : List S122) (k : Nat) : ∀ r : List S122, LeO (mallGo k v l r) (mallGo (k + 1) v l r)
  | [] => LeO.refl _
  | x :: r => by
    unfold mallGo
    cases lookS l x.f0 with
    | none => exact mallGo.mono v l k r
    | some s => exact LeO.bind (darninglaw19_mone.mono v x.f0 s k) (fun b => LeO.ite (mallGo.mono v l k r) (LeO.refl _))
theorem darninglaw19_mall.mono : ∀ a0 a1 k, LeO (darninglaw19_mall.f k a0 a1) (darninglaw19_mall.f (k + 1) a0 a1) := fun v l k => mallGo.mono v l k l
theorem mallGo_all {k : Nat} {v : List Int} {l : List S122} : ∀ r : List S122, mallGo k v l r = some true → ∀ x ∈ r, ∀ s, lookS l x.f0 = some s → darninglaw19_mone.f k v x.f0 s = some true
  | [], _, x, hx => by cases hx
  | y :: r, h, x, hx => by
    intro s hs
    unfold mallGo at h
    cases hy : lookS l y.f0 with
    | none =>
      rw [hy] at h
      rcases List.mem_cons.1 hx with e | hx
      · rw [e, hy] at hs; cases hs
      · exact mallGo_all r h x hx s hs
    | some t =>
      rw [hy] at h
      obtain ⟨b, hb, h⟩ := Option.bind_eq_some_iff.1 h
      by_cases e : b = true
      · subst e
        rw [if_pos rfl] at h
        rcases List.mem_cons.1 hx with e | hx
        · rw [e] at hs ⊢
          rw [hy] at hs
          cases hs
          exact hb
        · exact mallGo_all r h x hx s hs
      · rw [if_neg e] at h; cases h
theorem lookS_mem {l : List S122} {a : Int} {s : ByteArray} (h : lookS l a = some s) : ∃ x ∈ l, x.f0 = a := by
  induction l with
  | nil => cases h
  | cons y l ih =>
    by_cases e : y.f0 = a
    · exact ⟨y, List.mem_cons_self, e⟩
    · rw [show lookS (y :: l) a = lookS l a from if_neg e] at h
      obtain ⟨x, hx, e⟩ := ih h
      exact ⟨x, List.mem_cons_of_mem _ hx, e⟩
theorem mall_at {k : Nat} {v : List Int} {l : List S122} (h : darninglaw19_mall.f k v l = some true) {a : Int} {s : ByteArray} (hs : lookS l a = some s) : darninglaw19_mone.f k v a s = some true := by
  obtain ⟨x, hx, rfl⟩ := lookS_mem hs
  exact mallGo_all l h x hx s hs

/-! ### darninglaw19_ImageKeeps: function 14 -/
mutual
def darninglaw19_ImageKeeps.j0 : Nat → Int → List Int → List (S75) → Bool → Option (Bool)
 | 0, _, _, _, _ => none
 | k + 1, x0, x1, x2, x44 => if x44 = true then ((darninglaw19_awake.f k).bind fun t305 => (some t305)) else ((chain_First.f (wrap64 ((wrap64 (1 + (wrap64 (Int.tmod (IntKind.u64.wrap (x0)) 64)))) * 8))).bind fun t306 => (darninglaw19_ImageKeeps.l0 k (wrap64 (1 + (wrap64 (Int.tmod (IntKind.u64.wrap (x0)) 64)))) x1 t306 ([] : List (S122)) x2 (x2.length : Int) 0))
def darninglaw19_ImageKeeps.l0 : Nat → Int → List Int → List Int → List (S122) → List (S75) → Int → Int → Option (Bool)
 | 0, _, _, _, _, _, _, _ => none
 | k + 1, x0, x1, x7, x8, x55, x56, x57 => if x57 < x56 then (if 0 ≤ x57 then (if x57 < (x55.length : Int) then ((chain_Blocks.f k x7).bind fun bt311 => (if bt311.2 = true then (if (x7.length : Int) = (wrap64 (x0 * 8)) then (darninglaw19_ImageKeeps.l1 k x0 x1 x7 x8 bt311.1 ([] : List Int) x55 x56 x57 bt311.1 (bt311.1.length : Int) 0 ((rd_T75 x55 x57).f0) ((rd_T75 x55 x57).f1) ((rd_T75 x55 x57).f2) ((rd_T75 x55 x57).f3) ((rd_T75 x55 x57).f4)) else (some false)) else (some false))) else (none)) else (none)) else ((darninglaw19_awake.f k).bind fun t371 => (some t371))
def darninglaw19_ImageKeeps.l1 : Nat → Int → List Int → List Int → List (S122) → List (S35) → List Int → List (S75) → Int → Int → List (S35) → Int → Int → Int → Int → Int → Int → List Int → Option (Bool)
 | 0, _, _, _, _, _, _, _, _, _, _, _, _, _, _, _, _, _ => none
 | k + 1, x0, x1, x7, x8, x11, x13, x55, x56, x57, x75, x76, x77, x311000, x311001, x311002, x311003, x311004 => if x77 < x76 then (if 0 ≤ x77 then (if x77 < (x75.length : Int) then (if (rd_T35 x75 x77).f2 = true then ((darningref4_Off.f ((rd_T35 x75 x77).f0) ((rd_T35 x75 x77).f1) ((rd_T35 x75 x77).f2)).bind fun t317 => (if x13.length < 17592186044416 then (darninglaw19_ImageKeeps.j3 k x0 x1 x7 x8 x11 (x13 ++ [t317]) x55 x56 x57 x75 x76 x77 x311000 x311001 x311002 x311003 x311004) else (none))) else (darninglaw19_ImageKeeps.j3 k x0 x1 x7 x8 x11 x13 x55 x56 x57 x75 x76 x77 x311000 x311001 x311002 x311003 x311004)) else (none)) else (none)) else (if (x13.length : Int) > 0 then (if (IntKind.u64.wrap ((x13.length : Int))) = 0 then (none) else (if 0 ≤ (wrap64 (Int.tmod (IntKind.u64.wrap (x311002)) (IntKind.u64.wrap ((x13.length : Int))))) then (if (wrap64 (Int.tmod (IntKind.u64.wrap (x311002)) (IntKind.u64.wrap ((x13.length : Int))))) < (x13.length : Int) then (darninglaw19_ImageKeeps.j4 k x0 x1 x7 x8 x11 x13 (rd x13 (wrap64 (Int.tmod (IntKind.u64.wrap (x311002)) (IntKind.u64.wrap ((x13.length : Int)))))) x55 x56 x57 x311000 x311001 x311002 x311003 x311004) else (none)) else (none))) else (darninglaw19_ImageKeeps.j4 k x0 x1 x7 x8 x11 x13 8 x55 x56 x57 x311000 x311001 x311002 x311003 x311004))
def darninglaw19_ImageKeeps.j3 : Nat → Int → List Int → List Int → List (S122) → List (S35) → List Int → List (S75) → Int → Int → List (S35) → Int → Int → Int → Int → Int → Int → List Int → Option (Bool)
 | 0, _, _, _, _, _, _, _, _, _, _, _, _, _, _, _, _, _ => none
 | k + 1, x0, x1, x7, x8, x11, x13, x55, x56, x57, x75, x76, x77, x311000, x311001, x311002, x311003, x311004 => darninglaw19_ImageKeeps.l1 k x0 x1 x7 x8 x11 x13 x55 x56 x57 x75 x76 (wrap64 (x77 + 1)) x311000 x311001 x311002 x311003 x311004
def darninglaw19_ImageKeeps.j4 : Nat → Int → List Int → List Int → List (S122) → List (S35) → List Int → Int → List (S75) → Int → Int → Int → Int → Int → Int → List Int → Option (Bool)
 | 0, _, _, _, _, _, _, _, _, _, _, _, _, _, _, _ => none
 | k + 1, x0, x1, x7, x8, x11, x13, x16, x55, x56, x57, x311000, x311001, x311002, x311003, x311004 => if x311000 = 0 then ((image_Alloc.f k x7 x311001 x1).bind fun bt322 => ((darningref4_Need.f x311001).bind fun t327 => (if t327 > 0 then ((darningref4_MostFree.f k x11).bind fun t328 => ((darningref4_Need.f x311001).bind fun t329 => (darninglaw19_ImageKeeps.j5 k x0 x1 x7 x8 bt322.1 bt322.2.1 bt322.2.2 (decide (t328 ≥ t329)) x55 x56 x57 x311000 x311001 x311002 x311003 x311004))) else (darninglaw19_ImageKeeps.j5 k x0 x1 x7 x8 bt322.1 bt322.2.1 bt322.2.2 false x55 x56 x57 x311000 x311001 x311002 x311003 x311004)))) else (if x311000 = 1 then ((image_Free.f k x7 x16).bind fun bt346 => (if ((bt346.2 == 0) != (decide ((x13.length : Int) > 0))) = true then (some false) else ((darningref4_Apply.f k x7 bt346.1).bind fun t350 => ((darninglaw19_mdel.f x8 x16).bind fun t353 => (darninglaw19_ImageKeeps.j9 k x0 x1 t350 t353 x55 x56 x57))))) else (if x311000 = 2 then ((darninglaw19_mget.f x8 x16).bind fun t356 => (if (IntKind.u64.wrap (wrap64 ((t356.size : Int) + 2))) = 0 then (none) else ((image_Write.f k x7 (wrap64 (x16 + (wrap64 (Int.tmod (IntKind.u64.wrap (x311003)) (IntKind.u64.wrap (wrap64 ((t356.size : Int) + 2))))))) x311004).bind fun bt357 => (if (x13.length : Int) > 0 then (if (wrap64 ((wrap64 (Int.tmod (IntKind.u64.wrap (x311003)) (IntKind.u64.wrap (wrap64 ((t356.size : Int) + 2))))) + (x311004.length : Int))) ≤ (t356.size : Int) then (darninglaw19_ImageKeeps.j7 k x0 x1 x7 x8 x16 (wrap64 (Int.tmod (IntKind.u64.wrap (x311003)) (IntKind.u64.wrap (wrap64 ((t356.size : Int) + 2))))) bt357.1 bt357.2 (decide ((x311004.length : Int) ≤ 448)) x55 x56 x57 x311000 x311001 x311002 x311003 x311004) else (darninglaw19_ImageKeeps.j7 k x0 x1 x7 x8 x16 (wrap64 (Int.tmod (IntKind.u64.wrap (x311003)) (IntKind.u64.wrap (wrap64 ((t356.size : Int) + 2))))) bt357.1 bt357.2 false x55 x56 x57 x311000 x311001 x311002 x311003 x311004)) else (darninglaw19_ImageKeeps.j7 k x0 x1 x7 x8 x16 (wrap64 (Int.tmod (IntKind.u64.wrap (x311003)) (IntKind.u64.wrap (wrap64 ((t356.size : Int) + 2))))) bt357.1 bt357.2 false x55 x56 x57 x311000 x311001 x311002 x311003 x311004))))) else (darninglaw19_ImageKeeps.j9 k x0 x1 x7 x8 x55 x56 x57)))
def darninglaw19_ImageKeeps.j9 : Nat → Int → List Int → List Int → List (S122) → List (S75) → Int → Int → Option (Bool)
 | 0, _, _, _, _, _, _, _ => none
 | k + 1, x0, x1, x7, x8, x55, x56, x57 => (darninglaw19_mall.f k x7 x8).bind fun t370 => (if t370 = true then (darninglaw19_ImageKeeps.l0 k x0 x1 x7 x8 x55 x56 (wrap64 (x57 + 1))) else (some false))
def darninglaw19_ImageKeeps.j5 : Nat → Int → List Int → List Int → List (S122) → List (S30) → Int → Int → Bool → List (S75) → Int → Int → Int → Int → Int → Int → List Int → Option (Bool)
 | 0, _, _, _, _, _, _, _, _, _, _, _, _, _, _, _, _ => none
 | k + 1, x0, x1, x7, x8, x17, x18, x19, x20, x55, x56, x57, x311000, x311001, x311002, x311003, x311004 => if ((x19 == 0) != x20) = true then (some false) else (if x19 = 4 then ((darningref4_Need.f x311001).bind fun t330 => (darninglaw19_ImageKeeps.j6 k x0 x1 x7 x8 x17 x18 x19 x55 x56 x57 (t330 == 0))) else (darninglaw19_ImageKeeps.j6 k x0 x1 x7 x8 x17 x18 x19 x55 x56 x57 false))
def darninglaw19_ImageKeeps.j6 : Nat → Int → List Int → List Int → List (S122) → List (S30) → Int → Int → List (S75) → Int → Int → Bool → Option (Bool)
 | 0, _, _, _, _, _, _, _, _, _, _, _ => none
 | k + 1, x0, x1, x7, x8, x17, x18, x19, x55, x56, x57, x141 => if x141 = true then (some false) else (if x19 = 0 then ((darningref4_Apply.f k x7 x17).bind fun t331 => ((chain_Blocks.f k t331).bind fun bt334 => ((darningref4_Is.f k bt334.1 x18).bind fun t338 => (if t338 < 0 then (some false) else (if 0 ≤ t338 then (if t338 < (bt334.1.length : Int) then (if 0 ≤ (wrap64 ((wrap64 (((rd_T35 bt334.1 t338).f1) - 1)) * 8)) then (if (wrap64 ((wrap64 (((rd_T35 bt334.1 t338).f1) - 1)) * 8) : Int).toNat ≤ 281474976710656 then ((darninglaw19_mput.f x8 x18 (strOfNums (List.replicate (wrap64 ((wrap64 (((rd_T35 bt334.1 t338).f1) - 1)) * 8) : Int).toNat 0))).bind fun t343 => (darninglaw19_ImageKeeps.j9 k x0 x1 t331 t343 x55 x56 x57)) else (none)) else (none)) else (none)) else (none)))))) else (darninglaw19_ImageKeeps.j9 k x0 x1 x7 x8 x55 x56 x57))
def darninglaw19_ImageKeeps.j7 : Nat → Int → List Int → List Int → List (S122) → Int → Int → List (S30) → Int → Bool → List (S75) → Int → Int → Int → Int → Int → Int → List Int → Option (Bool)
 | 0, _, _, _, _, _, _, _, _, _, _, _, _, _, _, _, _, _ => none
 | k + 1, x0, x1, x7, x8, x16, x27, x28, x29, x30, x55, x56, x57, x311000, x311001, x311002, x311003, x311004 => if x29 = 0 then (if x30 = true then (darninglaw19_ImageKeeps.j8 k x0 x1 x7 x8 x16 x27 x28 x30 x55 x56 x57 false x311000 x311001 x311002 x311003 x311004) else (if (x311004.length : Int) > 0 then ((image_Holds.f k x7 (wrap64 (x16 + x27)) (x311004.length : Int)).bind fun t361 => (if t361 = true then (darninglaw19_ImageKeeps.j8 k x0 x1 x7 x8 x16 x27 x28 x30 x55 x56 x57 false x311000 x311001 x311002 x311003 x311004) else (some false))) else (darninglaw19_ImageKeeps.j8 k x0 x1 x7 x8 x16 x27 x28 x30 x55 x56 x57 false x311000 x311001 x311002 x311003 x311004))) else (darninglaw19_ImageKeeps.j8 k x0 x1 x7 x8 x16 x27 x28 x30 x55 x56 x57 x30 x311000 x311001 x311002 x311003 x311004)
def darninglaw19_ImageKeeps.j8 : Nat → Int → List Int → List Int → List (S122) → Int → Int → List (S30) → Bool → List (S75) → Int → Int → Bool → Int → Int → Int → Int → List Int → Option (Bool)
 | 0, _, _, _, _, _, _, _, _, _, _, _, _, _, _, _, _, _ => none
 | k + 1, x0, x1, x7, x8, x16, x27, x28, x30, x55, x56, x57, x260, x311000, x311001, x311002, x311003, x311004 => if x260 = true then (some false) else (if x30 = true then ((darningref4_Apply.f k x7 x28).bind fun t362 => ((darninglaw19_mget.f x8 x16).bind fun t365 => (if 0 ≤ x27 then (if x27 ≤ (t365.size : Int) then (if (t365.extract 0 (x27 : Int).toNat).size + (strOfNums x311004).size ≤ 9223372036854775807 then ((darninglaw19_mget.f x8 x16).bind fun t366 => (if 0 ≤ (wrap64 (x27 + (x311004.length : Int))) then (if (wrap64 (x27 + (x311004.length : Int))) ≤ (t366.size : Int) then (if ((t365.extract 0 (x27 : Int).toNat) ++ (strOfNums x311004)).size + (t366.extract ((wrap64 (x27 + (x311004.length : Int))) : Int).toNat t366.size).size ≤ 9223372036854775807 then ((darninglaw19_mput.f x8 x16 (((t365.extract 0 (x27 : Int).toNat) ++ (strOfNums x311004)) ++ (t366.extract ((wrap64 (x27 + (x311004.length : Int))) : Int).toNat t366.size))).bind fun t367 => (darninglaw19_ImageKeeps.j9 k x0 x1 t362 t367 x55 x56 x57)) else (none)) else (none)) else (none))) else (none)) else (none)) else (none)))) else (darninglaw19_ImageKeeps.j9 k x0 x1 x7 x8 x55 x56 x57))
end
def darninglaw19_ImageKeeps.f (k : Nat) (a0 : Int) (l1 : List Int) (l2 : List (S75)) : Option (Bool) := (darninglaw19_Heavy.f k l2).bind fun t304 => (if t304 > 0 then (darninglaw19_ImageKeeps.j0 k a0 l1 l2 true) else (darninglaw19_ImageKeeps.j0 k a0 l1 l2 (decide ((l1.length : Int) > 60))))
theorem darninglaw19_ImageKeeps.mono_l : ∀ k, (∀ y0 y1 y2 y3, LeO (darninglaw19_ImageKeeps.j0 k y0 y1 y2 y3) (darninglaw19_ImageKeeps.j0 (k + 1) y0 y1 y2 y3)) ∧ (∀ y0 y1 y2 y3 y4 y5 y6, LeO (darninglaw19_ImageKeeps.l0 k y0 y1 y2 y3 y4 y5 y6) (darninglaw19_ImageKeeps.l0 (k + 1) y0 y1 y2 y3 y4 y5 y6)) ∧ (∀ y0 y1 y2 y3 y4 y5 y6 y7 y8 y9 y10 y11 y12 y13 y14 y15 y16, LeO (darninglaw19_ImageKeeps.l1 k y0 y1 y2 y3 y4 y5 y6 y7 y8 y9 y10 y11 y12 y13 y14 y15 y16) (darninglaw19_ImageKeeps.l1 (k + 1) y0 y1 y2 y3 y4 y5 y6 y7 y8 y9 y10 y11 y12 y13 y14 y15 y16)) ∧ (∀ y0 y1 y2 y3 y4 y5 y6 y7 y8 y9 y10 y11 y12 y13 y14 y15 y16, LeO (darninglaw19_ImageKeeps.j3 k y0 y1 y2 y3 y4 y5 y6 y7 y8 y9 y10 y11 y12 y13 y14 y15 y16) (darninglaw19_ImageKeeps.j3 (k + 1) y0 y1 y2 y3 y4 y5 y6 y7 y8 y9 y10 y11 y12 y13 y14 y15 y16)) ∧ (∀ y0 y1 y2 y3 y4 y5 y6 y7 y8 y9 y10 y11 y12 y13 y14, LeO (darninglaw19_ImageKeeps.j4 k y0 y1 y2 y3 y4 y5 y6 y7 y8 y9 y10 y11 y12 y13 y14) (darninglaw19_ImageKeeps.j4 (k + 1) y0 y1 y2 y3 y4 y5 y6 y7 y8 y9 y10 y11 y12 y13 y14)) ∧ (∀ y0 y1 y2 y3 y4 y5 y6, LeO (darninglaw19_ImageKeeps.j9 k y0 y1 y2 y3 y4 y5 y6) (darninglaw19_ImageKeeps.j9 (k + 1) y0 y1 y2 y3 y4 y5 y6)) ∧ (∀ y0 y1 y2 y3 y4 y5 y6 y7 y8 y9 y10 y11 y12 y13 y14 y15, LeO (darninglaw19_ImageKeeps.j5 k y0 y1 y2 y3 y4 y5 y6 y7 y8 y9 y10 y11 y12 y13 y14 y15) (darninglaw19_ImageKeeps.j5 (k + 1) y0 y1 y2 y3 y4 y5 y6 y7 y8 y9 y10 y11 y12 y13 y14 y15)) ∧ (∀ y0 y1 y2 y3 y4 y5 y6 y7 y8 y9 y10, LeO (darninglaw19_ImageKeeps.j6 k y0 y1 y2 y3 y4 y5 y6 y7 y8 y9 y10) (darninglaw19_ImageKeeps.j6 (k + 1) y0 y1 y2 y3 y4 y5 y6 y7 y8 y9 y10)) ∧ (∀ y0 y1 y2 y3 y4 y5 y6 y7 y8 y9 y10 y11 y12 y13 y14 y15 y16, LeO (darninglaw19_ImageKeeps.j7 k y0 y1 y2 y3 y4 y5 y6 y7 y8 y9 y10 y11 y12 y13 y14 y15 y16) (darninglaw19_ImageKeeps.j7 (k + 1) y0 y1 y2 y3 y4 y5 y6 y7 y8 y9 y10 y11 y12 y13 y14 y15 y16)) ∧ (∀ y0 y1 y2 y3 y4 y5 y6 y7 y8 y9 y10 y11 y12 y13 y14 y15 y16, LeO (darninglaw19_ImageKeeps.j8 k y0 y1 y2 y3 y4 y5 y6 y7 y8 y9 y10 y11 y12 y13 y14 y15 y16) (darninglaw19_ImageKeeps.j8 (k + 1) y0 y1 y2 y3 y4 y5 y6 y7 y8 y9 y10 y11 y12 y13 y14 y15 y16))
 | 0 => ⟨fun _ _ _ _ r h => by simp [darninglaw19_ImageKeeps.j0] at h, fun _ _ _ _ _ _ _ r h => by simp [darninglaw19_ImageKeeps.l0] at h, fun _ _ _ _ _ _ _ _ _ _ _ _ _ _ _ _ _ r h => by simp [darninglaw19_ImageKeeps.l1] at h, fun _ _ _ _ _ _ _ _ _ _ _ _ _ _ _ _ _ r h => by simp [darninglaw19_ImageKeeps.j3] at h, fun _ _ _ _ _ _ _ _ _ _ _ _ _ _ _ r h => by simp [darninglaw19_ImageKeeps.j4] at h, fun _ _ _ _ _ _ _ r h => by simp [darninglaw19_ImageKeeps.j9] at h, fun _ _ _ _ _ _ _ _ _ _ _ _ _ _ _ _ r h => by simp [darninglaw19_ImageKeeps.j5] at h, fun _ _ _ _ _ _ _ _ _ _ _ r h => by simp [darninglaw19_ImageKeeps.j6] at h, fun _ _ _ _ _ _ _ _ _ _ _ _ _ _ _ _ _ r h => by simp [darninglaw19_ImageKeeps.j7] at h, fun _ _ _ _ _ _ _ _ _ _ _ _ _ _ _ _ _ r h => by simp [darninglaw19_ImageKeeps.j8] at h⟩
 | k + 1 => by
  obtain ⟨ih0, ih1, ih2, ih3, ih4, ih5, ih6, ih7, ih8, ih9⟩ := darninglaw19_ImageKeeps.mono_l k
  refine ⟨?_, ?_, ?_, ?_, ?_, ?_, ?_, ?_, ?_, ?_⟩
  ·
   intro y0 y1 y2 y3
   unfold darninglaw19_ImageKeeps.j0
   repeat' first
   | (with_reducible exact ih0 _ _ _ _)
   | (with_reducible exact ih1 _ _ _ _ _ _ _)
   | (with_reducible exact ih2 _ _ _ _ _ _ _ _ _ _ _ _ _ _ _ _ _)
   | (with_reducible exact ih3 _ _ _ _ _ _ _ _ _ _ _ _ _ _ _ _ _)
   | (with_reducible exact ih4 _ _ _ _ _ _ _ _ _ _ _ _ _ _ _)
   | (with_reducible exact ih5 _ _ _ _ _ _ _)
   | (with_reducible exact ih6 _ _ _ _ _ _ _ _ _ _ _ _ _ _ _ _)
   | (with_reducible exact ih7 _ _ _ _ _ _ _ _ _ _ _)
   | (with_reducible exact ih8 _ _ _ _ _ _ _ _ _ _ _ _ _ _ _ _ _)
   | (with_reducible exact ih9 _ _ _ _ _ _ _ _ _ _ _ _ _ _ _ _ _)
   | (with_reducible exact chain_Blocks.mono _ _)
   | (with_reducible exact darninglaw19_Heavy.mono _ _)
   | (with_reducible exact darninglaw19_awake.mono _)
   | (with_reducible exact darninglaw19_mall.mono _ _ _)
   | (with_reducible exact darningref4_Apply.mono _ _ _)
   | (with_reducible exact darningref4_Is.mono _ _ _)
   | (with_reducible exact darningref4_MostFree.mono _ _)
   | (with_reducible exact image_Alloc.mono _ _ _ _)
   | (with_reducible exact image_Free.mono _ _ _)
   | (with_reducible exact image_Holds.mono _ _ _ _)
   | (with_reducible exact image_Write.mono _ _ _ _)
   | (with_reducible exact LeO.refl _)
   | (with_reducible exact LeO.none _)
   | (with_reducible refine LeO.ite ?_ ?_)
   | (with_reducible refine LeO.bind ?_ (fun _ => ?_))
   | exact ih0 _ _ _ _
   | exact ih1 _ _ _ _ _ _ _
   | exact ih2 _ _ _ _ _ _ _ _ _ _ _ _ _ _ _ _ _
   | exact ih3 _ _ _ _ _ _ _ _ _ _ _ _ _ _ _ _ _
   | exact ih4 _ _ _ _ _ _ _ _ _ _ _ _ _ _ _
   | exact ih5 _ _ _ _ _ _ _
   | exact ih6 _ _ _ _ _ _ _ _ _ _ _ _ _ _ _ _
   | exact ih7 _ _ _ _ _ _ _ _ _ _ _
   | exact ih8 _ _ _ _ _ _ _ _ _ _ _ _ _ _ _ _ _
   | exact ih9 _ _ _ _ _ _ _ _ _ _ _ _ _ _ _ _ _
   | exact chain_Blocks.mono _ _
   | exact darninglaw19_Heavy.mono _ _
   | exact darninglaw19_awake.mono _
   | exact darninglaw19_mall.mono _ _ _
   | exact darningref4_Apply.mono _ _ _
   | exact darningref4_Is.mono _ _ _
   | exact darningref4_MostFree.mono _ _
   | exact image_Alloc.mono _ _ _ _
   | exact image_Free.mono _ _ _
   | exact image_Holds.mono _ _ _ _
   | exact image_Write.mono _ _ _ _
   | exact LeO.none _
   | refine LeO.ite ?_ ?_
   | refine LeO.bind ?_ (fun _ => ?_)
  ·
   intro y0 y1 y2 y3 y4 y5 y6
   unfold darninglaw19_ImageKeeps.l0
   repeat' first
   | (with_reducible exact ih0 _ _ _ _)
   | (with_reducible exact ih1 _ _ _ _ _ _ _)
   | (with_reducible exact ih2 _ _ _ _ _ _ _ _ _ _ _ _ _ _ _ _ _)
   | (with_reducible exact ih3 _ _ _ _ _ _ _ _ _ _ _ _ _ _ _ _ _)
   | (with_reducible exact ih4 _ _ _ _ _ _ _ _ _ _ _ _ _ _ _)
   | (with_reducible exact ih5 _ _ _ _ _ _ _)
   | (with_reducible exact ih6 _ _ _ _ _ _ _ _ _ _ _ _ _ _ _ _)
   | (with_reducible exact ih7 _ _ _ _ _ _ _ _ _ _ _)
   | (with_reducible exact ih8 _ _ _ _ _ _ _ _ _ _ _ _ _ _ _ _ _)
   | (with_reducible exact ih9 _ _ _ _ _ _ _ _ _ _ _ _ _ _ _ _ _)
   | (with_reducible exact chain_Blocks.mono _ _)
   | (with_reducible exact darninglaw19_Heavy.mono _ _)
   | (with_reducible exact darninglaw19_awake.mono _)
   | (with_reducible exact darninglaw19_mall.mono _ _ _)
   | (with_reducible exact darningref4_Apply.mono _ _ _)
   | (with_reducible exact darningref4_Is.mono _ _ _)
   | (with_reducible exact darningref4_MostFree.mono _ _)
   | (with_reducible exact image_Alloc.mono _ _ _ _)
   | (with_reducible exact image_Free.mono _ _ _)
   | (with_reducible exact image_Holds.mono _ _ _ _)
   | (with_reducible exact image_Write.mono _ _ _ _)
   | (with_reducible exact LeO.refl _)
   | (with_reducible exact LeO.none _)
   | (with_reducible refine LeO.ite ?_ ?_)
   | (with_reducible refine LeO.bind ?_ (fun _ => ?_))
   | exact ih0 _ _ _ _
   | exact ih1 _ _ _ _ _ _ _
   | exact ih2 _ _ _ _ _ _ _ _ _ _ _ _ _ _ _ _ _
   | exact ih3 _ _ _ _ _ _ _ _ _ _ _ _ _ _ _ _ _
   | exact ih4 _ _ _ _ _ _ _ _ _ _ _ _ _ _ _
   | exact ih5 _ _ _ _ _ _ _
   | exact ih6 _ _ _ _ _ _ _ _ _ _ _ _ _ _ _ _
   | exact ih7 _ _ _ _ _ _ _ _ _ _ _
   | exact ih8 _ _ _ _ _ _ _ _ _ _ _ _ _ _ _ _ _
   | exact ih9 _ _ _ _ _ _ _ _ _ _ _ _ _ _ _ _ _
   | exact chain_Blocks.mono _ _
   | exact darninglaw19_Heavy.mono _ _
   | exact darninglaw19_awake.mono _
   | exact darninglaw19_mall.mono _ _ _
   | exact darningref4_Apply.mono _ _ _
   | exact darningref4_Is.mono _ _ _
   | exact darningref4_MostFree.mono _ _
   | exact image_Alloc.mono _ _ _ _
   | exact image_Free.mono _ _ _
   | exact image_Holds.mono _ _ _ _
   | exact image_Write.mono _ _ _ _
   | exact LeO.none _
   | refine LeO.ite ?_ ?_
   | refine LeO.bind ?_ (fun _ => ?_)
  ·
   intro y0 y1 y2 y3 y4 y5 y6 y7 y8 y9 y10 y11 y12 y13 y14 y15 y16
   unfold darninglaw19_ImageKeeps.l1
   repeat' first
   | (with_reducible exact ih0 _ _ _ _)
   | (with_reducible exact ih1 _ _ _ _ _ _ _)
   | (with_reducible exact ih2 _ _ _ _ _ _ _ _ _ _ _ _ _ _ _ _ _)
   | (with_reducible exact ih3 _ _ _ _ _ _ _ _ _ _ _ _ _ _ _ _ _)
   | (with_reducible exact ih4 _ _ _ _ _ _ _ _ _ _ _ _ _ _ _)
   | (with_reducible exact ih5 _ _ _ _ _ _ _)
   | (with_reducible exact ih6 _ _ _ _ _ _ _ _ _ _ _ _ _ _ _ _)
   | (with_reducible exact ih7 _ _ _ _ _ _ _ _ _ _ _)
   | (with_reducible exact ih8 _ _ _ _ _ _ _ _ _ _ _ _ _ _ _ _ _)
   | (with_reducible exact ih9 _ _ _ _ _ _ _ _ _ _ _ _ _ _ _ _ _)
   | (with_reducible exact chain_Blocks.mono _ _)
   | (with_reducible exact darninglaw19_Heavy.mono _ _)
   | (with_reducible exact darninglaw19_awake.mono _)
   | (with_reducible exact darninglaw19_mall.mono _ _ _)
   | (with_reducible exact darningref4_Apply.mono _ _ _)
   | (with_reducible exact darningref4_Is.mono _ _ _)
   | (with_reducible exact darningref4_MostFree.mono _ _)
   | (with_reducible exact image_Alloc.mono _ _ _ _)
   | (with_reducible exact image_Free.mono _ _ _)
   | (with_reducible exact image_Holds.mono _ _ _ _)
   | (with_reducible exact image_Write.mono _ _ _ _)
   | (with_reducible exact LeO.refl _)
   | (with_reducible exact LeO.none _)
   | (with_reducible refine LeO.ite ?_ ?_)
   | (with_reducible refine LeO.bind ?_ (fun _ => ?_))
   | exact ih0 _ _ _ _
   | exact ih1 _ _ _ _ _ _ _
   | exact ih2 _ _ _ _ _ _ _ _ _ _ _ _ _ _ _ _ _
   | exact ih3 _ _ _ _ _ _ _ _ _ _ _ _ _ _ _ _ _
   | exact ih4 _ _ _ _ _ _ _ _ _ _ _ _ _ _ _
   | exact ih5 _ _ _ _ _ _ _
   | exact ih6 _ _ _ _ _ _ _ _ _ _ _ _ _ _ _ _
   | exact ih7 _ _ _ _ _ _ _ _ _ _ _
   | exact ih8 _ _ _ _ _ _ _ _ _ _ _ _ _ _ _ _ _
   | exact ih9 _ _ _ _ _ _ _ _ _ _ _ _ _ _ _ _ _
   | exact chain_Blocks.mono _ _
   | exact darninglaw19_Heavy.mono _ _
   | exact darninglaw19_awake.mono _
   | exact darninglaw19_mall.mono _ _ _
   | exact darningref4_Apply.mono _ _ _
   | exact darningref4_Is.mono _ _ _
   | exact darningref4_MostFree.mono _ _
   | exact image_Alloc.mono _ _ _ _
   | exact image_Free.mono _ _ _
   | exact image_Holds.mono _ _ _ _
   | exact image_Write.mono _ _ _ _
   | exact LeO.none _
   | refine LeO.ite ?_ ?_
   | refine LeO.bind ?_ (fun _ => ?_)
  ·
   intro y0 y1 y2 y3 y4 y5 y6 y7 y8 y9 y10 y11 y12 y13 y14 y15 y16
   unfold darninglaw19_ImageKeeps.j3
   repeat' first
   | (with_reducible exact ih0 _ _ _ _)
   | (with_reducible exact ih1 _ _ _ _ _ _ _)
   | (with_reducible exact ih2 _ _ _ _ _ _ _ _ _ _ _ _ _ _ _ _ _)
   | (with_reducible exact ih3 _ _ _ _ _ _ _ _ _ _ _ _ _ _ _ _ _)
   | (with_reducible exact ih4 _ _ _ _ _ _ _ _ _ _ _ _ _ _ _)
   | (with_reducible exact ih5 _ _ _ _ _ _ _)
   | (with_reducible exact ih6 _ _ _ _ _ _ _ _ _ _ _ _ _ _ _ _)
   | (with_reducible exact ih7 _ _ _ _ _ _ _ _ _ _ _)
   | (with_reducible exact ih8 _ _ _ _ _ _ _ _ _ _ _ _ _ _ _ _ _)
   | (with_reducible exact ih9 _ _ _ _ _ _ _ _ _ _ _ _ _ _ _ _ _)
   | (with_reducible exact chain_Blocks.mono _ _)
   | (with_reducible exact darninglaw19_Heavy.mono _ _)
   | (with_reducible exact darninglaw19_awake.mono _)
   | (with_reducible exact darninglaw19_mall.mono _ _ _)
   | (with_reducible exact darningref4_Apply.mono _ _ _)
   | (with_reducible exact darningref4_Is.mono _ _ _)
   | (with_reducible exact darningref4_MostFree.mono _ _)
   | (with_reducible exact image_Alloc.mono _ _ _ _)
   | (with_reducible exact image_Free.mono _ _ _)
   | (with_reducible exact image_Holds.mono _ _ _ _)
   | (with_reducible exact image_Write.mono _ _ _ _)
   | (with_reducible exact LeO.refl _)
   | (with_reducible exact LeO.none _)
   | (with_reducible refine LeO.ite ?_ ?_)
   | (with_reducible refine LeO.bind ?_ (fun _ => ?_))
   | exact ih0 _ _ _ _
   | exact ih1 _ _ _ _ _ _ _
   | exact ih2 _ _ _ _ _ _ _ _ _ _ _ _ _ _ _ _ _
   | exact ih3 _ _ _ _ _ _ _ _ _ _ _ _ _ _ _ _ _
   | exact ih4 _ _ _ _ _ _ _ _ _ _ _ _ _ _ _
   | exact ih5 _ _ _ _ _ _ _
   | exact ih6 _ _ _ _ _ _ _ _ _ _ _ _ _ _ _ _
   | exact ih7 _ _ _ _ _ _ _ _ _ _ _
   | exact ih8 _ _ _ _ _ _ _ _ _ _ _ _ _ _ _ _ _
   | exact ih9 _ _ _ _ _ _ _ _ _ _ _ _ _ _ _ _ _
   | exact chain_Blocks.mono _ _
   | exact darninglaw19_Heavy.mono _ _
   | exact darninglaw19_awake.mono _
   | exact darninglaw19_mall.mono _ _ _
   | exact darningref4_Apply.mono _ _ _
   | exact darningref4_Is.mono _ _ _
   | exact darningref4_MostFree.mono _ _
   | exact image_Alloc.mono _ _ _ _
   | exact image_Free.mono _ _ _
   | exact image_Holds.mono _ _ _ _
   | exact image_Write.mono _ _ _ _
   | exact LeO.none _
   | refine LeO.ite ?_ ?_
   | refine LeO.bind ?_ (fun _ => ?_)
  ·
   intro y0 y1 y2 y3 y4 y5 y6 y7 y8 y9 y10 y11 y12 y13 y14
   unfold darninglaw19_ImageKeeps.j4
   repeat' first
   | (with_reducible exact ih0 _ _ _ _)
   | (with_reducible exact ih1 _ _ _ _ _ _ _)
   | (with_reducible exact ih2 _ _ _ _ _ _ _ _ _ _ _ _ _ _ _ _ _)
   | (with_reducible exact ih3 _ _ _ _ _ _ _ _ _ _ _ _ _ _ _ _ _)
   | (with_reducible exact ih4 _ _ _ _ _ _ _ _ _ _ _ _ _ _ _)
   | (with_reducible exact ih5 _ _ _ _ _ _ _)
   | (with_reducible exact ih6 _ _ _ _ _ _ _ _ _ _ _ _ _ _ _ _)
   | (with_reducible exact ih7 _ _ _ _ _ _ _ _ _ _ _)
   | (with_reducible exact ih8 _ _ _ _ _ _ _ _ _ _ _ _ _ _ _ _ _)
   | (with_reducible exact ih9 _ _ _ _ _ _ _ _ _ _ _ _ _ _ _ _ _)
   | (with_reducible exact chain_Blocks.mono _ _)
   | (with_reducible exact darninglaw19_Heavy.mono _ _)
   | (with_reducible exact darninglaw19_awake.mono _)
   | (with_reducible exact darninglaw19_mall.mono _ _ _)
   | (with_reducible exact darningref4_Apply.mono _ _ _)
   | (with_reducible exact darningref4_Is.mono _ _ _)
   | (with_reducible exact darningref4_MostFree.mono _ _)
   | (with_reducible exact image_Alloc.mono _ _ _ _)
   | (with_reducible exact image_Free.mono _ _ _)
   | (with_reducible exact image_Holds.mono _ _ _ _)
   | (with_reducible exact image_Write.mono _ _ _ _)
   | (with_reducible exact LeO.refl _)
   | (with_reducible exact LeO.none _)
   | (with_reducible refine LeO.ite ?_ ?_)
   | (with_reducible refine LeO.bind ?_ (fun _ => ?_))
   | exact ih0 _ _ _ _
   | exact ih1 _ _ _ _ _ _ _
   | exact ih2 _ _ _ _ _ _ _ _ _ _ _ _ _ _ _ _ _
   | exact ih3 _ _ _ _ _ _ _ _ _ _ _ _ _ _ _ _ _
   | exact ih4 _ _ _ _ _ _ _ _ _ _ _ _ _ _ _
   | exact ih5 _ _ _ _ _ _ _
   | exact ih6 _ _ _ _ _ _ _ _ _ _ _ _ _ _ _ _
   | exact ih7 _ _ _ _ _ _ _ _ _ _ _
   | exact ih8 _ _ _ _ _ _ _ _ _ _ _ _ _ _ _ _ _
   | exact ih9 _ _ _ _ _ _ _ _ _ _ _ _ _ _ _ _ _
   | exact chain_Blocks.mono _ _
   | exact darninglaw19_Heavy.mono _ _
   | exact darninglaw19_awake.mono _
   | exact darninglaw19_mall.mono _ _ _
   | exact darningref4_Apply.mono _ _ _
   | exact darningref4_Is.mono _ _ _
   | exact darningref4_MostFree.mono _ _
   | exact image_Alloc.mono _ _ _ _
   | exact image_Free.mono _ _ _
   | exact image_Holds.mono _ _ _ _
   | exact image_Write.mono _ _ _ _
   | exact LeO.none _
   | refine LeO.ite ?_ ?_
   | refine LeO.bind ?_ (fun _ => ?_)
  ·
   intro y0 y1 y2 y3 y4 y5 y6
   unfold darninglaw19_ImageKeeps.j9
   repeat' first
   | (with_reducible exact ih0 _ _ _ _)
   | (with_reducible exact ih1 _ _ _ _ _ _ _)
   | (with_reducible exact ih2 _ _ _ _ _ _ _ _ _ _ _ _ _ _ _ _ _)
   | (with_reducible exact ih3 _ _ _ _ _ _ _ _ _ _ _ _ _ _ _ _ _)
   | (with_reducible exact ih4 _ _ _ _ _ _ _ _ _ _ _ _ _ _ _)
   | (with_reducible exact ih5 _ _ _ _ _ _ _)
   | (with_reducible exact ih6 _ _ _ _ _ _ _ _ _ _ _ _ _ _ _ _)
   | (with_reducible exact ih7 _ _ _ _ _ _ _ _ _ _ _)
   | (with_reducible exact ih8 _ _ _ _ _ _ _ _ _ _ _ _ _ _ _ _ _)
   | (with_reducible exact ih9 _ _ _ _ _ _ _ _ _ _ _ _ _ _ _ _ _)
   | (with_reducible exact chain_Blocks.mono _ _)
   | (with_reducible exact darninglaw19_Heavy.mono _ _)
   | (with_reducible exact darninglaw19_awake.mono _)
   | (with_reducible exact darninglaw19_mall.mono _ _ _)
   | (with_reducible exact darningref4_Apply.mono _ _ _)
   | (with_reducible exact darningref4_Is.mono _ _ _)
   | (with_reducible exact darningref4_MostFree.mono _ _)
   | (with_reducible exact image_Alloc.mono _ _ _ _)
   | (with_reducible exact image_Free.mono _ _ _)
   | (with_reducible exact image_Holds.mono _ _ _ _)
   | (with_reducible exact image_Write.mono _ _ _ _)
   | (with_reducible exact LeO.refl _)
   | (with_reducible exact LeO.none _)
   | (with_reducible refine LeO.ite ?_ ?_)
   | (with_reducible refine LeO.bind ?_ (fun _ => ?_))
   | exact ih0 _ _ _ _
   | exact ih1 _ _ _ _ _ _ _
   | exact ih2 _ _ _ _ _ _ _ _ _ _ _ _ _ _ _ _ _
   | exact ih3 _ _ _ _ _ _ _ _ _ _ _ _ _ _ _ _ _
   | exact ih4 _ _ _ _ _ _ _ _ _ _ _ _ _ _ _
   | exact ih5 _ _ _ _ _ _ _
   | exact ih6 _ _ _ _ _ _ _ _ _ _ _ _ _ _ _ _
   | exact ih7 _ _ _ _ _ _ _ _ _ _ _
   | exact ih8 _ _ _ _ _ _ _ _ _ _ _ _ _ _ _ _ _
   | exact ih9 _ _ _ _ _ _ _ _ _ _ _ _ _ _ _ _ _
   | exact chain_Blocks.mono _ _
   | exact darninglaw19_Heavy.mono _ _
   | exact darninglaw19_awake.mono _
   | exact darninglaw19_mall.mono _ _ _
   | exact darningref4_Apply.mono _ _ _
   | exact darningref4_Is.mono _ _ _
   | exact darningref4_MostFree.mono _ _
   | exact image_Alloc.mono _ _ _ _
   | exact image_Free.mono _ _ _
   | exact image_Holds.mono _ _ _ _
   | exact image_Write.mono _ _ _ _
   | exact LeO.none _
   | refine LeO.ite ?_ ?_
   | refine LeO.bind ?_ (fun _ => ?_)
  ·
   intro y0 y1 y2 y3 y4 y5 y6 y7 y8 y9 y10 y11 y12 y13 y14 y15
   unfold darninglaw19_ImageKeeps.j5
   repeat' first
   | (with_reducible exact ih0 _ _ _ _)
   | (with_reducible exact ih1 _ _ _ _ _ _ _)
   | (with_reducible exact ih2 _ _ _ _ _ _ _ _ _ _ _ _ _ _ _ _ _)
   | (with_reducible exact ih3 _ _ _ _ _ _ _ _ _ _ _ _ _ _ _ _ _)
   | (with_reducible exact ih4 _ _ _ _ _ _ _ _ _ _ _ _ _ _ _)
   | (with_reducible exact ih5 _ _ _ _ _ _ _)
   | (with_reducible exact ih6 _ _ _ _ _ _ _ _ _ _ _ _ _ _ _ _)
   | (with_reducible exact ih7 _ _ _ _ _ _ _ _ _ _ _)
   | (with_reducible exact ih8 _ _ _ _ _ _ _ _ _ _ _ _ _ _ _ _ _)
   | (with_reducible exact ih9 _ _ _ _ _ _ _ _ _ _ _ _ _ _ _ _ _)
   | (with_reducible exact chain_Blocks.mono _ _)
   | (with_reducible exact darninglaw19_Heavy.mono _ _)
   | (with_reducible exact darninglaw19_awake.mono _)
   | (with_reducible exact darninglaw19_mall.mono _ _ _)
   | (with_reducible exact darningref4_Apply.mono _ _ _)
   | (with_reducible exact darningref4_Is.mono _ _ _)
   | (with_reducible exact darningref4_MostFree.mono _ _)
   | (with_reducible exact image_Alloc.mono _ _ _ _)
   | (with_reducible exact image_Free.mono _ _ _)
   | (with_reducible exact image_Holds.mono _ _ _ _)
   | (with_reducible exact image_Write.mono _ _ _ _)
   | (with_reducible exact LeO.refl _)
   | (with_reducible exact LeO.none _)
   | (with_reducible refine LeO.ite ?_ ?_)
   | (with_reducible refine LeO.bind ?_ (fun _ => ?_))
   | exact ih0 _ _ _ _
   | exact ih1 _ _ _ _ _ _ _
   | exact ih2 _ _ _ _ _ _ _ _ _ _ _ _ _ _ _ _ _
   | exact ih3 _ _ _ _ _ _ _ _ _ _ _ _ _ _ _ _ _
   | exact ih4 _ _ _ _ _ _ _ _ _ _ _ _ _ _ _
   | exact ih5 _ _ _ _ _ _ _
   | exact ih6 _ _ _ _ _ _ _ _ _ _ _ _ _ _ _ _
   | exact ih7 _ _ _ _ _ _ _ _ _ _ _
   | exact ih8 _ _ _ _ _ _ _ _ _ _ _ _ _ _ _ _ _
   | exact ih9 _ _ _ _ _ _ _ _ _ _ _ _ _ _ _ _ _
   | exact chain_Blocks.mono _ _
   | exact darninglaw19_Heavy.mono _ _
   | exact darninglaw19_awake.mono _
   | exact darninglaw19_mall.mono _ _ _
   | exact darningref4_Apply.mono _ _ _
   | exact darningref4_Is.mono _ _ _
   | exact darningref4_MostFree.mono _ _
   | exact image_Alloc.mono _ _ _ _
   | exact image_Free.mono _ _ _
   | exact image_Holds.mono _ _ _ _
   | exact image_Write.mono _ _ _ _
   | exact LeO.none _
   | refine LeO.ite ?_ ?_
   | refine LeO.bind ?_ (fun _ => ?_)
  ·
   intro y0 y1 y2 y3 y4 y5 y6 y7 y8 y9 y10
   unfold darninglaw19_ImageKeeps.j6
   repeat' first
   | (with_reducible exact ih0 _ _ _ _)
   | (with_reducible exact ih1 _ _ _ _ _ _ _)
   | (with_reducible exact ih2 _ _ _ _ _ _ _ _ _ _ _ _ _ _ _ _ _)
   | (with_reducible exact ih3 _ _ _ _ _ _ _ _ _ _ _ _ _ _ _ _ _)
   | (with_reducible exact ih4 _ _ _ _ _ _ _ _ _ _ _ _ _ _ _)
   | (with_reducible exact ih5 _ _ _ _ _ _ _)
   | (with_reducible exact ih6 _ _ _ _ _ _ _ _ _ _ _ _ _ _ _ _)
   | (with_reducible exact ih7 _ _ _ _ _ _ _ _ _ _ _)
   | (with_reducible exact ih8 _ _ _ _ _ _ _ _ _ _ _ _ _ _ _ _ _)
   | (with_reducible exact ih9 _ _ _ _ _ _ _ _ _ _ _ _ _ _ _ _ _)
   | (with_reducible exact chain_Blocks.mono _ _)
   | (with_reducible exact darninglaw19_Heavy.mono _ _)
   | (with_reducible exact darninglaw19_awake.mono _)
   | (with_reducible exact darninglaw19_mall.mono _ _ _)
   | (with_reducible exact darningref4_Apply.mono _ _ _)
   | (with_reducible exact darningref4_Is.mono _ _ _)
   | (with_reducible exact darningref4_MostFree.mono _ _)
   | (with_reducible exact image_Alloc.mono _ _ _ _)
   | (with_reducible exact image_Free.mono _ _ _)
   | (with_reducible exact image_Holds.mono _ _ _ _)
   | (with_reducible exact image_Write.mono _ _ _ _)
   | (with_reducible exact LeO.refl _)
   | (with_reducible exact LeO.none _)
   | (with_reducible refine LeO.ite ?_ ?_)
   | (with_reducible refine LeO.bind ?_ (fun _ => ?_))
   | exact ih0 _ _ _ _
   | exact ih1 _ _ _ _ _ _ _
   | exact ih2 _ _ _ _ _ _ _ _ _ _ _ _ _ _ _ _ _
   | exact ih3 _ _ _ _ _ _ _ _ _ _ _ _ _ _ _ _ _
   | exact ih4 _ _ _ _ _ _ _ _ _ _ _ _ _ _ _
   | exact ih5 _ _ _ _ _ _ _
   | exact ih6 _ _ _ _ _ _ _ _ _ _ _ _ _ _ _ _
   | exact ih7 _ _ _ _ _ _ _ _ _ _ _
   | exact ih8 _ _ _ _ _ _ _ _ _ _ _ _ _ _ _ _ _
   | exact ih9 _ _ _ _ _ _ _ _ _ _ _ _ _ _ _ _ _
   | exact chain_Blocks.mono _ _
   | exact darninglaw19_Heavy.mono _ _
   | exact darninglaw19_awake.mono _
   | exact darninglaw19_mall.mono _ _ _
   | exact darningref4_Apply.mono _ _ _
   | exact darningref4_Is.mono _ _ _
   | exact darningref4_MostFree.mono _ _
   | exact image_Alloc.mono _ _ _ _
   | exact image_Free.mono _ _ _
   | exact image_Holds.mono _ _ _ _
   | exact image_Write.mono _ _ _ _
   | exact LeO.none _
   | refine LeO.ite ?_ ?_
   | refine LeO.bind ?_ (fun _ => ?_)
  ·
   intro y0 y1 y2 y3 y4 y5 y6 y7 y8 y9 y10 y11 y12 y13 y14 y15 y16
   unfold darninglaw19_ImageKeeps.j7
   repeat' first
   | (with_reducible exact ih0 _ _ _ _)
   | (with_reducible exact ih1 _ _ _ _ _ _ _)
   | (with_reducible exact ih2 _ _ _ _ _ _ _ _ _ _ _ _ _ _ _ _ _)
   | (with_reducible exact ih3 _ _ _ _ _ _ _ _ _ _ _ _ _ _ _ _ _)
   | (with_reducible exact ih4 _ _ _ _ _ _ _ _ _ _ _ _ _ _ _)
   | (with_reducible exact ih5 _ _ _ _ _ _ _)
   | (with_reducible exact ih6 _ _ _ _ _ _ _ _ _ _ _ _ _ _ _ _)
   | (with_reducible exact ih7 _ _ _ _ _ _ _ _ _ _ _)
   | (with_reducible exact ih8 _ _ _ _ _ _ _ _ _ _ _ _ _ _ _ _ _)
   | (with_reducible exact ih9 _ _ _ _ _ _ _ _ _ _ _ _ _ _ _ _ _)
   | (with_reducible exact chain_Blocks.mono _ _)
   | (with_reducible exact darninglaw19_Heavy.mono _ _)
   | (with_reducible exact darninglaw19_awake.mono _)
   | (with_reducible exact darninglaw19_mall.mono _ _ _)
   | (with_reducible exact darningref4_Apply.mono _ _ _)
   | (with_reducible exact darningref4_Is.mono _ _ _)
   | (with_reducible exact darningref4_MostFree.mono _ _)
   | (with_reducible exact image_Alloc.mono _ _ _ _)
   | (with_reducible exact image_Free.mono _ _ _)
   | (with_reducible exact image_Holds.mono _ _ _ _)
   | (with_reducible exact image_Write.mono _ _ _ _)
   | (with_reducible exact LeO.refl _)
   | (with_reducible exact LeO.none _)
   | (with_reducible refine LeO.ite ?_ ?_)
   | (with_reducible refine LeO.bind ?_ (fun _ => ?_))
   | exact ih0 _ _ _ _
   | exact ih1 _ _ _ _ _ _ _
   | exact ih2 _ _ _ _ _ _ _ _ _ _ _ _ _ _ _ _ _
   | exact ih3 _ _ _ _ _ _ _ _ _ _ _ _ _ _ _ _ _
   | exact ih4 _ _ _ _ _ _ _ _ _ _ _ _ _ _ _
   | exact ih5 _ _ _ _ _ _ _
   | exact ih6 _ _ _ _ _ _ _ _ _ _ _ _ _ _ _ _
   | exact ih7 _ _ _ _ _ _ _ _ _ _ _
   | exact ih8 _ _ _ _ _ _ _ _ _ _ _ _ _ _ _ _ _
   | exact ih9 _ _ _ _ _ _ _ _ _ _ _ _ _ _ _ _ _
   | exact chain_Blocks.mono _ _
   | exact darninglaw19_Heavy.mono _ _
   | exact darninglaw19_awake.mono _
   | exact darninglaw19_mall.mono _ _ _
   | exact darningref4_Apply.mono _ _ _
   | exact darningref4_Is.mono _ _ _
   | exact darningref4_MostFree.mono _ _
   | exact image_Alloc.mono _ _ _ _
   | exact image_Free.mono _ _ _
   | exact image_Holds.mono _ _ _ _
   | exact image_Write.mono _ _ _ _
   | exact LeO.none _
   | refine LeO.ite ?_ ?_
   | refine LeO.bind ?_ (fun _ => ?_)
  ·
   intro y0 y1 y2 y3 y4 y5 y6 y7 y8 y9 y10 y11 y12 y13 y14 y15 y16
   unfold darninglaw19_ImageKeeps.j8
   repeat' first
   | (with_reducible exact ih0 _ _ _ _)
   | (with_reducible exact ih1 _ _ _ _ _ _ _)
   | (with_reducible exact ih2 _ _ _ _ _ _ _ _ _ _ _ _ _ _ _ _ _)
   | (with_reducible exact ih3 _ _ _ _ _ _ _ _ _ _ _ _ _ _ _ _ _)
   | (with_reducible exact ih4 _ _ _ _ _ _ _ _ _ _ _ _ _ _ _)
   | (with_reducible exact ih5 _ _ _ _ _ _ _)
   | (with_reducible exact ih6 _ _ _ _ _ _ _ _ _ _ _ _ _ _ _ _)
   | (with_reducible exact ih7 _ _ _ _ _ _ _ _ _ _ _)
   | (with_reducible exact ih8 _ _ _ _ _ _ _ _ _ _ _ _ _ _ _ _ _)
   | (with_reducible exact ih9 _ _ _ _ _ _ _ _ _ _ _ _ _ _ _ _ _)
   | (with_reducible exact chain_Blocks.mono _ _)
   | (with_reducible exact darninglaw19_Heavy.mono _ _)
   | (with_reducible exact darninglaw19_awake.mono _)
   | (with_reducible exact darninglaw19_mall.mono _ _ _)
   | (with_reducible exact darningref4_Apply.mono _ _ _)
   | (with_reducible exact darningref4_Is.mono _ _ _)
   | (with_reducible exact darningref4_MostFree.mono _ _)
   | (with_reducible exact image_Alloc.mono _ _ _ _)
   | (with_reducible exact image_Free.mono _ _ _)
   | (with_reducible exact image_Holds.mono _ _ _ _)
   | (with_reducible exact image_Write.mono _ _ _ _)
   | (with_reducible exact LeO.refl _)
   | (with_reducible exact LeO.none _)
   | (with_reducible refine LeO.ite ?_ ?_)
   | (with_reducible refine LeO.bind ?_ (fun _ => ?_))
   | exact ih0 _ _ _ _
   | exact ih1 _ _ _ _ _ _ _
   | exact ih2 _ _ _ _ _ _ _ _ _ _ _ _ _ _ _ _ _
   | exact ih3 _ _ _ _ _ _ _ _ _ _ _ _ _ _ _ _ _
   | exact ih4 _ _ _ _ _ _ _ _ _ _ _ _ _ _ _
   | exact ih5 _ _ _ _ _ _ _
   | exact ih6 _ _ _ _ _ _ _ _ _ _ _ _ _ _ _ _
   | exact ih7 _ _ _ _ _ _ _ _ _ _ _
   | exact ih8 _ _ _ _ _ _ _ _ _ _ _ _ _ _ _ _ _
   | exact ih9 _ _ _ _ _ _ _ _ _ _ _ _ _ _ _ _ _
   | exact chain_Blocks.mono _ _
   | exact darninglaw19_Heavy.mono _ _
   | exact darninglaw19_awake.mono _
   | exact darninglaw19_mall.mono _ _ _
   | exact darningref4_Apply.mono _ _ _
   | exact darningref4_Is.mono _ _ _
   | exact darningref4_MostFree.mono _ _
   | exact image_Alloc.mono _ _ _ _
   | exact image_Free.mono _ _ _
   | exact image_Holds.mono _ _ _ _
   | exact image_Write.mono _ _ _ _
   | exact LeO.none _
   | refine LeO.ite ?_ ?_
   | refine LeO.bind ?_ (fun _ => ?_)
theorem darninglaw19_ImageKeeps.mono : ∀ a0 a1 a2 k, LeO (darninglaw19_ImageKeeps.f k a0 a1 a2) (darninglaw19_ImageKeeps.f (k + 1) a0 a1 a2) := by
 intro a0 a1 a2 k
 obtain ⟨ih0, ih1, ih2, ih3, ih4, ih5, ih6, ih7, ih8, ih9⟩ := darninglaw19_ImageKeeps.mono_l k
 unfold darninglaw19_ImageKeeps.f
 repeat' first
   | (with_reducible exact ih0 _ _ _ _)
   | (with_reducible exact ih1 _ _ _ _ _ _ _)
   | (with_reducible exact ih2 _ _ _ _ _ _ _ _ _ _ _ _ _ _ _ _ _)
   | (with_reducible exact ih3 _ _ _ _ _ _ _ _ _ _ _ _ _ _ _ _ _)
   | (with_reducible exact ih4 _ _ _ _ _ _ _ _ _ _ _ _ _ _ _)
   | (with_reducible exact ih5 _ _ _ _ _ _ _)
   | (with_reducible exact ih6 _ _ _ _ _ _ _ _ _ _ _ _ _ _ _ _)
   | (with_reducible exact ih7 _ _ _ _ _ _ _ _ _ _ _)
   | (with_reducible exact ih8 _ _ _ _ _ _ _ _ _ _ _ _ _ _ _ _ _)
   | (with_reducible exact ih9 _ _ _ _ _ _ _ _ _ _ _ _ _ _ _ _ _)
   | (with_reducible exact chain_Blocks.mono _ _)
   | (with_reducible exact darninglaw19_Heavy.mono _ _)
   | (with_reducible exact darninglaw19_awake.mono _)
   | (with_reducible exact darninglaw19_mall.mono _ _ _)
   | (with_reducible exact darningref4_Apply.mono _ _ _)
   | (with_reducible exact darningref4_Is.mono _ _ _)
   | (with_reducible exact darningref4_MostFree.mono _ _)
   | (with_reducible exact image_Alloc.mono _ _ _ _)
   | (with_reducible exact image_Free.mono _ _ _)
   | (with_reducible exact image_Holds.mono _ _ _ _)
   | (with_reducible exact image_Write.mono _ _ _ _)
   | (with_reducible exact LeO.refl _)
   | (with_reducible exact LeO.none _)
   | (with_reducible refine LeO.ite ?_ ?_)
   | (with_reducible refine LeO.bind ?_ (fun _ => ?_))
   | exact ih0 _ _ _ _
   | exact ih1 _ _ _ _ _ _ _
   | exact ih2 _ _ _ _ _ _ _ _ _ _ _ _ _ _ _ _ _
   | exact ih3 _ _ _ _ _ _ _ _ _ _ _ _ _ _ _ _ _
   | exact ih4 _ _ _ _ _ _ _ _ _ _ _ _ _ _ _
   | exact ih5 _ _ _ _ _ _ _
   | exact ih6 _ _ _ _ _ _ _ _ _ _ _ _ _ _ _ _
   | exact ih7 _ _ _ _ _ _ _ _ _ _ _
   | exact ih8 _ _ _ _ _ _ _ _ _ _ _ _ _ _ _ _ _
   | exact ih9 _ _ _ _ _ _ _ _ _ _ _ _ _ _ _ _ _
   | exact chain_Blocks.mono _ _
   | exact darninglaw19_Heavy.mono _ _
   | exact darninglaw19_awake.mono _
   | exact darninglaw19_mall.mono _ _ _
   | exact darningref4_Apply.mono _ _ _
   | exact darningref4_Is.mono _ _ _
   | exact darningref4_MostFree.mono _ _
   | exact image_Alloc.mono _ _ _ _
   | exact image_Free.mono _ _ _
   | exact image_Holds.mono _ _ _ _
   | exact image_Write.mono _ _ _ _
   | exact LeO.none _
   | refine LeO.ite ?_ ?_
   | refine LeO.bind ?_ (fun _ => ?_)
def darninglaw19_ImageKeeps.T25 : Bool × List (List Nat × List Nat) := (true, [([], []), ([0], [0]), ([1], [1]), ([2], [2]), ([3, 2], [3]), ([4], [4]), ([5, 4, 4], [4, 5]), ([4], [4]), ([7, 4], [4, 7]), ([8, 6, 4], [4, 8]), ([6, 9, 4], [4, 6, 9]), ([4, 10], [4, 10]), ([11, 9, 0, 1, 2, 3, 4, 5, 6, 7, 8, 9, 10, 11], [11])])
def darninglaw19_ImageKeeps.B25 : List Nat := [0, 1, 3, 7, 15, 31, 63, 31, 159, 511, 1023, 2047, 4095]
theorem darninglaw19_ImageKeeps.tab25 : rtab .any (opsOf Try.f14 25) = darninglaw19_ImageKeeps.T25 := by kernel_rfl
theorem darninglaw19_ImageKeeps.bits25 : waitsOk darninglaw19_ImageKeeps.T25.2 darninglaw19_ImageKeeps.B25 = true := by kernel_rfl
def darninglaw19_ImageKeeps.T50 : Bool × List (List Nat × List Nat) := (true, [([], []), ([], []), ([], []), ([], []), ([2, 3], [2, 3]), ([4], [4]), ([], []), ([5, 6], [5, 6]), ([], []), ([8], [8]), ([9], [9]), ([7, 10], [7, 10]), ([], []), ([], []), ([12, 13], [12, 13]), ([14], [14]), ([], []), ([], []), ([17], [17]), ([18], [18]), ([16, 19], [16, 19]), ([15, 20], [15, 20]), ([11, 21], [11, 21]), ([22], [22]), ([0, 1, 23, 0, 1, 2, 3, 4, 5, 6, 7, 8, 9, 10, 11, 12, 13, 14, 15, 16, 17, 18, 19, 20, 21, 22, 23], [0, 1, 23])])
def darninglaw19_ImageKeeps.B50 : List Nat := [0, 0, 0, 0, 12, 28, 0, 124, 0, 256, 768, 2044, 0, 0, 12288, 28672, 0, 0, 131072, 393216, 983040, 2093056, 4194300, 8388604, 16777215]
theorem darninglaw19_ImageKeeps.tab50 : rtab .any (opsOf Try.f14 50) = darninglaw19_ImageKeeps.T50 := by kernel_rfl
theorem darninglaw19_ImageKeeps.bits50 : waitsOk darninglaw19_ImageKeeps.T50.2 darninglaw19_ImageKeeps.B50 = true := by kernel_rfl
end Go.Proofs.Ytglekonhdjploaa.XImageKeeps
