/- What package guard's functions come to: the stack's push and pop, a step, a try (a call whose panic is caught by a deferred recover), Run, Index, Div: whatever the row, the steps, the numbers. No condition but those stated in each theorem. -/
import Derived.Test.YtjmlbkbjmeeplabProg
import Derived.Test.YtjmlbkbjmeeplabWWords
import Derived.Test.YtjmlbkbjmeeplabWLast
import Derived.WalkKit
import Derived.WalkSmall
import Derived.WalkSpells
import Derived.WalkLawsBesides
import Derived.Defers
import Derived.Recover
import Derived.Laws.Panics
import Derived.RegionDies
import Derived.Lib.Hide
import Derived.Deep.QuietTactic
import Derived.BigQuiet
import Derived.StillTailTactics
namespace Go.Proofs.Ytjmlbkbjmeeplab.Guard
open Go.RowKit Go.Proofs.YtjmlbkbjmeeplabW.PrintWords
set_option linter.unusedVariables false

/-- The stack: its variable at block bs, its row of the call's own. -/
def Stk (base bs : Nat) (w : World) (v : Value) (s : List Int) : Prop :=
  w.heap[bs]? = some (.cells #[v] 61 (0, 0)) ∧ w.ownsRow base 3 1 v s.length (nums .i64 s)
/-- What a step of the stack's leaves as it was. -/
def Kp (bs : Nat) (w : World) (v : Value) (w' : World) (v' : Value) : Prop :=
  KeepBut w w' bs v.ownBlock ∧ (v'.ownBlock = v.ownBlock ∨ ∃ b, v'.ownBlock = some b ∧ w.heap.size ≤ b)

theorem pop_some (base bs : Nat) (v : Value) (s : List Int) (x : Int) (w w0 : World) (hs : Stk base bs w v (s ++ [x])) (hl : s.length ≤ 1000) (hb : base ≤ bs) (hB : Below base w0 w) :
    Calls Try.prog 46 #[.pointer (some ⟨bs, 0, none⟩)] w fun e w' => e = .returned (.int .i64 x) ∧ ∃ v', Stk base bs w' v' s ∧ Kp bs w v w' v' ∧ Below base w0 w' := by
  obtain ⟨h1, h2⟩ := hs
  obtain ⟨hx, ⟨h2, h3⟩ | ⟨g, cap, cur, rfl, hg, hh, hn, hcap, hsz, htake⟩⟩ := id h2
  · simp at h3
  have hne : bs ≠ g := blk_ne h1 hh (by decide)
  have hlen : (s ++ [x]).length = s.length + 1 := by simp
  rw [hlen] at h1 h2 hn htake
  clear hlen hx
  have hc : w.cell? ⟨bs, 0, none⟩ = some (.slice (some ⟨g, 0, none⟩) (s.length + 1) cap) := by rw [blk_cell h1]; rfl
  have hf : w.frozen? ⟨bs, 0, none⟩ = false := blk_frozen h1 0
  have hgx : w.cell? ⟨g, s.length, none⟩ = some (.int .i64 x) := by
    rw [blk_cell hh]
    have : (cur.toList.take ((s.length + 1) * 1))[s.length]? = (nums .i64 (s ++ [x]))[s.length]? := by rw [htake]
    rw [List.getElem?_take_of_lt (by omega)] at this
    rw [Array.getElem?_toList] at this
    rw [this]; simp [nums]
  go_enter Try.func46, Try.ntmps46
  go_wp2
  go_quiet (fail)
  go_wp2
  obtain ⟨w1, hw1⟩ : ∃ w1, w.drewN nq = w1 := ⟨_, rfl⟩
  have hc1 : w1.cell? ⟨bs, 0, none⟩ = some (.slice (some ⟨g, 0, none⟩) (s.length + 1) cap) := by rw [← hw1]; exact hc
  have hf1 : w1.frozen? ⟨bs, 0, none⟩ = false := by rw [← hw1]; exact hf
  rw [hw1]
  have HW := Lib.hid hw1
  clear hw1 hc hf hgx
  have hwr : IntKind.i64.wrap (s.length : Int) = s.length := IntWalk.i64_in _ (by omega)
  have hle : (0 : Int) ≤ s.length := by omega
  have hcp : (s.length : Int) ≤ cap := by omega
  go_still_tail 11, (by kernel_rfl)
  clear hwr
  go_wp2
  go_ret
  refine ⟨rfl, .slice (some ⟨g, 0, none⟩) s.length cap, ⟨?_, ?_⟩, ⟨?_, .inl rfl⟩, ?_⟩
  · rw [← HW.out]; exact blk_set h1 0 _
  · have h3 := ownsRow_pop (n := s.length) (size := 1) (xs := nums .i64 s) (last := [.int .i64 x]) (by simp [nums]) (by simpa [nums] using h2)
    rw [← HW.out]
    exact own_setCell (w := w) h3 (by simpa [Value.ownBlock] using hne) _
  · rw [← HW.out]
    exact (KeepBut.refl w bs _).set_ 0 _
  · rw [← HW.out]
    exact below_drew1 ((pw_below_drewN hB nq).setCell (by exact hb) _)

/-- What Go's own panic is. -/
def Panics (e : Ending) : Prop := ∃ u pv, e = .panicked [{ v := .iface u pv, recovered := false }]
theorem run_bounds {α : Type} {P : Program} {w : World} (k : IntKind) (x y : Int) (code : BoundsCode) :
    ∃ u pv n, (boundsPanic k x y code : Sem α).run P w = .halt (.panic (.iface u pv)) (w.drewN n) := by
  unfold boundsPanic
  split
  · simp [runtimePanic, goPanic, go_sem]
    exact ⟨1, rfl⟩
  · simp [runtimePanic, goPanic, go_sem]
    exact ⟨0, rfl⟩
theorem pop_none (base bs : Nat) (v : Value) (w w0 : World) (hs : Stk base bs w v []) (hb : base ≤ bs) (hB : Below base w0 w) :
    Calls Try.prog 46 #[.pointer (some ⟨bs, 0, none⟩)] w fun e w' => Panics e ∧ Kp bs w v w' v ∧ Below base w0 w' := by
  obtain ⟨h1, h2⟩ := hs
  obtain ⟨A, c, rfl⟩ := own_slice h2
  have hc : w.cell? ⟨bs, 0, none⟩ = some (.slice A 0 c) := by rw [blk_cell h1]; rfl
  have hx : ∀ w : World, ∃ u pv n, (Instr.indexAt 61 (.slice A 0 c) (.int .i64 (-1))).run Try.prog w = .halt (.panic (.iface u pv)) (w.drewN n) := by
    intro w
    cases A with
    | some a =>
      rw [run_indexAt_slice (h := Try.underlying61), if_neg (by omega)]
      exact run_bounds _ _ _ _
    | none =>
      have e : (Instr.indexAt 61 (.slice none 0 c) (.int .i64 (-1))).run Try.prog w = (boundsPanic .i64 (-1) 0 .index).run Try.prog w := by
        simp [Instr.indexAt, run_underlying Try.underlying61, asIntOf]
      rw [e]
      exact run_bounds _ _ _ _
  go_enter Try.func46, Try.ntmps46
  go_wp2
  obtain ⟨u, pv, n, hx⟩ := hx w.drew
  have hwr : IntKind.i64.wrap (-1) = -1 := by decide
  go_region_dies
  all_goals exact ⟨rfl, ⟨_, _, rfl⟩, ⟨keep_drewN (KeepBut.refl w bs _) _, .inl rfl⟩, pw_below_drewN hB _⟩
theorem push_full (base bs : Nat) (v : Value) (s : List Int) (x : Int) (w w0 : World) (hs : Stk base bs w v s) (hl : s.length = 1000) (hB : Below base w0 w) :
    Calls Try.prog 45 #[.pointer (some ⟨bs, 0, none⟩), .int .i64 x] w fun e w' => Panics e ∧ Kp bs w v w' v ∧ Below base w0 w' := by
  obtain ⟨h1, h2⟩ := hs
  obtain ⟨A, c, rfl⟩ := own_slice h2
  have hc : w.cell? ⟨bs, 0, none⟩ = some (.slice A s.length c) := by rw [blk_cell h1]; rfl
  rw [hl] at hc
  go_enter Try.func45, Try.ntmps45
  go_wp2
  exact ⟨rfl, ⟨_, _, rfl⟩, ⟨KeepBut.refl w bs _, .inl rfl⟩, hB⟩

theorem push_some (base bs : Nat) (v : Value) (s : List Int) (x : Int) (w w0 : World) (hs : Stk base bs w v s) (hl : s.length < 1000) (hb : base ≤ bs) (hB : Below base w0 w) :
    Calls Try.prog 45 #[.pointer (some ⟨bs, 0, none⟩), .int .i64 x] w fun e w' => e = .returned (.tuple #[]) ∧ ∃ v', Stk base bs w' v' (s ++ [x]) ∧ Kp bs w v w' v' ∧ Below base w0 w' := by
  obtain ⟨h1, h2⟩ := hs
  obtain ⟨A, c, rfl⟩ := own_slice h2
  have hbs := blk_lt h1
  have hc : w.cell? ⟨bs, 0, none⟩ = some (.slice A s.length c) := by rw [blk_cell h1]; rfl
  have hf : w.frozen? ⟨bs, 0, none⟩ = false := blk_frozen h1 0
  have hne : ((s.length : Int) == 1000) = false := by simp; omega
  go_enter Try.func45, Try.ntmps45
  have h1' := Lib.hid h1
  clear h1
  go_wp2_with (at_builtin; refine print_append_num (w0 := w0) (W := w) base rfl (.tmp 13) (.tmp 15) 61 3 .i64 8 rfl Try.underlying61 (by kernel_rfl) (by decide) (.slice A s.length c) s x rfl rfl h2 hB (by omega) (by omega) ?_; intro v1 w1 ho hB1 hg hat; obtain ⟨A1, c1, rfl⟩ := own_slice ho; rw [show (s ++ [x]).length = s.length + 1 from by simp] at ho hat; have k1 : w1.heap[bs]? = some (.cells #[.slice A s.length c] 61 (0, 0)) := blk_grown h1'.out hg (own_ne h2 h1'.out (by decide)); have hcc : w1.cell? ⟨bs, 0, none⟩ = some (.slice A s.length c) := (by rw [blk_cell k1]; rfl); have hff : w1.frozen? ⟨bs, 0, none⟩ = false := blk_frozen k1 0; have k2 := Lib.hid k1; clear k1)
  go_end0
  refine ⟨rfl, .slice A1 (s.length + 1) c1, ⟨blk_set k2.out 0 _, ?_⟩, ⟨?_, hat⟩, hB1.setCell hb _⟩
  · rw [show (s ++ [x]).length = s.length + 1 from by simp]
    exact own_setCell (w := w1) ho (p := ⟨bs, 0, none⟩) (own_ne ho k2.out (by decide)) _
  · exact (KeepBut.of_grown hg bs).set_ 0 _
theorem Stk.alloc {base bs : Nat} {w : World} {v : Value} {s : List Int} (h : Stk base bs w v s) (o : Obj) : Stk base bs (w.alloc o) v s :=
  ⟨blk_grown h.1 (World.grownBy_alloc w o none) (by simp), own_alloc h.2 o⟩
theorem Kp.refl (bs : Nat) (w : World) (v : Value) : Kp bs w v w v := ⟨KeepBut.refl w bs _, .inl rfl⟩
theorem Kp.trans {bs : Nat} {w w1 w2 : World} {v v1 v2 : Value} (h : Kp bs w v w1 v1) (k : Kp bs w1 v1 w2 v2) : Kp bs w v w2 v2 := by
  obtain ⟨h1, h2⟩ := h
  obtain ⟨k1, k2⟩ := k
  refine ⟨h1.trans k1 h2, ?_⟩
  rcases k2 with k2 | ⟨b, k2, hb⟩
  · rw [k2]; exact h2
  · exact .inr ⟨b, k2, Nat.le_trans h1.1 hb⟩
theorem Kp.alloc (bs : Nat) (w : World) (v : Value) (o : Obj) : Kp bs w v (w.alloc o) v := ⟨KeepBut.of_grown (World.grownBy_alloc w o _) bs, .inl rfl⟩

def popS (s : List Int) : Option (List Int × Int) := match s.getLast? with
  | some x => some (s.dropLast, x)
  | none => none
theorem popS_nil : popS [] = none := rfl
theorem popS_snoc (s : List Int) (x : Int) : popS (s ++ [x]) = some (s, x) := by simp [popS]
def pushS (s : List Int) (x : Int) : Option (List Int) := if s.length = 1000 then none else some (s ++ [x])
def stepS (row s : List Int) (k n : Int) : Option (List Int) :=
  if k = 1 then pushS s n
  else if k = 2 then (popS s).bind fun p => (popS p.1).bind fun q => pushS q.1 (wrap64 (q.2 + p.2))
  else if k = 3 then (popS s).bind fun p => (popS p.1).bind fun q => if p.2 = 0 then none else pushS q.1 (wrap64 (q.2.tdiv p.2))
  else if k = 4 then (popS s).bind fun p => if 0 ≤ p.2 ∧ p.2 < (row.length : Int) then pushS p.1 (rd row p.2) else none
  else if k = 5 then (popS s).map fun p => p.1
  else none
/-- What a step comes to. -/
def Stepped (row : List Int) (k n : Int) (base bs : Nat) (w0 w : World) (v : Value) (s : List Int) (e : Ending) (w' : World) : Prop :=
  (∃ s', stepS row s k n = some s' ∧ e = .returned (.tuple #[]) ∧ ∃ v', Stk base bs w' v' s' ∧ Kp bs w v w' v' ∧ Below base w0 w') ∨
  (stepS row s k n = none ∧ Panics e ∧ ∃ v', Kp bs w v w' v' ∧ Below base w0 w')
theorem nil_or_snoc (s : List Int) : s = [] ∨ ∃ t x, s = t ++ [x] := by
  rcases List.eq_nil_or_concat s with h | ⟨t, x, h⟩
  · exact .inl h
  · exact .inr ⟨t, x, by simpa using h⟩

section
variable (row : List Int) (n : Int) (base bs : Nat) (w0 w : World) (v : Value) (s : List Int) (A : Option Addr) (c : Nat)
theorem step_push (hs : Stk base bs w v s) (hl : s.length ≤ 1000) (hb : base ≤ bs) (hB : Below base w0 w) (hbw : base ≤ w.heap.size) :
    Calls Try.prog 40 #[.pointer (some ⟨bs, 0, none⟩), .slice A row.length c, .agg #[.int .i64 1, .int .i64 n]] w (Stepped row 1 n base bs w0 w v s) := by
  have HS := Lib.hid (hs.alloc (.cells #[.int .i64 1, .int .i64 n] 50))
  have HB : Below base w0 (w.alloc (.cells #[.int .i64 1, .int .i64 n] 50)) := hB.alloc hbw _
  by_cases h : s.length = 1000
  · go_enter Try.func40, Try.ntmps40
    go_wp2_with (go_at_call 45; refine (push_full base bs v s n _ w0 HS.out h HB).mono ?_; rintro e w1 ⟨⟨u, pv, rfl⟩, hk, hB1⟩)
    exact ⟨rfl, .inr ⟨by simp [stepS, pushS, h], ⟨u, pv, rfl⟩, v, (Kp.alloc bs w v _).trans hk, hB1⟩⟩
  · go_enter Try.func40, Try.ntmps40
    go_wp2_with (go_at_call 45; refine (push_some base bs v s n _ w0 HS.out (by omega) hb HB).mono ?_; rintro e w1 ⟨rfl, v1, hs1, hk, hB1⟩)
    go_end0
    exact .inl ⟨s ++ [n], by simp [stepS, pushS, h], rfl, v1, hs1, (Kp.alloc bs w v _).trans hk, hB1⟩

theorem step_add (hs : Stk base bs w v s) (hl : s.length ≤ 1000) (hb : base ≤ bs) (hB : Below base w0 w) (hbw : base ≤ w.heap.size) :
    Calls Try.prog 40 #[.pointer (some ⟨bs, 0, none⟩), .slice A row.length c, .agg #[.int .i64 2, .int .i64 n]] w (Stepped row 2 n base bs w0 w v s) := by
  have HS := Lib.hid (hs.alloc (.cells #[.int .i64 2, .int .i64 n] 50))
  have HB : Below base w0 (w.alloc (.cells #[.int .i64 2, .int .i64 n] 50)) := hB.alloc hbw _
  rcases nil_or_snoc s with rfl | ⟨t, b, rfl⟩
  · go_enter Try.func40, Try.ntmps40
    go_wp2_with (go_at_call 46; refine (pop_none base bs v _ w0 HS.out hb HB).mono ?_; rintro e w1 ⟨⟨u, pv, rfl⟩, hk, hB1⟩)
    exact ⟨rfl, .inr ⟨by simp [stepS, popS_nil], ⟨u, pv, rfl⟩, v, (Kp.alloc bs w v _).trans hk, hB1⟩⟩
  rw [List.length_append, List.length_singleton] at hl
  rcases nil_or_snoc t with rfl | ⟨r, a, rfl⟩
  · go_enter Try.func40, Try.ntmps40
    go_wp2_with (go_at_call 46; refine (pop_some base bs v [] b _ w0 HS.out (by simp) hb HB).mono ?_; rintro e w1 ⟨rfl, v1, hs1, hk1, hB1⟩)
    go_wp2_with (go_at_call 46; refine (pop_none base bs v1 _ w0 hs1 hb hB1).mono ?_; rintro e w2 ⟨⟨u, pv, rfl⟩, hk2, hB2⟩)
    exact ⟨rfl, .inr ⟨by simp [stepS, popS], ⟨u, pv, rfl⟩, v1, ((Kp.alloc bs w v _).trans hk1).trans hk2, hB2⟩⟩
  · rw [List.length_append, List.length_singleton] at hl
    go_enter Try.func40, Try.ntmps40
    go_wp2_with (go_at_call 46; refine (pop_some base bs v (r ++ [a]) b _ w0 HS.out (by simp; omega) hb HB).mono ?_; rintro e w1 ⟨rfl, v1, hs1, hk1, hB1⟩)
    go_wp2_with (go_at_call 46; refine (pop_some base bs v1 r a _ w0 hs1 (by omega) hb hB1).mono ?_; rintro e w2 ⟨rfl, v2, hs2, hk2, hB2⟩)
    go_wp2_with (go_at_call 45; refine (push_some base bs v2 r _ _ w0 hs2 (by omega) hb hB2).mono ?_; rintro e w3 ⟨rfl, v3, hs3, hk3, hB3⟩)
    go_end0
    refine .inl ⟨r ++ [wrap64 (a + b)], ?_, rfl, v3, hs3, (((Kp.alloc bs w v _).trans hk1).trans hk2).trans hk3, hB3⟩
    simp only [stepS, popS_snoc]
    simp [popS_snoc, pushS]
    omega
theorem step_div (hs : Stk base bs w v s) (hl : s.length ≤ 1000) (hb : base ≤ bs) (hB : Below base w0 w) (hbw : base ≤ w.heap.size) :
    Calls Try.prog 40 #[.pointer (some ⟨bs, 0, none⟩), .slice A row.length c, .agg #[.int .i64 3, .int .i64 n]] w (Stepped row 3 n base bs w0 w v s) := by
  have HS := Lib.hid (hs.alloc (.cells #[.int .i64 3, .int .i64 n] 50))
  have HB : Below base w0 (w.alloc (.cells #[.int .i64 3, .int .i64 n] 50)) := hB.alloc hbw _
  rcases nil_or_snoc s with rfl | ⟨t, b, rfl⟩
  · go_enter Try.func40, Try.ntmps40
    go_wp2_with (go_at_call 46; refine (pop_none base bs v _ w0 HS.out hb HB).mono ?_; rintro e w1 ⟨⟨u, pv, rfl⟩, hk, hB1⟩)
    exact ⟨rfl, .inr ⟨by simp [stepS, popS_nil], ⟨u, pv, rfl⟩, v, (Kp.alloc bs w v _).trans hk, hB1⟩⟩
  rw [List.length_append, List.length_singleton] at hl
  rcases nil_or_snoc t with rfl | ⟨r, a, rfl⟩
  · go_enter Try.func40, Try.ntmps40
    go_wp2_with (go_at_call 46; refine (pop_some base bs v [] b _ w0 HS.out (by simp) hb HB).mono ?_; rintro e w1 ⟨rfl, v1, hs1, hk1, hB1⟩)
    go_wp2_with (go_at_call 46; refine (pop_none base bs v1 _ w0 hs1 hb hB1).mono ?_; rintro e w2 ⟨⟨u, pv, rfl⟩, hk2, hB2⟩)
    exact ⟨rfl, .inr ⟨by simp [stepS, popS], ⟨u, pv, rfl⟩, v1, ((Kp.alloc bs w v _).trans hk1).trans hk2, hB2⟩⟩
  · rw [List.length_append, List.length_singleton] at hl
    by_cases hb0 : b = 0
    · subst hb0
      have hz : stepS row (r ++ [a] ++ [0]) 3 n = none := by simp only [stepS, popS_snoc]; simp [popS_snoc]
      have hz := Lib.hid hz
      go_enter Try.func40, Try.ntmps40
      go_wp2_with (go_at_call 46; refine (pop_some base bs v (r ++ [a]) 0 _ w0 HS.out (by simp; omega) hb HB).mono ?_; rintro e w1 ⟨rfl, v1, hs1, hk1, hB1⟩)
      go_wp2_with (go_at_call 46; refine (pop_some base bs v1 r a _ w0 hs1 (by omega) hb hB1).mono ?_; rintro e w2 ⟨rfl, v2, hs2, hk2, hB2⟩)
      exact ⟨rfl, .inr ⟨by first | exact hz.out | simpa using hz.out, ⟨_, _, rfl⟩, v2, (((Kp.alloc bs w v _).trans hk1).trans hk2), hB2⟩⟩
    · go_enter Try.func40, Try.ntmps40
      go_wp2_with (go_at_call 46; refine (pop_some base bs v (r ++ [a]) b _ w0 HS.out (by simp; omega) hb HB).mono ?_; rintro e w1 ⟨rfl, v1, hs1, hk1, hB1⟩)
      go_wp2_with (go_at_call 46; refine (pop_some base bs v1 r a _ w0 hs1 (by omega) hb hB1).mono ?_; rintro e w2 ⟨rfl, v2, hs2, hk2, hB2⟩)
      go_wp2_with (go_at_call 45; refine (push_some base bs v2 r _ _ w0 hs2 (by omega) hb hB2).mono ?_; rintro e w3 ⟨rfl, v3, hs3, hk3, hB3⟩)
      go_end0
      refine .inl ⟨r ++ [wrap64 (a.tdiv b)], ?_, rfl, v3, hs3, (((Kp.alloc bs w v _).trans hk1).trans hk2).trans hk3, hB3⟩
      simp only [stepS, popS_snoc]
      simp [popS_snoc, pushS, hb0]
      omega
theorem step_drop (hs : Stk base bs w v s) (hl : s.length ≤ 1000) (hb : base ≤ bs) (hB : Below base w0 w) (hbw : base ≤ w.heap.size) :
    Calls Try.prog 40 #[.pointer (some ⟨bs, 0, none⟩), .slice A row.length c, .agg #[.int .i64 5, .int .i64 n]] w (Stepped row 5 n base bs w0 w v s) := by
  have HS := Lib.hid (hs.alloc (.cells #[.int .i64 5, .int .i64 n] 50))
  have HB : Below base w0 (w.alloc (.cells #[.int .i64 5, .int .i64 n] 50)) := hB.alloc hbw _
  rcases nil_or_snoc s with rfl | ⟨t, b, rfl⟩
  · go_enter Try.func40, Try.ntmps40
    go_wp2_with (go_at_call 46; refine (pop_none base bs v _ w0 HS.out hb HB).mono ?_; rintro e w1 ⟨⟨u, pv, rfl⟩, hk, hB1⟩)
    exact ⟨rfl, .inr ⟨by simp [stepS, popS_nil], ⟨u, pv, rfl⟩, v, (Kp.alloc bs w v _).trans hk, hB1⟩⟩
  rw [List.length_append, List.length_singleton] at hl
  go_enter Try.func40, Try.ntmps40
  go_wp2_with (go_at_call 46; refine (pop_some base bs v t b _ w0 HS.out (by omega) hb HB).mono ?_; rintro e w1 ⟨rfl, v1, hs1, hk1, hB1⟩)
  go_end0
  exact .inl ⟨t, by simp only [stepS, popS_snoc]; simp, rfl, v1, hs1, (Kp.alloc bs w v _).trans hk1, hB1⟩
theorem step_none (k : Int) (h1 : (k == 1) = false) (h2 : (k == 2) = false) (h3 : (k == 3) = false) (h4 : (k == 4) = false) (h5 : (k == 5) = false) (hB : Below base w0 w) (hbw : base ≤ w.heap.size) :
    Calls Try.prog 40 #[.pointer (some ⟨bs, 0, none⟩), .slice A row.length c, .agg #[.int .i64 k, .int .i64 n]] w (Stepped row k n base bs w0 w v s) := by
  have HB : Below base w0 (w.alloc (.cells #[.int .i64 k, .int .i64 n] 50)) := hB.alloc hbw _
  go_enter Try.func40, Try.ntmps40
  go_wp2
  refine ⟨rfl, .inr ⟨?_, ⟨_, _, rfl⟩, v, Kp.alloc bs w v _, HB⟩⟩
  simp only [beq_eq_false_iff_ne, ne_eq] at h1 h2 h3 h4 h5
  simp [stepS, h1, h2, h3, h4, h5]
end
theorem reads_int {w : World} {A : Option Addr} {n : Nat} {xs : List Int} (h : Kd.C (Kd.int .i64) w A n xs) : ReadsInt w .i64 A n xs := Kd.reads_of_C (d := (0 : Int)) h
theorem index_out {w : World} {A : Option Addr} {n c : Nat} (hA : A = none → n = 0) (i : Int) (ho : ¬ (0 ≤ i ∧ i < (n : Int))) :
    ∃ u pv m, (Instr.indexAt 32 (.slice A n c) (.int .i64 i)).run Try.prog w = .halt (.panic (.iface u pv)) (w.drewN m) := by
  cases A with
  | some a =>
    rw [run_indexAt_slice (h := Try.underlying32), if_neg (by omega)]
    exact run_bounds _ _ _ _
  | none =>
    obtain rfl := hA rfl
    have e : (Instr.indexAt 32 (.slice none 0 c) (.int .i64 i)).run Try.prog w = (boundsPanic .i64 i 0 .index).run Try.prog w := by
      simp [Instr.indexAt, run_underlying Try.underlying32, asIntOf]
    rw [e]
    exact run_bounds _ _ _ _
section
variable (row : List Int) (n : Int) (base bs : Nat) (w0 w : World) (v : Value) (s : List Int) (A : Option Addr) (c : Nat)
theorem step_index (hs : Stk base bs w v s) (hl : s.length ≤ 1000) (hb : base ≤ bs) (hB : Below base w0 w) (hbw : base ≤ w.heap.size) (hbase : Hid (base = w0.heap.size)) (hr : Hid (Kd.C (Kd.int .i64) w0 A row.length row)) :
    Calls Try.prog 40 #[.pointer (some ⟨bs, 0, none⟩), .slice A row.length c, .agg #[.int .i64 4, .int .i64 n]] w (Stepped row 4 n base bs w0 w v s) := by
  have HS := Lib.hid (hs.alloc (.cells #[.int .i64 4, .int .i64 n] 50))
  have HB : Below base w0 (w.alloc (.cells #[.int .i64 4, .int .i64 n] 50)) := hB.alloc hbw _
  rcases nil_or_snoc s with rfl | ⟨t, i, rfl⟩
  · go_enter Try.func40, Try.ntmps40
    go_wp2_with (go_at_call 46; refine (pop_none base bs v _ w0 HS.out hb HB).mono ?_; rintro e w1 ⟨⟨u, pv, rfl⟩, hk, hB1⟩)
    exact ⟨rfl, .inr ⟨by simp [stepS, popS_nil], ⟨u, pv, rfl⟩, v, (Kp.alloc bs w v _).trans hk, hB1⟩⟩
  rw [List.length_append, List.length_singleton] at hl
  by_cases hi : 0 ≤ i ∧ i < (row.length : Int)
  · have hz : Hid (stepS row (t ++ [i]) 4 n = some (t ++ [rd row i])) := Lib.hid (by
      simp only [stepS, popS_snoc]; simp [pushS, hi]; omega)
    go_enter Try.func40, Try.ntmps40
    go_wp2_with (go_at_call 46; refine (pop_some base bs v t i _ w0 HS.out (by omega) hb HB).mono ?_; rintro e w1 ⟨rfl, v1, hs1, hk1, hB1⟩; obtain ⟨ad, rfl, hcell⟩ := (reads_int (Kd.C_below hr.out (hbase.out ▸ hB1))).at_ i hi.1 hi.2)
    go_wp2_with (go_at_call 45; refine (push_some base bs v1 t _ _ w0 hs1 (by omega) hb hB1).mono ?_; rintro e w2 ⟨rfl, v2, hs2, hk2, hB2⟩)
    go_end0
    exact .inl ⟨_, hz.out, rfl, v2, hs2, ((Kp.alloc bs w v _).trans hk1).trans hk2, hB2⟩
  · have hz : Hid (stepS row (t ++ [i]) 4 n = none) := Lib.hid (by simp only [stepS, popS_snoc]; simp [hi])
    have hA : A = none → row.length = 0 := fun h => by
      rcases Nat.eq_zero_or_pos row.length with h0 | h0
      · exact h0
      · obtain ⟨ad, h1, _⟩ := (reads_int hr.out).2.2 h0
        rw [h] at h1; cases h1
    have hA := Lib.hid hA
    go_enter Try.func40, Try.ntmps40
    go_wp2_with (go_at_call 46; refine (pop_some base bs v t i _ w0 HS.out (by omega) hb HB).mono ?_; rintro e w1 ⟨rfl, v1, hs1, hk1, hB1⟩; obtain ⟨u, pv, m, hx⟩ := index_out (w := w1) (A := A) (n := row.length) (c := c) hA.out i hi)
    exact ⟨rfl, .inr ⟨hz.out, ⟨_, _, rfl⟩, v1, ((Kp.alloc bs w v _).trans hk1).trans ⟨keep_drewN (KeepBut.refl w1 bs _) _, .inl rfl⟩, pw_below_drewN hB1 _⟩⟩
theorem step_any (k : Int) (hs : Stk base bs w v s) (hl : s.length ≤ 1000) (hb : base ≤ bs) (hB : Below base w0 w) (hbw : base ≤ w.heap.size) (hbase : Hid (base = w0.heap.size)) (hr : Hid (Kd.C (Kd.int .i64) w0 A row.length row)) :
    Calls Try.prog 40 #[.pointer (some ⟨bs, 0, none⟩), .slice A row.length c, .agg #[.int .i64 k, .int .i64 n]] w (Stepped row k n base bs w0 w v s) := by
  by_cases h1 : k = 1
  · subst h1; exact step_push row n base bs w0 w v s A c hs hl hb hB hbw
  by_cases h2 : k = 2
  · subst h2; exact step_add row n base bs w0 w v s A c hs hl hb hB hbw
  by_cases h3 : k = 3
  · subst h3; exact step_div row n base bs w0 w v s A c hs hl hb hB hbw
  by_cases h4 : k = 4
  · subst h4; exact step_index row n base bs w0 w v s A c hs hl hb hB hbw hbase hr
  by_cases h5 : k = 5
  · subst h5; exact step_drop row n base bs w0 w v s A c hs hl hb hB hbw
  exact step_none row n base bs w0 w v s A c k (by simpa using h1) (by simpa using h2) (by simpa using h3) (by simpa using h4) (by simpa using h5) hB hbw
end
section
variable (row : List Int) (n : Int) (base bs br bx : Nat) (w0 w : World) (v : Value) (s : List Int) (A : Option Addr) (c : Nat)
theorem run1_any (k : Int) (hs : Stk base bs w v s) (hl : s.length ≤ 1000) (hb : base ≤ bs) (hB : Below base w0 w) (hbw : base ≤ w.heap.size) (hbase : Hid (base = w0.heap.size)) (hr : Hid (Kd.C (Kd.int .i64) w0 A row.length row))
    (hrow : w.cell? ⟨br, 0, none⟩ = some (.slice A row.length c)) (hx0 : w.cell? ⟨bx, 0, none⟩ = some (.int .i64 k)) (hx1 : w.cell? ⟨bx, 1, none⟩ = some (.int .i64 n)) :
    Calls Try.prog 39 #[.pointer (some ⟨bs, 0, none⟩), .pointer (some ⟨br, 0, none⟩), .pointer (some ⟨bx, 0, none⟩)] w (Stepped row k n base bs w0 w v s) := by
  go_enter Try.func39, Try.ntmps39
  go_wp2_with (go_at_call 40; refine (step_any row n base bs w0 _ v s A c k hs hl hb hB hbw hbase hr).mono ?_; rintro e w1 (⟨s', hz, rfl, hh⟩ | ⟨hz, ⟨u, pv, rfl⟩, hh⟩))
  · go_end0
    exact .inl ⟨s', hz, rfl, hh⟩
  · exact ⟨rfl, .inr ⟨hz, ⟨u, pv, rfl⟩, hh⟩⟩
end

theorem catch_panicking (p : Addr) (x : Bool) (u : TypeId) (pv : Value) (older : List PanicEntry) (w : World) (hc : w.cell? p = some (.bool x)) (hz : w.frozen? p = false) :
    CallsD Try.prog 44 #[.pointer (some p)] (.panicking ({ v := .iface u pv, recovered := false } :: older)) w fun e u' w' =>
      e = .returned (.tuple #[]) ∧ u' = .panicking ({ v := .iface u pv, recovered := true } :: older) ∧ w' = w.setCell p (.bool false) := by
  refine callsD_of_wpS Try.func44 rfl fun c₀ cs hu => ?_
  apply wpS_seq
  apply wpS_region
  simp [wpOpsS, go_sem, recoverD, hu, Try.ntmps44, Exit.thenS]
  refine wpS_cond (t := true) (by simp [Act.eval, Array.replicate]) ?_
  simp only [if_true]
  apply wpS_region
  simp [wpOpsS, go_sem, hc, hz, bodyPostS, results, Try.results44]
theorem catch_idle (p : Addr) (w : World) :
    CallsD Try.prog 44 #[.pointer (some p)] .returning w fun e u' w' => e = .returned (.tuple #[]) ∧ u' = .returning ∧ w' = w := by
  refine callsD_of_wpS Try.func44 rfl fun c₀ cs hu => ?_
  apply wpS_seq
  apply wpS_region
  simp [wpOpsS, go_sem, recoverD, hu, Try.ntmps44, Exit.thenS]
  refine wpS_cond (t := false) (by simp [Act.eval, Array.replicate]) ?_
  simp only [Bool.false_eq_true, if_false]
  refine wpS_of_wp (wp_skip ?_)
  cases c₀
  simp_all [bodyPostS, results, Try.results44]

/-- What a try comes to, by what was tried. -/
def Tried (H : Nat) (R : Ending → World → Prop) (e : Ending) (w' : World) : Prop := ∃ e1 w1, R e1 w1 ∧
  ((e1 = .returned (.tuple #[]) ∧ e = .returned (.bool true) ∧ w' = w1.setCell ⟨H, 0, none⟩ (.bool true)) ∨ (Panics e1 ∧ e = .returned (.bool false) ∧ w' = w1.setCell ⟨H, 0, none⟩ (.bool false)))
theorem tries_any (f : Nat) (caps : Array Value) (w : World) (R : Ending → World → Prop) (he : ∀ (args : Array Value) (w : World), (callFunc f args).run Try.prog w = .ok (.enter f args) w)
    (h : Calls Try.prog f caps (w.alloc (.cells #[.bool false] 4)) R)
    (hR : ∀ e w', R e w' → (e = .returned (.tuple #[]) ∨ Panics e) ∧ w'.heap[w.heap.size]? = some (.cells #[.bool false] 4 (0, 0))) :
    Calls Try.prog 38 #[.func (.func f) #[] caps] w (Tried w.heap.size R) := by
  have hmf : ∀ (fn : Fn) (first cap : Array Value) (w : World), (Instr.makeFunc fn first cap).run Try.prog w = .ok (.func fn first cap) w := fun _ _ _ _ => rfl
  have h' := Lib.hid h
  have hR' := Lib.hid hR
  clear h hR
  go_enter_defers Try.func38, Try.ntmps38
  go_wp2_with ((with_reducible refine h'.out.mono ?_); rintro e w1 hr; obtain ⟨hd, hb⟩ := hR'.out e w1 hr; have hc : w1.cell? ⟨w.heap.size, 0, none⟩ = some (.bool false) := (by rw [blk_cell hb]; rfl); have hf : w1.frozen? ⟨w.heap.size, 0, none⟩ = false := blk_frozen hb 0; have hb' := Lib.hid hb; clear hb; rcases hd with rfl | ⟨u, pv, rfl⟩)
  · refine leaves_cons (f := 44) (args := #[.pointer (some ⟨w.heap.size, 0, none⟩)]) (by simp) (by simp [go_sem]) ?_
    refine (catch_idle ⟨w.heap.size, 0, none⟩ _).mono ?_
    rintro e u' w'' ⟨rfl, rfl, rfl⟩
    have hcell : (w1.setCell ⟨w.heap.size, 0, none⟩ (.bool true)).cell? ⟨w.heap.size, 0, none⟩ = some (.bool true) := by rw [blk_cell (blk_set hb'.out 0 _)]; rfl
    simp [Leaves, settle, results, Try.results38, go_sem, hcell]
    exact ⟨_, _, hr, .inl ⟨rfl, rfl, rfl⟩⟩
  · refine leaves_cons (f := 44) (args := #[.pointer (some ⟨w.heap.size, 0, none⟩)]) (by simp) (by simp [go_sem]) ?_
    refine (catch_panicking ⟨w.heap.size, 0, none⟩ false u pv [] _ hc hf).mono ?_
    rintro e u' w'' ⟨rfl, rfl, rfl⟩
    have hcell : (w1.setCell ⟨w.heap.size, 0, none⟩ (.bool false)).cell? ⟨w.heap.size, 0, none⟩ = some (.bool false) := by rw [blk_cell (blk_set hb'.out 0 _)]; rfl
    simp [Leaves, settle, results, Try.results38, go_sem, hcell]
    exact ⟨_, _, hr, .inr ⟨⟨u, pv, rfl⟩, rfl, rfl⟩⟩
theorem enters {f : Nat} {fn : Func} (hf : Try.prog.funcs[f]? = some fn) (hname : (fn.name == "runtime.NumGoroutine") = false) (hb : fn.body.isSome = true) (args : Array Value) (w : World) : (callFunc f args).run Try.prog w = .ok (.enter f args) w :=
  Go.Proofs.YtjmlbkbjmeeplabW.PrintLast.enters_ hf hname hb args w
/-- What an index's closure comes to. -/
def Idx (row : List Int) (i : Int) (bo : Nat) (w : World) (e : Ending) (w' : World) : Prop :=
  (0 ≤ i ∧ i < (row.length : Int) ∧ e = .returned (.tuple #[]) ∧ w' = w.setCell ⟨bo, 0, none⟩ (.int .i64 (rd row i))) ∨ (¬ (0 ≤ i ∧ i < (row.length : Int)) ∧ Panics e ∧ ∃ n, w' = w.drewN n)
theorem index1_any (row : List Int) (A : Option Addr) (c : Nat) (i x : Int) (bl bi bo : Nat) (w : World) (hl : w.cell? ⟨bl, 0, none⟩ = some (.slice A row.length c)) (hi : w.cell? ⟨bi, 0, none⟩ = some (.int .i64 i))
    (ho : w.cell? ⟨bo, 0, none⟩ = some (.int .i64 x)) (hf : w.frozen? ⟨bo, 0, none⟩ = false) (hr : ReadsInt w .i64 A row.length row) :
    Calls Try.prog 41 #[.pointer (some ⟨bl, 0, none⟩), .pointer (some ⟨bi, 0, none⟩), .pointer (some ⟨bo, 0, none⟩)] w (Idx row i bo w) := by
  by_cases h : 0 ≤ i ∧ i < (row.length : Int)
  · obtain ⟨ad, rfl, hcell⟩ := hr.at_ i h.1 h.2
    have hr' := Lib.hid hr
    clear hr
    go_enter Try.func41, Try.ntmps41
    go_wp2
    go_end0
    exact .inl ⟨h.1, h.2, rfl, rfl⟩
  · have hA : A = none → row.length = 0 := fun hn => by
      rcases Nat.eq_zero_or_pos row.length with h0 | h0
      · exact h0
      · obtain ⟨ad, h1, _⟩ := hr.2.2 h0
        rw [hn] at h1; cases h1
    obtain ⟨u, pv, m, hx⟩ := index_out (w := w) (A := A) (n := row.length) (c := c) hA i h
    clear hA hr
    go_enter Try.func41, Try.ntmps41
    go_wp2
    exact ⟨rfl, .inr ⟨h, ⟨_, _, rfl⟩, m, rfl⟩⟩
def Dv (a b : Int) (bo : Nat) (w : World) (e : Ending) (w' : World) : Prop :=
  (b ≠ 0 ∧ e = .returned (.tuple #[]) ∧ w' = w.setCell ⟨bo, 0, none⟩ (.int .i64 (wrap64 (a.tdiv b)))) ∨ (b = 0 ∧ Panics e ∧ ∃ n, w' = w.drewN n)
theorem div1_any (a b x : Int) (ba bb bo : Nat) (w : World) (ha : w.cell? ⟨ba, 0, none⟩ = some (.int .i64 a)) (hb : w.cell? ⟨bb, 0, none⟩ = some (.int .i64 b))
    (ho : w.cell? ⟨bo, 0, none⟩ = some (.int .i64 x)) (hf : w.frozen? ⟨bo, 0, none⟩ = false) :
    Calls Try.prog 43 #[.pointer (some ⟨ba, 0, none⟩), .pointer (some ⟨bb, 0, none⟩), .pointer (some ⟨bo, 0, none⟩)] w (Dv a b bo w) := by
  by_cases h : b = 0
  · subst h
    go_enter Try.func43, Try.ntmps43
    go_wp2
    exact ⟨rfl, .inr ⟨rfl, ⟨_, _, rfl⟩, 0, rfl⟩⟩
  · go_enter Try.func43, Try.ntmps43
    go_wp2
    go_end0
    exact .inl ⟨h, rfl, rfl⟩

def guard_Div.f (a0 a1 : Int) : Option (Int × Bool) := some (if a1 = 0 then (0, false) else (wrap64 (a0.tdiv a1), true))
theorem heap_alloc {w : World} {g : Nat} {o : Obj} (h : w.heap[g]? = some o) (p : Obj) : (w.alloc p).heap[g]? = some o := blk_grown h (World.grownBy_alloc w p none) (by simp)
theorem heap_set {w : World} {g : Nat} {o : Obj} {p : Addr} (h : w.heap[g]? = some o) (hp : g ≠ p.block) (u : Value) : (w.setCell p u).heap[g]? = some o := (Below.heap_setCell w p u g hp).trans h
theorem div_tries (a b : Int) (pa pb po : Nat) (w0 W : World) (ha : W.heap[pa]? = some (.cells #[.int .i64 a] 3 (0, 0))) (hb : W.heap[pb]? = some (.cells #[.int .i64 b] 3 (0, 0))) (ho : W.heap[po]? = some (.cells #[.int .i64 0] 3 (0, 0)))
    (hB : Below w0.heap.size w0 W) (hlo : w0.heap.size ≤ po) (hsz : w0.heap.size ≤ W.heap.size) :
    Calls Try.prog 38 #[.func (.func 43) #[] #[.pointer (some ⟨pa, 0, none⟩), .pointer (some ⟨pb, 0, none⟩), .pointer (some ⟨po, 0, none⟩)]] W fun e w' =>
      ∃ r ok, guard_Div.f a b = some (r, ok) ∧ e = .returned (.bool ok) ∧ w'.heap[po]? = some (.cells #[.int .i64 r] 3 (0, 0)) ∧ Below w0.heap.size w0 w' := by
  have hlt := blk_lt ho
  have hone : (W.alloc (.cells #[.bool false] 4)).heap[W.heap.size]? = some (.cells #[.bool false] 4 (0, 0)) := heap_alloc_new W _
  have hB1 : Below w0.heap.size w0 (W.alloc (.cells #[.bool false] 4)) := hB.alloc hsz _
  have ho1 := heap_alloc ho (.cells #[.bool false] 4)
  refine (tries_any 43 _ W (Dv a b po _) (enters Try.func43 rfl rfl) (div1_any a b 0 pa pb po _ (by rw [blk_cell (heap_alloc ha _)]; rfl) (by rw [blk_cell (heap_alloc hb _)]; rfl) (by rw [blk_cell ho1]; rfl) (blk_frozen ho1 0)) ?_).mono ?_
  · rintro e w' (⟨_, rfl, rfl⟩ | ⟨_, hp, n, rfl⟩)
    · exact ⟨.inl rfl, heap_set hone (by simp; omega) _⟩
    · exact ⟨.inr hp, hone⟩
  · rintro e w' ⟨e1, w1, hr, hh⟩
    rcases hr with ⟨hb0, rfl, rfl⟩ | ⟨hb0, hp, n, rfl⟩
    · rcases hh with ⟨_, rfl, rfl⟩ | ⟨⟨u, pv, hbad⟩, _⟩
      · exact ⟨_, true, by simp [guard_Div.f, hb0], rfl, heap_set (blk_set ho1 0 _) (by simp; omega) _, (hB1.setCell hlo _).setCell hsz _⟩
      · cases hbad
    · rcases hh with ⟨hbad, _⟩ | ⟨_, rfl, rfl⟩
      · obtain ⟨u, pv, hp⟩ := hp
        rw [hbad] at hp; cases hp
      · exact ⟨0, false, by simp [guard_Div.f, hb0], rfl, heap_set (w := (W.alloc _).drewN n) ho1 (by simp; omega) _, (pw_below_drewN hB1 n).setCell hsz _⟩
theorem guard_Div.calls (a0 a1 r1 : Int) (r2 : Bool) (w : World) (h : guard_Div.f a0 a1 = some (r1, r2)) :
    Calls Try.prog 33 #[.int .i64 a0, .int .i64 a1] w fun e w' => e = .returned (.tuple #[.int .i64 r1, .bool r2]) ∧ Below w.heap.size w w' := by
  have hmf : ∀ (fn : Fn) (first cap : Array Value) (w : World), (Instr.makeFunc fn first cap).run Try.prog w = .ok (.func fn first cap) w := fun _ _ _ _ => rfl
  have h' := Lib.hid h
  clear h
  have H := Lib.hid (div_tries a0 a1 w.heap.size (w.heap.size + 1) (w.heap.size + 1 + 1) w (((w.alloc (.cells #[.int .i64 a0] 3)).alloc (.cells #[.int .i64 a1] 3)).alloc (.cells #[.int .i64 0] 3))
    (heap_alloc (heap_alloc (heap_alloc_new w _) _) _) (heap_alloc (by simpa using heap_alloc_new (w.alloc (.cells #[.int .i64 a0] 3)) (.cells #[.int .i64 a1] 3)) _) (by simpa using heap_alloc_new ((w.alloc (.cells #[.int .i64 a0] 3)).alloc (.cells #[.int .i64 a1] 3)) (.cells #[.int .i64 0] 3))
    (below_alloc (below_alloc (below_alloc (Below.refl _ _) _) _) _) (by omega) (by simp; omega))
  go_enter Try.func33, Try.ntmps33
  go_wp2_with (go_at_call 38; refine H.out.mono ?_; rintro e w1 ⟨r, ok, hf, rfl, ho, hB⟩; have hc : w1.cell? ⟨w.heap.size + 1 + 1, 0, none⟩ = some (.int .i64 r) := (by rw [blk_cell ho]; rfl); have ho' := Lib.hid ho; have hf' := Lib.hid hf; clear ho hf)
  go_ret2
  have := hf'.out.symm.trans h'.out
  simp only [Option.some.injEq, Prod.mk.injEq] at this
  obtain ⟨rfl, rfl⟩ := this
  exact ⟨rfl, hB⟩

def guard_Index.f (l0 : List Int) (a1 : Int) : Option (Int × Bool) := some (if 0 ≤ a1 ∧ a1 < (l0.length : Int) then (rd l0 a1, true) else (0, false))
theorem index_tries (row : List Int) (A : Option Addr) (c : Nat) (i : Int) (pl pi po : Nat) (w0 W : World) (hl : W.heap[pl]? = some (.cells #[.slice A row.length c] 32 (0, 0))) (hi : W.heap[pi]? = some (.cells #[.int .i64 i] 3 (0, 0)))
    (ho : W.heap[po]? = some (.cells #[.int .i64 0] 3 (0, 0))) (hr : Kd.C (Kd.int .i64) w0 A row.length row) (hB : Below w0.heap.size w0 W) (hlo : w0.heap.size ≤ po) (hsz : w0.heap.size ≤ W.heap.size) :
    Calls Try.prog 38 #[.func (.func 41) #[] #[.pointer (some ⟨pl, 0, none⟩), .pointer (some ⟨pi, 0, none⟩), .pointer (some ⟨po, 0, none⟩)]] W fun e w' =>
      ∃ r ok, guard_Index.f row i = some (r, ok) ∧ e = .returned (.bool ok) ∧ w'.heap[po]? = some (.cells #[.int .i64 r] 3 (0, 0)) ∧ Below w0.heap.size w0 w' := by
  have hlt := blk_lt ho
  have hone : (W.alloc (.cells #[.bool false] 4)).heap[W.heap.size]? = some (.cells #[.bool false] 4 (0, 0)) := heap_alloc_new W _
  have hB1 : Below w0.heap.size w0 (W.alloc (.cells #[.bool false] 4)) := hB.alloc hsz _
  have ho1 := heap_alloc ho (.cells #[.bool false] 4)
  refine (tries_any 41 _ W (Idx row i po _) (enters Try.func41 rfl rfl) (index1_any row A c i 0 pl pi po _ (by rw [blk_cell (heap_alloc hl _)]; rfl) (by rw [blk_cell (heap_alloc hi _)]; rfl) (by rw [blk_cell ho1]; rfl) (blk_frozen ho1 0) (reads_int (Kd.C_below hr hB1))) ?_).mono ?_
  · rintro e w' (⟨_, _, rfl, rfl⟩ | ⟨_, hp, n, rfl⟩)
    · exact ⟨.inl rfl, heap_set hone (by simp; omega) _⟩
    · exact ⟨.inr hp, hone⟩
  · rintro e w' ⟨e1, w1, hr, hh⟩
    rcases hr with ⟨hb0, hb1, rfl, rfl⟩ | ⟨hb0, hp, n, rfl⟩
    · rcases hh with ⟨_, rfl, rfl⟩ | ⟨⟨u, pv, hbad⟩, _⟩
      · exact ⟨_, true, by simp [guard_Index.f, hb0, hb1], rfl, heap_set (blk_set ho1 0 _) (by simp; omega) _, (hB1.setCell hlo _).setCell hsz _⟩
      · cases hbad
    · rcases hh with ⟨hbad, _⟩ | ⟨_, rfl, rfl⟩
      · obtain ⟨u, pv, hp⟩ := hp
        rw [hbad] at hp; cases hp
      · exact ⟨0, false, by simp only [guard_Index.f]; rw [if_neg hb0], rfl, heap_set (w := (W.alloc _).drewN n) ho1 (by simp; omega) _, (pw_below_drewN hB1 n).setCell hsz _⟩
theorem guard_Index.calls (A0 : Option Addr) (c0 : Nat) (l0 : List Int) (a1 r1 : Int) (r2 : Bool) (w : World) (hr0 : Kd.C (Kd.int .i64) w A0 l0.length l0) (hc0 : l0.length ≤ c0) (h : guard_Index.f l0 a1 = some (r1, r2)) :
    Calls Try.prog 31 #[.slice A0 l0.length c0, .int .i64 a1] w fun e w' => e = .returned (.tuple #[.int .i64 r1, .bool r2]) ∧ Below w.heap.size w w' := by
  have hmf : ∀ (fn : Fn) (first cap : Array Value) (w : World), (Instr.makeFunc fn first cap).run Try.prog w = .ok (.func fn first cap) w := fun _ _ _ _ => rfl
  have h' := Lib.hid h
  clear h
  have H := Lib.hid (index_tries l0 A0 c0 a1 w.heap.size (w.heap.size + 1) (w.heap.size + 1 + 1) w (((w.alloc (.cells #[.slice A0 l0.length c0] 32)).alloc (.cells #[.int .i64 a1] 3)).alloc (.cells #[.int .i64 0] 3))
    (heap_alloc (heap_alloc (heap_alloc_new w _) _) _) (heap_alloc (by simpa using heap_alloc_new (w.alloc (.cells #[.slice A0 l0.length c0] 32)) (.cells #[.int .i64 a1] 3)) _) (by simpa using heap_alloc_new ((w.alloc (.cells #[.slice A0 l0.length c0] 32)).alloc (.cells #[.int .i64 a1] 3)) (.cells #[.int .i64 0] 3)) hr0
    (below_alloc (below_alloc (below_alloc (Below.refl _ _) _) _) _) (by omega) (by simp; omega))
  clear hr0
  go_enter Try.func31, Try.ntmps31
  go_wp2_with (go_at_call 38; refine H.out.mono ?_; rintro e w1 ⟨r, ok, hf, rfl, ho, hB⟩; have hc : w1.cell? ⟨w.heap.size + 1 + 1, 0, none⟩ = some (.int .i64 r) := (by rw [blk_cell ho]; rfl); have ho' := Lib.hid ho; have hf' := Lib.hid hf; clear ho hf)
  go_ret2
  have := hf'.out.symm.trans h'.out
  simp only [Option.some.injEq, Prod.mk.injEq] at this
  obtain ⟨rfl, rfl⟩ := this
  exact ⟨rfl, hB⟩
def runFrom (row s : List Int) (k : Nat) : List (Int × Int) → List Int × Int × Bool
  | [] => (s, (k : Int), true)
  | p :: r => match stepS row s p.1 p.2 with
    | some s' => runFrom row s' (k + 1) r
    | none => (s, (k : Int), false)
theorem pushS_len {s s' : List Int} {x : Int} (h : pushS s x = some s') (hl : s.length ≤ 1000) : s'.length ≤ 1000 := by
  unfold pushS at h
  split at h
  · cases h
  · cases h; simp; omega
theorem popS_len {s : List Int} {p : List Int × Int} (h : popS s = some p) : p.1.length ≤ s.length := by
  unfold popS at h
  split at h
  · cases h; simp
  · cases h
theorem stepS_len {row s s' : List Int} {k n : Int} (h : stepS row s k n = some s') (hl : s.length ≤ 1000) : s'.length ≤ 1000 := by
  unfold stepS at h
  split at h
  · exact pushS_len h hl
  split at h
  · obtain ⟨p, h1, h⟩ := Option.bind_eq_some_iff.1 h
    obtain ⟨q, h2, h⟩ := Option.bind_eq_some_iff.1 h
    have := popS_len h1; have := popS_len h2
    exact pushS_len h (by omega)
  split at h
  · obtain ⟨p, h1, h⟩ := Option.bind_eq_some_iff.1 h
    obtain ⟨q, h2, h⟩ := Option.bind_eq_some_iff.1 h
    have := popS_len h1; have := popS_len h2
    split at h
    · cases h
    · exact pushS_len h (by omega)
  split at h
  · obtain ⟨p, h1, h⟩ := Option.bind_eq_some_iff.1 h
    have := popS_len h1
    split at h
    · exact pushS_len h (by omega)
    · cases h
  split at h
  · obtain ⟨p, h1, h⟩ := Option.map_eq_some_iff.1 h
    have := popS_len h1
    subst h; omega
  · cases h
/-- A row of steps, as it lies. -/
def Steps2 (w : World) (A : Option Addr) (ks : List (Int × Int)) : Prop := 0 < ks.length → ∃ ad, A = some ad ∧ ∀ j p, ks[j]? = some p → w.cell? (ad.add (j * 2)) = some (.int .i64 p.1) ∧ w.cell? (ad.add (j * 2 + 1)) = some (.int .i64 p.2)
def RunPost (w0 : World) (row : List Int) (ks : List (Int × Int)) (e : Ending) (w' : World) : Prop :=
  ∃ v, e = .returned (.tuple #[v, .int .i64 (runFrom row [] 0 ks).2.1, .bool (runFrom row [] 0 ks).2.2]) ∧ w'.ownsRow w0.heap.size 3 1 v (runFrom row [] 0 ks).1.length (nums .i64 (runFrom row [] 0 ks).1) ∧ Below w0.heap.size w0 w'
theorem run_tries (row s : List Int) (v : Value) (k n : Int) (bs br bx : Nat) (A : Option Addr) (c : Nat) (w0 W : World) (hs : Stk w0.heap.size bs W v s) (hl : s.length ≤ 1000) (hb : w0.heap.size ≤ bs) (hB : Below w0.heap.size w0 W) (hsz : w0.heap.size ≤ W.heap.size)
    (hr : Hid (Kd.C (Kd.int .i64) w0 A row.length row)) (hrow : W.heap[br]? = some (.cells #[.slice A row.length c] 32 (0, 0))) (hx : W.heap[bx]? = some (.cells #[.int .i64 k, .int .i64 n] 50 (0, 0))) :
    Calls Try.prog 38 #[.func (.func 39) #[] #[.pointer (some ⟨bs, 0, none⟩), .pointer (some ⟨br, 0, none⟩), .pointer (some ⟨bx, 0, none⟩)]] W fun e w' =>
      ((∃ s', stepS row s k n = some s' ∧ e = .returned (.bool true) ∧ ∃ v', Stk w0.heap.size bs w' v' s' ∧ Kp bs W v w' v') ∨ (stepS row s k n = none ∧ e = .returned (.bool false))) ∧ KeepBut W w' bs v.ownBlock ∧ Below w0.heap.size w0 w' := by
  have hbs := blk_lt hs.1
  have hone : (W.alloc (.cells #[.bool false] 4)).heap[W.heap.size]? = some (.cells #[.bool false] 4 (0, 0)) := heap_alloc_new W _
  have hB1 : Below w0.heap.size w0 (W.alloc (.cells #[.bool false] 4)) := hB.alloc hsz _
  have hkeep : ∀ (w' : World) (v' : Value), Kp bs (W.alloc (.cells #[.bool false] 4)) v w' v' → w'.heap[W.heap.size]? = some (.cells #[.bool false] 4 (0, 0)) := fun w' v' hk =>
    hk.1.blk hone (by omega) (fun e => by have := own_lt hs.2 _ e.symm; omega)
  refine (tries_any 39 _ W (Stepped row k n w0.heap.size bs w0 _ v s) (enters Try.func39 rfl rfl) (run1_any row n w0.heap.size bs br bx w0 _ v s A c k (hs.alloc _) hl hb hB1 (by simp; omega) (Lib.hid rfl) hr (by rw [blk_cell (heap_alloc hrow _)]; rfl) (by rw [blk_cell (heap_alloc hx _)]; rfl) (by rw [blk_cell (heap_alloc hx _)]; rfl)) ?_).mono ?_
  · rintro e w' (⟨s', hz, rfl, v', hs', hk, hB'⟩ | ⟨hz, hp, v', hk, hB'⟩)
    · exact ⟨.inl rfl, hkeep w' v' hk⟩
    · exact ⟨.inr hp, hkeep w' v' hk⟩
  · rintro e w' ⟨e1, w1, hr, hh⟩
    rcases hr with ⟨s', hz, rfl, v', hs', hk, hB'⟩ | ⟨hz, hp, v', hk, hB'⟩
    · have hk2 : Kp bs W v w1 v' := (Kp.alloc bs W v _).trans hk
      rcases hh with ⟨_, rfl, rfl⟩ | ⟨⟨u, pv, hbad⟩, _⟩
      · have h1 : KeepBut W (w1.setCell ⟨W.heap.size, 0, none⟩ (.bool true)) bs v.ownBlock := keep_far hk2.1 (p := ⟨W.heap.size, 0, none⟩) (Nat.le_refl _) _
        refine ⟨.inl ⟨s', hz, rfl, v', ⟨heap_set hs'.1 (by simp; omega) _, own_setCell hs'.2 ?_ _⟩, h1, hk2.2⟩, h1, hB'.setCell hsz _⟩
        intro e
        rcases hk.2 with h | ⟨b, h, hb⟩
        · rw [h] at e; have := own_lt hs.2 _ e.symm; simp at this
        · rw [h] at e; simp at hb; cases e; simp only at hb; omega
      · cases hbad
    · have hk2 : Kp bs W v w1 v' := (Kp.alloc bs W v _).trans hk
      rcases hh with ⟨hbad, _⟩ | ⟨_, rfl, rfl⟩
      · obtain ⟨u, pv, hp⟩ := hp
        rw [hbad] at hp; cases hp
      · exact ⟨.inr ⟨hz, rfl⟩, keep_far hk2.1 (p := ⟨W.heap.size, 0, none⟩) (Nat.le_refl _) _, hB'.setCell hsz _⟩
theorem Stk.grown {base bs : Nat} {w w1 : World} {v : Value} {s : List Int} (h : Stk base bs w v s) (hg : w.grownBy w1 none) : Stk base bs w1 v s := ⟨blk_grown h.1 hg (by simp), own_other h.2 hg (by cases v.ownBlock <;> simp)⟩
set_option maxHeartbeats 4000000 in
set_option maxRecDepth 100000 in
theorem run_any (row : List Int) (ks : List (Int × Int)) (A0 A1 : Option Addr) (c0 c1 : Nat) (w0 : World) (hr : Kd.C (Kd.int .i64) w0 A0 row.length row) (hk : Steps2 w0 A1 ks) (hl : ks.length ≤ 9223372036854775807) :
    Calls Try.prog 29 #[.slice A0 row.length c0, .slice A1 ks.length c1] w0 (RunPost w0 row ks) := by
  have hmf : ∀ (fn : Fn) (first cap : Array Value) (w : World), (Instr.makeFunc fn first cap).run Try.prog w = .ok (.func fn first cap) w := fun _ _ _ _ => rfl
  have hnot : ∀ (x : Bool) (w : World), (Op.unary .not (.bool x)).run Try.prog w = .ok (.bool (!x)) w := fun _ _ => rfl
  have HR := Lib.hid hr
  have HK := Lib.hid hk
  clear hr hk
  go_enter Try.func29, Try.ntmps29
  go_wp2
  go_loopw [13] (fun i wr => ∃ (k : Nat) (s : List Int) (v : Value), i = .int .i64 k ∧ k ≤ ks.length ∧ Hid (runFrom row s k (ks.drop k) = runFrom row [] 0 ks) ∧ s.length ≤ 1000 ∧ Hid (Stk w0.heap.size (w0.heap.size + 1) wr v s) ∧ Hid (wr.heap[w0.heap.size]? = some (.cells #[.slice A0 row.length c0] 32 (0, 0))) ∧ Below w0.heap.size w0 wr ∧ w0.heap.size + 2 ≤ wr.heap.size)
    (fun i _ => ks.length - (intOf i).toNat)
  case atStart => exact ⟨0, [], .slice none 0 0, rfl, Nat.zero_le _, Lib.hid (by simp), by simp, Lib.hid ⟨by simpa using heap_alloc_new (w0.alloc (.cells #[.slice A0 row.length c0] 32)) (.cells #[.slice none 0 0] 61), own_nil _ _ _ _⟩, Lib.hid (heap_alloc (heap_alloc_new w0 _) _), below_alloc (below_alloc (Below.refl _ _) _) _, by simp⟩
  case round =>
    obtain ⟨k, s, v, rfl, hk, hrun, hsl, hstk, hrow, hB, hsz⟩ := hrel
    by_cases hlt : k < ks.length
    · obtain ⟨p, hp⟩ : ∃ p, ks[k]? = some p := ⟨_, List.getElem?_eq_getElem hlt⟩
      obtain ⟨ad, rfl, hcells⟩ := HK.out (by omega)
      have hx0 : wr.cell? (ad.add (k * 2)) = some (.int .i64 p.1) := pw_cell_below hB (hcells k p hp).1
      have hx1 : wr.cell? ⟨(ad.add (k * 2)).block, (ad.add (k * 2)).off + 1, none⟩ = some (.int .i64 p.2) := by rw [← add_field ad (k * 2) 1 (by omega)]; exact pw_cell_below hB (hcells k p hp).2
      have hp := Lib.hid hp
      have hcells := Lib.hid hcells
      obtain ⟨A, c, rfl⟩ := own_slice hstk.out.2
      have hs0 : wr.cell? ⟨w0.heap.size + 1, 0, none⟩ = some (.slice A s.length c) := by rw [blk_cell hstk.out.1]; rfl
      have hs1 : (wr.alloc (.cells #[.int .i64 p.1, .int .i64 p.2] 50)).cell? ⟨w0.heap.size + 1, 0, none⟩ = some (.slice A s.length c) := by rw [blk_cell (heap_alloc hstk.out.1 _)]; rfl
      have hsr := Lib.hid (own_reads' (own_alloc hstk.out.2 (.cells #[.int .i64 p.1, .int .i64 p.2] 50)))
      have hBa := Lib.hid (hB.alloc (by omega) (.cells #[.int .i64 p.1, .int .i64 p.2] 50))
      go_wp2_with (at_builtin; go_loud (refine print_append_row (w0 := w0) w0.heap.size rfl (.const (.slice none 0 0)) (.tmp 18) 61 3 .i64 8 rfl Try.underlying61 (by kernel_rfl) (by decide) (.slice none 0 0) [] s A s.length c rfl rfl (own_nil _ _ _ _) hsr.out hBa.out (by simp; omega) (by simp; omega) ?_); intro vw w1 how hBw hgw hatw; have hgw := Lib.hid hgw; have hatw := Lib.hid hatw; have how := Lib.hid how)
      have k0 : Hid (Stk w0.heap.size (w0.heap.size + 1) w1 (.slice A s.length c) s) := Lib.hid ((hstk.out.alloc _).grown hgw.out)
      have k1 : Hid (w1.heap[w0.heap.size]? = some (.cells #[.slice A0 row.length c0] 32 (0, 0))) := Lib.hid (blk_grown (heap_alloc hrow.out _) hgw.out (by simp [Value.ownBlock]))
      have k2 : Hid (w1.heap[wr.heap.size]? = some (.cells #[.int .i64 p.1, .int .i64 p.2] 50 (0, 0))) := Lib.hid (blk_grown (heap_alloc_new wr _) hgw.out (by simp [Value.ownBlock]))
      have k3 : w0.heap.size + 2 ≤ w1.heap.size := by have := hgw.out.size; simp at this; omega
      have hstp : Hid (runFrom row s k (ks.drop k) = match stepS row s p.1 p.2 with | some s' => runFrom row s' (k + 1) (ks.drop (k + 1)) | none => (s, (k : Int), false)) := Lib.hid (by
        rw [List.drop_eq_getElem_cons hlt, ← (by have := hp.out; rw [List.getElem?_eq_getElem hlt] at this; exact Option.some.inj this : ks[k] = p)]; rfl)
      go_wp2_with (go_at_call 38; refine (run_tries row s _ p.1 p.2 (w0.heap.size + 1) w0.heap.size wr.heap.size A0 c0 w0 w1 k0.out hsl (by omega) hBw (by omega) HR k1.out k2.out).mono ?_; rintro e w2 ⟨hd, hkeep, hB2⟩; have hkeep := Lib.hid hkeep; rcases hd with ⟨s', hz, rfl, v', hs', hk'⟩ | ⟨hz, rfl⟩)
      · have hstp2 := hstp.out
        rw [hz] at hstp2
        have hrow2 := hkeep.out.blk k1.out (by omega) (own_ne k0.out.2 k1.out (by decide))
        have hsz2 := hkeep.out.1
        exact ⟨⟨k + 1, s', v', by go_num, by omega, Lib.hid (hstp2.symm.trans hrun.out), stepS_len hz hsl, Lib.hid hs', Lib.hid hrow2, hB2, by omega⟩, by simp [intOf]; omega⟩
      · have hstp2 := hstp.out
        rw [hz] at hstp2
        have hfin := hrun.out.symm.trans hstp2
        have hnb : vw.ownBlock ≠ some (w0.heap.size + 1) ∧ (vw.ownBlock = none ∨ vw.ownBlock ≠ (Value.slice A s.length c).ownBlock) := by
          rcases hatw.out with h | ⟨b, h, hb⟩
          · rw [h]; simp [Value.ownBlock]
          · rw [h]
            simp at hb
            refine ⟨by simp; omega, .inr fun e => ?_⟩
            have := own_lt hstk.out.2 b e.symm
            omega
        go_ret3
        refine ⟨vw, by rw [hfin]; rfl, ?_, hB2⟩
        rw [hfin]
        exact hkeep.out.own (by simpa using how.out) hnb.1 hnb.2
    · obtain rfl : k = ks.length := by omega
      obtain ⟨A, c, rfl⟩ := own_slice hstk.out.2
      have hs0 : wr.cell? ⟨w0.heap.size + 1, 0, none⟩ = some (.slice A s.length c) := by rw [blk_cell hstk.out.1]; rfl
      go_wp2
      go_ret3
      have hfin := hrun.out.symm
      rw [List.drop_length] at hfin
      exact ⟨.slice A s.length c, by rw [hfin]; rfl, by rw [hfin]; exact hstk.out.2, hB⟩

end Go.Proofs.Ytjmlbkbjmeeplab.Guard
