/- What guard.Slice comes to: the part of the row, or nothing where it can't be cut so. No condition but a row of at most 2^44 numbers. -/
import Derived.Test.YtjmlbkbjmeeplabGuard
import Derived.Test.YtjmlbkbjmeeplabWLast
import Derived.WalkKit
import Derived.WalkSmall
import Derived.WalkSpells
import Derived.WalkLawsBesides
import Derived.Defers
import Derived.Recover
import Derived.Laws.Panics
import Derived.RegionDies
import Derived.Lib.Hide
import Derived.Deep.QuietTactic
import Derived.BigQuiet
import Derived.StillTailTactics
namespace Go.Proofs.Ytjmlbkbjmeeplab.Guard
open Go.RowKit Go.Proofs.YtjmlbkbjmeeplabW.PrintWords
set_option linter.unusedVariables false

theorem slice_out {w : World} {A : Option Addr} {n : Nat} (i j : Int) (ho : ¬ (0 ≤ i ∧ i ≤ j ∧ j ≤ (n : Int))) :
    ∃ u pv m, (Instr.slice 32 (.slice A n n) (some (.int .i64 i)) (some (.int .i64 j)) none).run Try.prog w = .halt (.panic (.iface u pv)) (w.drewN m) := by
  by_cases hj : 0 ≤ j ∧ j ≤ (n : Int)
  · obtain ⟨u, pv, m, hx⟩ := run_bounds (α := Nat) (P := Try.prog) (w := w) .i64 i (j.toNat : Int) .sliceB
    refine ⟨u, pv, m, ?_⟩
    have hi : ¬ (0 ≤ i ∧ i ≤ (j.toNat : Int)) := by omega
    simp [Instr.slice, run_underlying Try.underlying32, Instr.sliceBounds, Instr.sliceBound, asIntOf, hj]
    have hm : max j 0 = (j.toNat : Int) := by omega
    rw [hm, if_neg hi, hx]
    rfl
  · obtain ⟨u, pv, m, hx⟩ := run_bounds (α := Nat) (P := Try.prog) (w := w) .i64 j (n : Int) .sliceAcap
    refine ⟨u, pv, m, ?_⟩
    simp [Instr.slice, run_underlying Try.underlying32, Instr.sliceBounds, Instr.sliceBound, asIntOf, hj, hx]

/-- What a cut's closure comes to. -/
def Cut (row : List Int) (i j : Int) (bo : Nat) (w0 w : World) (e : Ending) (w' : World) : Prop :=
  (0 ≤ i ∧ i ≤ j ∧ j ≤ (row.length : Int) ∧ e = .returned (.tuple #[]) ∧ ∃ v, w'.heap[bo]? = some (.cells #[v] 32 (0, 0)) ∧ w'.ownsRow w0.heap.size 3 1 v ((row.take j.toNat).drop i.toNat).length (nums .i64 ((row.take j.toNat).drop i.toNat)) ∧ KeepBut w w' bo none ∧ Below w0.heap.size w0 w') ∨
  (¬ (0 ≤ i ∧ i ≤ j ∧ j ≤ (row.length : Int)) ∧ Panics e ∧ ∃ n, w' = w.drewN n)
theorem slice1_some (row : List Int) (A : Option Addr) (c : Nat) (i j : Nat) (bo bl bi bj : Nat) (w0 w : World) (ho : w.heap[bo]? = some (.cells #[.slice none 0 0] 32 (0, 0))) (hl : w.cell? ⟨bl, 0, none⟩ = some (.slice A row.length c))
    (hi : w.cell? ⟨bi, 0, none⟩ = some (.int .i64 i)) (hj : w.cell? ⟨bj, 0, none⟩ = some (.int .i64 j)) (hr : Hid (Kd.C (Kd.int .i64) w A row.length row)) (hc : row.length ≤ c) (hlen : row.length ≤ 17592186044416) (h1 : i ≤ j) (h2 : j ≤ row.length)
    (hB : Below w0.heap.size w0 w) (hsz : w0.heap.size ≤ w.heap.size) (hbo : w0.heap.size ≤ bo) :
    Calls Try.prog 42 #[.pointer (some ⟨bo, 0, none⟩), .pointer (some ⟨bl, 0, none⟩), .pointer (some ⟨bi, 0, none⟩), .pointer (some ⟨bj, 0, none⟩)] w (Cut row i j bo w0 w) := by
  have hoc : w.cell? ⟨bo, 0, none⟩ = some (.slice none 0 0) := by rw [blk_cell ho]; rfl
  have hof : w.frozen? ⟨bo, 0, none⟩ = false := blk_frozen ho 0
  have ho' := Lib.hid ho
  clear ho
  have hmid := cut_mid 32 3 .i64 .i64 Try.underlying32 (i := _) rfl 1 rfl A row.length row.length (i : Int) (j : Int) (by omega) (by omega) (by omega) (by omega)
  go_enter Try.func42, Try.ntmps42
  go_wp2
  go_still_tail 10, (by kernel_rfl)
  have hml : ((row.take j).drop i).length = j - i := by rw [List.length_drop, List.length_take]; omega
  have hCm : ReadsInt w .i64 (if row.length = i then A else A.map (fun x => x.add i)) (j - i) ((row.take j).drop i) := by
    have h := reads_int (Kd.C_mid (c := row.length) hr.out h1 h2 (Nat.le_refl _))
    rw [hml, show (Kd.int IntKind.i64).sz = 1 from rfl, Nat.mul_one] at h
    exact h
  have hCm := Lib.hid hCm
  have hml := Lib.hid hml
  change wpList _ _ _ _ _ w.drew
  refine print_append_row (w0 := w0) (W := w.drew) w0.heap.size rfl (.tmp 4) (.tmp 13) 32 3 .i64 8 rfl Try.underlying32 (by kernel_rfl) (by decide) (.slice none 0 0) [] ((row.take j).drop i) _ _ _ rfl rfl (own_nil _ _ _ _) hCm.out (below_drew1 hB) hsz (by simp; omega) ?_
  intro v1 w1 ho1 hB1 hg hat
  obtain ⟨A1, c1, rfl⟩ := own_slice ho1
  rw [List.nil_append, hml.out] at ho1
  have k1 : w1.heap[bo]? = some (.cells #[.slice none 0 0] 32 (0, 0)) := blk_grown (w := w.drew) ho'.out hg (by simp [Value.ownBlock])
  have hoc1 : w1.cell? ⟨bo, 0, none⟩ = some (.slice none 0 0) := by rw [blk_cell k1]; rfl
  have hof1 : w1.frozen? ⟨bo, 0, none⟩ = false := blk_frozen k1 0
  have k1 := Lib.hid k1
  have ho1 := Lib.hid ho1
  have hg := Lib.hid hg
  have hml2 := Lib.hid hml.out
  clear hat hoc hof
  go_wp2
  all_goals
    go_end0
    refine .inl ⟨by omega, by omega, by omega, rfl, .slice A1 (j - i) c1, blk_set k1.out 0 _, ?_, ?_, hB1.setCell hbo _⟩
    · simp only [Int.toNat_natCast]
      rw [hml2.out]
      exact own_setCell ho1.out (p := ⟨bo, 0, none⟩) (own_ne ho1.out k1.out (by decide)) _
    · exact (KeepBut.of_grown (w := w) ⟨hg.out.os, hg.out.tape, hg.out.output, hg.out.size, hg.out.block⟩ bo).set_ 0 _

theorem slice1_none (row : List Int) (A : Option Addr) (c : Nat) (i j : Int) (bo bl bi bj : Nat) (w0 w : World) (hoc : w.cell? ⟨bo, 0, none⟩ = some (.slice none 0 0)) (hl : w.cell? ⟨bl, 0, none⟩ = some (.slice A row.length c))
    (hi : w.cell? ⟨bi, 0, none⟩ = some (.int .i64 i)) (hj : w.cell? ⟨bj, 0, none⟩ = some (.int .i64 j)) (hc : row.length ≤ c) (h : ¬ (0 ≤ i ∧ i ≤ j ∧ j ≤ (row.length : Int))) :
    Calls Try.prog 42 #[.pointer (some ⟨bo, 0, none⟩), .pointer (some ⟨bl, 0, none⟩), .pointer (some ⟨bi, 0, none⟩), .pointer (some ⟨bj, 0, none⟩)] w (Cut row i j bo w0 w) := by
  have hx := Lib.hid (slice_out (w := w.drew) (A := A) (n := row.length) i j h)
  go_enter Try.func42, Try.ntmps42
  go_wp2
  refine Go.Proofs.YtjmlbkbjmeeplabW.PrintLast.start_ (n := 12) (S := fun w' => ∃ n, w' = w.drewN n) (ds := [10, 11]) #[false, false, false, false, false, false, false, false, false, false, false, false] (by kernel_rfl) rfl rfl ⟨1, rfl⟩ (fun hS => ?_)
  refine Go.Proofs.YtjmlbkbjmeeplabW.PrintLast.take_ (i := 0) (N := some 4) (v := .slice none 0 0) (a' := _) #[true, false, false, false, false, false, false, false, false, false, false, false] rfl rfl (by kernel_rfl) (fun _ _ _ h => h) (.inl ⟨by rfl, ?_⟩) hS rfl ?_
  · rintro w' ⟨n, rfl⟩
    go_simp
  refine Go.Proofs.YtjmlbkbjmeeplabW.PrintLast.take_ (i := 1) (N := some 5) (v := .slice A row.length c) (a' := _) #[true, true, false, false, false, false, false, false, false, false, false, false] rfl rfl (by kernel_rfl) (fun _ _ _ h => h) (.inl ⟨by rfl, ?_⟩) hS rfl ?_
  · rintro w' ⟨n, rfl⟩
    go_simp
  refine Go.Proofs.YtjmlbkbjmeeplabW.PrintLast.take_ (i := 2) (N := some 6) (v := .slice A row.length c) (a' := _) #[true, true, true, false, false, false, false, false, false, false, false, false] rfl rfl (by kernel_rfl) (fun _ _ _ h => h) (.inl ⟨by rfl, ?_⟩) hS rfl ?_
  · rintro w' ⟨n, rfl⟩
    go_simp
  refine Go.Proofs.YtjmlbkbjmeeplabW.PrintLast.take_ (i := 3) (N := some 7) (v := .int .i64 row.length) (a' := _) #[true, true, true, true, false, false, false, false, false, false, false, false] rfl rfl (by kernel_rfl) (fun _ _ _ h => h) (.inl ⟨by rfl, ?_⟩) hS rfl ?_
  · rintro w' ⟨n, rfl⟩
    go_simp
  refine Go.Proofs.YtjmlbkbjmeeplabW.PrintLast.take_ (i := 4) (N := some 8) (v := .slice A row.length c) (a' := _) #[true, true, true, true, true, false, false, false, false, false, false, false] rfl rfl (by kernel_rfl) (fun _ _ _ h => h) (.inl ⟨by rfl, ?_⟩) hS rfl ?_
  · rintro w' ⟨n, rfl⟩
    go_simp
  refine Go.Proofs.YtjmlbkbjmeeplabW.PrintLast.take_ (i := 5) (N := some 9) (v := .int .i64 row.length) (a' := _) #[true, true, true, true, true, true, false, false, false, false, false, false] rfl rfl (by kernel_rfl) (fun _ _ _ h => h) (.inl ⟨by rfl, ?_⟩) hS rfl ?_
  · rintro w' ⟨n, rfl⟩
    go_simp
  refine Go.Proofs.YtjmlbkbjmeeplabW.PrintLast.take_ (i := 6) (N := some 10) (v := .slice A row.length row.length) (a' := _) #[true, true, true, true, true, true, true, false, false, false, false, false] rfl rfl (by kernel_rfl) (fun _ _ _ h => h) (.inl ⟨by rfl, ?_⟩) hS rfl ?_
  · rintro w' ⟨n, rfl⟩
    go_simp
  refine Go.Proofs.YtjmlbkbjmeeplabW.PrintLast.take_ (i := 7) (N := some 11) (v := .int .i64 i) (a' := _) #[true, true, true, true, true, true, true, true, false, false, false, false] rfl rfl (by kernel_rfl) (fun _ _ _ h => h) (.inl ⟨by rfl, ?_⟩) hS rfl ?_
  · rintro w' ⟨n, rfl⟩
    go_simp
  refine Go.Proofs.YtjmlbkbjmeeplabW.PrintLast.take_ (i := 8) (N := some 12) (v := .int .i64 j) (a' := _) #[true, true, true, true, true, true, true, true, true, false, false, false] rfl rfl (by kernel_rfl) (fun _ _ _ h => h) (.inl ⟨by rfl, ?_⟩) hS rfl ?_
  · rintro w' ⟨n, rfl⟩
    go_simp
  obtain ⟨u, pv, m, hx⟩ := hx.out
  refine Go.Proofs.YtjmlbkbjmeeplabW.PrintLast.one_ (i := 9) (N := some 13) #[true, true, true, true, true, true, true, true, true, true, false, false] rfl rfl (by kernel_rfl) (by decide) (fun K hK => ?_)
  go_simp
  exact ⟨rfl, .inr ⟨h, ⟨_, _, rfl⟩, _, rfl⟩⟩
theorem slice1_any (row : List Int) (A : Option Addr) (c : Nat) (i j : Int) (bo bl bi bj : Nat) (w0 w : World) (ho : w.heap[bo]? = some (.cells #[.slice none 0 0] 32 (0, 0))) (hl : w.cell? ⟨bl, 0, none⟩ = some (.slice A row.length c))
    (hi : w.cell? ⟨bi, 0, none⟩ = some (.int .i64 i)) (hj : w.cell? ⟨bj, 0, none⟩ = some (.int .i64 j)) (hr : Hid (Kd.C (Kd.int .i64) w A row.length row)) (hc : row.length ≤ c) (hlen : row.length ≤ 17592186044416)
    (hB : Below w0.heap.size w0 w) (hsz : w0.heap.size ≤ w.heap.size) (hbo : w0.heap.size ≤ bo) :
    Calls Try.prog 42 #[.pointer (some ⟨bo, 0, none⟩), .pointer (some ⟨bl, 0, none⟩), .pointer (some ⟨bi, 0, none⟩), .pointer (some ⟨bj, 0, none⟩)] w (Cut row i j bo w0 w) := by
  by_cases h : 0 ≤ i ∧ i ≤ j ∧ j ≤ (row.length : Int)
  · obtain ⟨i, rfl⟩ := Int.eq_ofNat_of_zero_le h.1
    obtain ⟨j, rfl⟩ := Int.eq_ofNat_of_zero_le (by omega : 0 ≤ j)
    exact slice1_some row A c i j bo bl bi bj w0 w ho hl hi hj hr hc hlen (by omega) (by omega) hB hsz hbo
  · exact slice1_none row A c i j bo bl bi bj w0 w (by rw [blk_cell ho]; rfl) hl hi hj hc h

def guard_Slice.f (l0 : List Int) (a1 a2 : Int) : Option (List Int × Bool) := if l0.length ≤ 17592186044416 then some (if 0 ≤ a1 ∧ a1 ≤ a2 ∧ a2 ≤ (l0.length : Int) then ((l0.take a2.toNat).drop a1.toNat, true) else ([], false)) else none
theorem slice_tries (row : List Int) (A : Option Addr) (c : Nat) (i j : Int) (po pl pi pj : Nat) (w0 W : World) (hlen : row.length ≤ 17592186044416) (ho : W.heap[po]? = some (.cells #[.slice none 0 0] 32 (0, 0))) (hl : W.heap[pl]? = some (.cells #[.slice A row.length c] 32 (0, 0)))
    (hi : W.heap[pi]? = some (.cells #[.int .i64 i] 3 (0, 0))) (hj : W.heap[pj]? = some (.cells #[.int .i64 j] 3 (0, 0))) (hr : Kd.C (Kd.int .i64) w0 A row.length row) (hc : row.length ≤ c) (hB : Below w0.heap.size w0 W) (hlo : w0.heap.size ≤ po) (hsz : w0.heap.size ≤ W.heap.size) :
    Calls Try.prog 38 #[.func (.func 42) #[] #[.pointer (some ⟨po, 0, none⟩), .pointer (some ⟨pl, 0, none⟩), .pointer (some ⟨pi, 0, none⟩), .pointer (some ⟨pj, 0, none⟩)]] W fun e w' =>
      ∃ r ok v, guard_Slice.f row i j = some (r, ok) ∧ e = .returned (.bool ok) ∧ w'.heap[po]? = some (.cells #[v] 32 (0, 0)) ∧ w'.ownsRow w0.heap.size 3 1 v r.length (nums .i64 r) ∧ Below w0.heap.size w0 w' := by
  have hlt := blk_lt ho
  have hone : (W.alloc (.cells #[.bool false] 4)).heap[W.heap.size]? = some (.cells #[.bool false] 4 (0, 0)) := heap_alloc_new W _
  have hB1 : Below w0.heap.size w0 (W.alloc (.cells #[.bool false] 4)) := hB.alloc hsz _
  have ho1 := heap_alloc ho (.cells #[.bool false] 4)
  refine (tries_any 42 _ W (Cut row i j po w0 _) (enters Try.func42 rfl rfl) (slice1_any row A c i j po pl pi pj w0 _ ho1 (by rw [blk_cell (heap_alloc hl _)]; rfl) (by rw [blk_cell (heap_alloc hi _)]; rfl) (by rw [blk_cell (heap_alloc hj _)]; rfl) (Lib.hid (Kd.C_below hr hB1)) hc hlen hB1 (by simp; omega) hlo) ?_).mono ?_
  · rintro e w' (⟨_, _, _, rfl, v, _, _, hk, _⟩ | ⟨_, hp, n, rfl⟩)
    · exact ⟨.inl rfl, hk.blk hone (by omega) (by simp)⟩
    · exact ⟨.inr hp, hone⟩
  · rintro e w' ⟨e1, w1, hr, hh⟩
    rcases hr with ⟨g1, g2, g3, rfl, v, hv, hown, hk, hB'⟩ | ⟨hb0, hp, n, rfl⟩
    · rcases hh with ⟨_, rfl, rfl⟩ | ⟨⟨u, pv, hbad⟩, _⟩
      · have hone1 := hk.blk hone (by omega) (by simp)
        exact ⟨_, true, v, by simp only [guard_Slice.f]; rw [if_pos hlen, if_pos ⟨g1, g2, g3⟩], rfl, heap_set hv (by simp; omega) _, own_setCell hown (p := ⟨W.heap.size, 0, none⟩) (own_ne hown hone1 (by decide)) _, hB'.setCell hsz _⟩
      · cases hbad
    · rcases hh with ⟨hbad, _⟩ | ⟨_, rfl, rfl⟩
      · obtain ⟨u, pv, hp⟩ := hp
        rw [hbad] at hp; cases hp
      · exact ⟨[], false, .slice none 0 0, by simp only [guard_Slice.f]; rw [if_pos hlen, if_neg hb0], rfl, heap_set (w := (W.alloc _).drewN n) ho1 (by simp; omega) _, own_nil _ _ _ _, (pw_below_drewN hB1 n).setCell hsz _⟩
theorem guard_Slice.calls (A0 : Option Addr) (c0 : Nat) (l0 : List Int) (a1 a2 : Int) (r1 : List Int) (r2 : Bool) (w : World) (hr0 : Kd.C (Kd.int .i64) w A0 l0.length l0) (hc0 : l0.length ≤ c0) (h : guard_Slice.f l0 a1 a2 = some (r1, r2)) :
    Calls Try.prog 32 #[.slice A0 l0.length c0, .int .i64 a1, .int .i64 a2] w fun e w' => ∃ v0_ : Value, e = .returned (.tuple #[v0_, .bool r2]) ∧ w'.ownsRow w.heap.size 3 1 v0_ r1.length (nums .i64 r1) ∧ Below w.heap.size w w' := by
  have hmf : ∀ (fn : Fn) (first cap : Array Value) (w : World), (Instr.makeFunc fn first cap).run Try.prog w = .ok (.func fn first cap) w := fun _ _ _ _ => rfl
  have hlen : l0.length ≤ 17592186044416 := by
    rcases Nat.lt_or_ge 17592186044416 l0.length with hl | hl
    · unfold guard_Slice.f at h; rw [if_neg (by omega)] at h; cases h
    · exact hl
  have h' := Lib.hid h
  clear h
  have H := Lib.hid (slice_tries l0 A0 c0 a1 a2 (w.heap.size + 1 + 1 + 1) w.heap.size (w.heap.size + 1) (w.heap.size + 1 + 1) w ((((w.alloc (.cells #[.slice A0 l0.length c0] 32)).alloc (.cells #[.int .i64 a1] 3)).alloc (.cells #[.int .i64 a2] 3)).alloc (.cells #[.slice none 0 0] 32)) hlen
    (by simpa using heap_alloc_new (((w.alloc (.cells #[.slice A0 l0.length c0] 32)).alloc (.cells #[.int .i64 a1] 3)).alloc (.cells #[.int .i64 a2] 3)) (.cells #[.slice none 0 0] 32))
    (heap_alloc (heap_alloc (heap_alloc (heap_alloc_new w _) _) _) _) (heap_alloc (heap_alloc (by simpa using heap_alloc_new (w.alloc (.cells #[.slice A0 l0.length c0] 32)) (.cells #[.int .i64 a1] 3)) _) _)
    (heap_alloc (by simpa using heap_alloc_new ((w.alloc (.cells #[.slice A0 l0.length c0] 32)).alloc (.cells #[.int .i64 a1] 3)) (.cells #[.int .i64 a2] 3)) _) hr0 hc0
    (below_alloc (below_alloc (below_alloc (below_alloc (Below.refl _ _) _) _) _) _) (by omega) (by simp; omega))
  clear hr0
  go_enter Try.func32, Try.ntmps32
  go_wp2_with (go_at_call 38; refine H.out.mono ?_; rintro e w1 ⟨r, ok, v, hf, rfl, ho, hown, hB⟩; have hc : w1.cell? ⟨w.heap.size + 1 + 1 + 1, 0, none⟩ = some v := (by rw [blk_cell ho]; rfl); have ho' := Lib.hid ho; have hf' := Lib.hid hf; have hown' := Lib.hid hown; clear ho hf hown)
  go_ret2
  have := hf'.out.symm.trans h'.out
  simp only [Option.some.injEq, Prod.mk.injEq] at this
  obtain ⟨rfl, rfl⟩ := this
  exact ⟨v, rfl, hown'.out, hB⟩

end Go.Proofs.Ytjmlbkbjmeeplab.Guard
