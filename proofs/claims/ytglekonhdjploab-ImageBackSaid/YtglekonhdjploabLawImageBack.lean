/- The row of ImageBack, out of its pure statement and its walk: whatever the input, the call returns true, and its arguments read as they did. No condition. Laid by this session's own printer (wip/xlaw.py). -/
import Derived.Test.YtglekonhdjploabRows
import Derived.Test.YtglekonhdjploabXImageBackx14
import Derived.Test.YtglekonhdjploabPureImageBack
import Derived.Test.YtglekonhdjploabOpen
import Derived.WalkKit
import Derived.ProofKit
import Derived.OpenShut
import Derived.ShutString
import Derived.ChangeOld
import Derived.Below
import Derived.SizedLaws
namespace Go.Proofs.Ytglekonhdjploab.imageBack
open Go.ChangeShapes Go.WideShapes Go.ChangeAt Go.RowKit
open Go.ChangeMaps (open_string shut_string)
open Go.Proofs.Ytglekonhdjploab.XImageBack Go.Proofs.YtglekonhdjploabW.PrintWords
set_option linter.unusedVariables false
theorem own : ownKnob Try.prog.godebug = none := by kernel_rfl
theorem laidOut : laidOutB Try.prog = true := by kernel_rfl
theorem oT45 : Open.Opens Try.prog 45 XImageBack.k45 XImageBack.wfT45 := by
  refine Open.opens_iso (d := (Kd.pair (Kd.int .i64) (Kd.pair (Kd.int .i64) Kd.bool))) (wf := fun x => (Lit.int .i64 x.1).wf = true ∧ (Lit.int .i64 x.2.1).wf = true ∧ True) (f := fun x : S45 => (x.f0, x.f1, x.f2)) (fun x => ⟨x.1, x.2.1, x.2.2⟩) (fun _ => rfl) ?_
  refine Open.opens_struct Try.underlying45 (l := [_, _, _]) rfl (by kernel_rfl) ?_
  refine Open.fields_cons (d := (Kd.int .i64)) (d2 := (Kd.pair (Kd.int .i64) Kd.bool)) (wf := fun (x : Int) => (Lit.int .i64 x).wf = true) (wf2 := fun (x : (Int) × (Bool)) => (Lit.int .i64 x.1).wf = true ∧ True) (by rfl) (by rfl) (by kernel_rfl) ?_ ?_
  · exact (Open.opens_int Try.underlying3)
  refine Open.fields_cons (d := (Kd.int .i64)) (d2 := Kd.bool) (wf := fun (x : Int) => (Lit.int .i64 x).wf = true) (wf2 := fun (x : (Bool)) => True) (by rfl) (by rfl) (by kernel_rfl) ?_ ?_
  · exact (Open.opens_int Try.underlying3)
  refine Open.fields_one (wf := fun (x : Bool) => True) (by rfl) (by kernel_rfl) ?_
  exact (Open.opens_bool Try.underlying4)
set_option maxRecDepth 100000 in
theorem lifted (os : Os) (started : os.Started) (H : Type) (enc : TypeId × Value → H) :
    ReturnsInHanded {} Try.checked os 3 .any (Rows.imageBackSpec.pre6 enc Try.prog Try.f3 Rows.imageBackRow.domain false) (Rows.imageBackSpec.post enc Try.prog Try.f3 false true false false) := by
  refine returnsInHanded_of_change_sized (C := Try.checked) own started (by kernel_rfl) Try.func3
    (ChangeSpec.witness6 (enc := enc) (C := Try.checked) false ⟨#[], #[.slice none 0 0, .int .i64 0, .int .i64 0, .slice none 0 0], []⟩ 8 (by kernel_rfl) (by kernel_rfl) (by kernel_rfl) (by kernel_rfl)) ?_
  intro W base args ds gs before hval0 hW hcnd hsz0 _
  have hsz : (DataW.weightsEach Try.prog (Try.f3.params.toList ++ Rows.imageBackSpec.plain.varTypes Try.prog) (ds ++ gs)).all (· ≤ reachBytes) = true := hsz0
  have hval : ∀ (j : Nat) t v, Try.f3.params[j]? = some t → args[j]? = some v → Value.okWide Try.prog W .any base t v := hval0
  have hW' := hW
  obtain ⟨p, q, hA0, hV, rfl, hfz, hnd⟩ := hW
  have hA : DataW.TrodAll enc Try.prog W 0 (fun _ => true) true Try.f3.params.toList args.toList ds p := hA0
  rw [Try.params3] at hA hval hsz
  obtain ⟨v0, vs0, d0, ds0, p0, q0, hargs, rfl, rfl, h0, r0⟩ := trodAll_cons hA
  obtain ⟨v1, vs1, d1, ds1, p1, q1, rfl, rfl, rfl, h1, r1⟩ := trodAll_cons r0
  obtain ⟨v2, vs2, d2, ds2, p2, q2, rfl, rfl, rfl, h2, r2⟩ := trodAll_cons r1
  obtain ⟨v3, vs3, d3, ds3, p3, q3, rfl, rfl, rfl, h3, r3⟩ := trodAll_cons r2
  obtain ⟨rfl, rfl, rfl⟩ := trodAll_nil r3
  obtain rfl : args = #[v0, v1, v2, v3] := by cases args; simp_all
  obtain ⟨rfl, rfl⟩ := trodVars_none hV
  obtain ⟨A0, len0, c0, rfl⟩ := okWide_slice Try.underlying22 (hval 0 22 v0 rfl rfl)
  have k0 := h0
  have lt0 : ∀ x ∈ p0, x.block < W.heap.size := by obtain ⟨m, hm⟩ := h0; exact DataW.trod_lt m _ _ _ hm
  have y0 := Open.sized_len hsz (j := 0) (t := 22) rfl rfl Try.underlying22 (B := 24) (by kernel_rfl) h0
  obtain ⟨l0, rfl, hc0, hr0, hm0, hw0⟩ := Open.slice_arg (e := 45) (Open.opens_slice Try.underlying22 (by kernel_rfl) oT45) h0
  obtain ⟨a1, rfl, rfl, rfl, w1⟩ := open_int Try.underlying3 (hval 1 3 v1 rfl rfl) h1
  obtain ⟨a2, rfl, rfl, rfl, w2⟩ := open_int Try.underlying3 (hval 2 3 v2 rfl rfl) h2
  obtain ⟨A3, len3, c3, rfl⟩ := okWide_slice Try.underlying23 (hval 3 23 v3 rfl rfl)
  have k3 := h3
  have lt3 : ∀ x ∈ p3, x.block < W.heap.size := by obtain ⟨m, hm⟩ := h3; exact DataW.trod_lt m _ _ _ hm
  have y3 := Open.sized_len hsz (j := 3) (t := 23) rfl rfl Try.underlying23 (B := 8) (by kernel_rfl) h3
  obtain ⟨l3, rfl, hc3, hr3, hm3, hw3⟩ := Open.slice_arg (e := 3) (Open.opens_slice Try.underlying23 (by kernel_rfl) (Open.opens_int Try.underlying3)) h3
  clear hA0 hval0 hsz0 hsz
  refine (XImageBack.darninglaw19_ImageBack.walk Pure.ImageBack A0 c0 l0 a1 a2 A3 c3 l3 W hr0 hc0 hr3 hc3 hm0 y0 hw0 w1 w2 hm3 y3 hw3).mono fun e W' ⟨he, bel⟩ => ?_
  subst he
  exact ⟨_, rfl, _, _, _, [], _, [], hW', trodAll_mk1 (shut_bool Try.underlying4 _), (trodAll_cons_mk (Below.trod laidOut (by kernel_rfl) (of_decide_eq_true (by kernel_rfl)) k0 bel lt0) (trodAll_cons_mk (shut_int Try.underlying3 w1) (trodAll_cons_mk (shut_int Try.underlying3 w2) (trodAll_cons_mk (Below.trod laidOut (by kernel_rfl) (of_decide_eq_true (by kernel_rfl)) k3 bel lt3) trodAll_mk0)))), rfl, bel.frame _, fun h => by cases h⟩
theorem over : Rows.imageBackRow.holds Try.pinned (OpenSpec.ofChange Rows.imageBackSpec) :=
  OpenClaim.holds_of_wide 3 Try.f3 rfl rfl rfl rfl rfl rfl rfl ⟨rfl, rfl, rfl, rfl, rfl⟩ rfl rfl rfl rfl rfl (by kernel_rfl) Try.func3 (by kernel_rfl)
    (of_decide_eq_true (by kernel_rfl)) (by unfold Func.isWrapper; first | (rw [if_pos (by decide +kernel)]; kernel_rfl) | (rw [if_neg (by decide +kernel)]; exact ⟨rfl, rfl⟩))
    (fun os started H enc _ => lifted os started H enc)
theorem proved : Rows.ImageBackSaid := over
#print axioms proved
end Go.Proofs.Ytglekonhdjploab.imageBack
namespace Go.Proofs.Ytglekonhdjploab
/-- The row, under a short name, for the claim. -/
theorem imageBack_holds : Rows.ImageBackSaid := imageBack.proved
end Go.Proofs.Ytglekonhdjploab
