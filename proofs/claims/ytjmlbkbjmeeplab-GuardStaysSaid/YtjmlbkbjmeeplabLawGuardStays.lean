/- The row of GuardStays, out of its pure statement and its walk: whatever the input, the call returns true, and its arguments read as they did. No condition. Laid by this session's own printer (wip/xlaw.py). -/
import Derived.Test.YtjmlbkbjmeeplabRows
import Derived.Test.YtjmlbkbjmeeplabXGuardStaysx1
import Derived.Test.YtjmlbkbjmeeplabPureGuardStays
import Derived.Test.YtjmlbkbjmeeplabOpen
import Derived.WalkKit
import Derived.ProofKit
import Derived.OpenShut
import Derived.ShutString
import Derived.ChangeOld
import Derived.Below
import Derived.SizedLaws
namespace Go.Proofs.Ytjmlbkbjmeeplab.guardStays
open Go.ChangeShapes Go.WideShapes Go.ChangeAt Go.RowKit
open Go.ChangeMaps (open_string shut_string)
open Go.Proofs.Ytjmlbkbjmeeplab.XGuardStays Go.Proofs.YtjmlbkbjmeeplabW.PrintWords
set_option linter.unusedVariables false
theorem own : ownKnob Try.prog.godebug = none := by kernel_rfl
theorem laidOut : laidOutB Try.prog = true := by kernel_rfl
theorem oT50 : Open.Opens Try.prog 50 XGuardStays.k50 XGuardStays.wfT50 := by
  refine Open.opens_iso (d := (Kd.pair (Kd.int .i64) (Kd.int .i64))) (wf := fun x => (Lit.int .i64 x.1).wf = true ∧ (Lit.int .i64 x.2).wf = true) (f := fun x : S50 => (x.f0, x.f1)) (fun x => ⟨x.1, x.2⟩) (fun _ => rfl) ?_
  refine Open.opens_struct Try.underlying50 (l := [_, _]) rfl (by kernel_rfl) ?_
  refine Open.fields_cons (d := (Kd.int .i64)) (d2 := (Kd.int .i64)) (wf := fun (x : Int) => (Lit.int .i64 x).wf = true) (wf2 := fun (x : (Int)) => (Lit.int .i64 x).wf = true) (by rfl) (by rfl) (by kernel_rfl) ?_ ?_
  · exact (Open.opens_int Try.underlying3)
  refine Open.fields_one (wf := fun (x : Int) => (Lit.int .i64 x).wf = true) (by rfl) (by kernel_rfl) ?_
  exact (Open.opens_int Try.underlying3)
set_option maxRecDepth 100000 in
theorem lifted (os : Os) (started : os.Started) (H : Type) (enc : TypeId × Value → H) :
    ReturnsInHanded {} Try.checked os 9 .any (Rows.guardStaysSpec.pre6 enc Try.prog Try.f9 Rows.guardStaysRow.domain false) (Rows.guardStaysSpec.post enc Try.prog Try.f9 false true false false) := by
  refine returnsInHanded_of_change_sized (C := Try.checked) own started (by kernel_rfl) Try.func9
    (ChangeSpec.witness6 (enc := enc) (C := Try.checked) false ⟨#[], #[.slice none 0 0, .slice none 0 0, .slice none 0 0], []⟩ 8 (by kernel_rfl) (by kernel_rfl) (by kernel_rfl) (by kernel_rfl)) ?_
  intro W base args ds gs before hval0 hW hcnd hsz0 _
  have hsz : (DataW.weightsEach Try.prog (Try.f9.params.toList ++ Rows.guardStaysSpec.plain.varTypes Try.prog) (ds ++ gs)).all (· ≤ reachBytes) = true := hsz0
  have hval : ∀ (j : Nat) t v, Try.f9.params[j]? = some t → args[j]? = some v → Value.okWide Try.prog W .any base t v := hval0
  have hW' := hW
  obtain ⟨p, q, hA0, hV, rfl, hfz, hnd⟩ := hW
  have hA : DataW.TrodAll enc Try.prog W 0 (fun _ => true) true Try.f9.params.toList args.toList ds p := hA0
  rw [Try.params9] at hA hval hsz
  obtain ⟨v0, vs0, d0, ds0, p0, q0, hargs, rfl, rfl, h0, r0⟩ := trodAll_cons hA
  obtain ⟨v1, vs1, d1, ds1, p1, q1, rfl, rfl, rfl, h1, r1⟩ := trodAll_cons r0
  obtain ⟨v2, vs2, d2, ds2, p2, q2, rfl, rfl, rfl, h2, r2⟩ := trodAll_cons r1
  obtain ⟨rfl, rfl, rfl⟩ := trodAll_nil r2
  obtain rfl : args = #[v0, v1, v2] := by cases args; simp_all
  obtain ⟨rfl, rfl⟩ := trodVars_none hV
  obtain ⟨A0, len0, c0, rfl⟩ := okWide_slice Try.underlying32 (hval 0 32 v0 rfl rfl)
  have k0 := h0
  have lt0 : ∀ x ∈ p0, x.block < W.heap.size := by obtain ⟨m, hm⟩ := h0; exact DataW.trod_lt m _ _ _ hm
  have y0 := Open.sized_len hsz (j := 0) (t := 32) rfl rfl Try.underlying32 (B := 8) (by kernel_rfl) h0
  obtain ⟨l0, rfl, hc0, hr0, hm0, hw0⟩ := Open.slice_arg (e := 3) (Open.opens_slice Try.underlying32 (by kernel_rfl) (Open.opens_int Try.underlying3)) h0
  obtain ⟨A1, len1, c1, rfl⟩ := okWide_slice Try.underlying44 (hval 1 44 v1 rfl rfl)
  have k1 := h1
  have lt1 : ∀ x ∈ p1, x.block < W.heap.size := by obtain ⟨m, hm⟩ := h1; exact DataW.trod_lt m _ _ _ hm
  have y1 := Open.sized_len hsz (j := 1) (t := 44) rfl rfl Try.underlying44 (B := 16) (by kernel_rfl) h1
  obtain ⟨l1, rfl, hc1, hr1, hm1, hw1⟩ := Open.slice_arg (e := 50) (Open.opens_slice Try.underlying44 (by kernel_rfl) oT50) h1
  obtain ⟨A2, len2, c2, rfl⟩ := okWide_slice Try.underlying44 (hval 2 44 v2 rfl rfl)
  have k2 := h2
  have lt2 : ∀ x ∈ p2, x.block < W.heap.size := by obtain ⟨m, hm⟩ := h2; exact DataW.trod_lt m _ _ _ hm
  have y2 := Open.sized_len hsz (j := 2) (t := 44) rfl rfl Try.underlying44 (B := 16) (by kernel_rfl) h2
  obtain ⟨l2, rfl, hc2, hr2, hm2, hw2⟩ := Open.slice_arg (e := 50) (Open.opens_slice Try.underlying44 (by kernel_rfl) oT50) h2
  clear hA0 hval0 hsz0 hsz
  refine (XGuardStays.darninglaw3_GuardStays.walk Pure.GuardStays A0 c0 l0 A1 c1 l1 A2 c2 l2 W hr0 hc0 hr1 hc1 hr2 hc2 hm0 y0 hw0 hm1 y1 hw1 hm2 y2 hw2).mono fun e W' ⟨he, bel⟩ => ?_
  subst he
  exact ⟨_, rfl, _, _, _, [], _, [], hW', trodAll_mk1 (shut_bool Try.underlying4 _), (trodAll_cons_mk (Below.trod laidOut (by kernel_rfl) (of_decide_eq_true (by kernel_rfl)) k0 bel lt0) (trodAll_cons_mk (Below.trod laidOut (by kernel_rfl) (of_decide_eq_true (by kernel_rfl)) k1 bel lt1) (trodAll_cons_mk (Below.trod laidOut (by kernel_rfl) (of_decide_eq_true (by kernel_rfl)) k2 bel lt2) trodAll_mk0))), rfl, bel.frame _, fun h => by cases h⟩
theorem over : Rows.guardStaysRow.holds Try.pinned (OpenSpec.ofChange Rows.guardStaysSpec) :=
  OpenClaim.holds_of_wide 9 Try.f9 rfl rfl rfl rfl rfl rfl rfl ⟨rfl, rfl, rfl, rfl, rfl⟩ rfl rfl rfl rfl rfl (by kernel_rfl) Try.func9 (by kernel_rfl)
    (of_decide_eq_true (by kernel_rfl)) (by unfold Func.isWrapper; first | (rw [if_pos (by decide +kernel)]; kernel_rfl) | (rw [if_neg (by decide +kernel)]; exact ⟨rfl, rfl⟩))
    (fun os started H enc _ => lifted os started H enc)
theorem proved : Rows.GuardStaysSaid := over
#print axioms proved
end Go.Proofs.Ytjmlbkbjmeeplab.guardStays
namespace Go.Proofs.Ytjmlbkbjmeeplab
/-- The row, under a short name, for the claim. -/
theorem guardStays_holds : Rows.GuardStaysSaid := guardStays.proved
end Go.Proofs.Ytjmlbkbjmeeplab
