/- The row of CarveEdited, out of its pure statement and its walk: whatever the input, the call returns true, and its arguments read as they did. No condition. Laid by this session's own printer (wip/xlaw.py). -/
import Derived.Test.YtglekonhdjploaaRows
import Derived.Test.YtglekonhdjploaaXCarveEditedx7
import Derived.Test.YtglekonhdjploaaPureCarveEdited
import Derived.Test.YtglekonhdjploaaOpen
import Derived.WalkKit
import Derived.ProofKit
import Derived.OpenShut
import Derived.ShutString
import Derived.ChangeOld
import Derived.Below
import Derived.SizedLaws
namespace Go.Proofs.Ytglekonhdjploaa.carveEdited
open Go.ChangeShapes Go.WideShapes Go.ChangeAt Go.RowKit
open Go.ChangeMaps (open_string shut_string)
open Go.Proofs.Ytglekonhdjploaa.XCarveEdited Go.Proofs.YtglekonhdjploaaW.PrintWords
set_option linter.unusedVariables false
theorem own : ownKnob Try.prog.godebug = none := by kernel_rfl
theorem laidOut : laidOutB Try.prog = true := by kernel_rfl
theorem oT35 : Open.Opens Try.prog 35 XCarveEdited.k35 XCarveEdited.wfT35 := by
  refine Open.opens_iso (d := (Kd.pair (Kd.int .i64) (Kd.pair (Kd.int .i64) Kd.bool))) (wf := fun x => (Lit.int .i64 x.1).wf = true ∧ (Lit.int .i64 x.2.1).wf = true ∧ True) (f := fun x : S35 => (x.f0, x.f1, x.f2)) (fun x => ⟨x.1, x.2.1, x.2.2⟩) (fun _ => rfl) ?_
  refine Open.opens_struct Try.underlying35 (l := [_, _, _]) rfl (by kernel_rfl) ?_
  refine Open.fields_cons (d := (Kd.int .i64)) (d2 := (Kd.pair (Kd.int .i64) Kd.bool)) (wf := fun (x : Int) => (Lit.int .i64 x).wf = true) (wf2 := fun (x : (Int) × (Bool)) => (Lit.int .i64 x.1).wf = true ∧ True) (by rfl) (by rfl) (by kernel_rfl) ?_ ?_
  · exact (Open.opens_int Try.underlying3)
  refine Open.fields_cons (d := (Kd.int .i64)) (d2 := Kd.bool) (wf := fun (x : Int) => (Lit.int .i64 x).wf = true) (wf2 := fun (x : (Bool)) => True) (by rfl) (by rfl) (by kernel_rfl) ?_ ?_
  · exact (Open.opens_int Try.underlying3)
  refine Open.fields_one (wf := fun (x : Bool) => True) (by rfl) (by kernel_rfl) ?_
  exact (Open.opens_bool Try.underlying4)
set_option maxRecDepth 100000 in
theorem lifted (os : Os) (started : os.Started) (H : Type) (enc : TypeId × Value → H) :
    ReturnsInHanded {} Try.checked os 10 .any (Rows.carveEditedSpec.pre6 enc Try.prog Try.f10 Rows.carveEditedRow.domain false) (Rows.carveEditedSpec.post enc Try.prog Try.f10 false true false false) := by
  refine returnsInHanded_of_change_sized (C := Try.checked) own started (by kernel_rfl) Try.func10
    (ChangeSpec.witness6 (enc := enc) (C := Try.checked) false ⟨#[], #[.slice none 0 0, .int .i64 0, .int .i64 0, .int .i64 0, .int .u64 0], []⟩ 8 (by kernel_rfl) (by kernel_rfl) (by kernel_rfl) (by kernel_rfl)) ?_
  intro W base args ds gs before hval0 hW hcnd hsz0 _
  have hsz : (DataW.weightsEach Try.prog (Try.f10.params.toList ++ Rows.carveEditedSpec.plain.varTypes Try.prog) (ds ++ gs)).all (· ≤ reachBytes) = true := hsz0
  have hval : ∀ (j : Nat) t v, Try.f10.params[j]? = some t → args[j]? = some v → Value.okWide Try.prog W .any base t v := hval0
  have hW' := hW
  obtain ⟨p, q, hA0, hV, rfl, hfz, hnd⟩ := hW
  have hA : DataW.TrodAll enc Try.prog W 0 (fun _ => true) true Try.f10.params.toList args.toList ds p := hA0
  rw [Try.params10] at hA hval hsz
  obtain ⟨v0, vs0, d0, ds0, p0, q0, hargs, rfl, rfl, h0, r0⟩ := trodAll_cons hA
  obtain ⟨v1, vs1, d1, ds1, p1, q1, rfl, rfl, rfl, h1, r1⟩ := trodAll_cons r0
  obtain ⟨v2, vs2, d2, ds2, p2, q2, rfl, rfl, rfl, h2, r2⟩ := trodAll_cons r1
  obtain ⟨v3, vs3, d3, ds3, p3, q3, rfl, rfl, rfl, h3, r3⟩ := trodAll_cons r2
  obtain ⟨v4, vs4, d4, ds4, p4, q4, rfl, rfl, rfl, h4, r4⟩ := trodAll_cons r3
  obtain ⟨rfl, rfl, rfl⟩ := trodAll_nil r4
  obtain rfl : args = #[v0, v1, v2, v3, v4] := by cases args; simp_all
  obtain ⟨rfl, rfl⟩ := trodVars_none hV
  obtain ⟨A0, len0, c0, rfl⟩ := okWide_slice Try.underlying22 (hval 0 22 v0 rfl rfl)
  have k0 := h0
  have lt0 : ∀ x ∈ p0, x.block < W.heap.size := by obtain ⟨m, hm⟩ := h0; exact DataW.trod_lt m _ _ _ hm
  have y0 := Open.sized_len hsz (j := 0) (t := 22) rfl rfl Try.underlying22 (B := 24) (by kernel_rfl) h0
  obtain ⟨l0, rfl, hc0, hr0, hm0, hw0⟩ := Open.slice_arg (e := 35) (Open.opens_slice Try.underlying22 (by kernel_rfl) oT35) h0
  obtain ⟨a1, rfl, rfl, rfl, w1⟩ := open_int Try.underlying3 (hval 1 3 v1 rfl rfl) h1
  obtain ⟨a2, rfl, rfl, rfl, w2⟩ := open_int Try.underlying3 (hval 2 3 v2 rfl rfl) h2
  obtain ⟨a3, rfl, rfl, rfl, w3⟩ := open_int Try.underlying3 (hval 3 3 v3 rfl rfl) h3
  obtain ⟨a4, rfl, rfl, rfl, w4⟩ := open_int Try.underlying28 (hval 4 28 v4 rfl rfl) h4
  clear hA0 hval0 hsz0 hsz
  refine (XCarveEdited.darninglaw16_CarveEdited.walk Pure.CarveEdited A0 c0 l0 a1 a2 a3 a4 W hr0 hc0 hm0 y0 hw0 w1 w2 w3 w4).mono fun e W' ⟨he, bel⟩ => ?_
  subst he
  exact ⟨_, rfl, _, _, _, [], _, [], hW', trodAll_mk1 (shut_bool Try.underlying4 _), (trodAll_cons_mk (Below.trod laidOut (by kernel_rfl) (of_decide_eq_true (by kernel_rfl)) k0 bel lt0) (trodAll_cons_mk (shut_int Try.underlying3 w1) (trodAll_cons_mk (shut_int Try.underlying3 w2) (trodAll_cons_mk (shut_int Try.underlying3 w3) (trodAll_cons_mk (shut_int Try.underlying28 w4) trodAll_mk0))))), rfl, bel.frame _, fun h => by cases h⟩
theorem over : Rows.carveEditedRow.holds Try.pinned (OpenSpec.ofChange Rows.carveEditedSpec) :=
  OpenClaim.holds_of_wide 10 Try.f10 rfl rfl rfl rfl rfl rfl rfl ⟨rfl, rfl, rfl, rfl, rfl⟩ rfl rfl rfl rfl rfl (by kernel_rfl) Try.func10 (by kernel_rfl)
    (of_decide_eq_true (by kernel_rfl)) (by unfold Func.isWrapper; first | (rw [if_pos (by decide +kernel)]; kernel_rfl) | (rw [if_neg (by decide +kernel)]; exact ⟨rfl, rfl⟩))
    (fun os started H enc _ => lifted os started H enc)
theorem proved : Rows.CarveEditedSaid := over
#print axioms proved
end Go.Proofs.Ytglekonhdjploaa.carveEdited
namespace Go.Proofs.Ytglekonhdjploaa
/-- The row, under a short name, for the claim. -/
theorem carveEdited_holds : Rows.CarveEditedSaid := carveEdited.proved
end Go.Proofs.Ytglekonhdjploaa
