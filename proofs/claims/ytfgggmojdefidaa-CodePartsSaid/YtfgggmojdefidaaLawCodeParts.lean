/- The row of CodeParts, out of its pure statement and its walk: whatever the input, the call returns true, and its arguments read as they did. No condition. Laid by this session's own printer (wip/xlaw.py). -/
import Derived.Test.YtfgggmojdefidaaRows
import Derived.Test.YtfgggmojdefidaaXCodePartsx9
import Derived.Test.YtfgggmojdefidaaPureCodeParts
import Derived.Test.YtfgggmojdefidaaOpen
import Derived.WalkKit
import Derived.ProofKit
import Derived.OpenShut
import Derived.ShutString
import Derived.ChangeOld
import Derived.Below
import Derived.SizedLaws
namespace Go.Proofs.Ytfgggmojdefidaa.codeParts
open Go.ChangeShapes Go.WideShapes Go.ChangeAt Go.RowKit
open Go.ChangeMaps (open_string shut_string)
open Go.Proofs.Ytfgggmojdefidaa.XCodeParts Go.Proofs.YtfgggmojdefidaaW.PrintWords
set_option linter.unusedVariables false
theorem own : ownKnob Try.prog.godebug = none := by kernel_rfl
theorem laidOut : laidOutB Try.prog = true := by kernel_rfl
theorem oT26 : Open.Opens Try.prog 26 XCodeParts.k26 XCodeParts.wfT26 := by
  refine Open.opens_iso (d := (Kd.pair (Kd.int .i64) (Kd.pair (Kd.int .i64) (Kd.pair (Kd.int .i64) (Kd.pair (Kd.int .i64) (Kd.slice 5 (Kd.int .u8))))))) (wf := fun x => (Lit.int .i64 x.1).wf = true ∧ (Lit.int .i64 x.2.1).wf = true ∧ (Lit.int .i64 x.2.2.1).wf = true ∧ (Lit.int .i64 x.2.2.2.1).wf = true ∧ (x.2.2.2.2.length ≤ maxLen ∧ ∀ x0_ ∈ x.2.2.2.2, (Lit.int .u8 x0_).wf = true)) (f := fun x : S26 => (x.f0, x.f1, x.f2, x.f3, x.f4)) (fun x => ⟨x.1, x.2.1, x.2.2.1, x.2.2.2.1, x.2.2.2.2⟩) (fun _ => rfl) ?_
  refine Open.opens_struct Try.underlying26 (l := [_, _, _, _, _]) rfl (by kernel_rfl) ?_
  refine Open.fields_cons (d := (Kd.int .i64)) (d2 := (Kd.pair (Kd.int .i64) (Kd.pair (Kd.int .i64) (Kd.pair (Kd.int .i64) (Kd.slice 5 (Kd.int .u8)))))) (wf := fun (x : Int) => (Lit.int .i64 x).wf = true) (wf2 := fun (x : (Int) × (Int) × (Int) × (List Int)) => (Lit.int .i64 x.1).wf = true ∧ (Lit.int .i64 x.2.1).wf = true ∧ (Lit.int .i64 x.2.2.1).wf = true ∧ (x.2.2.2.length ≤ maxLen ∧ ∀ x0_ ∈ x.2.2.2, (Lit.int .u8 x0_).wf = true)) (by rfl) (by rfl) (by kernel_rfl) ?_ ?_
  · exact (Open.opens_int Try.underlying3)
  refine Open.fields_cons (d := (Kd.int .i64)) (d2 := (Kd.pair (Kd.int .i64) (Kd.pair (Kd.int .i64) (Kd.slice 5 (Kd.int .u8))))) (wf := fun (x : Int) => (Lit.int .i64 x).wf = true) (wf2 := fun (x : (Int) × (Int) × (List Int)) => (Lit.int .i64 x.1).wf = true ∧ (Lit.int .i64 x.2.1).wf = true ∧ (x.2.2.length ≤ maxLen ∧ ∀ x0_ ∈ x.2.2, (Lit.int .u8 x0_).wf = true)) (by rfl) (by rfl) (by kernel_rfl) ?_ ?_
  · exact (Open.opens_int Try.underlying3)
  refine Open.fields_cons (d := (Kd.int .i64)) (d2 := (Kd.pair (Kd.int .i64) (Kd.slice 5 (Kd.int .u8)))) (wf := fun (x : Int) => (Lit.int .i64 x).wf = true) (wf2 := fun (x : (Int) × (List Int)) => (Lit.int .i64 x.1).wf = true ∧ (x.2.length ≤ maxLen ∧ ∀ x0_ ∈ x.2, (Lit.int .u8 x0_).wf = true)) (by rfl) (by rfl) (by kernel_rfl) ?_ ?_
  · exact (Open.opens_int Try.underlying3)
  refine Open.fields_cons (d := (Kd.int .i64)) (d2 := (Kd.slice 5 (Kd.int .u8))) (wf := fun (x : Int) => (Lit.int .i64 x).wf = true) (wf2 := fun (x : (List Int)) => (x.length ≤ maxLen ∧ ∀ x0_ ∈ x, (Lit.int .u8 x0_).wf = true)) (by rfl) (by rfl) (by kernel_rfl) ?_ ?_
  · exact (Open.opens_int Try.underlying3)
  refine Open.fields_one (wf := fun (x : List Int) => (x.length ≤ maxLen ∧ ∀ x0_ ∈ x, (Lit.int .u8 x0_).wf = true)) (by rfl) (by kernel_rfl) ?_
  exact (Open.opens_slice Try.underlying22 (by kernel_rfl) (Open.opens_int Try.underlying5))
set_option maxRecDepth 100000 in
theorem lifted (os : Os) (started : os.Started) (H : Type) (enc : TypeId × Value → H) :
    ReturnsInHanded {} Try.checked os 5 .any (Rows.codePartsSpec.pre6 enc Try.prog Try.f5 Rows.codePartsRow.domain false) (Rows.codePartsSpec.post enc Try.prog Try.f5 false true false false) := by
  refine returnsInHanded_of_change_sized (C := Try.checked) own started (by kernel_rfl) Try.func5
    (ChangeSpec.witness6 (enc := enc) (C := Try.checked) false ⟨#[], #[.slice none 0 0, .slice none 0 0], []⟩ 8 (by kernel_rfl) (by kernel_rfl) (by kernel_rfl) (by kernel_rfl)) ?_
  intro W base args ds gs before hval0 hW hcnd hsz0 _
  have hsz : (DataW.weightsEach Try.prog (Try.f5.params.toList ++ Rows.codePartsSpec.plain.varTypes Try.prog) (ds ++ gs)).all (· ≤ reachBytes) = true := hsz0
  have hval : ∀ (j : Nat) t v, Try.f5.params[j]? = some t → args[j]? = some v → Value.okWide Try.prog W .any base t v := hval0
  have hW' := hW
  obtain ⟨p, q, hA0, hV, rfl, hfz, hnd⟩ := hW
  have hA : DataW.TrodAll enc Try.prog W 0 (fun _ => true) true Try.f5.params.toList args.toList ds p := hA0
  rw [Try.params5] at hA hval hsz
  obtain ⟨v0, vs0, d0, ds0, p0, q0, hargs, rfl, rfl, h0, r0⟩ := trodAll_cons hA
  obtain ⟨v1, vs1, d1, ds1, p1, q1, rfl, rfl, rfl, h1, r1⟩ := trodAll_cons r0
  obtain ⟨rfl, rfl, rfl⟩ := trodAll_nil r1
  obtain rfl : args = #[v0, v1] := by cases args; simp_all
  obtain ⟨rfl, rfl⟩ := trodVars_none hV
  obtain ⟨A0, len0, c0, rfl⟩ := okWide_slice Try.underlying23 (hval 0 23 v0 rfl rfl)
  have k0 := h0
  have lt0 : ∀ x ∈ p0, x.block < W.heap.size := by obtain ⟨m, hm⟩ := h0; exact DataW.trod_lt m _ _ _ hm
  have y0 := Open.sized_len hsz (j := 0) (t := 23) rfl rfl Try.underlying23 (B := 56) (by kernel_rfl) h0
  obtain ⟨l0, rfl, hc0, hr0, hm0, hw0⟩ := Open.slice_arg (e := 26) (Open.opens_slice Try.underlying23 (by kernel_rfl) oT26) h0
  obtain ⟨A1, len1, c1, rfl⟩ := okWide_slice Try.underlying22 (hval 1 22 v1 rfl rfl)
  have k1 := h1
  have lt1 : ∀ x ∈ p1, x.block < W.heap.size := by obtain ⟨m, hm⟩ := h1; exact DataW.trod_lt m _ _ _ hm
  have y1 := Open.sized_len hsz (j := 1) (t := 22) rfl rfl Try.underlying22 (B := 1) (by kernel_rfl) h1
  obtain ⟨l1, rfl, hc1, hr1, hm1, hw1⟩ := Open.slice_arg (e := 5) (Open.opens_slice Try.underlying22 (by kernel_rfl) (Open.opens_int Try.underlying5)) h1
  clear hA0 hval0 hsz0 hsz
  refine (XCodeParts.darninglaw23_CodeParts.walk Pure.CodeParts A0 c0 l0 A1 c1 l1 W hr0 hc0 hr1 hc1 hm0 y0 hw0 hm1 y1 hw1).mono fun e W' ⟨he, bel⟩ => ?_
  subst he
  exact ⟨_, rfl, _, _, _, [], _, [], hW', trodAll_mk1 (shut_bool Try.underlying4 _), (trodAll_cons_mk (Below.trod laidOut (by kernel_rfl) (of_decide_eq_true (by kernel_rfl)) k0 bel lt0) (trodAll_cons_mk (Below.trod laidOut (by kernel_rfl) (of_decide_eq_true (by kernel_rfl)) k1 bel lt1) trodAll_mk0)), rfl, bel.frame _, fun h => by cases h⟩
theorem over : Rows.codePartsRow.holds Try.pinned (OpenSpec.ofChange Rows.codePartsSpec) :=
  OpenClaim.holds_of_wide 5 Try.f5 rfl rfl rfl rfl rfl rfl rfl ⟨rfl, rfl, rfl, rfl, rfl⟩ rfl rfl rfl rfl rfl (by kernel_rfl) Try.func5 (by kernel_rfl)
    (of_decide_eq_true (by kernel_rfl)) (by unfold Func.isWrapper; first | (rw [if_pos (by decide +kernel)]; kernel_rfl) | (rw [if_neg (by decide +kernel)]; exact ⟨rfl, rfl⟩))
    (fun os started H enc _ => lifted os started H enc)
theorem proved : Rows.CodePartsSaid := over
#print axioms proved
end Go.Proofs.Ytfgggmojdefidaa.codeParts
namespace Go.Proofs.Ytfgggmojdefidaa
/-- The row, under a short name, for the claim. -/
theorem codeParts_holds : Rows.CodePartsSaid := codeParts.proved
end Go.Proofs.Ytfgggmojdefidaa
