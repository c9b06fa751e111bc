/- The row of CodeEach, out of its pure statement and its walk: whatever the input, the call returns true, and its arguments read as they did. No condition. Laid by this session's own printer (wip/xlaw.py). -/
import Derived.Test.YtfgggmojdefidaaRows
import Derived.Test.YtfgggmojdefidaaXCodeEachx8
import Derived.Test.YtfgggmojdefidaaPureCodeEach
import Derived.Test.YtfgggmojdefidaaOpen
import Derived.WalkKit
import Derived.ProofKit
import Derived.OpenShut
import Derived.ShutString
import Derived.ChangeOld
import Derived.Below
import Derived.SizedLaws
namespace Go.Proofs.Ytfgggmojdefidaa.codeEach
open Go.ChangeShapes Go.WideShapes Go.ChangeAt Go.RowKit
open Go.ChangeMaps (open_string shut_string)
open Go.Proofs.Ytfgggmojdefidaa.XCodeEach Go.Proofs.YtfgggmojdefidaaW.PrintWords
set_option linter.unusedVariables false
theorem own : ownKnob Try.prog.godebug = none := by kernel_rfl
theorem laidOut : laidOutB Try.prog = true := by kernel_rfl
theorem oT26 : Open.Opens Try.prog 26 XCodeEach.k26 XCodeEach.wfT26 := by
  refine Open.opens_iso (d := (Kd.pair (Kd.int .i64) (Kd.pair (Kd.int .i64) (Kd.pair (Kd.int .i64) (Kd.pair (Kd.int .i64) (Kd.slice 5 (Kd.int .u8))))))) (wf := fun x => (Lit.int .i64 x.1).wf = true ∧ (Lit.int .i64 x.2.1).wf = true ∧ (Lit.int .i64 x.2.2.1).wf = true ∧ (Lit.int .i64 x.2.2.2.1).wf = true ∧ (x.2.2.2.2.length ≤ maxLen ∧ ∀ x0_ ∈ x.2.2.2.2, (Lit.int .u8 x0_).wf = true)) (f := fun x : S26 => (x.f0, x.f1, x.f2, x.f3, x.f4)) (fun x => ⟨x.1, x.2.1, x.2.2.1, x.2.2.2.1, x.2.2.2.2⟩) (fun _ => rfl) ?_
  refine Open.opens_struct Try.underlying26 (l := [_, _, _, _, _]) rfl (by kernel_rfl) ?_
  refine Open.fields_cons (d := (Kd.int .i64)) (d2 := (Kd.pair (Kd.int .i64) (Kd.pair (Kd.int .i64) (Kd.pair (Kd.int .i64) (Kd.slice 5 (Kd.int .u8)))))) (wf := fun (x : Int) => (Lit.int .i64 x).wf = true) (wf2 := fun (x : (Int) × (Int) × (Int) × (List Int)) => (Lit.int .i64 x.1).wf = true ∧ (Lit.int .i64 x.2.1).wf = true ∧ (Lit.int .i64 x.2.2.1).wf = true ∧ (x.2.2.2.length ≤ maxLen ∧ ∀ x0_ ∈ x.2.2.2, (Lit.int .u8 x0_).wf = true)) (by rfl) (by rfl) (by kernel_rfl) ?_ ?_
  · exact (Open.opens_int Try.underlying3)
  refine Open.fields_cons (d := (Kd.int .i64)) (d2 := (Kd.pair (Kd.int .i64) (Kd.pair (Kd.int .i64) (Kd.slice 5 (Kd.int .u8))))) (wf := fun (x : Int) => (Lit.int .i64 x).wf = true) (wf2 := fun (x : (Int) × (Int) × (List Int)) => (Lit.int .i64 x.1).wf = true ∧ (Lit.int .i64 x.2.1).wf = true ∧ (x.2.2.length ≤ maxLen ∧ ∀ x0_ ∈ x.2.2, (Lit.int .u8 x0_).wf = true)) (by rfl) (by rfl) (by kernel_rfl) ?_ ?_
  · exact (Open.opens_int Try.underlying3)
  refine Open.fields_cons (d := (Kd.int .i64)) (d2 := (Kd.pair (Kd.int .i64) (Kd.slice 5 (Kd.int .u8)))) (wf := fun (x : Int) => (Lit.int .i64 x).wf = true) (wf2 := fun (x : (Int) × (List Int)) => (Lit.int .i64 x.1).wf = true ∧ (x.2.length ≤ maxLen ∧ ∀ x0_ ∈ x.2, (Lit.int .u8 x0_).wf = true)) (by rfl) (by rfl) (by kernel_rfl) ?_ ?_
  · exact (Open.opens_int Try.underlying3)
  refine Open.fields_cons (d := (Kd.int .i64)) (d2 := (Kd.slice 5 (Kd.int .u8))) (wf := fun (x : Int) => (Lit.int .i64 x).wf = true) (wf2 := fun (x : (List Int)) => (x.length ≤ maxLen ∧ ∀ x0_ ∈ x, (Lit.int .u8 x0_).wf = true)) (by rfl) (by rfl) (by kernel_rfl) ?_ ?_
  · exact (Open.opens_int Try.underlying3)
  refine Open.fields_one (wf := fun (x : List Int) => (x.length ≤ maxLen ∧ ∀ x0_ ∈ x, (Lit.int .u8 x0_).wf = true)) (by rfl) (by kernel_rfl) ?_
  exact (Open.opens_slice Try.underlying22 (by kernel_rfl) (Open.opens_int Try.underlying5))
set_option maxRecDepth 100000 in
theorem lifted (os : Os) (started : os.Started) (H : Type) (enc : TypeId × Value → H) :
    ReturnsInHanded {} Try.checked os 6 .any (Rows.codeEachSpec.pre6 enc Try.prog Try.f6 Rows.codeEachRow.domain false) (Rows.codeEachSpec.post enc Try.prog Try.f6 false true false false) := by
  refine returnsInHanded_of_change_sized (C := Try.checked) own started (by kernel_rfl) Try.func6
    (ChangeSpec.witness6 (enc := enc) (C := Try.checked) false ⟨#[], #[.agg #[.int .i64 0, .int .i64 0, .int .i64 0, .int .i64 0, .slice none 0 0], .int .i64 0], []⟩ 8 (by kernel_rfl) (by kernel_rfl) (by kernel_rfl) (by kernel_rfl)) ?_
  intro W base args ds gs before hval0 hW hcnd hsz0 _
  have hsz : (DataW.weightsEach Try.prog (Try.f6.params.toList ++ Rows.codeEachSpec.plain.varTypes Try.prog) (ds ++ gs)).all (· ≤ reachBytes) = true := hsz0
  have hval : ∀ (j : Nat) t v, Try.f6.params[j]? = some t → args[j]? = some v → Value.okWide Try.prog W .any base t v := hval0
  have hW' := hW
  obtain ⟨p, q, hA0, hV, rfl, hfz, hnd⟩ := hW
  have hA : DataW.TrodAll enc Try.prog W 0 (fun _ => true) true Try.f6.params.toList args.toList ds p := hA0
  rw [Try.params6] at hA hval hsz
  obtain ⟨v0, vs0, d0, ds0, p0, q0, hargs, rfl, rfl, h0, r0⟩ := trodAll_cons hA
  obtain ⟨v1, vs1, d1, ds1, p1, q1, rfl, rfl, rfl, h1, r1⟩ := trodAll_cons r0
  obtain ⟨rfl, rfl, rfl⟩ := trodAll_nil r1
  obtain rfl : args = #[v0, v1] := by cases args; simp_all
  obtain ⟨rfl, rfl⟩ := trodVars_none hV
  obtain ⟨cs0, rfl, _⟩ := okWide_struct Try.underlying26 (hval 0 26 v0 rfl rfl)
  have k0 := h0
  have lt0 : ∀ x ∈ p0, x.block < W.heap.size := by obtain ⟨m, hm⟩ := h0; exact DataW.trod_lt m _ _ _ hm
  obtain ⟨x0, hK0, hwf0⟩ := Open.struct_arg oT26 h0
  obtain ⟨A0_4, c0_4, he0, hc0_4, hr0_4⟩ := XCodeEach.k26_open hK0
  obtain rfl : cs0 = #[.int .i64 x0.f0, .int .i64 x0.f1, .int .i64 x0.f2, .int .i64 x0.f3, .slice A0_4 x0.f4.length c0_4] := by cases cs0; simp at he0; simp [he0]
  obtain ⟨hw0_0, hw0_1, hw0_2, hw0_3, hw0_4⟩ := hwf0
  obtain ⟨a1, rfl, rfl, rfl, w1⟩ := open_int Try.underlying3 (hval 1 3 v1 rfl rfl) h1
  clear hA0 hval0 hsz0 hsz
  refine (XCodeEach.darninglaw23_CodeEach.walk Pure.CodeEach x0.f0 x0.f1 x0.f2 x0.f3 A0_4 c0_4 x0.f4 a1 W hr0_4 hc0_4 hw0_0 hw0_1 hw0_2 hw0_3 hw0_4 w1).mono fun e W' ⟨he, bel⟩ => ?_
  subst he
  exact ⟨_, rfl, _, _, _, [], _, [], hW', trodAll_mk1 (shut_bool Try.underlying4 _), (trodAll_cons_mk (Below.trod laidOut (by kernel_rfl) (of_decide_eq_true (by kernel_rfl)) k0 bel lt0) (trodAll_cons_mk (shut_int Try.underlying3 w1) trodAll_mk0)), rfl, bel.frame _, fun h => by cases h⟩
theorem over : Rows.codeEachRow.holds Try.pinned (OpenSpec.ofChange Rows.codeEachSpec) :=
  OpenClaim.holds_of_wide 6 Try.f6 rfl rfl rfl rfl rfl rfl rfl ⟨rfl, rfl, rfl, rfl, rfl⟩ rfl rfl rfl rfl rfl (by kernel_rfl) Try.func6 (by kernel_rfl)
    (of_decide_eq_true (by kernel_rfl)) (by unfold Func.isWrapper; first | (rw [if_pos (by decide +kernel)]; kernel_rfl) | (rw [if_neg (by decide +kernel)]; exact ⟨rfl, rfl⟩))
    (fun os started H enc _ => lifted os started H enc)
theorem proved : Rows.CodeEachSaid := over
#print axioms proved
end Go.Proofs.Ytfgggmojdefidaa.codeEach
namespace Go.Proofs.Ytfgggmojdefidaa
/-- The row, under a short name, for the claim. -/
theorem codeEach_holds : Rows.CodeEachSaid := codeEach.proved
end Go.Proofs.Ytfgggmojdefidaa
