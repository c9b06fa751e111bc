import Derived.Test.YtmfhaliclnnbaaaGreatRows
import Derived.Test.YtmfhaliclnnbaaaGreatZTopRoundM16
import Derived.Test.YtmfhaliclnnbaaaGreatZTopRoundOpen
import Derived.WalkKit
import Derived.ProofKit
import Derived.OpenShut
import Derived.ShutString
import Derived.ChangeOld
import Derived.Below
import Derived.SizedLaws
namespace Go.Proofs.YtmfhaliclnnbaaaGreat.topRound
open Go.ChangeShapes Go.WideShapes Go.ChangeAt Go.RowKit
open Go.ChangeMaps (open_string shut_string)
open Go.Proofs.YtmfhaliclnnbaaaGreat.XTopWhole Go.Proofs.YtmfhaliclnnbaaaGreatW.PrintWords
set_option linter.unusedVariables false
set_option linter.unusedSimpArgs false
set_option maxRecDepth 100000
set_option maxHeartbeats 8000000
theorem own : ownKnob Tryz.prog.godebug = none := by kernel_rfl
theorem laidOut : laidOutB Tryz.prog = true := by kernel_rfl
def k23 : Kd (Int × Int × Int × Int) := Kd.pair (Kd.int .i64) (Kd.pair (Kd.int .i64) (Kd.pair (Kd.int .i64) (Kd.int .i64)))
theorem k23_open {w : World} {x : Int × Int × Int × Int} {cs : List Value} (h : k23.K w x cs) : cs = [.int .i64 x.1, .int .i64 x.2.1, .int .i64 x.2.2.1, .int .i64 x.2.2.2] := by
 obtain ⟨_, _, rfl, rfl, ⟨_, _, rfl, rfl, ⟨_, _, rfl, rfl, rfl⟩⟩⟩ := h;rfl
theorem oT23 : Open.Opens Tryz.prog 23 k23 (fun x => (Lit.int .i64 x.1).wf = true ∧ (Lit.int .i64 x.2.1).wf = true ∧ (Lit.int .i64 x.2.2.1).wf = true ∧ (Lit.int .i64 x.2.2.2).wf = true) := by
 refine Open.opens_struct Tryz.underlying23 (l := [_, _, _, _]) rfl (by kernel_rfl) ?_;refine Open.fields_cons (d := (Kd.int .i64)) (d2 := (Kd.pair (Kd.int .i64) (Kd.pair (Kd.int .i64) (Kd.int .i64)))) (wf := fun (x : Int) => (Lit.int .i64 x).wf = true) (wf2 := fun (x : (Int) × (Int) × (Int)) => (Lit.int .i64 x.1).wf = true ∧ (Lit.int .i64 x.2.1).wf = true ∧ (Lit.int .i64 x.2.2).wf = true) (by rfl) (by rfl) (by kernel_rfl) ?_ ?_
 ·exact (Open.opens_int Tryz.underlying3)
 refine Open.fields_cons (d := (Kd.int .i64)) (d2 := (Kd.pair (Kd.int .i64) (Kd.int .i64))) (wf := fun (x : Int) => (Lit.int .i64 x).wf = true) (wf2 := fun (x : (Int) × (Int)) => (Lit.int .i64 x.1).wf = true ∧ (Lit.int .i64 x.2).wf = true) (by rfl) (by rfl) (by kernel_rfl) ?_ ?_
 ·exact (Open.opens_int Tryz.underlying3)
 refine Open.fields_cons (d := (Kd.int .i64)) (d2 := (Kd.int .i64)) (wf := fun (x : Int) => (Lit.int .i64 x).wf = true) (wf2 := fun (x : Int) => (Lit.int .i64 x).wf = true) (by rfl) (by rfl) (by kernel_rfl) ?_ ?_
 ·exact (Open.opens_int Tryz.underlying3)
 refine Open.fields_one (wf := fun (x : Int) => (Lit.int .i64 x).wf = true) (by rfl) (by kernel_rfl) ?_;exact (Open.opens_int Tryz.underlying3)
theorem lifted (os : Os) (started : os.Started) (H : Type) (enc : TypeId × Value → H) : ReturnsInHanded {} Tryz.checked os 3 .any (Rows.topRoundSpec.pre6 enc Tryz.prog Tryz.f3 Rows.topRoundRow.domain false) (Rows.topRoundSpec.post enc Tryz.prog Tryz.f3 false true false false) := by
 refine returnsInHanded_of_change_sized (C := Tryz.checked) own started (by kernel_rfl) Tryz.func3
  (ChangeSpec.witness6 (enc := enc) (C := Tryz.checked) false ⟨#[], #[.agg #[.int .i64 0, .int .i64 0, .int .i64 0, .int .i64 0], .int .i64 0], []⟩ 8 (by kernel_rfl) (by kernel_rfl) (by kernel_rfl) (by kernel_rfl)) ?_
 intro W base args ds gs before hval0 hW hcnd hsz0 _;have hval : ∀ (j : Nat) t v, Tryz.f3.params[j]? = some t → args[j]? = some v → Value.okWide Tryz.prog W .any base t v := hval0;have hW' := hW;obtain ⟨p, q, hA0, hV, rfl, hfz, hnd⟩ := hW;have hA : DataW.TrodAll enc Tryz.prog W 0 (fun _ => true) true Tryz.f3.params.toList args.toList ds p := hA0;rw [Tryz.params3] at hA hval;obtain ⟨v0, vs0, d0, ds0, p0, q0, hargs, rfl, rfl, h0, r0⟩ := trodAll_cons hA;obtain ⟨v1, vs1, d1, ds1, p1, q1, rfl, rfl, rfl, h1, r1⟩ := trodAll_cons r0;obtain ⟨rfl, rfl, rfl⟩ := trodAll_nil r1;obtain rfl : args = #[v0, v1] := by cases args; simp_all
 obtain ⟨rfl, rfl⟩ := trodVars_none hV;obtain ⟨cs0, rfl, _⟩ := okWide_struct Tryz.underlying23 (hval 0 23 v0 rfl rfl);have k0 := h0;have lt0 : ∀ x ∈ p0, x.block < W.heap.size := by obtain ⟨m, hm⟩ := h0; exact DataW.trod_lt m _ _ _ hm
 obtain ⟨x0, hK0, hwf0⟩ := Open.struct_arg oT23 h0;have he0 := k23_open hK0;obtain rfl : cs0 = #[.int .i64 x0.1, .int .i64 x0.2.1, .int .i64 x0.2.2.1, .int .i64 x0.2.2.2] := by cases cs0; simp at he0; simp [he0]
 obtain ⟨a1, rfl, rfl, rfl, w1⟩ := open_int Tryz.underlying3 (hval 1 3 v1 rfl rfl) h1;clear hA0 hval0 hsz0;refine (Sys.TopRound_walk W x0.1 x0.2.1 x0.2.2.1 x0.2.2.2 a1).mono fun e W' ⟨he, bel⟩ => ?_;subst he;exact ⟨_, rfl, _, _, _, [], _, [], hW', trodAll_mk1 (shut_bool Tryz.underlying4 _), (trodAll_cons_mk (Below.trod laidOut (by kernel_rfl) (of_decide_eq_true (by kernel_rfl)) k0 bel lt0) (trodAll_cons_mk (shut_int Tryz.underlying3 w1) trodAll_mk0)), rfl, bel.frame _, fun h => by cases h⟩
theorem over : Rows.topRoundRow.holds Tryz.pinned (OpenSpec.ofChange Rows.topRoundSpec) :=
 OpenClaim.holds_of_wide 3 Tryz.f3 rfl rfl rfl rfl rfl rfl rfl ⟨rfl, rfl, rfl, rfl, rfl⟩ rfl rfl rfl rfl rfl (by kernel_rfl) Tryz.func3 (by kernel_rfl)
  (of_decide_eq_true (by kernel_rfl)) (by unfold Func.isWrapper; first | (rw [if_pos (by decide +kernel)]; kernel_rfl) | (rw [if_neg (by decide +kernel)]; exact ⟨rfl, rfl⟩))
  (fun os started H enc _ => lifted os started H enc)
theorem proved : Rows.TopRoundSaid := over
#print axioms proved
end Go.Proofs.YtmfhaliclnnbaaaGreat.topRound
namespace Go.Proofs.YtmfhaliclnnbaaaGreat
theorem topRound_holds : Rows.TopRoundSaid := topRound.proved
end Go.Proofs.YtmfhaliclnnbaaaGreat
