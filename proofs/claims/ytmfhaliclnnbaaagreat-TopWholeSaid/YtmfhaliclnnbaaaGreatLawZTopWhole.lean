import Derived.Test.YtmfhaliclnnbaaaGreatRows
import Derived.Test.YtmfhaliclnnbaaaGreatZTopWholeM18
import Derived.Test.YtmfhaliclnnbaaaGreatZTopWholeOpen
import Derived.WalkKit
import Derived.ProofKit
import Derived.OpenShut
import Derived.ShutString
import Derived.ChangeOld
import Derived.Below
import Derived.SizedLaws
namespace Go.Proofs.YtmfhaliclnnbaaaGreat.topWhole
open Go.ChangeShapes Go.WideShapes Go.ChangeAt Go.RowKit
open Go.ChangeMaps (open_string shut_string)
open Go.Proofs.YtmfhaliclnnbaaaGreat.XTopWhole Go.Proofs.YtmfhaliclnnbaaaGreatW.PrintWords
set_option linter.unusedVariables false
set_option linter.unusedSimpArgs false
set_option maxRecDepth 100000
set_option maxHeartbeats 8000000
theorem own : ownKnob Tryz.prog.godebug = none := by kernel_rfl
theorem laidOut : laidOutB Tryz.prog = true := by kernel_rfl
def wfT39 (x : S39) : Prop := (Lit.int .i64 x.f0).wf = true ∧ (Lit.int .i64 x.f1).wf = true ∧ (Lit.int .i64 x.f2).wf = true ∧ (Lit.int .i64 x.f3).wf = true ∧ (x.f4.length ≤ maxLen ∧ ∀ x0_ ∈ x.f4, (Lit.int .u8 x0_).wf = true)
def k23 : Kd (Int × Int × Int × Int) := Kd.pair (Kd.int .i64) (Kd.pair (Kd.int .i64) (Kd.pair (Kd.int .i64) (Kd.int .i64)))
theorem k23_open {w : World} {x : Int × Int × Int × Int} {cs : List Value} (h : k23.K w x cs) : cs = [.int .i64 x.1, .int .i64 x.2.1, .int .i64 x.2.2.1, .int .i64 x.2.2.2] := by
 obtain ⟨_, _, rfl, rfl, ⟨_, _, rfl, rfl, ⟨_, _, rfl, rfl, rfl⟩⟩⟩ := h;rfl
theorem oT23 : Open.Opens Tryz.prog 23 k23 (fun x => (Lit.int .i64 x.1).wf = true ∧ (Lit.int .i64 x.2.1).wf = true ∧ (Lit.int .i64 x.2.2.1).wf = true ∧ (Lit.int .i64 x.2.2.2).wf = true) := by
 refine Open.opens_struct Tryz.underlying23 (l := [_, _, _, _]) rfl (by kernel_rfl) ?_;refine Open.fields_cons (d := (Kd.int .i64)) (d2 := (Kd.pair (Kd.int .i64) (Kd.pair (Kd.int .i64) (Kd.int .i64)))) (wf := fun (x : Int) => (Lit.int .i64 x).wf = true) (wf2 := fun (x : (Int) × (Int) × (Int)) => (Lit.int .i64 x.1).wf = true ∧ (Lit.int .i64 x.2.1).wf = true ∧ (Lit.int .i64 x.2.2).wf = true) (by rfl) (by rfl) (by kernel_rfl) ?_ ?_
 ·exact (Open.opens_int Tryz.underlying3)
 refine Open.fields_cons (d := (Kd.int .i64)) (d2 := (Kd.pair (Kd.int .i64) (Kd.int .i64))) (wf := fun (x : Int) => (Lit.int .i64 x).wf = true) (wf2 := fun (x : (Int) × (Int)) => (Lit.int .i64 x.1).wf = true ∧ (Lit.int .i64 x.2).wf = true) (by rfl) (by rfl) (by kernel_rfl) ?_ ?_
 ·exact (Open.opens_int Tryz.underlying3)
 refine Open.fields_cons (d := (Kd.int .i64)) (d2 := (Kd.int .i64)) (wf := fun (x : Int) => (Lit.int .i64 x).wf = true) (wf2 := fun (x : Int) => (Lit.int .i64 x).wf = true) (by rfl) (by rfl) (by kernel_rfl) ?_ ?_
 ·exact (Open.opens_int Tryz.underlying3)
 refine Open.fields_one (wf := fun (x : Int) => (Lit.int .i64 x).wf = true) (by rfl) (by kernel_rfl) ?_;exact (Open.opens_int Tryz.underlying3)
theorem oT39 : Open.Opens Tryz.prog 39 k39 wfT39 := by
 refine Open.opens_iso (d := (Kd.pair (Kd.int .i64) (Kd.pair (Kd.int .i64) (Kd.pair (Kd.int .i64) (Kd.pair (Kd.int .i64) (Kd.slice 5 (Kd.int .u8))))))) (wf := fun x => (Lit.int .i64 x.1).wf = true ∧ (Lit.int .i64 x.2.1).wf = true ∧ (Lit.int .i64 x.2.2.1).wf = true ∧ (Lit.int .i64 x.2.2.2.1).wf = true ∧ (x.2.2.2.2.length ≤ maxLen ∧ ∀ x0_ ∈ x.2.2.2.2, (Lit.int .u8 x0_).wf = true)) (f := fun x : S39 => (x.f0, x.f1, x.f2, x.f3, x.f4)) (fun x => ⟨x.1, x.2.1, x.2.2.1, x.2.2.2.1, x.2.2.2.2⟩) (fun _ => rfl) ?_;refine Open.opens_struct Tryz.underlying39 (l := [_, _, _, _, _]) rfl (by kernel_rfl) ?_;refine Open.fields_cons (d := (Kd.int .i64)) (d2 := (Kd.pair (Kd.int .i64) (Kd.pair (Kd.int .i64) (Kd.pair (Kd.int .i64) (Kd.slice 5 (Kd.int .u8)))))) (wf := fun (x : Int) => (Lit.int .i64 x).wf = true) (wf2 := fun (x : (Int) × (Int) × (Int) × (List Int)) => (Lit.int .i64 x.1).wf = true ∧ (Lit.int .i64 x.2.1).wf = true ∧ (Lit.int .i64 x.2.2.1).wf = true ∧ (x.2.2.2.length ≤ maxLen ∧ ∀ x0_ ∈ x.2.2.2, (Lit.int .u8 x0_).wf = true)) (by rfl) (by rfl) (by kernel_rfl) ?_ ?_
 ·exact (Open.opens_int Tryz.underlying3)
 refine Open.fields_cons (d := (Kd.int .i64)) (d2 := (Kd.pair (Kd.int .i64) (Kd.pair (Kd.int .i64) (Kd.slice 5 (Kd.int .u8))))) (wf := fun (x : Int) => (Lit.int .i64 x).wf = true) (wf2 := fun (x : (Int) × (Int) × (List Int)) => (Lit.int .i64 x.1).wf = true ∧ (Lit.int .i64 x.2.1).wf = true ∧ (x.2.2.length ≤ maxLen ∧ ∀ x0_ ∈ x.2.2, (Lit.int .u8 x0_).wf = true)) (by rfl) (by rfl) (by kernel_rfl) ?_ ?_
 ·exact (Open.opens_int Tryz.underlying3)
 refine Open.fields_cons (d := (Kd.int .i64)) (d2 := (Kd.pair (Kd.int .i64) (Kd.slice 5 (Kd.int .u8)))) (wf := fun (x : Int) => (Lit.int .i64 x).wf = true) (wf2 := fun (x : (Int) × (List Int)) => (Lit.int .i64 x.1).wf = true ∧ (x.2.length ≤ maxLen ∧ ∀ x0_ ∈ x.2, (Lit.int .u8 x0_).wf = true)) (by rfl) (by rfl) (by kernel_rfl) ?_ ?_
 ·exact (Open.opens_int Tryz.underlying3)
 refine Open.fields_cons (d := (Kd.int .i64)) (d2 := (Kd.slice 5 (Kd.int .u8))) (wf := fun (x : Int) => (Lit.int .i64 x).wf = true) (wf2 := fun (x : (List Int)) => (x.length ≤ maxLen ∧ ∀ x0_ ∈ x, (Lit.int .u8 x0_).wf = true)) (by rfl) (by rfl) (by kernel_rfl) ?_ ?_
 ·exact (Open.opens_int Tryz.underlying3)
 refine Open.fields_one (wf := fun (x : List Int) => (x.length ≤ maxLen ∧ ∀ x0_ ∈ x, (Lit.int .u8 x0_).wf = true)) (by rfl) (by kernel_rfl) ?_;exact (Open.opens_slice Tryz.underlying34 (by kernel_rfl) (Open.opens_int Tryz.underlying5))
theorem bys_of {B : List Int} (h : ∀ x ∈ B, (Lit.int .u8 x).wf = true) : Pl.Bys B := by
 intro j;unfold rd;rw [ax];by_cases hj : j.toNat < B.length
 ·rw [bx hj];have h2 := h _ (List.getElem_mem hj);have h3 : IntKind.u8.min ≤ B[j.toNat] ∧ B[j.toNat] ≤ IntKind.u8.max := by simpa [Lit.wf] using h2
  have a : IntKind.u8.min = 0 := by decide
  have b : IntKind.u8.max = 255 := by decide
  rw [a, b] at h3;exact h3
 ·rw [List.getElem?_eq_none (by omega)];exact ⟨by decide, by decide⟩
theorem lifted (os : Os) (started : os.Started) (H : Type) (enc : TypeId × Value → H) : ReturnsInHanded {} Tryz.checked os 6 .any (Rows.topWholeSpec.pre6 enc Tryz.prog Tryz.f6 Rows.topWholeRow.domain false) (Rows.topWholeSpec.post enc Tryz.prog Tryz.f6 false true false false) := by
 refine returnsInHanded_of_change_sized (C := Tryz.checked) own started (by kernel_rfl) Tryz.func6
  (ChangeSpec.witness6 (enc := enc) (C := Tryz.checked) false ⟨#[], #[.agg #[.int .i64 0, .int .i64 0, .int .i64 0, .int .i64 0], .slice none 0 0, .slice none 0 0], []⟩ 8 (by kernel_rfl) (by kernel_rfl) (by kernel_rfl) (by kernel_rfl)) ?_
 intro W base args ds gs before hval0 hW hcnd hsz0 _;have hsz : (DataW.weightsEach Tryz.prog (Tryz.f6.params.toList ++ Rows.topWholeSpec.plain.varTypes Tryz.prog) (ds ++ gs)).all (· ≤ reachBytes) = true := hsz0;have hval : ∀ (j : Nat) t v, Tryz.f6.params[j]? = some t → args[j]? = some v → Value.okWide Tryz.prog W .any base t v := hval0;have hW' := hW;obtain ⟨p, q, hA0, hV, rfl, hfz, hnd⟩ := hW;have hA : DataW.TrodAll enc Tryz.prog W 0 (fun _ => true) true Tryz.f6.params.toList args.toList ds p := hA0;rw [Tryz.params6] at hA hval hsz;obtain ⟨v0, vs0, d0, ds0, p0, q0, hargs, rfl, rfl, h0, r0⟩ := trodAll_cons hA;obtain ⟨v1, vs1, d1, ds1, p1, q1, rfl, rfl, rfl, h1, r1⟩ := trodAll_cons r0;obtain ⟨v2, vs2, d2, ds2, p2, q2, rfl, rfl, rfl, h2, r2⟩ := trodAll_cons r1;obtain ⟨rfl, rfl, rfl⟩ := trodAll_nil r2;obtain rfl : args = #[v0, v1, v2] := by cases args; simp_all
 obtain ⟨rfl, rfl⟩ := trodVars_none hV;obtain ⟨cs0, rfl, _⟩ := okWide_struct Tryz.underlying23 (hval 0 23 v0 rfl rfl);have k0 := h0;have lt0 : ∀ x ∈ p0, x.block < W.heap.size := by obtain ⟨m, hm⟩ := h0; exact DataW.trod_lt m _ _ _ hm
 obtain ⟨x0, hK0, hwf0⟩ := Open.struct_arg oT23 h0;have he0 := k23_open hK0;obtain rfl : cs0 = #[.int .i64 x0.1, .int .i64 x0.2.1, .int .i64 x0.2.2.1, .int .i64 x0.2.2.2] := by cases cs0; simp at he0; simp [he0]
 obtain ⟨A1, len1, c1, rfl⟩ := okWide_slice Tryz.underlying44 (hval 1 44 v1 rfl rfl);have k1 := h1;have lt1 : ∀ x ∈ p1, x.block < W.heap.size := by obtain ⟨m, hm⟩ := h1; exact DataW.trod_lt m _ _ _ hm
 have y1 := Open.sized_len hsz (j := 1) (t := 44) rfl rfl Tryz.underlying44 (B := 8) (by kernel_rfl) h1;obtain ⟨l1, rfl, hc1, hr1, hm1, hw1⟩ := Open.slice_arg (e := 3) (Open.opens_slice Tryz.underlying44 (by kernel_rfl) (Open.opens_int Tryz.underlying3)) h1;obtain ⟨A2, len2, c2, rfl⟩ := okWide_slice Tryz.underlying45 (hval 2 45 v2 rfl rfl);have k2 := h2;have lt2 : ∀ x ∈ p2, x.block < W.heap.size := by obtain ⟨m, hm⟩ := h2; exact DataW.trod_lt m _ _ _ hm
 have y2 := Open.sized_len hsz (j := 2) (t := 45) rfl rfl Tryz.underlying45 (B := 56) (by kernel_rfl) h2;obtain ⟨l2, rfl, hc2, hr2, hm2, hw2⟩ := Open.slice_arg (e := 39) (Open.opens_slice Tryz.underlying45 (by kernel_rfl) oT39) h2;clear hA0 hval0 hsz0 hsz;refine (Sys.TopWhole_walk W x0.1 x0.2.1 x0.2.2.1 x0.2.2.2 A1 c1 l1 A2 c2 l2 hr1 hc1 hr2 hc2 (fun op hop => bys_of (hw2 op hop).2.2.2.2.2) (by omega)).mono fun e W' ⟨he, bel⟩ => ?_;subst he;exact ⟨_, rfl, _, _, _, [], _, [], hW', trodAll_mk1 (shut_bool Tryz.underlying4 _), (trodAll_cons_mk (Below.trod laidOut (by kernel_rfl) (of_decide_eq_true (by kernel_rfl)) k0 bel lt0) (trodAll_cons_mk (Below.trod laidOut (by kernel_rfl) (of_decide_eq_true (by kernel_rfl)) k1 bel lt1) (trodAll_cons_mk (Below.trod laidOut (by kernel_rfl) (of_decide_eq_true (by kernel_rfl)) k2 bel lt2) trodAll_mk0))), rfl, bel.frame _, fun h => by cases h⟩
theorem over : Rows.topWholeRow.holds Tryz.pinned (OpenSpec.ofChange Rows.topWholeSpec) :=
 OpenClaim.holds_of_wide 6 Tryz.f6 rfl rfl rfl rfl rfl rfl rfl ⟨rfl, rfl, rfl, rfl, rfl⟩ rfl rfl rfl rfl rfl (by kernel_rfl) Tryz.func6 (by kernel_rfl)
  (of_decide_eq_true (by kernel_rfl)) (by unfold Func.isWrapper; first | (rw [if_pos (by decide +kernel)]; kernel_rfl) | (rw [if_neg (by decide +kernel)]; exact ⟨rfl, rfl⟩))
  (fun os started H enc _ => lifted os started H enc)
theorem proved : Rows.TopWholeSaid := over
#print axioms proved
end Go.Proofs.YtmfhaliclnnbaaaGreat.topWhole
namespace Go.Proofs.YtmfhaliclnnbaaaGreat
theorem topWhole_holds : Rows.TopWholeSaid := topWhole.proved
end Go.Proofs.YtmfhaliclnnbaaaGreat
