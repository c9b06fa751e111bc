/-
  No cell of these rows narrows 'for every input' (looked for: loops, veiled, ifaces, maps, wideKeys, modest, calm, conditions, laid).
  DERIVED. THE GIVEN ROWS OF THIS SEAT. 12 by the template 'for every input the law returns true; each argument reads behind the call as it read before'; 0 by the template 'total and deterministic' (their statements: YtglekonhdjploaaTotals.lean).
  GIVEN WITH THE SEED: the statements are not yours to turn. If you find one false, say at which input.
  Laid BY PROGRAM, IN A SANDBOX (cutbox-rows.mjs): the forced cells as the released guide's own fill.sh prints them over the translation 9ecd155c75f942c1… (all of the seat's roots in one cut). By AI agents, Wed Nov 11 2026. No macro, syntax, notation, axiom, sorry.
-/
import Derived.Test.YtglekonhdjploaaChecked
import GoSem.Claim
import GoSem.ClaimJoined
import GoSem.ClaimMapViews
import Derived.JoinedTies
import Derived.KernelRfl
namespace Go.Proofs.Ytglekonhdjploaa
/- THE CELL 'sum', in the pinned program and in every row, IS THE sha256 OF THE DUMP (.gsa) THAT YtglekonhdjploaaProg.lean LOADS. Nothing in Lean hashes anything: it is a label: what it is worth is what the hold of that sum in a sandbox is worth. -/
noncomputable def Try.pinned : Pinned := { name := "ytglekonhdjploaa", sum := "9ecd155c75f942c1a328e5a1e8e3002966209231b39c57117f8ae32fb6b527b6", checked := Try.checked }
namespace Rows
def none {H : Type} : Left H := { results := [], args := [] }

/-- 'darninglaw17.MergeForms': WHATEVER THE INPUT: true; the input reads as it did. -/
def mergeFormsSpec : ChangeSpec := { name := "mergeForms", fn := fun _ => fun
  | [d1, d2] => { results := [.lit (.bool true)], args := [d1, d2] }
  | _ => none }
def mergeFormsRow : OpenClaim := { program := "ytglekonhdjploaa", sum := "9ecd155c75f942c1a328e5a1e8e3002966209231b39c57117f8ae32fb6b527b6", func := "darning/darninglaw17.MergeForms", spec := "mergeForms", apart := false }
def MergeFormsSaid : Prop := mergeFormsRow.holds Try.pinned (OpenSpec.ofChange mergeFormsSpec)

/-- ITS FALSE NEIGHBOUR: 'it returns false'. Refute it at one input. -/
def mergeFormsWrong : ChangeSpec := { name := "mergeForms", fn := fun _ => fun
  | [d1, d2] => { results := [.lit (.bool false)], args := [d1, d2] }
  | _ => none }
def MergeFormsWrongFalsely : Prop := mergeFormsRow.holds Try.pinned (OpenSpec.ofChange mergeFormsWrong)

/-- 'darninglaw17.MergeAll': WHATEVER THE INPUT: true; the input reads as it did. -/
def mergeAllSpec : ChangeSpec := { name := "mergeAll", fn := fun _ => fun
  | [d1, d2, d3] => { results := [.lit (.bool true)], args := [d1, d2, d3] }
  | _ => none }
def mergeAllRow : OpenClaim := { program := "ytglekonhdjploaa", sum := "9ecd155c75f942c1a328e5a1e8e3002966209231b39c57117f8ae32fb6b527b6", func := "darning/darninglaw17.MergeAll", spec := "mergeAll", apart := false }
def MergeAllSaid : Prop := mergeAllRow.holds Try.pinned (OpenSpec.ofChange mergeAllSpec)

/-- ITS FALSE NEIGHBOUR: 'it returns false'. Refute it at one input. -/
def mergeAllWrong : ChangeSpec := { name := "mergeAll", fn := fun _ => fun
  | [d1, d2, d3] => { results := [.lit (.bool false)], args := [d1, d2, d3] }
  | _ => none }
def MergeAllWrongFalsely : Prop := mergeAllRow.holds Try.pinned (OpenSpec.ofChange mergeAllWrong)

/-- 'darninglaw17.MergeNone': WHATEVER THE INPUT: true; the input reads as it did. -/
def mergeNoneSpec : ChangeSpec := { name := "mergeNone", fn := fun _ => fun
  | [d1, d2, d3] => { results := [.lit (.bool true)], args := [d1, d2, d3] }
  | _ => none }
def mergeNoneRow : OpenClaim := { program := "ytglekonhdjploaa", sum := "9ecd155c75f942c1a328e5a1e8e3002966209231b39c57117f8ae32fb6b527b6", func := "darning/darninglaw17.MergeNone", spec := "mergeNone", apart := false }
def MergeNoneSaid : Prop := mergeNoneRow.holds Try.pinned (OpenSpec.ofChange mergeNoneSpec)

/-- ITS FALSE NEIGHBOUR: 'it returns false'. Refute it at one input. -/
def mergeNoneWrong : ChangeSpec := { name := "mergeNone", fn := fun _ => fun
  | [d1, d2, d3] => { results := [.lit (.bool false)], args := [d1, d2, d3] }
  | _ => none }
def MergeNoneWrongFalsely : Prop := mergeNoneRow.holds Try.pinned (OpenSpec.ofChange mergeNoneWrong)

/-- 'darninglaw16.CarveForms': WHATEVER THE INPUT: true; the input reads as it did. -/
def carveFormsSpec : ChangeSpec := { name := "carveForms", fn := fun _ => fun
  | [d1, d2, d3, d4] => { results := [.lit (.bool true)], args := [d1, d2, d3, d4] }
  | _ => none }
def carveFormsRow : OpenClaim := { program := "ytglekonhdjploaa", sum := "9ecd155c75f942c1a328e5a1e8e3002966209231b39c57117f8ae32fb6b527b6", func := "darning/darninglaw16.CarveForms", spec := "carveForms", apart := false }
def CarveFormsSaid : Prop := carveFormsRow.holds Try.pinned (OpenSpec.ofChange carveFormsSpec)

/-- ITS FALSE NEIGHBOUR: 'it returns false'. Refute it at one input. -/
def carveFormsWrong : ChangeSpec := { name := "carveForms", fn := fun _ => fun
  | [d1, d2, d3, d4] => { results := [.lit (.bool false)], args := [d1, d2, d3, d4] }
  | _ => none }
def CarveFormsWrongFalsely : Prop := carveFormsRow.holds Try.pinned (OpenSpec.ofChange carveFormsWrong)

/-- 'darninglaw16.CarveCounts': WHATEVER THE INPUT: true; the input reads as it did. -/
def carveCountsSpec : ChangeSpec := { name := "carveCounts", fn := fun _ => fun
  | [d1, d2, d3, d4] => { results := [.lit (.bool true)], args := [d1, d2, d3, d4] }
  | _ => none }
def carveCountsRow : OpenClaim := { program := "ytglekonhdjploaa", sum := "9ecd155c75f942c1a328e5a1e8e3002966209231b39c57117f8ae32fb6b527b6", func := "darning/darninglaw16.CarveCounts", spec := "carveCounts", apart := false }
def CarveCountsSaid : Prop := carveCountsRow.holds Try.pinned (OpenSpec.ofChange carveCountsSpec)

/-- ITS FALSE NEIGHBOUR: 'it returns false'. Refute it at one input. -/
def carveCountsWrong : ChangeSpec := { name := "carveCounts", fn := fun _ => fun
  | [d1, d2, d3, d4] => { results := [.lit (.bool false)], args := [d1, d2, d3, d4] }
  | _ => none }
def CarveCountsWrongFalsely : Prop := carveCountsRow.holds Try.pinned (OpenSpec.ofChange carveCountsWrong)

/-- 'darninglaw16.CarveRising': WHATEVER THE INPUT: true; the input reads as it did. -/
def carveRisingSpec : ChangeSpec := { name := "carveRising", fn := fun _ => fun
  | [d1, d2, d3, d4] => { results := [.lit (.bool true)], args := [d1, d2, d3, d4] }
  | _ => none }
def carveRisingRow : OpenClaim := { program := "ytglekonhdjploaa", sum := "9ecd155c75f942c1a328e5a1e8e3002966209231b39c57117f8ae32fb6b527b6", func := "darning/darninglaw16.CarveRising", spec := "carveRising", apart := false }
def CarveRisingSaid : Prop := carveRisingRow.holds Try.pinned (OpenSpec.ofChange carveRisingSpec)

/-- ITS FALSE NEIGHBOUR: 'it returns false'. Refute it at one input. -/
def carveRisingWrong : ChangeSpec := { name := "carveRising", fn := fun _ => fun
  | [d1, d2, d3, d4] => { results := [.lit (.bool false)], args := [d1, d2, d3, d4] }
  | _ => none }
def CarveRisingWrongFalsely : Prop := carveRisingRow.holds Try.pinned (OpenSpec.ofChange carveRisingWrong)

/-- 'darninglaw16.CarveOffs': WHATEVER THE INPUT: true; the input reads as it did. -/
def carveOffsSpec : ChangeSpec := { name := "carveOffs", fn := fun _ => fun
  | [d1, d2, d3, d4] => { results := [.lit (.bool true)], args := [d1, d2, d3, d4] }
  | _ => none }
def carveOffsRow : OpenClaim := { program := "ytglekonhdjploaa", sum := "9ecd155c75f942c1a328e5a1e8e3002966209231b39c57117f8ae32fb6b527b6", func := "darning/darninglaw16.CarveOffs", spec := "carveOffs", apart := false }
def CarveOffsSaid : Prop := carveOffsRow.holds Try.pinned (OpenSpec.ofChange carveOffsSpec)

/-- ITS FALSE NEIGHBOUR: 'it returns false'. Refute it at one input. -/
def carveOffsWrong : ChangeSpec := { name := "carveOffs", fn := fun _ => fun
  | [d1, d2, d3, d4] => { results := [.lit (.bool false)], args := [d1, d2, d3, d4] }
  | _ => none }
def CarveOffsWrongFalsely : Prop := carveOffsRow.holds Try.pinned (OpenSpec.ofChange carveOffsWrong)

/-- 'darninglaw16.CarveEdited': WHATEVER THE INPUT: true; the input reads as it did. -/
def carveEditedSpec : ChangeSpec := { name := "carveEdited", fn := fun _ => fun
  | [d1, d2, d3, d4, d5] => { results := [.lit (.bool true)], args := [d1, d2, d3, d4, d5] }
  | _ => none }
def carveEditedRow : OpenClaim := { program := "ytglekonhdjploaa", sum := "9ecd155c75f942c1a328e5a1e8e3002966209231b39c57117f8ae32fb6b527b6", func := "darning/darninglaw16.CarveEdited", spec := "carveEdited", apart := false }
def CarveEditedSaid : Prop := carveEditedRow.holds Try.pinned (OpenSpec.ofChange carveEditedSpec)

/-- ITS FALSE NEIGHBOUR: 'it returns false'. Refute it at one input. -/
def carveEditedWrong : ChangeSpec := { name := "carveEdited", fn := fun _ => fun
  | [d1, d2, d3, d4, d5] => { results := [.lit (.bool false)], args := [d1, d2, d3, d4, d5] }
  | _ => none }
def CarveEditedWrongFalsely : Prop := carveEditedRow.holds Try.pinned (OpenSpec.ofChange carveEditedWrong)

/-- 'darninglaw17.MergeBack': WHATEVER THE INPUT: true; the input reads as it did. -/
def mergeBackSpec : ChangeSpec := { name := "mergeBack", fn := fun _ => fun
  | [d1, d2, d3, d4] => { results := [.lit (.bool true)], args := [d1, d2, d3, d4] }
  | _ => none }
def mergeBackRow : OpenClaim := { program := "ytglekonhdjploaa", sum := "9ecd155c75f942c1a328e5a1e8e3002966209231b39c57117f8ae32fb6b527b6", func := "darning/darninglaw17.MergeBack", spec := "mergeBack", apart := false }
def MergeBackSaid : Prop := mergeBackRow.holds Try.pinned (OpenSpec.ofChange mergeBackSpec)

/-- ITS FALSE NEIGHBOUR: 'it returns false'. Refute it at one input. -/
def mergeBackWrong : ChangeSpec := { name := "mergeBack", fn := fun _ => fun
  | [d1, d2, d3, d4] => { results := [.lit (.bool false)], args := [d1, d2, d3, d4] }
  | _ => none }
def MergeBackWrongFalsely : Prop := mergeBackRow.holds Try.pinned (OpenSpec.ofChange mergeBackWrong)

/-- 'darninglaw19.ImageBounds': WHATEVER THE INPUT: true; the input reads as it did. -/
def imageBoundsSpec : ChangeSpec := { name := "imageBounds", fn := fun _ => fun
  | [d1, d2, d3] => { results := [.lit (.bool true)], args := [d1, d2, d3] }
  | _ => none }
def imageBoundsRow : OpenClaim := { program := "ytglekonhdjploaa", sum := "9ecd155c75f942c1a328e5a1e8e3002966209231b39c57117f8ae32fb6b527b6", func := "darning/darninglaw19.ImageBounds", spec := "imageBounds", unfollowed := true, recurses := true, apart := false }
def ImageBoundsSaid : Prop := imageBoundsRow.holds Try.pinned (OpenSpec.ofChange imageBoundsSpec)

/-- ITS FALSE NEIGHBOUR: 'it returns false'. Refute it at one input. -/
def imageBoundsWrong : ChangeSpec := { name := "imageBounds", fn := fun _ => fun
  | [d1, d2, d3] => { results := [.lit (.bool false)], args := [d1, d2, d3] }
  | _ => none }
def ImageBoundsWrongFalsely : Prop := imageBoundsRow.holds Try.pinned (OpenSpec.ofChange imageBoundsWrong)

/-- 'darninglaw19.ImageForms': WHATEVER THE INPUT: true; the input reads as it did. -/
def imageFormsSpec : ChangeSpec := { name := "imageForms", fn := fun _ => fun
  | [d1, d2, d3, d4, d5] => { results := [.lit (.bool true)], args := [d1, d2, d3, d4, d5] }
  | _ => none }
def imageFormsRow : OpenClaim := { program := "ytglekonhdjploaa", sum := "9ecd155c75f942c1a328e5a1e8e3002966209231b39c57117f8ae32fb6b527b6", func := "darning/darninglaw19.ImageForms", spec := "imageForms", unfollowed := true, recurses := true, apart := false }
def ImageFormsSaid : Prop := imageFormsRow.holds Try.pinned (OpenSpec.ofChange imageFormsSpec)

/-- ITS FALSE NEIGHBOUR: 'it returns false'. Refute it at one input. -/
def imageFormsWrong : ChangeSpec := { name := "imageForms", fn := fun _ => fun
  | [d1, d2, d3, d4, d5] => { results := [.lit (.bool false)], args := [d1, d2, d3, d4, d5] }
  | _ => none }
def ImageFormsWrongFalsely : Prop := imageFormsRow.holds Try.pinned (OpenSpec.ofChange imageFormsWrong)

/-- 'darninglaw19.ImageKeeps': WHATEVER THE INPUT: true; the input reads as it did. -/
def imageKeepsSpec : ChangeSpec := { name := "imageKeeps", fn := fun _ => fun
  | [d1, d2, d3] => { results := [.lit (.bool true)], args := [d1, d2, d3] }
  | _ => none }
def imageKeepsRow : OpenClaim := { program := "ytglekonhdjploaa", sum := "9ecd155c75f942c1a328e5a1e8e3002966209231b39c57117f8ae32fb6b527b6", func := "darning/darninglaw19.ImageKeeps", spec := "imageKeeps", unfollowed := true, recurses := true, apart := false }
def ImageKeepsSaid : Prop := imageKeepsRow.holds Try.pinned (OpenSpec.ofChange imageKeepsSpec)

/-- ITS FALSE NEIGHBOUR: 'it returns false'. Refute it at one input. -/
def imageKeepsWrong : ChangeSpec := { name := "imageKeeps", fn := fun _ => fun
  | [d1, d2, d3] => { results := [.lit (.bool false)], args := [d1, d2, d3] }
  | _ => none }
def ImageKeepsWrongFalsely : Prop := imageKeepsRow.holds Try.pinned (OpenSpec.ofChange imageKeepsWrong)

/- THE SECOND FORM. 'bulk': how many values and letters a reading holds, each counted each time it is reached (what is shared counts as often as it is met; a slice's spare places count too). A statement '..UptoSaid' is the law's where the arguments, and the package variables that the reading takes, are together of bulk at most 1048576: NARROWER than '..Said'. Prove '..Said' where nothing that the law and all that it calls make is longer than what came in: it says more and counts as full. Else prove '..UptoSaid'. A law counts once. -/
mutual
def uptoBulk {H : Type} : DataW H → Nat
  | .lit (.string bytes) => bytes.length + 1
  | .lit _ => 1
  | .nil => 1
  | .ptr d => uptoBulk d + 1
  | .slice elems spare => uptoBulkAll elems + uptoBulkAll spare + 1
  | .agg parts => uptoBulkAll parts + 1
  | .iface _ d => uptoBulk d + 1
  | .map entries => uptoBulkEntries entries + 1
  | .held _ => 1
def uptoBulkAll {H : Type} : List (DataW H) → Nat
  | [] => 0
  | d :: r => uptoBulk d + uptoBulkAll r
def uptoBulkEntries {H : Type} : List (Lit × DataW H) → Nat
  | [] => 0
  | x :: r => uptoBulkEntry x + uptoBulkEntries r
def uptoBulkEntry {H : Type} : Lit × DataW H → Nat
  | (.string bytes, d) => bytes.length + uptoBulk d + 1
  | (_, d) => uptoBulk d + 1
 end
def uptoSmall : (H : Type) → List (DataW H) → Bool := fun _ ds => decide (uptoBulkAll ds ≤ 1048576)
def OpenSpec.upto (s : _root_.Go.ChangeSpec) : _root_.Go.OpenSpec := { _root_.Go.OpenSpec.ofChange s with cond := some uptoSmall }

/-- 'darninglaw17.MergeForms', WHERE WHAT IT READS IS OF BULK AT MOST 1048576: true; the input reads as it did. -/
def mergeFormsUptoRow : OpenClaim := { program := "ytglekonhdjploaa", sum := "9ecd155c75f942c1a328e5a1e8e3002966209231b39c57117f8ae32fb6b527b6", func := "darning/darninglaw17.MergeForms", spec := "mergeForms", apart := false, narrowed := true }
def MergeFormsUptoSaid : Prop := mergeFormsUptoRow.holds Try.pinned (OpenSpec.upto mergeFormsSpec)

/-- 'darninglaw17.MergeAll', WHERE WHAT IT READS IS OF BULK AT MOST 1048576: true; the input reads as it did. -/
def mergeAllUptoRow : OpenClaim := { program := "ytglekonhdjploaa", sum := "9ecd155c75f942c1a328e5a1e8e3002966209231b39c57117f8ae32fb6b527b6", func := "darning/darninglaw17.MergeAll", spec := "mergeAll", apart := false, narrowed := true }
def MergeAllUptoSaid : Prop := mergeAllUptoRow.holds Try.pinned (OpenSpec.upto mergeAllSpec)

/-- 'darninglaw17.MergeNone', WHERE WHAT IT READS IS OF BULK AT MOST 1048576: true; the input reads as it did. -/
def mergeNoneUptoRow : OpenClaim := { program := "ytglekonhdjploaa", sum := "9ecd155c75f942c1a328e5a1e8e3002966209231b39c57117f8ae32fb6b527b6", func := "darning/darninglaw17.MergeNone", spec := "mergeNone", apart := false, narrowed := true }
def MergeNoneUptoSaid : Prop := mergeNoneUptoRow.holds Try.pinned (OpenSpec.upto mergeNoneSpec)

/-- 'darninglaw16.CarveForms', WHERE WHAT IT READS IS OF BULK AT MOST 1048576: true; the input reads as it did. -/
def carveFormsUptoRow : OpenClaim := { program := "ytglekonhdjploaa", sum := "9ecd155c75f942c1a328e5a1e8e3002966209231b39c57117f8ae32fb6b527b6", func := "darning/darninglaw16.CarveForms", spec := "carveForms", apart := false, narrowed := true }
def CarveFormsUptoSaid : Prop := carveFormsUptoRow.holds Try.pinned (OpenSpec.upto carveFormsSpec)

/-- 'darninglaw16.CarveCounts', WHERE WHAT IT READS IS OF BULK AT MOST 1048576: true; the input reads as it did. -/
def carveCountsUptoRow : OpenClaim := { program := "ytglekonhdjploaa", sum := "9ecd155c75f942c1a328e5a1e8e3002966209231b39c57117f8ae32fb6b527b6", func := "darning/darninglaw16.CarveCounts", spec := "carveCounts", apart := false, narrowed := true }
def CarveCountsUptoSaid : Prop := carveCountsUptoRow.holds Try.pinned (OpenSpec.upto carveCountsSpec)

/-- 'darninglaw16.CarveRising', WHERE WHAT IT READS IS OF BULK AT MOST 1048576: true; the input reads as it did. -/
def carveRisingUptoRow : OpenClaim := { program := "ytglekonhdjploaa", sum := "9ecd155c75f942c1a328e5a1e8e3002966209231b39c57117f8ae32fb6b527b6", func := "darning/darninglaw16.CarveRising", spec := "carveRising", apart := false, narrowed := true }
def CarveRisingUptoSaid : Prop := carveRisingUptoRow.holds Try.pinned (OpenSpec.upto carveRisingSpec)

/-- 'darninglaw16.CarveOffs', WHERE WHAT IT READS IS OF BULK AT MOST 1048576: true; the input reads as it did. -/
def carveOffsUptoRow : OpenClaim := { program := "ytglekonhdjploaa", sum := "9ecd155c75f942c1a328e5a1e8e3002966209231b39c57117f8ae32fb6b527b6", func := "darning/darninglaw16.CarveOffs", spec := "carveOffs", apart := false, narrowed := true }
def CarveOffsUptoSaid : Prop := carveOffsUptoRow.holds Try.pinned (OpenSpec.upto carveOffsSpec)

/-- 'darninglaw16.CarveEdited', WHERE WHAT IT READS IS OF BULK AT MOST 1048576: true; the input reads as it did. -/
def carveEditedUptoRow : OpenClaim := { program := "ytglekonhdjploaa", sum := "9ecd155c75f942c1a328e5a1e8e3002966209231b39c57117f8ae32fb6b527b6", func := "darning/darninglaw16.CarveEdited", spec := "carveEdited", apart := false, narrowed := true }
def CarveEditedUptoSaid : Prop := carveEditedUptoRow.holds Try.pinned (OpenSpec.upto carveEditedSpec)

/-- 'darninglaw17.MergeBack', WHERE WHAT IT READS IS OF BULK AT MOST 1048576: true; the input reads as it did. -/
def mergeBackUptoRow : OpenClaim := { program := "ytglekonhdjploaa", sum := "9ecd155c75f942c1a328e5a1e8e3002966209231b39c57117f8ae32fb6b527b6", func := "darning/darninglaw17.MergeBack", spec := "mergeBack", apart := false, narrowed := true }
def MergeBackUptoSaid : Prop := mergeBackUptoRow.holds Try.pinned (OpenSpec.upto mergeBackSpec)

/-- 'darninglaw19.ImageBounds', WHERE WHAT IT READS IS OF BULK AT MOST 1048576: true; the input reads as it did. -/
def imageBoundsUptoRow : OpenClaim := { program := "ytglekonhdjploaa", sum := "9ecd155c75f942c1a328e5a1e8e3002966209231b39c57117f8ae32fb6b527b6", func := "darning/darninglaw19.ImageBounds", spec := "imageBounds", unfollowed := true, recurses := true, apart := false, narrowed := true }
def ImageBoundsUptoSaid : Prop := imageBoundsUptoRow.holds Try.pinned (OpenSpec.upto imageBoundsSpec)

/-- 'darninglaw19.ImageForms', WHERE WHAT IT READS IS OF BULK AT MOST 1048576: true; the input reads as it did. -/
def imageFormsUptoRow : OpenClaim := { program := "ytglekonhdjploaa", sum := "9ecd155c75f942c1a328e5a1e8e3002966209231b39c57117f8ae32fb6b527b6", func := "darning/darninglaw19.ImageForms", spec := "imageForms", unfollowed := true, recurses := true, apart := false, narrowed := true }
def ImageFormsUptoSaid : Prop := imageFormsUptoRow.holds Try.pinned (OpenSpec.upto imageFormsSpec)

/-- 'darninglaw19.ImageKeeps', WHERE WHAT IT READS IS OF BULK AT MOST 1048576: true; the input reads as it did. -/
def imageKeepsUptoRow : OpenClaim := { program := "ytglekonhdjploaa", sum := "9ecd155c75f942c1a328e5a1e8e3002966209231b39c57117f8ae32fb6b527b6", func := "darning/darninglaw19.ImageKeeps", spec := "imageKeeps", unfollowed := true, recurses := true, apart := false, narrowed := true }
def ImageKeepsUptoSaid : Prop := imageKeepsUptoRow.holds Try.pinned (OpenSpec.upto imageKeepsSpec)

end Rows
end Go.Proofs.Ytglekonhdjploaa
