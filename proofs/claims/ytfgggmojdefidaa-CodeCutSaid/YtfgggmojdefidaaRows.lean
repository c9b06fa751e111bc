/-
  No cell of these rows narrows 'for every input' (looked for: loops, veiled, ifaces, maps, wideKeys, modest, calm, conditions, laid).
  DERIVED. THE GIVEN ROWS OF THIS SEAT. 10 by the template 'for every input the law returns true; each argument reads behind the call as it read before'; 0 by the template 'total and deterministic' (their statements: YtfgggmojdefidaaTotals.lean).
  GIVEN WITH THE SEED: the statements are not yours to turn. If you find one false, say at which input.
  Laid BY PROGRAM, IN A SANDBOX (cutbox-rows.mjs): the forced cells as the released guide's own fill.sh prints them over the translation c7220e13084c18c2… (all of the seat's roots in one cut). By AI agents, Wed Nov 11 2026. No macro, syntax, notation, axiom, sorry.
-/
import Derived.Test.YtfgggmojdefidaaChecked
import GoSem.Claim
import GoSem.ClaimJoined
import GoSem.ClaimMapViews
import Derived.JoinedTies
import Derived.KernelRfl
namespace Go.Proofs.Ytfgggmojdefidaa
/- THE CELL 'sum', in the pinned program and in every row, IS THE sha256 OF THE DUMP (.gsa) THAT YtfgggmojdefidaaProg.lean LOADS. Nothing in Lean hashes anything: it is a label: what it is worth is what the hold of that sum in a sandbox is worth. -/
noncomputable def Try.pinned : Pinned := { name := "ytfgggmojdefidaa", sum := "c7220e13084c18c27392d97a2d2ca89ebd24a220348c95f79afc67cfd434ac07", checked := Try.checked }
namespace Rows
def none {H : Type} : Left H := { results := [], args := [] }

/-- 'darninglaw23.CodeForms': WHATEVER THE INPUT: true; the input reads as it did. -/
def codeFormsSpec : ChangeSpec := { name := "codeForms", fn := fun _ => fun
  | [d1, d2] => { results := [.lit (.bool true)], args := [d1, d2] }
  | _ => none }
def codeFormsRow : OpenClaim := { program := "ytfgggmojdefidaa", sum := "c7220e13084c18c27392d97a2d2ca89ebd24a220348c95f79afc67cfd434ac07", func := "darning/darninglaw23.CodeForms", spec := "codeForms", apart := false }
def CodeFormsSaid : Prop := codeFormsRow.holds Try.pinned (OpenSpec.ofChange codeFormsSpec)

/-- ITS FALSE NEIGHBOUR: 'it returns false'. Refute it at one input. -/
def codeFormsWrong : ChangeSpec := { name := "codeForms", fn := fun _ => fun
  | [d1, d2] => { results := [.lit (.bool false)], args := [d1, d2] }
  | _ => none }
def CodeFormsWrongFalsely : Prop := codeFormsRow.holds Try.pinned (OpenSpec.ofChange codeFormsWrong)

/-- 'darninglaw23.CodeBack': WHATEVER THE INPUT: true; the input reads as it did. -/
def codeBackSpec : ChangeSpec := { name := "codeBack", fn := fun _ => fun
  | [d1, d2] => { results := [.lit (.bool true)], args := [d1, d2] }
  | _ => none }
def codeBackRow : OpenClaim := { program := "ytfgggmojdefidaa", sum := "c7220e13084c18c27392d97a2d2ca89ebd24a220348c95f79afc67cfd434ac07", func := "darning/darninglaw23.CodeBack", spec := "codeBack", apart := false }
def CodeBackSaid : Prop := codeBackRow.holds Try.pinned (OpenSpec.ofChange codeBackSpec)

/-- ITS FALSE NEIGHBOUR: 'it returns false'. Refute it at one input. -/
def codeBackWrong : ChangeSpec := { name := "codeBack", fn := fun _ => fun
  | [d1, d2] => { results := [.lit (.bool false)], args := [d1, d2] }
  | _ => none }
def CodeBackWrongFalsely : Prop := codeBackRow.holds Try.pinned (OpenSpec.ofChange codeBackWrong)

/-- 'darninglaw23.CodeParts': WHATEVER THE INPUT: true; the input reads as it did. -/
def codePartsSpec : ChangeSpec := { name := "codeParts", fn := fun _ => fun
  | [d1, d2] => { results := [.lit (.bool true)], args := [d1, d2] }
  | _ => none }
def codePartsRow : OpenClaim := { program := "ytfgggmojdefidaa", sum := "c7220e13084c18c27392d97a2d2ca89ebd24a220348c95f79afc67cfd434ac07", func := "darning/darninglaw23.CodeParts", spec := "codeParts", apart := false }
def CodePartsSaid : Prop := codePartsRow.holds Try.pinned (OpenSpec.ofChange codePartsSpec)

/-- ITS FALSE NEIGHBOUR: 'it returns false'. Refute it at one input. -/
def codePartsWrong : ChangeSpec := { name := "codeParts", fn := fun _ => fun
  | [d1, d2] => { results := [.lit (.bool false)], args := [d1, d2] }
  | _ => none }
def CodePartsWrongFalsely : Prop := codePartsRow.holds Try.pinned (OpenSpec.ofChange codePartsWrong)

/-- 'darninglaw23.CodeEach': WHATEVER THE INPUT: true; the input reads as it did. -/
def codeEachSpec : ChangeSpec := { name := "codeEach", fn := fun _ => fun
  | [d1, d2] => { results := [.lit (.bool true)], args := [d1, d2] }
  | _ => none }
def codeEachRow : OpenClaim := { program := "ytfgggmojdefidaa", sum := "c7220e13084c18c27392d97a2d2ca89ebd24a220348c95f79afc67cfd434ac07", func := "darning/darninglaw23.CodeEach", spec := "codeEach", apart := false }
def CodeEachSaid : Prop := codeEachRow.holds Try.pinned (OpenSpec.ofChange codeEachSpec)

/-- ITS FALSE NEIGHBOUR: 'it returns false'. Refute it at one input. -/
def codeEachWrong : ChangeSpec := { name := "codeEach", fn := fun _ => fun
  | [d1, d2] => { results := [.lit (.bool false)], args := [d1, d2] }
  | _ => none }
def CodeEachWrongFalsely : Prop := codeEachRow.holds Try.pinned (OpenSpec.ofChange codeEachWrong)

/-- 'darninglaw23.CodeCut': WHATEVER THE INPUT: true; the input reads as it did. -/
def codeCutSpec : ChangeSpec := { name := "codeCut", fn := fun _ => fun
  | [d1, d2] => { results := [.lit (.bool true)], args := [d1, d2] }
  | _ => none }
def codeCutRow : OpenClaim := { program := "ytfgggmojdefidaa", sum := "c7220e13084c18c27392d97a2d2ca89ebd24a220348c95f79afc67cfd434ac07", func := "darning/darninglaw23.CodeCut", spec := "codeCut", apart := false }
def CodeCutSaid : Prop := codeCutRow.holds Try.pinned (OpenSpec.ofChange codeCutSpec)

/-- ITS FALSE NEIGHBOUR: 'it returns false'. Refute it at one input. -/
def codeCutWrong : ChangeSpec := { name := "codeCut", fn := fun _ => fun
  | [d1, d2] => { results := [.lit (.bool false)], args := [d1, d2] }
  | _ => none }
def CodeCutWrongFalsely : Prop := codeCutRow.holds Try.pinned (OpenSpec.ofChange codeCutWrong)

/-- 'darninglaw14.ChainForms': WHATEVER THE INPUT: true; the input reads as it did. -/
def chainFormsSpec : ChangeSpec := { name := "chainForms", fn := fun _ => fun
  | [d1, d2, d3, d4] => { results := [.lit (.bool true)], args := [d1, d2, d3, d4] }
  | _ => none }
def chainFormsRow : OpenClaim := { program := "ytfgggmojdefidaa", sum := "c7220e13084c18c27392d97a2d2ca89ebd24a220348c95f79afc67cfd434ac07", func := "darning/darninglaw14.ChainForms", spec := "chainForms", apart := false }
def ChainFormsSaid : Prop := chainFormsRow.holds Try.pinned (OpenSpec.ofChange chainFormsSpec)

/-- ITS FALSE NEIGHBOUR: 'it returns false'. Refute it at one input. -/
def chainFormsWrong : ChangeSpec := { name := "chainForms", fn := fun _ => fun
  | [d1, d2, d3, d4] => { results := [.lit (.bool false)], args := [d1, d2, d3, d4] }
  | _ => none }
def ChainFormsWrongFalsely : Prop := chainFormsRow.holds Try.pinned (OpenSpec.ofChange chainFormsWrong)

/-- 'darninglaw14.ChainEach': WHATEVER THE INPUT: true; the input reads as it did. -/
def chainEachSpec : ChangeSpec := { name := "chainEach", fn := fun _ => fun
  | [d1, d2, d3] => { results := [.lit (.bool true)], args := [d1, d2, d3] }
  | _ => none }
def chainEachRow : OpenClaim := { program := "ytfgggmojdefidaa", sum := "c7220e13084c18c27392d97a2d2ca89ebd24a220348c95f79afc67cfd434ac07", func := "darning/darninglaw14.ChainEach", spec := "chainEach", apart := false }
def ChainEachSaid : Prop := chainEachRow.holds Try.pinned (OpenSpec.ofChange chainEachSpec)

/-- ITS FALSE NEIGHBOUR: 'it returns false'. Refute it at one input. -/
def chainEachWrong : ChangeSpec := { name := "chainEach", fn := fun _ => fun
  | [d1, d2, d3] => { results := [.lit (.bool false)], args := [d1, d2, d3] }
  | _ => none }
def ChainEachWrongFalsely : Prop := chainEachRow.holds Try.pinned (OpenSpec.ofChange chainEachWrong)

/-- 'darninglaw14.ChainSpoilt': WHATEVER THE INPUT: true; the input reads as it did. -/
def chainSpoiltSpec : ChangeSpec := { name := "chainSpoilt", fn := fun _ => fun
  | [d1, d2, d3, d4] => { results := [.lit (.bool true)], args := [d1, d2, d3, d4] }
  | _ => none }
def chainSpoiltRow : OpenClaim := { program := "ytfgggmojdefidaa", sum := "c7220e13084c18c27392d97a2d2ca89ebd24a220348c95f79afc67cfd434ac07", func := "darning/darninglaw14.ChainSpoilt", spec := "chainSpoilt", apart := false }
def ChainSpoiltSaid : Prop := chainSpoiltRow.holds Try.pinned (OpenSpec.ofChange chainSpoiltSpec)

/-- ITS FALSE NEIGHBOUR: 'it returns false'. Refute it at one input. -/
def chainSpoiltWrong : ChangeSpec := { name := "chainSpoilt", fn := fun _ => fun
  | [d1, d2, d3, d4] => { results := [.lit (.bool false)], args := [d1, d2, d3, d4] }
  | _ => none }
def ChainSpoiltWrongFalsely : Prop := chainSpoiltRow.holds Try.pinned (OpenSpec.ofChange chainSpoiltWrong)

/-- 'darninglaw14.ChainFirst': WHATEVER THE INPUT: true; the input reads as it did. -/
def chainFirstSpec : ChangeSpec := { name := "chainFirst", fn := fun _ => fun
  | [d] => { results := [.lit (.bool true)], args := [d] }
  | _ => none }
def chainFirstRow : OpenClaim := { program := "ytfgggmojdefidaa", sum := "c7220e13084c18c27392d97a2d2ca89ebd24a220348c95f79afc67cfd434ac07", func := "darning/darninglaw14.ChainFirst", spec := "chainFirst", apart := false }
def ChainFirstSaid : Prop := chainFirstRow.holds Try.pinned (OpenSpec.ofChange chainFirstSpec)

/-- ITS FALSE NEIGHBOUR: 'it returns false'. Refute it at one input. -/
def chainFirstWrong : ChangeSpec := { name := "chainFirst", fn := fun _ => fun
  | [d] => { results := [.lit (.bool false)], args := [d] }
  | _ => none }
def ChainFirstWrongFalsely : Prop := chainFirstRow.holds Try.pinned (OpenSpec.ofChange chainFirstWrong)

/-- 'darninglaw14.ChainApart': WHATEVER THE INPUT: true; the input reads as it did. -/
def chainApartSpec : ChangeSpec := { name := "chainApart", fn := fun _ => fun
  | [d1, d2, d3] => { results := [.lit (.bool true)], args := [d1, d2, d3] }
  | _ => none }
def chainApartRow : OpenClaim := { program := "ytfgggmojdefidaa", sum := "c7220e13084c18c27392d97a2d2ca89ebd24a220348c95f79afc67cfd434ac07", func := "darning/darninglaw14.ChainApart", spec := "chainApart", apart := false }
def ChainApartSaid : Prop := chainApartRow.holds Try.pinned (OpenSpec.ofChange chainApartSpec)

/-- ITS FALSE NEIGHBOUR: 'it returns false'. Refute it at one input. -/
def chainApartWrong : ChangeSpec := { name := "chainApart", fn := fun _ => fun
  | [d1, d2, d3] => { results := [.lit (.bool false)], args := [d1, d2, d3] }
  | _ => none }
def ChainApartWrongFalsely : Prop := chainApartRow.holds Try.pinned (OpenSpec.ofChange chainApartWrong)

/- THE SECOND FORM. 'bulk': how many values and letters a reading holds, each counted each time it is reached (what is shared counts as often as it is met; a slice's spare places count too). A statement '..UptoSaid' is the law's where the arguments, and the package variables that the reading takes, are together of bulk at most 1048576: NARROWER than '..Said'. Prove '..Said' where nothing that the law and all that it calls make is longer than what came in: it says more and counts as full. Else prove '..UptoSaid'. A law counts once. -/
mutual
def uptoBulk {H : Type} : DataW H → Nat
  | .lit (.string bytes) => bytes.length + 1
  | .lit _ => 1
  | .nil => 1
  | .ptr d => uptoBulk d + 1
  | .slice elems spare => uptoBulkAll elems + uptoBulkAll spare + 1
  | .agg parts => uptoBulkAll parts + 1
  | .iface _ d => uptoBulk d + 1
  | .map entries => uptoBulkEntries entries + 1
  | .held _ => 1
def uptoBulkAll {H : Type} : List (DataW H) → Nat
  | [] => 0
  | d :: r => uptoBulk d + uptoBulkAll r
def uptoBulkEntries {H : Type} : List (Lit × DataW H) → Nat
  | [] => 0
  | x :: r => uptoBulkEntry x + uptoBulkEntries r
def uptoBulkEntry {H : Type} : Lit × DataW H → Nat
  | (.string bytes, d) => bytes.length + uptoBulk d + 1
  | (_, d) => uptoBulk d + 1
 end
def uptoSmall : (H : Type) → List (DataW H) → Bool := fun _ ds => decide (uptoBulkAll ds ≤ 1048576)
def OpenSpec.upto (s : _root_.Go.ChangeSpec) : _root_.Go.OpenSpec := { _root_.Go.OpenSpec.ofChange s with cond := some uptoSmall }

/-- 'darninglaw23.CodeForms', WHERE WHAT IT READS IS OF BULK AT MOST 1048576: true; the input reads as it did. -/
def codeFormsUptoRow : OpenClaim := { program := "ytfgggmojdefidaa", sum := "c7220e13084c18c27392d97a2d2ca89ebd24a220348c95f79afc67cfd434ac07", func := "darning/darninglaw23.CodeForms", spec := "codeForms", apart := false, narrowed := true }
def CodeFormsUptoSaid : Prop := codeFormsUptoRow.holds Try.pinned (OpenSpec.upto codeFormsSpec)

/-- 'darninglaw23.CodeBack', WHERE WHAT IT READS IS OF BULK AT MOST 1048576: true; the input reads as it did. -/
def codeBackUptoRow : OpenClaim := { program := "ytfgggmojdefidaa", sum := "c7220e13084c18c27392d97a2d2ca89ebd24a220348c95f79afc67cfd434ac07", func := "darning/darninglaw23.CodeBack", spec := "codeBack", apart := false, narrowed := true }
def CodeBackUptoSaid : Prop := codeBackUptoRow.holds Try.pinned (OpenSpec.upto codeBackSpec)

/-- 'darninglaw23.CodeParts', WHERE WHAT IT READS IS OF BULK AT MOST 1048576: true; the input reads as it did. -/
def codePartsUptoRow : OpenClaim := { program := "ytfgggmojdefidaa", sum := "c7220e13084c18c27392d97a2d2ca89ebd24a220348c95f79afc67cfd434ac07", func := "darning/darninglaw23.CodeParts", spec := "codeParts", apart := false, narrowed := true }
def CodePartsUptoSaid : Prop := codePartsUptoRow.holds Try.pinned (OpenSpec.upto codePartsSpec)

/-- 'darninglaw23.CodeEach', WHERE WHAT IT READS IS OF BULK AT MOST 1048576: true; the input reads as it did. -/
def codeEachUptoRow : OpenClaim := { program := "ytfgggmojdefidaa", sum := "c7220e13084c18c27392d97a2d2ca89ebd24a220348c95f79afc67cfd434ac07", func := "darning/darninglaw23.CodeEach", spec := "codeEach", apart := false, narrowed := true }
def CodeEachUptoSaid : Prop := codeEachUptoRow.holds Try.pinned (OpenSpec.upto codeEachSpec)

/-- 'darninglaw23.CodeCut', WHERE WHAT IT READS IS OF BULK AT MOST 1048576: true; the input reads as it did. -/
def codeCutUptoRow : OpenClaim := { program := "ytfgggmojdefidaa", sum := "c7220e13084c18c27392d97a2d2ca89ebd24a220348c95f79afc67cfd434ac07", func := "darning/darninglaw23.CodeCut", spec := "codeCut", apart := false, narrowed := true }
def CodeCutUptoSaid : Prop := codeCutUptoRow.holds Try.pinned (OpenSpec.upto codeCutSpec)

/-- 'darninglaw14.ChainForms', WHERE WHAT IT READS IS OF BULK AT MOST 1048576: true; the input reads as it did. -/
def chainFormsUptoRow : OpenClaim := { program := "ytfgggmojdefidaa", sum := "c7220e13084c18c27392d97a2d2ca89ebd24a220348c95f79afc67cfd434ac07", func := "darning/darninglaw14.ChainForms", spec := "chainForms", apart := false, narrowed := true }
def ChainFormsUptoSaid : Prop := chainFormsUptoRow.holds Try.pinned (OpenSpec.upto chainFormsSpec)

/-- 'darninglaw14.ChainEach', WHERE WHAT IT READS IS OF BULK AT MOST 1048576: true; the input reads as it did. -/
def chainEachUptoRow : OpenClaim := { program := "ytfgggmojdefidaa", sum := "c7220e13084c18c27392d97a2d2ca89ebd24a220348c95f79afc67cfd434ac07", func := "darning/darninglaw14.ChainEach", spec := "chainEach", apart := false, narrowed := true }
def ChainEachUptoSaid : Prop := chainEachUptoRow.holds Try.pinned (OpenSpec.upto chainEachSpec)

/-- 'darninglaw14.ChainSpoilt', WHERE WHAT IT READS IS OF BULK AT MOST 1048576: true; the input reads as it did. -/
def chainSpoiltUptoRow : OpenClaim := { program := "ytfgggmojdefidaa", sum := "c7220e13084c18c27392d97a2d2ca89ebd24a220348c95f79afc67cfd434ac07", func := "darning/darninglaw14.ChainSpoilt", spec := "chainSpoilt", apart := false, narrowed := true }
def ChainSpoiltUptoSaid : Prop := chainSpoiltUptoRow.holds Try.pinned (OpenSpec.upto chainSpoiltSpec)

/-- 'darninglaw14.ChainFirst', WHERE WHAT IT READS IS OF BULK AT MOST 1048576: true; the input reads as it did. -/
def chainFirstUptoRow : OpenClaim := { program := "ytfgggmojdefidaa", sum := "c7220e13084c18c27392d97a2d2ca89ebd24a220348c95f79afc67cfd434ac07", func := "darning/darninglaw14.ChainFirst", spec := "chainFirst", apart := false, narrowed := true }
def ChainFirstUptoSaid : Prop := chainFirstUptoRow.holds Try.pinned (OpenSpec.upto chainFirstSpec)

/-- 'darninglaw14.ChainApart', WHERE WHAT IT READS IS OF BULK AT MOST 1048576: true; the input reads as it did. -/
def chainApartUptoRow : OpenClaim := { program := "ytfgggmojdefidaa", sum := "c7220e13084c18c27392d97a2d2ca89ebd24a220348c95f79afc67cfd434ac07", func := "darning/darninglaw14.ChainApart", spec := "chainApart", apart := false, narrowed := true }
def ChainApartUptoSaid : Prop := chainApartUptoRow.holds Try.pinned (OpenSpec.upto chainApartSpec)

end Rows
end Go.Proofs.Ytfgggmojdefidaa
