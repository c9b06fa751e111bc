/-
  No cell of these rows narrows 'for every input' (looked for: loops, veiled, ifaces, maps, wideKeys, modest, calm, conditions, laid).
  DERIVED. THE GIVEN ROWS OF THIS SEAT. 12 by the template 'for every input the law returns true; each argument reads behind the call as it read before'; 0 by the template 'total and deterministic' (their statements: YtjmlbkbjmeeplaaTotals.lean).
  GIVEN WITH THE SEED: the statements are not yours to turn. If you find one false, say at which input.
  Laid BY PROGRAM, IN A SANDBOX (cutbox-rows.mjs): the forced cells as the released guide's own fill.sh prints them over the translation 7dae81420eab9fcc… (all of the seat's roots in one cut). By AI agents, Wed Nov 11 2026. No macro, syntax, notation, axiom, sorry.
-/
import Derived.Test.YtjmlbkbjmeeplaaChecked
import GoSem.Claim
import GoSem.ClaimJoined
import GoSem.ClaimMapViews
import Derived.JoinedTies
import Derived.KernelRfl
namespace Go.Proofs.Ytjmlbkbjmeeplaa
/- THE CELL 'sum', in the pinned program and in every row, IS THE sha256 OF THE DUMP (.gsa) THAT YtjmlbkbjmeeplaaProg.lean LOADS. Nothing in Lean hashes anything: it is a label: what it is worth is what the hold of that sum in a sandbox is worth. -/
noncomputable def Try.pinned : Pinned := { name := "ytjmlbkbjmeeplaa", sum := "7dae81420eab9fccdf06451bf1368dfa5f756c5261d9ce66b49a577956403374", checked := Try.checked }
namespace Rows
def none {H : Type} : Left H := { results := [], args := [] }

/-- 'darninglaw13.BlockForms': WHATEVER THE INPUT: true; the input reads as it did. -/
def blockFormsSpec : ChangeSpec := { name := "blockForms", fn := fun _ => fun
  | [d1, d2, d3] => { results := [.lit (.bool true)], args := [d1, d2, d3] }
  | _ => none }
def blockFormsRow : OpenClaim := { program := "ytjmlbkbjmeeplaa", sum := "7dae81420eab9fccdf06451bf1368dfa5f756c5261d9ce66b49a577956403374", func := "darning/darninglaw13.BlockForms", spec := "blockForms", apart := false }
def BlockFormsSaid : Prop := blockFormsRow.holds Try.pinned (OpenSpec.ofChange blockFormsSpec)

/-- ITS FALSE NEIGHBOUR: 'it returns false'. Refute it at one input. -/
def blockFormsWrong : ChangeSpec := { name := "blockForms", fn := fun _ => fun
  | [d1, d2, d3] => { results := [.lit (.bool false)], args := [d1, d2, d3] }
  | _ => none }
def BlockFormsWrongFalsely : Prop := blockFormsRow.holds Try.pinned (OpenSpec.ofChange blockFormsWrong)

/-- 'darninglaw13.BlockBack': WHATEVER THE INPUT: true; the input reads as it did. -/
def blockBackSpec : ChangeSpec := { name := "blockBack", fn := fun _ => fun
  | [d1, d2, d3] => { results := [.lit (.bool true)], args := [d1, d2, d3] }
  | _ => none }
def blockBackRow : OpenClaim := { program := "ytjmlbkbjmeeplaa", sum := "7dae81420eab9fccdf06451bf1368dfa5f756c5261d9ce66b49a577956403374", func := "darning/darninglaw13.BlockBack", spec := "blockBack", apart := false }
def BlockBackSaid : Prop := blockBackRow.holds Try.pinned (OpenSpec.ofChange blockBackSpec)

/-- ITS FALSE NEIGHBOUR: 'it returns false'. Refute it at one input. -/
def blockBackWrong : ChangeSpec := { name := "blockBack", fn := fun _ => fun
  | [d1, d2, d3] => { results := [.lit (.bool false)], args := [d1, d2, d3] }
  | _ => none }
def BlockBackWrongFalsely : Prop := blockBackRow.holds Try.pinned (OpenSpec.ofChange blockBackWrong)

/-- 'darninglaw13.BlockUnlike': WHATEVER THE INPUT: true; the input reads as it did. -/
def blockUnlikeSpec : ChangeSpec := { name := "blockUnlike", fn := fun _ => fun
  | [d1, d2, d3, d4] => { results := [.lit (.bool true)], args := [d1, d2, d3, d4] }
  | _ => none }
def blockUnlikeRow : OpenClaim := { program := "ytjmlbkbjmeeplaa", sum := "7dae81420eab9fccdf06451bf1368dfa5f756c5261d9ce66b49a577956403374", func := "darning/darninglaw13.BlockUnlike", spec := "blockUnlike", apart := false }
def BlockUnlikeSaid : Prop := blockUnlikeRow.holds Try.pinned (OpenSpec.ofChange blockUnlikeSpec)

/-- ITS FALSE NEIGHBOUR: 'it returns false'. Refute it at one input. -/
def blockUnlikeWrong : ChangeSpec := { name := "blockUnlike", fn := fun _ => fun
  | [d1, d2, d3, d4] => { results := [.lit (.bool false)], args := [d1, d2, d3, d4] }
  | _ => none }
def BlockUnlikeWrongFalsely : Prop := blockUnlikeRow.holds Try.pinned (OpenSpec.ofChange blockUnlikeWrong)

/-- 'darninglaw13.BlockRaw': WHATEVER THE INPUT: true; the input reads as it did. -/
def blockRawSpec : ChangeSpec := { name := "blockRaw", fn := fun _ => fun
  | [d] => { results := [.lit (.bool true)], args := [d] }
  | _ => none }
def blockRawRow : OpenClaim := { program := "ytjmlbkbjmeeplaa", sum := "7dae81420eab9fccdf06451bf1368dfa5f756c5261d9ce66b49a577956403374", func := "darning/darninglaw13.BlockRaw", spec := "blockRaw", apart := false }
def BlockRawSaid : Prop := blockRawRow.holds Try.pinned (OpenSpec.ofChange blockRawSpec)

/-- ITS FALSE NEIGHBOUR: 'it returns false'. Refute it at one input. -/
def blockRawWrong : ChangeSpec := { name := "blockRaw", fn := fun _ => fun
  | [d] => { results := [.lit (.bool false)], args := [d] }
  | _ => none }
def BlockRawWrongFalsely : Prop := blockRawRow.holds Try.pinned (OpenSpec.ofChange blockRawWrong)

/-- 'darninglaw8.GapForms': WHATEVER THE INPUT: true; the input reads as it did. -/
def gapFormsSpec : ChangeSpec := { name := "gapForms", fn := fun _ => fun
  | [d1, d2, d3, d4] => { results := [.lit (.bool true)], args := [d1, d2, d3, d4] }
  | _ => none }
def gapFormsRow : OpenClaim := { program := "ytjmlbkbjmeeplaa", sum := "7dae81420eab9fccdf06451bf1368dfa5f756c5261d9ce66b49a577956403374", func := "darning/darninglaw8.GapForms", spec := "gapForms", apart := false }
def GapFormsSaid : Prop := gapFormsRow.holds Try.pinned (OpenSpec.ofChange gapFormsSpec)

/-- ITS FALSE NEIGHBOUR: 'it returns false'. Refute it at one input. -/
def gapFormsWrong : ChangeSpec := { name := "gapForms", fn := fun _ => fun
  | [d1, d2, d3, d4] => { results := [.lit (.bool false)], args := [d1, d2, d3, d4] }
  | _ => none }
def GapFormsWrongFalsely : Prop := gapFormsRow.holds Try.pinned (OpenSpec.ofChange gapFormsWrong)

/-- 'darninglaw8.GapMoves': WHATEVER THE INPUT: true; the input reads as it did. -/
def gapMovesSpec : ChangeSpec := { name := "gapMoves", fn := fun _ => fun
  | [d1, d2] => { results := [.lit (.bool true)], args := [d1, d2] }
  | _ => none }
def gapMovesRow : OpenClaim := { program := "ytjmlbkbjmeeplaa", sum := "7dae81420eab9fccdf06451bf1368dfa5f756c5261d9ce66b49a577956403374", func := "darning/darninglaw8.GapMoves", spec := "gapMoves", apart := false }
def GapMovesSaid : Prop := gapMovesRow.holds Try.pinned (OpenSpec.ofChange gapMovesSpec)

/-- ITS FALSE NEIGHBOUR: 'it returns false'. Refute it at one input. -/
def gapMovesWrong : ChangeSpec := { name := "gapMoves", fn := fun _ => fun
  | [d1, d2] => { results := [.lit (.bool false)], args := [d1, d2] }
  | _ => none }
def GapMovesWrongFalsely : Prop := gapMovesRow.holds Try.pinned (OpenSpec.ofChange gapMovesWrong)

/-- 'darninglaw8.GapRound': WHATEVER THE INPUT: true; the input reads as it did. -/
def gapRoundSpec : ChangeSpec := { name := "gapRound", fn := fun _ => fun
  | [d1, d2, d3] => { results := [.lit (.bool true)], args := [d1, d2, d3] }
  | _ => none }
def gapRoundRow : OpenClaim := { program := "ytjmlbkbjmeeplaa", sum := "7dae81420eab9fccdf06451bf1368dfa5f756c5261d9ce66b49a577956403374", func := "darning/darninglaw8.GapRound", spec := "gapRound", apart := false }
def GapRoundSaid : Prop := gapRoundRow.holds Try.pinned (OpenSpec.ofChange gapRoundSpec)

/-- ITS FALSE NEIGHBOUR: 'it returns false'. Refute it at one input. -/
def gapRoundWrong : ChangeSpec := { name := "gapRound", fn := fun _ => fun
  | [d1, d2, d3] => { results := [.lit (.bool false)], args := [d1, d2, d3] }
  | _ => none }
def GapRoundWrongFalsely : Prop := gapRoundRow.holds Try.pinned (OpenSpec.ofChange gapRoundWrong)

/-- 'darninglaw8.GapOnce': WHATEVER THE INPUT: true; the input reads as it did. -/
def gapOnceSpec : ChangeSpec := { name := "gapOnce", fn := fun _ => fun
  | [d1, d2, d3] => { results := [.lit (.bool true)], args := [d1, d2, d3] }
  | _ => none }
def gapOnceRow : OpenClaim := { program := "ytjmlbkbjmeeplaa", sum := "7dae81420eab9fccdf06451bf1368dfa5f756c5261d9ce66b49a577956403374", func := "darning/darninglaw8.GapOnce", spec := "gapOnce", apart := false }
def GapOnceSaid : Prop := gapOnceRow.holds Try.pinned (OpenSpec.ofChange gapOnceSpec)

/-- ITS FALSE NEIGHBOUR: 'it returns false'. Refute it at one input. -/
def gapOnceWrong : ChangeSpec := { name := "gapOnce", fn := fun _ => fun
  | [d1, d2, d3] => { results := [.lit (.bool false)], args := [d1, d2, d3] }
  | _ => none }
def GapOnceWrongFalsely : Prop := gapOnceRow.holds Try.pinned (OpenSpec.ofChange gapOnceWrong)

/-- 'darninglaw8.GapEach': WHATEVER THE INPUT: true; the input reads as it did. -/
def gapEachSpec : ChangeSpec := { name := "gapEach", fn := fun _ => fun
  | [d1, d2, d3] => { results := [.lit (.bool true)], args := [d1, d2, d3] }
  | _ => none }
def gapEachRow : OpenClaim := { program := "ytjmlbkbjmeeplaa", sum := "7dae81420eab9fccdf06451bf1368dfa5f756c5261d9ce66b49a577956403374", func := "darning/darninglaw8.GapEach", spec := "gapEach", apart := false }
def GapEachSaid : Prop := gapEachRow.holds Try.pinned (OpenSpec.ofChange gapEachSpec)

/-- ITS FALSE NEIGHBOUR: 'it returns false'. Refute it at one input. -/
def gapEachWrong : ChangeSpec := { name := "gapEach", fn := fun _ => fun
  | [d1, d2, d3] => { results := [.lit (.bool false)], args := [d1, d2, d3] }
  | _ => none }
def GapEachWrongFalsely : Prop := gapEachRow.holds Try.pinned (OpenSpec.ofChange gapEachWrong)

/-- 'darninglaw6.SpareForms': WHATEVER THE INPUT: true; the input reads as it did. -/
def spareFormsSpec : ChangeSpec := { name := "spareForms", fn := fun _ => fun
  | [d1, d2, d3] => { results := [.lit (.bool true)], args := [d1, d2, d3] }
  | _ => none }
def spareFormsRow : OpenClaim := { program := "ytjmlbkbjmeeplaa", sum := "7dae81420eab9fccdf06451bf1368dfa5f756c5261d9ce66b49a577956403374", func := "darning/darninglaw6.SpareForms", spec := "spareForms", apart := false }
def SpareFormsSaid : Prop := spareFormsRow.holds Try.pinned (OpenSpec.ofChange spareFormsSpec)

/-- ITS FALSE NEIGHBOUR: 'it returns false'. Refute it at one input. -/
def spareFormsWrong : ChangeSpec := { name := "spareForms", fn := fun _ => fun
  | [d1, d2, d3] => { results := [.lit (.bool false)], args := [d1, d2, d3] }
  | _ => none }
def SpareFormsWrongFalsely : Prop := spareFormsRow.holds Try.pinned (OpenSpec.ofChange spareFormsWrong)

/-- 'darninglaw6.SpareApart': WHATEVER THE INPUT: true; the input reads as it did. -/
def spareApartSpec : ChangeSpec := { name := "spareApart", fn := fun _ => fun
  | [d1, d2, d3, d4] => { results := [.lit (.bool true)], args := [d1, d2, d3, d4] }
  | _ => none }
def spareApartRow : OpenClaim := { program := "ytjmlbkbjmeeplaa", sum := "7dae81420eab9fccdf06451bf1368dfa5f756c5261d9ce66b49a577956403374", func := "darning/darninglaw6.SpareApart", spec := "spareApart", apart := false }
def SpareApartSaid : Prop := spareApartRow.holds Try.pinned (OpenSpec.ofChange spareApartSpec)

/-- ITS FALSE NEIGHBOUR: 'it returns false'. Refute it at one input. -/
def spareApartWrong : ChangeSpec := { name := "spareApart", fn := fun _ => fun
  | [d1, d2, d3, d4] => { results := [.lit (.bool false)], args := [d1, d2, d3, d4] }
  | _ => none }
def SpareApartWrongFalsely : Prop := spareApartRow.holds Try.pinned (OpenSpec.ofChange spareApartWrong)

/-- 'darninglaw6.SpareNext': WHATEVER THE INPUT: true; the input reads as it did. -/
def spareNextSpec : ChangeSpec := { name := "spareNext", fn := fun _ => fun
  | [d1, d2, d3, d4] => { results := [.lit (.bool true)], args := [d1, d2, d3, d4] }
  | _ => none }
def spareNextRow : OpenClaim := { program := "ytjmlbkbjmeeplaa", sum := "7dae81420eab9fccdf06451bf1368dfa5f756c5261d9ce66b49a577956403374", func := "darning/darninglaw6.SpareNext", spec := "spareNext", apart := false }
def SpareNextSaid : Prop := spareNextRow.holds Try.pinned (OpenSpec.ofChange spareNextSpec)

/-- ITS FALSE NEIGHBOUR: 'it returns false'. Refute it at one input. -/
def spareNextWrong : ChangeSpec := { name := "spareNext", fn := fun _ => fun
  | [d1, d2, d3, d4] => { results := [.lit (.bool false)], args := [d1, d2, d3, d4] }
  | _ => none }
def SpareNextWrongFalsely : Prop := spareNextRow.holds Try.pinned (OpenSpec.ofChange spareNextWrong)

/- THE SECOND FORM. 'bulk': how many values and letters a reading holds, each counted each time it is reached (what is shared counts as often as it is met; a slice's spare places count too). A statement '..UptoSaid' is the law's where the arguments, and the package variables that the reading takes, are together of bulk at most 1048576: NARROWER than '..Said'. Prove '..Said' where nothing that the law and all that it calls make is longer than what came in: it says more and counts as full. Else prove '..UptoSaid'. A law counts once. -/
mutual
def uptoBulk {H : Type} : DataW H → Nat
  | .lit (.string bytes) => bytes.length + 1
  | .lit _ => 1
  | .nil => 1
  | .ptr d => uptoBulk d + 1
  | .slice elems spare => uptoBulkAll elems + uptoBulkAll spare + 1
  | .agg parts => uptoBulkAll parts + 1
  | .iface _ d => uptoBulk d + 1
  | .map entries => uptoBulkEntries entries + 1
  | .held _ => 1
def uptoBulkAll {H : Type} : List (DataW H) → Nat
  | [] => 0
  | d :: r => uptoBulk d + uptoBulkAll r
def uptoBulkEntries {H : Type} : List (Lit × DataW H) → Nat
  | [] => 0
  | x :: r => uptoBulkEntry x + uptoBulkEntries r
def uptoBulkEntry {H : Type} : Lit × DataW H → Nat
  | (.string bytes, d) => bytes.length + uptoBulk d + 1
  | (_, d) => uptoBulk d + 1
 end
def uptoSmall : (H : Type) → List (DataW H) → Bool := fun _ ds => decide (uptoBulkAll ds ≤ 1048576)
def OpenSpec.upto (s : _root_.Go.ChangeSpec) : _root_.Go.OpenSpec := { _root_.Go.OpenSpec.ofChange s with cond := some uptoSmall }

/-- 'darninglaw13.BlockForms', WHERE WHAT IT READS IS OF BULK AT MOST 1048576: true; the input reads as it did. -/
def blockFormsUptoRow : OpenClaim := { program := "ytjmlbkbjmeeplaa", sum := "7dae81420eab9fccdf06451bf1368dfa5f756c5261d9ce66b49a577956403374", func := "darning/darninglaw13.BlockForms", spec := "blockForms", apart := false, narrowed := true }
def BlockFormsUptoSaid : Prop := blockFormsUptoRow.holds Try.pinned (OpenSpec.upto blockFormsSpec)

/-- 'darninglaw13.BlockBack', WHERE WHAT IT READS IS OF BULK AT MOST 1048576: true; the input reads as it did. -/
def blockBackUptoRow : OpenClaim := { program := "ytjmlbkbjmeeplaa", sum := "7dae81420eab9fccdf06451bf1368dfa5f756c5261d9ce66b49a577956403374", func := "darning/darninglaw13.BlockBack", spec := "blockBack", apart := false, narrowed := true }
def BlockBackUptoSaid : Prop := blockBackUptoRow.holds Try.pinned (OpenSpec.upto blockBackSpec)

/-- 'darninglaw13.BlockUnlike', WHERE WHAT IT READS IS OF BULK AT MOST 1048576: true; the input reads as it did. -/
def blockUnlikeUptoRow : OpenClaim := { program := "ytjmlbkbjmeeplaa", sum := "7dae81420eab9fccdf06451bf1368dfa5f756c5261d9ce66b49a577956403374", func := "darning/darninglaw13.BlockUnlike", spec := "blockUnlike", apart := false, narrowed := true }
def BlockUnlikeUptoSaid : Prop := blockUnlikeUptoRow.holds Try.pinned (OpenSpec.upto blockUnlikeSpec)

/-- 'darninglaw13.BlockRaw', WHERE WHAT IT READS IS OF BULK AT MOST 1048576: true; the input reads as it did. -/
def blockRawUptoRow : OpenClaim := { program := "ytjmlbkbjmeeplaa", sum := "7dae81420eab9fccdf06451bf1368dfa5f756c5261d9ce66b49a577956403374", func := "darning/darninglaw13.BlockRaw", spec := "blockRaw", apart := false, narrowed := true }
def BlockRawUptoSaid : Prop := blockRawUptoRow.holds Try.pinned (OpenSpec.upto blockRawSpec)

/-- 'darninglaw8.GapForms', WHERE WHAT IT READS IS OF BULK AT MOST 1048576: true; the input reads as it did. -/
def gapFormsUptoRow : OpenClaim := { program := "ytjmlbkbjmeeplaa", sum := "7dae81420eab9fccdf06451bf1368dfa5f756c5261d9ce66b49a577956403374", func := "darning/darninglaw8.GapForms", spec := "gapForms", apart := false, narrowed := true }
def GapFormsUptoSaid : Prop := gapFormsUptoRow.holds Try.pinned (OpenSpec.upto gapFormsSpec)

/-- 'darninglaw8.GapMoves', WHERE WHAT IT READS IS OF BULK AT MOST 1048576: true; the input reads as it did. -/
def gapMovesUptoRow : OpenClaim := { program := "ytjmlbkbjmeeplaa", sum := "7dae81420eab9fccdf06451bf1368dfa5f756c5261d9ce66b49a577956403374", func := "darning/darninglaw8.GapMoves", spec := "gapMoves", apart := false, narrowed := true }
def GapMovesUptoSaid : Prop := gapMovesUptoRow.holds Try.pinned (OpenSpec.upto gapMovesSpec)

/-- 'darninglaw8.GapRound', WHERE WHAT IT READS IS OF BULK AT MOST 1048576: true; the input reads as it did. -/
def gapRoundUptoRow : OpenClaim := { program := "ytjmlbkbjmeeplaa", sum := "7dae81420eab9fccdf06451bf1368dfa5f756c5261d9ce66b49a577956403374", func := "darning/darninglaw8.GapRound", spec := "gapRound", apart := false, narrowed := true }
def GapRoundUptoSaid : Prop := gapRoundUptoRow.holds Try.pinned (OpenSpec.upto gapRoundSpec)

/-- 'darninglaw8.GapOnce', WHERE WHAT IT READS IS OF BULK AT MOST 1048576: true; the input reads as it did. -/
def gapOnceUptoRow : OpenClaim := { program := "ytjmlbkbjmeeplaa", sum := "7dae81420eab9fccdf06451bf1368dfa5f756c5261d9ce66b49a577956403374", func := "darning/darninglaw8.GapOnce", spec := "gapOnce", apart := false, narrowed := true }
def GapOnceUptoSaid : Prop := gapOnceUptoRow.holds Try.pinned (OpenSpec.upto gapOnceSpec)

/-- 'darninglaw8.GapEach', WHERE WHAT IT READS IS OF BULK AT MOST 1048576: true; the input reads as it did. -/
def gapEachUptoRow : OpenClaim := { program := "ytjmlbkbjmeeplaa", sum := "7dae81420eab9fccdf06451bf1368dfa5f756c5261d9ce66b49a577956403374", func := "darning/darninglaw8.GapEach", spec := "gapEach", apart := false, narrowed := true }
def GapEachUptoSaid : Prop := gapEachUptoRow.holds Try.pinned (OpenSpec.upto gapEachSpec)

/-- 'darninglaw6.SpareForms', WHERE WHAT IT READS IS OF BULK AT MOST 1048576: true; the input reads as it did. -/
def spareFormsUptoRow : OpenClaim := { program := "ytjmlbkbjmeeplaa", sum := "7dae81420eab9fccdf06451bf1368dfa5f756c5261d9ce66b49a577956403374", func := "darning/darninglaw6.SpareForms", spec := "spareForms", apart := false, narrowed := true }
def SpareFormsUptoSaid : Prop := spareFormsUptoRow.holds Try.pinned (OpenSpec.upto spareFormsSpec)

/-- 'darninglaw6.SpareApart', WHERE WHAT IT READS IS OF BULK AT MOST 1048576: true; the input reads as it did. -/
def spareApartUptoRow : OpenClaim := { program := "ytjmlbkbjmeeplaa", sum := "7dae81420eab9fccdf06451bf1368dfa5f756c5261d9ce66b49a577956403374", func := "darning/darninglaw6.SpareApart", spec := "spareApart", apart := false, narrowed := true }
def SpareApartUptoSaid : Prop := spareApartUptoRow.holds Try.pinned (OpenSpec.upto spareApartSpec)

/-- 'darninglaw6.SpareNext', WHERE WHAT IT READS IS OF BULK AT MOST 1048576: true; the input reads as it did. -/
def spareNextUptoRow : OpenClaim := { program := "ytjmlbkbjmeeplaa", sum := "7dae81420eab9fccdf06451bf1368dfa5f756c5261d9ce66b49a577956403374", func := "darning/darninglaw6.SpareNext", spec := "spareNext", apart := false, narrowed := true }
def SpareNextUptoSaid : Prop := spareNextUptoRow.holds Try.pinned (OpenSpec.upto spareNextSpec)

end Rows
end Go.Proofs.Ytjmlbkbjmeeplaa
