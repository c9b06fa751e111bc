/-
  No cell of these rows narrows 'for every input' (looked for: loops, veiled, ifaces, maps, wideKeys, modest, calm, conditions, laid).
  DERIVED. THE GIVEN ROWS OF THIS SEAT. 11 by the template 'for every input the law returns true; each argument reads behind the call as it read before'; 0 by the template 'total and deterministic' (their statements: YtjmlbkbjmeeplabTotals.lean).
  GIVEN WITH THE SEED: the statements are not yours to turn. If you find one false, say at which input.
  Laid BY PROGRAM, IN A SANDBOX (cutbox-rows.mjs): the forced cells as the released guide's own fill.sh prints them over the translation 1190f367f360e7b0… (all of the seat's roots in one cut). By AI agents, Wed Nov 11 2026. No macro, syntax, notation, axiom, sorry.
-/
import Derived.Test.YtjmlbkbjmeeplabChecked
import GoSem.Claim
import GoSem.ClaimJoined
import GoSem.ClaimMapViews
import Derived.JoinedTies
import Derived.KernelRfl
namespace Go.Proofs.Ytjmlbkbjmeeplab
/- THE CELL 'sum', in the pinned program and in every row, IS THE sha256 OF THE DUMP (.gsa) THAT YtjmlbkbjmeeplabProg.lean LOADS. Nothing in Lean hashes anything: it is a label: what it is worth is what the hold of that sum in a sandbox is worth. -/
noncomputable def Try.pinned : Pinned := { name := "ytjmlbkbjmeeplab", sum := "1190f367f360e7b09b3121cadc1ad626756a5fe2eee39fdf7efeaf3687ac0a35", checked := Try.checked }
namespace Rows
def none {H : Type} : Left H := { results := [], args := [] }

/-- 'darninglaw6.SpareChain': WHATEVER THE INPUT: true; the input reads as it did. -/
def spareChainSpec : ChangeSpec := { name := "spareChain", fn := fun _ => fun
  | [d1, d2, d3, d4] => { results := [.lit (.bool true)], args := [d1, d2, d3, d4] }
  | _ => none }
def spareChainRow : OpenClaim := { program := "ytjmlbkbjmeeplab", sum := "1190f367f360e7b09b3121cadc1ad626756a5fe2eee39fdf7efeaf3687ac0a35", func := "darning/darninglaw6.SpareChain", spec := "spareChain", apart := false }
def SpareChainSaid : Prop := spareChainRow.holds Try.pinned (OpenSpec.ofChange spareChainSpec)

/-- ITS FALSE NEIGHBOUR: 'it returns false'. Refute it at one input. -/
def spareChainWrong : ChangeSpec := { name := "spareChain", fn := fun _ => fun
  | [d1, d2, d3, d4] => { results := [.lit (.bool false)], args := [d1, d2, d3, d4] }
  | _ => none }
def SpareChainWrongFalsely : Prop := spareChainRow.holds Try.pinned (OpenSpec.ofChange spareChainWrong)

/-- 'darninglaw6.SpareSpoilt': WHATEVER THE INPUT: true; the input reads as it did. -/
def spareSpoiltSpec : ChangeSpec := { name := "spareSpoilt", fn := fun _ => fun
  | [d1, d2, d3, d4] => { results := [.lit (.bool true)], args := [d1, d2, d3, d4] }
  | _ => none }
def spareSpoiltRow : OpenClaim := { program := "ytjmlbkbjmeeplab", sum := "1190f367f360e7b09b3121cadc1ad626756a5fe2eee39fdf7efeaf3687ac0a35", func := "darning/darninglaw6.SpareSpoilt", spec := "spareSpoilt", apart := false }
def SpareSpoiltSaid : Prop := spareSpoiltRow.holds Try.pinned (OpenSpec.ofChange spareSpoiltSpec)

/-- ITS FALSE NEIGHBOUR: 'it returns false'. Refute it at one input. -/
def spareSpoiltWrong : ChangeSpec := { name := "spareSpoilt", fn := fun _ => fun
  | [d1, d2, d3, d4] => { results := [.lit (.bool false)], args := [d1, d2, d3, d4] }
  | _ => none }
def SpareSpoiltWrongFalsely : Prop := spareSpoiltRow.holds Try.pinned (OpenSpec.ofChange spareSpoiltWrong)

/-- 'darninglaw15.FitBest': WHATEVER THE INPUT: true; the input reads as it did. -/
def fitBestSpec : ChangeSpec := { name := "fitBest", fn := fun _ => fun
  | [d1, d2, d3] => { results := [.lit (.bool true)], args := [d1, d2, d3] }
  | _ => none }
def fitBestRow : OpenClaim := { program := "ytjmlbkbjmeeplab", sum := "1190f367f360e7b09b3121cadc1ad626756a5fe2eee39fdf7efeaf3687ac0a35", func := "darning/darninglaw15.FitBest", spec := "fitBest", apart := false }
def FitBestSaid : Prop := fitBestRow.holds Try.pinned (OpenSpec.ofChange fitBestSpec)

/-- ITS FALSE NEIGHBOUR: 'it returns false'. Refute it at one input. -/
def fitBestWrong : ChangeSpec := { name := "fitBest", fn := fun _ => fun
  | [d1, d2, d3] => { results := [.lit (.bool false)], args := [d1, d2, d3] }
  | _ => none }
def FitBestWrongFalsely : Prop := fitBestRow.holds Try.pinned (OpenSpec.ofChange fitBestWrong)

/-- 'darninglaw15.FitNeeds': WHATEVER THE INPUT: true; the input reads as it did. -/
def fitNeedsSpec : ChangeSpec := { name := "fitNeeds", fn := fun _ => fun
  | [d1, d2] => { results := [.lit (.bool true)], args := [d1, d2] }
  | _ => none }
def fitNeedsRow : OpenClaim := { program := "ytjmlbkbjmeeplab", sum := "1190f367f360e7b09b3121cadc1ad626756a5fe2eee39fdf7efeaf3687ac0a35", func := "darning/darninglaw15.FitNeeds", spec := "fitNeeds", apart := false }
def FitNeedsSaid : Prop := fitNeedsRow.holds Try.pinned (OpenSpec.ofChange fitNeedsSpec)

/-- ITS FALSE NEIGHBOUR: 'it returns false'. Refute it at one input. -/
def fitNeedsWrong : ChangeSpec := { name := "fitNeeds", fn := fun _ => fun
  | [d1, d2] => { results := [.lit (.bool false)], args := [d1, d2] }
  | _ => none }
def FitNeedsWrongFalsely : Prop := fitNeedsRow.holds Try.pinned (OpenSpec.ofChange fitNeedsWrong)

/-- 'darninglaw15.FitOrder': WHATEVER THE INPUT: true; the input reads as it did. -/
def fitOrderSpec : ChangeSpec := { name := "fitOrder", fn := fun _ => fun
  | [d1, d2, d3] => { results := [.lit (.bool true)], args := [d1, d2, d3] }
  | _ => none }
def fitOrderRow : OpenClaim := { program := "ytjmlbkbjmeeplab", sum := "1190f367f360e7b09b3121cadc1ad626756a5fe2eee39fdf7efeaf3687ac0a35", func := "darning/darninglaw15.FitOrder", spec := "fitOrder", apart := false }
def FitOrderSaid : Prop := fitOrderRow.holds Try.pinned (OpenSpec.ofChange fitOrderSpec)

/-- ITS FALSE NEIGHBOUR: 'it returns false'. Refute it at one input. -/
def fitOrderWrong : ChangeSpec := { name := "fitOrder", fn := fun _ => fun
  | [d1, d2, d3] => { results := [.lit (.bool false)], args := [d1, d2, d3] }
  | _ => none }
def FitOrderWrongFalsely : Prop := fitOrderRow.holds Try.pinned (OpenSpec.ofChange fitOrderWrong)

/-- 'darninglaw15.FitMore': WHATEVER THE INPUT: true; the input reads as it did. -/
def fitMoreSpec : ChangeSpec := { name := "fitMore", fn := fun _ => fun
  | [d1, d2, d3] => { results := [.lit (.bool true)], args := [d1, d2, d3] }
  | _ => none }
def fitMoreRow : OpenClaim := { program := "ytjmlbkbjmeeplab", sum := "1190f367f360e7b09b3121cadc1ad626756a5fe2eee39fdf7efeaf3687ac0a35", func := "darning/darninglaw15.FitMore", spec := "fitMore", apart := false }
def FitMoreSaid : Prop := fitMoreRow.holds Try.pinned (OpenSpec.ofChange fitMoreSpec)

/-- ITS FALSE NEIGHBOUR: 'it returns false'. Refute it at one input. -/
def fitMoreWrong : ChangeSpec := { name := "fitMore", fn := fun _ => fun
  | [d1, d2, d3] => { results := [.lit (.bool false)], args := [d1, d2, d3] }
  | _ => none }
def FitMoreWrongFalsely : Prop := fitMoreRow.holds Try.pinned (OpenSpec.ofChange fitMoreWrong)

/-- 'darninglaw3.GuardStays': WHATEVER THE INPUT: true; the input reads as it did. -/
def guardStaysSpec : ChangeSpec := { name := "guardStays", fn := fun _ => fun
  | [d1, d2, d3] => { results := [.lit (.bool true)], args := [d1, d2, d3] }
  | _ => none }
def guardStaysRow : OpenClaim := { program := "ytjmlbkbjmeeplab", sum := "1190f367f360e7b09b3121cadc1ad626756a5fe2eee39fdf7efeaf3687ac0a35", func := "darning/darninglaw3.GuardStays", spec := "guardStays", unfollowed := true, recurses := true, apart := false }
def GuardStaysSaid : Prop := guardStaysRow.holds Try.pinned (OpenSpec.ofChange guardStaysSpec)

/-- ITS FALSE NEIGHBOUR: 'it returns false'. Refute it at one input. -/
def guardStaysWrong : ChangeSpec := { name := "guardStays", fn := fun _ => fun
  | [d1, d2, d3] => { results := [.lit (.bool false)], args := [d1, d2, d3] }
  | _ => none }
def GuardStaysWrongFalsely : Prop := guardStaysRow.holds Try.pinned (OpenSpec.ofChange guardStaysWrong)

/-- 'darninglaw3.GuardFull': WHATEVER THE INPUT: true; the input reads as it did. -/
def guardFullSpec : ChangeSpec := { name := "guardFull", fn := fun _ => fun
  | [d1, d2] => { results := [.lit (.bool true)], args := [d1, d2] }
  | _ => none }
def guardFullRow : OpenClaim := { program := "ytjmlbkbjmeeplab", sum := "1190f367f360e7b09b3121cadc1ad626756a5fe2eee39fdf7efeaf3687ac0a35", func := "darning/darninglaw3.GuardFull", spec := "guardFull", unfollowed := true, recurses := true, apart := false }
def GuardFullSaid : Prop := guardFullRow.holds Try.pinned (OpenSpec.ofChange guardFullSpec)

/-- ITS FALSE NEIGHBOUR: 'it returns false'. Refute it at one input. -/
def guardFullWrong : ChangeSpec := { name := "guardFull", fn := fun _ => fun
  | [d1, d2] => { results := [.lit (.bool false)], args := [d1, d2] }
  | _ => none }
def GuardFullWrongFalsely : Prop := guardFullRow.holds Try.pinned (OpenSpec.ofChange guardFullWrong)

/-- 'darninglaw3.GuardSums': WHATEVER THE INPUT: true; the input reads as it did. -/
def guardSumsSpec : ChangeSpec := { name := "guardSums", fn := fun _ => fun
  | [d] => { results := [.lit (.bool true)], args := [d] }
  | _ => none }
def guardSumsRow : OpenClaim := { program := "ytjmlbkbjmeeplab", sum := "1190f367f360e7b09b3121cadc1ad626756a5fe2eee39fdf7efeaf3687ac0a35", func := "darning/darninglaw3.GuardSums", spec := "guardSums", unfollowed := true, recurses := true, apart := false }
def GuardSumsSaid : Prop := guardSumsRow.holds Try.pinned (OpenSpec.ofChange guardSumsSpec)

/-- ITS FALSE NEIGHBOUR: 'it returns false'. Refute it at one input. -/
def guardSumsWrong : ChangeSpec := { name := "guardSums", fn := fun _ => fun
  | [d] => { results := [.lit (.bool false)], args := [d] }
  | _ => none }
def GuardSumsWrongFalsely : Prop := guardSumsRow.holds Try.pinned (OpenSpec.ofChange guardSumsWrong)

/-- 'darninglaw3.GuardIndexes': WHATEVER THE INPUT: true; the input reads as it did. -/
def guardIndexesSpec : ChangeSpec := { name := "guardIndexes", fn := fun _ => fun
  | [d1, d2] => { results := [.lit (.bool true)], args := [d1, d2] }
  | _ => none }
def guardIndexesRow : OpenClaim := { program := "ytjmlbkbjmeeplab", sum := "1190f367f360e7b09b3121cadc1ad626756a5fe2eee39fdf7efeaf3687ac0a35", func := "darning/darninglaw3.GuardIndexes", spec := "guardIndexes", unfollowed := true, recurses := true, apart := false }
def GuardIndexesSaid : Prop := guardIndexesRow.holds Try.pinned (OpenSpec.ofChange guardIndexesSpec)

/-- ITS FALSE NEIGHBOUR: 'it returns false'. Refute it at one input. -/
def guardIndexesWrong : ChangeSpec := { name := "guardIndexes", fn := fun _ => fun
  | [d1, d2] => { results := [.lit (.bool false)], args := [d1, d2] }
  | _ => none }
def GuardIndexesWrongFalsely : Prop := guardIndexesRow.holds Try.pinned (OpenSpec.ofChange guardIndexesWrong)

/-- 'darninglaw3.GuardForms': WHATEVER THE INPUT: true; the input reads as it did. -/
def guardFormsSpec : ChangeSpec := { name := "guardForms", fn := fun _ => fun
  | [d1, d2, d3, d4, d5, d6] => { results := [.lit (.bool true)], args := [d1, d2, d3, d4, d5, d6] }
  | _ => none }
def guardFormsRow : OpenClaim := { program := "ytjmlbkbjmeeplab", sum := "1190f367f360e7b09b3121cadc1ad626756a5fe2eee39fdf7efeaf3687ac0a35", func := "darning/darninglaw3.GuardForms", spec := "guardForms", unfollowed := true, recurses := true, apart := false }
def GuardFormsSaid : Prop := guardFormsRow.holds Try.pinned (OpenSpec.ofChange guardFormsSpec)

/-- ITS FALSE NEIGHBOUR: 'it returns false'. Refute it at one input. -/
def guardFormsWrong : ChangeSpec := { name := "guardForms", fn := fun _ => fun
  | [d1, d2, d3, d4, d5, d6] => { results := [.lit (.bool false)], args := [d1, d2, d3, d4, d5, d6] }
  | _ => none }
def GuardFormsWrongFalsely : Prop := guardFormsRow.holds Try.pinned (OpenSpec.ofChange guardFormsWrong)

/- THE SECOND FORM. 'bulk': how many values and letters a reading holds, each counted each time it is reached (what is shared counts as often as it is met; a slice's spare places count too). A statement '..UptoSaid' is the law's where the arguments, and the package variables that the reading takes, are together of bulk at most 1048576: NARROWER than '..Said'. Prove '..Said' where nothing that the law and all that it calls make is longer than what came in: it says more and counts as full. Else prove '..UptoSaid'. A law counts once. -/
mutual
def uptoBulk {H : Type} : DataW H → Nat
  | .lit (.string bytes) => bytes.length + 1
  | .lit _ => 1
  | .nil => 1
  | .ptr d => uptoBulk d + 1
  | .slice elems spare => uptoBulkAll elems + uptoBulkAll spare + 1
  | .agg parts => uptoBulkAll parts + 1
  | .iface _ d => uptoBulk d + 1
  | .map entries => uptoBulkEntries entries + 1
  | .held _ => 1
def uptoBulkAll {H : Type} : List (DataW H) → Nat
  | [] => 0
  | d :: r => uptoBulk d + uptoBulkAll r
def uptoBulkEntries {H : Type} : List (Lit × DataW H) → Nat
  | [] => 0
  | x :: r => uptoBulkEntry x + uptoBulkEntries r
def uptoBulkEntry {H : Type} : Lit × DataW H → Nat
  | (.string bytes, d) => bytes.length + uptoBulk d + 1
  | (_, d) => uptoBulk d + 1
 end
def uptoSmall : (H : Type) → List (DataW H) → Bool := fun _ ds => decide (uptoBulkAll ds ≤ 1048576)
def OpenSpec.upto (s : _root_.Go.ChangeSpec) : _root_.Go.OpenSpec := { _root_.Go.OpenSpec.ofChange s with cond := some uptoSmall }

/-- 'darninglaw6.SpareChain', WHERE WHAT IT READS IS OF BULK AT MOST 1048576: true; the input reads as it did. -/
def spareChainUptoRow : OpenClaim := { program := "ytjmlbkbjmeeplab", sum := "1190f367f360e7b09b3121cadc1ad626756a5fe2eee39fdf7efeaf3687ac0a35", func := "darning/darninglaw6.SpareChain", spec := "spareChain", apart := false, narrowed := true }
def SpareChainUptoSaid : Prop := spareChainUptoRow.holds Try.pinned (OpenSpec.upto spareChainSpec)

/-- 'darninglaw6.SpareSpoilt', WHERE WHAT IT READS IS OF BULK AT MOST 1048576: true; the input reads as it did. -/
def spareSpoiltUptoRow : OpenClaim := { program := "ytjmlbkbjmeeplab", sum := "1190f367f360e7b09b3121cadc1ad626756a5fe2eee39fdf7efeaf3687ac0a35", func := "darning/darninglaw6.SpareSpoilt", spec := "spareSpoilt", apart := false, narrowed := true }
def SpareSpoiltUptoSaid : Prop := spareSpoiltUptoRow.holds Try.pinned (OpenSpec.upto spareSpoiltSpec)

/-- 'darninglaw15.FitBest', WHERE WHAT IT READS IS OF BULK AT MOST 1048576: true; the input reads as it did. -/
def fitBestUptoRow : OpenClaim := { program := "ytjmlbkbjmeeplab", sum := "1190f367f360e7b09b3121cadc1ad626756a5fe2eee39fdf7efeaf3687ac0a35", func := "darning/darninglaw15.FitBest", spec := "fitBest", apart := false, narrowed := true }
def FitBestUptoSaid : Prop := fitBestUptoRow.holds Try.pinned (OpenSpec.upto fitBestSpec)

/-- 'darninglaw15.FitNeeds', WHERE WHAT IT READS IS OF BULK AT MOST 1048576: true; the input reads as it did. -/
def fitNeedsUptoRow : OpenClaim := { program := "ytjmlbkbjmeeplab", sum := "1190f367f360e7b09b3121cadc1ad626756a5fe2eee39fdf7efeaf3687ac0a35", func := "darning/darninglaw15.FitNeeds", spec := "fitNeeds", apart := false, narrowed := true }
def FitNeedsUptoSaid : Prop := fitNeedsUptoRow.holds Try.pinned (OpenSpec.upto fitNeedsSpec)

/-- 'darninglaw15.FitOrder', WHERE WHAT IT READS IS OF BULK AT MOST 1048576: true; the input reads as it did. -/
def fitOrderUptoRow : OpenClaim := { program := "ytjmlbkbjmeeplab", sum := "1190f367f360e7b09b3121cadc1ad626756a5fe2eee39fdf7efeaf3687ac0a35", func := "darning/darninglaw15.FitOrder", spec := "fitOrder", apart := false, narrowed := true }
def FitOrderUptoSaid : Prop := fitOrderUptoRow.holds Try.pinned (OpenSpec.upto fitOrderSpec)

/-- 'darninglaw15.FitMore', WHERE WHAT IT READS IS OF BULK AT MOST 1048576: true; the input reads as it did. -/
def fitMoreUptoRow : OpenClaim := { program := "ytjmlbkbjmeeplab", sum := "1190f367f360e7b09b3121cadc1ad626756a5fe2eee39fdf7efeaf3687ac0a35", func := "darning/darninglaw15.FitMore", spec := "fitMore", apart := false, narrowed := true }
def FitMoreUptoSaid : Prop := fitMoreUptoRow.holds Try.pinned (OpenSpec.upto fitMoreSpec)

/-- 'darninglaw3.GuardStays', WHERE WHAT IT READS IS OF BULK AT MOST 1048576: true; the input reads as it did. -/
def guardStaysUptoRow : OpenClaim := { program := "ytjmlbkbjmeeplab", sum := "1190f367f360e7b09b3121cadc1ad626756a5fe2eee39fdf7efeaf3687ac0a35", func := "darning/darninglaw3.GuardStays", spec := "guardStays", unfollowed := true, recurses := true, apart := false, narrowed := true }
def GuardStaysUptoSaid : Prop := guardStaysUptoRow.holds Try.pinned (OpenSpec.upto guardStaysSpec)

/-- 'darninglaw3.GuardFull', WHERE WHAT IT READS IS OF BULK AT MOST 1048576: true; the input reads as it did. -/
def guardFullUptoRow : OpenClaim := { program := "ytjmlbkbjmeeplab", sum := "1190f367f360e7b09b3121cadc1ad626756a5fe2eee39fdf7efeaf3687ac0a35", func := "darning/darninglaw3.GuardFull", spec := "guardFull", unfollowed := true, recurses := true, apart := false, narrowed := true }
def GuardFullUptoSaid : Prop := guardFullUptoRow.holds Try.pinned (OpenSpec.upto guardFullSpec)

/-- 'darninglaw3.GuardSums', WHERE WHAT IT READS IS OF BULK AT MOST 1048576: true; the input reads as it did. -/
def guardSumsUptoRow : OpenClaim := { program := "ytjmlbkbjmeeplab", sum := "1190f367f360e7b09b3121cadc1ad626756a5fe2eee39fdf7efeaf3687ac0a35", func := "darning/darninglaw3.GuardSums", spec := "guardSums", unfollowed := true, recurses := true, apart := false, narrowed := true }
def GuardSumsUptoSaid : Prop := guardSumsUptoRow.holds Try.pinned (OpenSpec.upto guardSumsSpec)

/-- 'darninglaw3.GuardIndexes', WHERE WHAT IT READS IS OF BULK AT MOST 1048576: true; the input reads as it did. -/
def guardIndexesUptoRow : OpenClaim := { program := "ytjmlbkbjmeeplab", sum := "1190f367f360e7b09b3121cadc1ad626756a5fe2eee39fdf7efeaf3687ac0a35", func := "darning/darninglaw3.GuardIndexes", spec := "guardIndexes", unfollowed := true, recurses := true, apart := false, narrowed := true }
def GuardIndexesUptoSaid : Prop := guardIndexesUptoRow.holds Try.pinned (OpenSpec.upto guardIndexesSpec)

/-- 'darninglaw3.GuardForms', WHERE WHAT IT READS IS OF BULK AT MOST 1048576: true; the input reads as it did. -/
def guardFormsUptoRow : OpenClaim := { program := "ytjmlbkbjmeeplab", sum := "1190f367f360e7b09b3121cadc1ad626756a5fe2eee39fdf7efeaf3687ac0a35", func := "darning/darninglaw3.GuardForms", spec := "guardForms", unfollowed := true, recurses := true, apart := false, narrowed := true }
def GuardFormsUptoSaid : Prop := guardFormsUptoRow.holds Try.pinned (OpenSpec.upto guardFormsSpec)

end Rows
end Go.Proofs.Ytjmlbkbjmeeplab
