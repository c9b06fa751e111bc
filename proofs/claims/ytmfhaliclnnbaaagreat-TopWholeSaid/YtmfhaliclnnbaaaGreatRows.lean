/-
  No cell of these rows narrows 'for every input' (looked for: loops, veiled, ifaces, maps, wideKeys, modest, calm, conditions, laid).
  DERIVED. THE GIVEN ROWS OF THIS SEAT. 4 by the template 'for every input the law returns true; each argument reads behind the call as it read before'; 0 by the template 'total and deterministic' (their statements: YtmfhaliclnnbaaaGreatTotals.lean).
  GIVEN WITH THE SEED: the statements are not yours to turn. If you find one false, say at which input.
  Laid BY PROGRAM, IN A SANDBOX (cutbox-rows.mjs): the forced cells as the released guide's own fill.sh prints them over the translation c2360e9147479f73… (all of the seat's roots in one cut). By AI agents, Wed Nov 11 2026. No macro, syntax, notation, axiom, sorry.
-/
import Derived.Test.YtmfhaliclnnbaaaGreatChecked
import GoSem.Claim
import GoSem.ClaimJoined
import GoSem.ClaimMapViews
import Derived.JoinedTies
import Derived.KernelRfl
namespace Go.Proofs.YtmfhaliclnnbaaaGreat
/- THE CELL 'sum', in the pinned program and in every row, IS THE sha256 OF THE DUMP (.gsa) THAT YtmfhaliclnnbaaaGreatProg.lean LOADS. Nothing in Lean hashes anything: it is a label: what it is worth is what the hold of that sum in a sandbox is worth. -/
noncomputable def Tryz.pinned : Pinned := { name := "ytmfhaliclnnbaaagreat", sum := "c2360e9147479f738c702b23d732526032ec80fa9f565f6d79c0413fd25f2e34", checked := Tryz.checked }
namespace Rows
def none {H : Type} : Left H := { results := [], args := [] }

/-- 'darningtop.TopRound': WHATEVER THE INPUT: true; the input reads as it did. -/
def topRoundSpec : ChangeSpec := { name := "topRound", fn := fun _ => fun
  | [d1, d2] => { results := [.lit (.bool true)], args := [d1, d2] }
  | _ => none }
def topRoundRow : OpenClaim := { program := "ytmfhaliclnnbaaagreat", sum := "c2360e9147479f738c702b23d732526032ec80fa9f565f6d79c0413fd25f2e34", func := "darning/darningtop.TopRound", spec := "topRound", unfollowed := true, recurses := true, apart := false }
def TopRoundSaid : Prop := topRoundRow.holds Tryz.pinned (OpenSpec.ofChange topRoundSpec)

/-- ITS FALSE NEIGHBOUR: 'it returns false'. Refute it at one input. -/
def topRoundWrong : ChangeSpec := { name := "topRound", fn := fun _ => fun
  | [d1, d2] => { results := [.lit (.bool false)], args := [d1, d2] }
  | _ => none }
def TopRoundWrongFalsely : Prop := topRoundRow.holds Tryz.pinned (OpenSpec.ofChange topRoundWrong)

/-- 'darningtop.TopSticky': WHATEVER THE INPUT: true; the input reads as it did. -/
def topStickySpec : ChangeSpec := { name := "topSticky", fn := fun _ => fun
  | [d1, d2, d3] => { results := [.lit (.bool true)], args := [d1, d2, d3] }
  | _ => none }
def topStickyRow : OpenClaim := { program := "ytmfhaliclnnbaaagreat", sum := "c2360e9147479f738c702b23d732526032ec80fa9f565f6d79c0413fd25f2e34", func := "darning/darningtop.TopSticky", spec := "topSticky", unfollowed := true, recurses := true, apart := false }
def TopStickySaid : Prop := topStickyRow.holds Tryz.pinned (OpenSpec.ofChange topStickySpec)

/-- ITS FALSE NEIGHBOUR: 'it returns false'. Refute it at one input. -/
def topStickyWrong : ChangeSpec := { name := "topSticky", fn := fun _ => fun
  | [d1, d2, d3] => { results := [.lit (.bool false)], args := [d1, d2, d3] }
  | _ => none }
def TopStickyWrongFalsely : Prop := topStickyRow.holds Tryz.pinned (OpenSpec.ofChange topStickyWrong)

/-- 'darningtop.TopSame': WHATEVER THE INPUT: true; the input reads as it did. -/
def topSameSpec : ChangeSpec := { name := "topSame", fn := fun _ => fun
  | [d1, d2, d3, d4, d5] => { results := [.lit (.bool true)], args := [d1, d2, d3, d4, d5] }
  | _ => none }
def topSameRow : OpenClaim := { program := "ytmfhaliclnnbaaagreat", sum := "c2360e9147479f738c702b23d732526032ec80fa9f565f6d79c0413fd25f2e34", func := "darning/darningtop.TopSame", spec := "topSame", unfollowed := true, recurses := true, apart := false }
def TopSameSaid : Prop := topSameRow.holds Tryz.pinned (OpenSpec.ofChange topSameSpec)

/-- ITS FALSE NEIGHBOUR: 'it returns false'. Refute it at one input. -/
def topSameWrong : ChangeSpec := { name := "topSame", fn := fun _ => fun
  | [d1, d2, d3, d4, d5] => { results := [.lit (.bool false)], args := [d1, d2, d3, d4, d5] }
  | _ => none }
def TopSameWrongFalsely : Prop := topSameRow.holds Tryz.pinned (OpenSpec.ofChange topSameWrong)

/-- 'darningtop.TopWhole': WHATEVER THE INPUT: true; the input reads as it did. -/
def topWholeSpec : ChangeSpec := { name := "topWhole", fn := fun _ => fun
  | [d1, d2, d3] => { results := [.lit (.bool true)], args := [d1, d2, d3] }
  | _ => none }
def topWholeRow : OpenClaim := { program := "ytmfhaliclnnbaaagreat", sum := "c2360e9147479f738c702b23d732526032ec80fa9f565f6d79c0413fd25f2e34", func := "darning/darningtop.TopWhole", spec := "topWhole", unfollowed := true, recurses := true, apart := false }
def TopWholeSaid : Prop := topWholeRow.holds Tryz.pinned (OpenSpec.ofChange topWholeSpec)

/-- ITS FALSE NEIGHBOUR: 'it returns false'. Refute it at one input. -/
def topWholeWrong : ChangeSpec := { name := "topWhole", fn := fun _ => fun
  | [d1, d2, d3] => { results := [.lit (.bool false)], args := [d1, d2, d3] }
  | _ => none }
def TopWholeWrongFalsely : Prop := topWholeRow.holds Tryz.pinned (OpenSpec.ofChange topWholeWrong)

/- THE SECOND FORM. 'bulk': how many values and letters a reading holds, each counted each time it is reached (what is shared counts as often as it is met; a slice's spare places count too). A statement '..UptoSaid' is the law's where the arguments, and the package variables that the reading takes, are together of bulk at most 1048576: NARROWER than '..Said'. Prove '..Said' where nothing that the law and all that it calls make is longer than what came in: it says more and counts as full. Else prove '..UptoSaid'. A law counts once. -/
mutual
def uptoBulk {H : Type} : DataW H → Nat
  | .lit (.string bytes) => bytes.length + 1
  | .lit _ => 1
  | .nil => 1
  | .ptr d => uptoBulk d + 1
  | .slice elems spare => uptoBulkAll elems + uptoBulkAll spare + 1
  | .agg parts => uptoBulkAll parts + 1
  | .iface _ d => uptoBulk d + 1
  | .map entries => uptoBulkEntries entries + 1
  | .held _ => 1
def uptoBulkAll {H : Type} : List (DataW H) → Nat
  | [] => 0
  | d :: r => uptoBulk d + uptoBulkAll r
def uptoBulkEntries {H : Type} : List (Lit × DataW H) → Nat
  | [] => 0
  | x :: r => uptoBulkEntry x + uptoBulkEntries r
def uptoBulkEntry {H : Type} : Lit × DataW H → Nat
  | (.string bytes, d) => bytes.length + uptoBulk d + 1
  | (_, d) => uptoBulk d + 1
 end
def uptoSmall : (H : Type) → List (DataW H) → Bool := fun _ ds => decide (uptoBulkAll ds ≤ 1048576)
def OpenSpec.upto (s : _root_.Go.ChangeSpec) : _root_.Go.OpenSpec := { _root_.Go.OpenSpec.ofChange s with cond := some uptoSmall }

/-- 'darningtop.TopRound', WHERE WHAT IT READS IS OF BULK AT MOST 1048576: true; the input reads as it did. -/
def topRoundUptoRow : OpenClaim := { program := "ytmfhaliclnnbaaagreat", sum := "c2360e9147479f738c702b23d732526032ec80fa9f565f6d79c0413fd25f2e34", func := "darning/darningtop.TopRound", spec := "topRound", unfollowed := true, recurses := true, apart := false, narrowed := true }
def TopRoundUptoSaid : Prop := topRoundUptoRow.holds Tryz.pinned (OpenSpec.upto topRoundSpec)

/-- 'darningtop.TopSticky', WHERE WHAT IT READS IS OF BULK AT MOST 1048576: true; the input reads as it did. -/
def topStickyUptoRow : OpenClaim := { program := "ytmfhaliclnnbaaagreat", sum := "c2360e9147479f738c702b23d732526032ec80fa9f565f6d79c0413fd25f2e34", func := "darning/darningtop.TopSticky", spec := "topSticky", unfollowed := true, recurses := true, apart := false, narrowed := true }
def TopStickyUptoSaid : Prop := topStickyUptoRow.holds Tryz.pinned (OpenSpec.upto topStickySpec)

/-- 'darningtop.TopSame', WHERE WHAT IT READS IS OF BULK AT MOST 1048576: true; the input reads as it did. -/
def topSameUptoRow : OpenClaim := { program := "ytmfhaliclnnbaaagreat", sum := "c2360e9147479f738c702b23d732526032ec80fa9f565f6d79c0413fd25f2e34", func := "darning/darningtop.TopSame", spec := "topSame", unfollowed := true, recurses := true, apart := false, narrowed := true }
def TopSameUptoSaid : Prop := topSameUptoRow.holds Tryz.pinned (OpenSpec.upto topSameSpec)

/-- 'darningtop.TopWhole', WHERE WHAT IT READS IS OF BULK AT MOST 1048576: true; the input reads as it did. -/
def topWholeUptoRow : OpenClaim := { program := "ytmfhaliclnnbaaagreat", sum := "c2360e9147479f738c702b23d732526032ec80fa9f565f6d79c0413fd25f2e34", func := "darning/darningtop.TopWhole", spec := "topWhole", unfollowed := true, recurses := true, apart := false, narrowed := true }
def TopWholeUptoSaid : Prop := topWholeUptoRow.holds Tryz.pinned (OpenSpec.upto topWholeSpec)

end Rows
end Go.Proofs.YtmfhaliclnnbaaaGreat
