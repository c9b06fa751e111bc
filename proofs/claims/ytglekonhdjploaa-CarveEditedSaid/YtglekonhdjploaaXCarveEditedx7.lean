-- Laid by this session's own printer (wip/xprint.py): each Go function that the law reaches as a plain Lean function, and that the call comes to it.
import Derived.Test.YtglekonhdjploaaXCarveEditedx0
import Derived.Test.YtglekonhdjploaaXCarveEditedx2
import Derived.Test.YtglekonhdjploaaXCarveEditedx4
import Derived.Test.YtglekonhdjploaaXCarveEditedx5
import Derived.Test.YtglekonhdjploaaXCarveEditedx6
namespace Go.Proofs.Ytglekonhdjploaa.XCarveEdited
open Go.RowKit Go.Proofs.YtglekonhdjploaaW.PrintWords Go.Proofs.YtglekonhdjploaaW.PrintLast Go.Proofs.YtglekonhdjploaaW.PrintMore
attribute [local go_sem] max2_int min2_int max_two min_two max_three min_three max_four min_four   -- for this text's walks alone
set_option linter.unusedVariables false
set_option linter.unusedSimpArgs false

/-! ### darninglaw16_CarveEdited: function 10 -/
mutual
def darninglaw16_CarveEdited.j0 : Nat → List (S35) → Int → Int → Int → Int → Bool → Option (Bool)
 | 0, _, _, _, _, _, _ => none
 | k + 1, x0, x1, x2, x3, x4, x35 => if x35 = true then ((darninglaw16_awake.f k).bind fun t215 => (some t215)) else (if (IntKind.u64.wrap ((x0.length : Int))) = 0 then (none) else ((darninglaw14_Words.f k x0 x1).bind fun t216 => (darninglaw16_CarveEdited.l0 k x0 (wrap64 (Int.tmod (IntKind.u64.wrap (x2)) (IntKind.u64.wrap ((x0.length : Int))))) (wrap64 (2 + (wrap64 (Int.tmod (IntKind.u64.wrap (x3)) 60)))) x4 t216 (t216.length : Int) 0)))
def darninglaw16_CarveEdited.l0 : Nat → List (S35) → Int → Int → Int → List Int → Int → Int → Option (Bool)
 | 0, _, _, _, _, _, _, _ => none
 | k + 1, x0, x2, x3, x4, x11, x53, x54 => if x54 < x53 then (if 0 ≤ x54 then (if x54 < (x11.length : Int) then (if (rd x11 x54) = 0 then (darninglaw16_CarveEdited.j2 k x0 x2 x3 x4 (x11.set (x54 : Int).toNat (IntKind.u64.wrap (x4 + (IntKind.u64.wrap (x54))))) x53 x54) else (darninglaw16_CarveEdited.j2 k x0 x2 x3 x4 x11 x53 x54)) else (none)) else (none)) else ((carve_Blocks.f k x0 x2 x3).bind fun bt221 => ((carve_Edits.f k x0 x2 x3).bind fun t225 => (if 0 ≤ x2 then (if x2 < (x0.length : Int) then (if (rd_T35 x0 x2).f2 = true then (darninglaw16_CarveEdited.j3 k x0 x2 x11 bt221.1 bt221.2 t225 true) else (darninglaw16_CarveEdited.j3 k x0 x2 x11 bt221.1 bt221.2 t225 (decide (((rd_T35 x0 x2).f1) < x3)))) else (none)) else (none))))
def darninglaw16_CarveEdited.j2 : Nat → List (S35) → Int → Int → Int → List Int → Int → Int → Option (Bool)
 | 0, _, _, _, _, _, _, _ => none
 | k + 1, x0, x2, x3, x4, x11, x53, x54 => darninglaw16_CarveEdited.l0 k x0 x2 x3 x4 x11 x53 (wrap64 (x54 + 1))
def darninglaw16_CarveEdited.j3 : Nat → List (S35) → Int → List Int → List (S35) → Bool → List (S30) → Bool → Option (Bool)
 | 0, _, _, _, _, _, _, _ => none
 | k + 1, x0, x2, x11, x13, x14, x15, x94 => if x94 = true then (if x14 = true then (some false) else (if (x15.length : Int) = 0 then ((darninglaw16_awake.f k).bind fun t230 => (some t230)) else (some false))) else ((darningref4_Apply.f k x11 x15).bind fun t231 => ((chain_Blocks.f k t231).bind fun bt234 => (if x14 = true then (if bt234.2 = true then ((darningref4_SameBlocks.f k bt234.1 x13).bind fun t238 => (if t238 = true then (if x2 ≥ (x13.length : Int) then (some false) else (if 0 ≤ x2 then (if x2 < (x13.length : Int) then (if ((rd_T35 x13 x2).f2 = true) then (if x2 < (x0.length : Int) then (if ((rd_T35 x13 x2).f0) = ((rd_T35 x0 x2).f0) then (darninglaw16_CarveEdited.l1 k x0 x2 x11 x13 t231 (t231.length : Int) 0) else (some false)) else (none)) else (some false)) else (none)) else (none))) else (some false))) else (some false)) else (some false))))
def darninglaw16_CarveEdited.l1 : Nat → List (S35) → Int → List Int → List (S35) → List Int → Int → Int → Option (Bool)
 | 0, _, _, _, _, _, _, _ => none
 | k + 1, x0, x2, x11, x13, x16, x153, x154 => if x154 < x153 then (if 0 ≤ x2 then (if x2 < (x13.length : Int) then (if x154 > ((rd_T35 x13 x2).f0) then (darninglaw16_CarveEdited.j5 k x0 x2 x11 x13 x16 x154 (decide (x154 < (wrap64 (((rd_T35 x13 x2).f0) + ((rd_T35 x13 x2).f1))))) x153 x154) else (darninglaw16_CarveEdited.j5 k x0 x2 x11 x13 x16 x154 false x153 x154)) else (none)) else (none)) else ((darninglaw16_awake.f k).bind fun t253 => (some t253))
def darninglaw16_CarveEdited.j8 : Nat → List (S35) → Int → List Int → List (S35) → List Int → Int → Int → Option (Bool)
 | 0, _, _, _, _, _, _, _ => none
 | k + 1, x0, x2, x11, x13, x16, x153, x154 => darninglaw16_CarveEdited.l1 k x0 x2 x11 x13 x16 x153 (wrap64 (x154 + 1))
def darninglaw16_CarveEdited.j5 : Nat → List (S35) → Int → List Int → List (S35) → List Int → Int → Bool → Int → Int → Option (Bool)
 | 0, _, _, _, _, _, _, _, _, _ => none
 | k + 1, x0, x2, x11, x13, x16, x19, x20, x153, x154 => if 0 ≤ x2 then (if x2 < (x13.length : Int) then (if x19 = ((rd_T35 x13 x2).f0) then (darninglaw16_CarveEdited.j6 k x0 x2 x11 x13 x16 x19 x20 true x153 x154) else (if x19 = (wrap64 (((rd_T35 x13 x2).f0) + ((rd_T35 x13 x2).f1))) then (if x2 < (x0.length : Int) then (darninglaw16_CarveEdited.j6 k x0 x2 x11 x13 x16 x19 x20 (decide (((rd_T35 x13 x2).f1) < ((rd_T35 x0 x2).f1))) x153 x154) else (none)) else (darninglaw16_CarveEdited.j6 k x0 x2 x11 x13 x16 x19 x20 false x153 x154))) else (none)) else (none)
def darninglaw16_CarveEdited.j6 : Nat → List (S35) → Int → List Int → List (S35) → List Int → Int → Bool → Bool → Int → Int → Option (Bool)
 | 0, _, _, _, _, _, _, _, _, _, _ => none
 | k + 1, x0, x2, x11, x13, x16, x19, x20, x21, x153, x154 => if x20 = true then (if 0 ≤ x19 then (if x19 < (x16.length : Int) then (if (rd x16 x19) = 0 then (darninglaw16_CarveEdited.j7 k x0 x2 x11 x13 x16 x153 x154 false) else (some false)) else (none)) else (none)) else (if x21 = true then (darninglaw16_CarveEdited.j7 k x0 x2 x11 x13 x16 x153 x154 false) else (if 0 ≤ x19 then (if x19 < (x16.length : Int) then (if x19 < (x11.length : Int) then (darninglaw16_CarveEdited.j7 k x0 x2 x11 x13 x16 x153 x154 ((rd x16 x19) != (rd x11 x19))) else (none)) else (none)) else (none)))
def darninglaw16_CarveEdited.j7 : Nat → List (S35) → Int → List Int → List (S35) → List Int → Int → Int → Bool → Option (Bool)
 | 0, _, _, _, _, _, _, _, _ => none
 | k + 1, x0, x2, x11, x13, x16, x153, x154, x240 => if x240 = true then (some false) else (darninglaw16_CarveEdited.j8 k x0 x2 x11 x13 x16 x153 x154)
end
def darninglaw16_CarveEdited.f (k : Nat) (l0 : List (S35)) (a1 : Int) (a2 : Int) (a3 : Int) (a4 : Int) : Option (Bool) := if (l0.length : Int) > 300 then (darninglaw16_CarveEdited.j0 k l0 a1 a2 a3 a4 true) else (if (l0.length : Int) = 0 then (darninglaw16_CarveEdited.j0 k l0 a1 a2 a3 a4 true) else ((darningref4_MayBlocks.f k l0 a1).bind fun t214 => (darninglaw16_CarveEdited.j0 k l0 a1 a2 a3 a4 (!t214))))
theorem darninglaw16_CarveEdited.mono_l : ∀ k, (∀ y0 y1 y2 y3 y4 y5, LeO (darninglaw16_CarveEdited.j0 k y0 y1 y2 y3 y4 y5) (darninglaw16_CarveEdited.j0 (k + 1) y0 y1 y2 y3 y4 y5)) ∧ (∀ y0 y1 y2 y3 y4 y5 y6, LeO (darninglaw16_CarveEdited.l0 k y0 y1 y2 y3 y4 y5 y6) (darninglaw16_CarveEdited.l0 (k + 1) y0 y1 y2 y3 y4 y5 y6)) ∧ (∀ y0 y1 y2 y3 y4 y5 y6, LeO (darninglaw16_CarveEdited.j2 k y0 y1 y2 y3 y4 y5 y6) (darninglaw16_CarveEdited.j2 (k + 1) y0 y1 y2 y3 y4 y5 y6)) ∧ (∀ y0 y1 y2 y3 y4 y5 y6, LeO (darninglaw16_CarveEdited.j3 k y0 y1 y2 y3 y4 y5 y6) (darninglaw16_CarveEdited.j3 (k + 1) y0 y1 y2 y3 y4 y5 y6)) ∧ (∀ y0 y1 y2 y3 y4 y5 y6, LeO (darninglaw16_CarveEdited.l1 k y0 y1 y2 y3 y4 y5 y6) (darninglaw16_CarveEdited.l1 (k + 1) y0 y1 y2 y3 y4 y5 y6)) ∧ (∀ y0 y1 y2 y3 y4 y5 y6, LeO (darninglaw16_CarveEdited.j8 k y0 y1 y2 y3 y4 y5 y6) (darninglaw16_CarveEdited.j8 (k + 1) y0 y1 y2 y3 y4 y5 y6)) ∧ (∀ y0 y1 y2 y3 y4 y5 y6 y7 y8, LeO (darninglaw16_CarveEdited.j5 k y0 y1 y2 y3 y4 y5 y6 y7 y8) (darninglaw16_CarveEdited.j5 (k + 1) y0 y1 y2 y3 y4 y5 y6 y7 y8)) ∧ (∀ y0 y1 y2 y3 y4 y5 y6 y7 y8 y9, LeO (darninglaw16_CarveEdited.j6 k y0 y1 y2 y3 y4 y5 y6 y7 y8 y9) (darninglaw16_CarveEdited.j6 (k + 1) y0 y1 y2 y3 y4 y5 y6 y7 y8 y9)) ∧ (∀ y0 y1 y2 y3 y4 y5 y6 y7, LeO (darninglaw16_CarveEdited.j7 k y0 y1 y2 y3 y4 y5 y6 y7) (darninglaw16_CarveEdited.j7 (k + 1) y0 y1 y2 y3 y4 y5 y6 y7))
 | 0 => ⟨fun _ _ _ _ _ _ r h => by simp [darninglaw16_CarveEdited.j0] at h, fun _ _ _ _ _ _ _ r h => by simp [darninglaw16_CarveEdited.l0] at h, fun _ _ _ _ _ _ _ r h => by simp [darninglaw16_CarveEdited.j2] at h, fun _ _ _ _ _ _ _ r h => by simp [darninglaw16_CarveEdited.j3] at h, fun _ _ _ _ _ _ _ r h => by simp [darninglaw16_CarveEdited.l1] at h, fun _ _ _ _ _ _ _ r h => by simp [darninglaw16_CarveEdited.j8] at h, fun _ _ _ _ _ _ _ _ _ r h => by simp [darninglaw16_CarveEdited.j5] at h, fun _ _ _ _ _ _ _ _ _ _ r h => by simp [darninglaw16_CarveEdited.j6] at h, fun _ _ _ _ _ _ _ _ r h => by simp [darninglaw16_CarveEdited.j7] at h⟩
 | k + 1 => by
  obtain ⟨ih0, ih1, ih2, ih3, ih4, ih5, ih6, ih7, ih8⟩ := darninglaw16_CarveEdited.mono_l k
  refine ⟨?_, ?_, ?_, ?_, ?_, ?_, ?_, ?_, ?_⟩
  ·
   intro y0 y1 y2 y3 y4 y5
   unfold darninglaw16_CarveEdited.j0
   repeat' first
   | (with_reducible exact ih0 _ _ _ _ _ _)
   | (with_reducible exact ih1 _ _ _ _ _ _ _)
   | (with_reducible exact ih2 _ _ _ _ _ _ _)
   | (with_reducible exact ih3 _ _ _ _ _ _ _)
   | (with_reducible exact ih4 _ _ _ _ _ _ _)
   | (with_reducible exact ih5 _ _ _ _ _ _ _)
   | (with_reducible exact ih6 _ _ _ _ _ _ _ _ _)
   | (with_reducible exact ih7 _ _ _ _ _ _ _ _ _ _)
   | (with_reducible exact ih8 _ _ _ _ _ _ _ _)
   | (with_reducible exact carve_Blocks.mono _ _ _ _)
   | (with_reducible exact carve_Edits.mono _ _ _ _)
   | (with_reducible exact chain_Blocks.mono _ _)
   | (with_reducible exact darninglaw14_Words.mono _ _ _)
   | (with_reducible exact darninglaw16_awake.mono _)
   | (with_reducible exact darningref4_Apply.mono _ _ _)
   | (with_reducible exact darningref4_MayBlocks.mono _ _ _)
   | (with_reducible exact darningref4_SameBlocks.mono _ _ _)
   | (with_reducible exact LeO.refl _)
   | (with_reducible exact LeO.none _)
   | (with_reducible refine LeO.ite ?_ ?_)
   | (with_reducible refine LeO.bind ?_ (fun _ => ?_))
   | exact ih0 _ _ _ _ _ _
   | exact ih1 _ _ _ _ _ _ _
   | exact ih2 _ _ _ _ _ _ _
   | exact ih3 _ _ _ _ _ _ _
   | exact ih4 _ _ _ _ _ _ _
   | exact ih5 _ _ _ _ _ _ _
   | exact ih6 _ _ _ _ _ _ _ _ _
   | exact ih7 _ _ _ _ _ _ _ _ _ _
   | exact ih8 _ _ _ _ _ _ _ _
   | exact carve_Blocks.mono _ _ _ _
   | exact carve_Edits.mono _ _ _ _
   | exact chain_Blocks.mono _ _
   | exact darninglaw14_Words.mono _ _ _
   | exact darninglaw16_awake.mono _
   | exact darningref4_Apply.mono _ _ _
   | exact darningref4_MayBlocks.mono _ _ _
   | exact darningref4_SameBlocks.mono _ _ _
   | exact LeO.none _
   | refine LeO.ite ?_ ?_
   | refine LeO.bind ?_ (fun _ => ?_)
  ·
   intro y0 y1 y2 y3 y4 y5 y6
   unfold darninglaw16_CarveEdited.l0
   repeat' first
   | (with_reducible exact ih0 _ _ _ _ _ _)
   | (with_reducible exact ih1 _ _ _ _ _ _ _)
   | (with_reducible exact ih2 _ _ _ _ _ _ _)
   | (with_reducible exact ih3 _ _ _ _ _ _ _)
   | (with_reducible exact ih4 _ _ _ _ _ _ _)
   | (with_reducible exact ih5 _ _ _ _ _ _ _)
   | (with_reducible exact ih6 _ _ _ _ _ _ _ _ _)
   | (with_reducible exact ih7 _ _ _ _ _ _ _ _ _ _)
   | (with_reducible exact ih8 _ _ _ _ _ _ _ _)
   | (with_reducible exact carve_Blocks.mono _ _ _ _)
   | (with_reducible exact carve_Edits.mono _ _ _ _)
   | (with_reducible exact chain_Blocks.mono _ _)
   | (with_reducible exact darninglaw14_Words.mono _ _ _)
   | (with_reducible exact darninglaw16_awake.mono _)
   | (with_reducible exact darningref4_Apply.mono _ _ _)
   | (with_reducible exact darningref4_MayBlocks.mono _ _ _)
   | (with_reducible exact darningref4_SameBlocks.mono _ _ _)
   | (with_reducible exact LeO.refl _)
   | (with_reducible exact LeO.none _)
   | (with_reducible refine LeO.ite ?_ ?_)
   | (with_reducible refine LeO.bind ?_ (fun _ => ?_))
   | exact ih0 _ _ _ _ _ _
   | exact ih1 _ _ _ _ _ _ _
   | exact ih2 _ _ _ _ _ _ _
   | exact ih3 _ _ _ _ _ _ _
   | exact ih4 _ _ _ _ _ _ _
   | exact ih5 _ _ _ _ _ _ _
   | exact ih6 _ _ _ _ _ _ _ _ _
   | exact ih7 _ _ _ _ _ _ _ _ _ _
   | exact ih8 _ _ _ _ _ _ _ _
   | exact carve_Blocks.mono _ _ _ _
   | exact carve_Edits.mono _ _ _ _
   | exact chain_Blocks.mono _ _
   | exact darninglaw14_Words.mono _ _ _
   | exact darninglaw16_awake.mono _
   | exact darningref4_Apply.mono _ _ _
   | exact darningref4_MayBlocks.mono _ _ _
   | exact darningref4_SameBlocks.mono _ _ _
   | exact LeO.none _
   | refine LeO.ite ?_ ?_
   | refine LeO.bind ?_ (fun _ => ?_)
  ·
   intro y0 y1 y2 y3 y4 y5 y6
   unfold darninglaw16_CarveEdited.j2
   repeat' first
   | (with_reducible exact ih0 _ _ _ _ _ _)
   | (with_reducible exact ih1 _ _ _ _ _ _ _)
   | (with_reducible exact ih2 _ _ _ _ _ _ _)
   | (with_reducible exact ih3 _ _ _ _ _ _ _)
   | (with_reducible exact ih4 _ _ _ _ _ _ _)
   | (with_reducible exact ih5 _ _ _ _ _ _ _)
   | (with_reducible exact ih6 _ _ _ _ _ _ _ _ _)
   | (with_reducible exact ih7 _ _ _ _ _ _ _ _ _ _)
   | (with_reducible exact ih8 _ _ _ _ _ _ _ _)
   | (with_reducible exact carve_Blocks.mono _ _ _ _)
   | (with_reducible exact carve_Edits.mono _ _ _ _)
   | (with_reducible exact chain_Blocks.mono _ _)
   | (with_reducible exact darninglaw14_Words.mono _ _ _)
   | (with_reducible exact darninglaw16_awake.mono _)
   | (with_reducible exact darningref4_Apply.mono _ _ _)
   | (with_reducible exact darningref4_MayBlocks.mono _ _ _)
   | (with_reducible exact darningref4_SameBlocks.mono _ _ _)
   | (with_reducible exact LeO.refl _)
   | (with_reducible exact LeO.none _)
   | (with_reducible refine LeO.ite ?_ ?_)
   | (with_reducible refine LeO.bind ?_ (fun _ => ?_))
   | exact ih0 _ _ _ _ _ _
   | exact ih1 _ _ _ _ _ _ _
   | exact ih2 _ _ _ _ _ _ _
   | exact ih3 _ _ _ _ _ _ _
   | exact ih4 _ _ _ _ _ _ _
   | exact ih5 _ _ _ _ _ _ _
   | exact ih6 _ _ _ _ _ _ _ _ _
   | exact ih7 _ _ _ _ _ _ _ _ _ _
   | exact ih8 _ _ _ _ _ _ _ _
   | exact carve_Blocks.mono _ _ _ _
   | exact carve_Edits.mono _ _ _ _
   | exact chain_Blocks.mono _ _
   | exact darninglaw14_Words.mono _ _ _
   | exact darninglaw16_awake.mono _
   | exact darningref4_Apply.mono _ _ _
   | exact darningref4_MayBlocks.mono _ _ _
   | exact darningref4_SameBlocks.mono _ _ _
   | exact LeO.none _
   | refine LeO.ite ?_ ?_
   | refine LeO.bind ?_ (fun _ => ?_)
  ·
   intro y0 y1 y2 y3 y4 y5 y6
   unfold darninglaw16_CarveEdited.j3
   repeat' first
   | (with_reducible exact ih0 _ _ _ _ _ _)
   | (with_reducible exact ih1 _ _ _ _ _ _ _)
   | (with_reducible exact ih2 _ _ _ _ _ _ _)
   | (with_reducible exact ih3 _ _ _ _ _ _ _)
   | (with_reducible exact ih4 _ _ _ _ _ _ _)
   | (with_reducible exact ih5 _ _ _ _ _ _ _)
   | (with_reducible exact ih6 _ _ _ _ _ _ _ _ _)
   | (with_reducible exact ih7 _ _ _ _ _ _ _ _ _ _)
   | (with_reducible exact ih8 _ _ _ _ _ _ _ _)
   | (with_reducible exact carve_Blocks.mono _ _ _ _)
   | (with_reducible exact carve_Edits.mono _ _ _ _)
   | (with_reducible exact chain_Blocks.mono _ _)
   | (with_reducible exact darninglaw14_Words.mono _ _ _)
   | (with_reducible exact darninglaw16_awake.mono _)
   | (with_reducible exact darningref4_Apply.mono _ _ _)
   | (with_reducible exact darningref4_MayBlocks.mono _ _ _)
   | (with_reducible exact darningref4_SameBlocks.mono _ _ _)
   | (with_reducible exact LeO.refl _)
   | (with_reducible exact LeO.none _)
   | (with_reducible refine LeO.ite ?_ ?_)
   | (with_reducible refine LeO.bind ?_ (fun _ => ?_))
   | exact ih0 _ _ _ _ _ _
   | exact ih1 _ _ _ _ _ _ _
   | exact ih2 _ _ _ _ _ _ _
   | exact ih3 _ _ _ _ _ _ _
   | exact ih4 _ _ _ _ _ _ _
   | exact ih5 _ _ _ _ _ _ _
   | exact ih6 _ _ _ _ _ _ _ _ _
   | exact ih7 _ _ _ _ _ _ _ _ _ _
   | exact ih8 _ _ _ _ _ _ _ _
   | exact carve_Blocks.mono _ _ _ _
   | exact carve_Edits.mono _ _ _ _
   | exact chain_Blocks.mono _ _
   | exact darninglaw14_Words.mono _ _ _
   | exact darninglaw16_awake.mono _
   | exact darningref4_Apply.mono _ _ _
   | exact darningref4_MayBlocks.mono _ _ _
   | exact darningref4_SameBlocks.mono _ _ _
   | exact LeO.none _
   | refine LeO.ite ?_ ?_
   | refine LeO.bind ?_ (fun _ => ?_)
  ·
   intro y0 y1 y2 y3 y4 y5 y6
   unfold darninglaw16_CarveEdited.l1
   repeat' first
   | (with_reducible exact ih0 _ _ _ _ _ _)
   | (with_reducible exact ih1 _ _ _ _ _ _ _)
   | (with_reducible exact ih2 _ _ _ _ _ _ _)
   | (with_reducible exact ih3 _ _ _ _ _ _ _)
   | (with_reducible exact ih4 _ _ _ _ _ _ _)
   | (with_reducible exact ih5 _ _ _ _ _ _ _)
   | (with_reducible exact ih6 _ _ _ _ _ _ _ _ _)
   | (with_reducible exact ih7 _ _ _ _ _ _ _ _ _ _)
   | (with_reducible exact ih8 _ _ _ _ _ _ _ _)
   | (with_reducible exact carve_Blocks.mono _ _ _ _)
   | (with_reducible exact carve_Edits.mono _ _ _ _)
   | (with_reducible exact chain_Blocks.mono _ _)
   | (with_reducible exact darninglaw14_Words.mono _ _ _)
   | (with_reducible exact darninglaw16_awake.mono _)
   | (with_reducible exact darningref4_Apply.mono _ _ _)
   | (with_reducible exact darningref4_MayBlocks.mono _ _ _)
   | (with_reducible exact darningref4_SameBlocks.mono _ _ _)
   | (with_reducible exact LeO.refl _)
   | (with_reducible exact LeO.none _)
   | (with_reducible refine LeO.ite ?_ ?_)
   | (with_reducible refine LeO.bind ?_ (fun _ => ?_))
   | exact ih0 _ _ _ _ _ _
   | exact ih1 _ _ _ _ _ _ _
   | exact ih2 _ _ _ _ _ _ _
   | exact ih3 _ _ _ _ _ _ _
   | exact ih4 _ _ _ _ _ _ _
   | exact ih5 _ _ _ _ _ _ _
   | exact ih6 _ _ _ _ _ _ _ _ _
   | exact ih7 _ _ _ _ _ _ _ _ _ _
   | exact ih8 _ _ _ _ _ _ _ _
   | exact carve_Blocks.mono _ _ _ _
   | exact carve_Edits.mono _ _ _ _
   | exact chain_Blocks.mono _ _
   | exact darninglaw14_Words.mono _ _ _
   | exact darninglaw16_awake.mono _
   | exact darningref4_Apply.mono _ _ _
   | exact darningref4_MayBlocks.mono _ _ _
   | exact darningref4_SameBlocks.mono _ _ _
   | exact LeO.none _
   | refine LeO.ite ?_ ?_
   | refine LeO.bind ?_ (fun _ => ?_)
  ·
   intro y0 y1 y2 y3 y4 y5 y6
   unfold darninglaw16_CarveEdited.j8
   repeat' first
   | (with_reducible exact ih0 _ _ _ _ _ _)
   | (with_reducible exact ih1 _ _ _ _ _ _ _)
   | (with_reducible exact ih2 _ _ _ _ _ _ _)
   | (with_reducible exact ih3 _ _ _ _ _ _ _)
   | (with_reducible exact ih4 _ _ _ _ _ _ _)
   | (with_reducible exact ih5 _ _ _ _ _ _ _)
   | (with_reducible exact ih6 _ _ _ _ _ _ _ _ _)
   | (with_reducible exact ih7 _ _ _ _ _ _ _ _ _ _)
   | (with_reducible exact ih8 _ _ _ _ _ _ _ _)
   | (with_reducible exact carve_Blocks.mono _ _ _ _)
   | (with_reducible exact carve_Edits.mono _ _ _ _)
   | (with_reducible exact chain_Blocks.mono _ _)
   | (with_reducible exact darninglaw14_Words.mono _ _ _)
   | (with_reducible exact darninglaw16_awake.mono _)
   | (with_reducible exact darningref4_Apply.mono _ _ _)
   | (with_reducible exact darningref4_MayBlocks.mono _ _ _)
   | (with_reducible exact darningref4_SameBlocks.mono _ _ _)
   | (with_reducible exact LeO.refl _)
   | (with_reducible exact LeO.none _)
   | (with_reducible refine LeO.ite ?_ ?_)
   | (with_reducible refine LeO.bind ?_ (fun _ => ?_))
   | exact ih0 _ _ _ _ _ _
   | exact ih1 _ _ _ _ _ _ _
   | exact ih2 _ _ _ _ _ _ _
   | exact ih3 _ _ _ _ _ _ _
   | exact ih4 _ _ _ _ _ _ _
   | exact ih5 _ _ _ _ _ _ _
   | exact ih6 _ _ _ _ _ _ _ _ _
   | exact ih7 _ _ _ _ _ _ _ _ _ _
   | exact ih8 _ _ _ _ _ _ _ _
   | exact carve_Blocks.mono _ _ _ _
   | exact carve_Edits.mono _ _ _ _
   | exact chain_Blocks.mono _ _
   | exact darninglaw14_Words.mono _ _ _
   | exact darninglaw16_awake.mono _
   | exact darningref4_Apply.mono _ _ _
   | exact darningref4_MayBlocks.mono _ _ _
   | exact darningref4_SameBlocks.mono _ _ _
   | exact LeO.none _
   | refine LeO.ite ?_ ?_
   | refine LeO.bind ?_ (fun _ => ?_)
  ·
   intro y0 y1 y2 y3 y4 y5 y6 y7 y8
   unfold darninglaw16_CarveEdited.j5
   repeat' first
   | (with_reducible exact ih0 _ _ _ _ _ _)
   | (with_reducible exact ih1 _ _ _ _ _ _ _)
   | (with_reducible exact ih2 _ _ _ _ _ _ _)
   | (with_reducible exact ih3 _ _ _ _ _ _ _)
   | (with_reducible exact ih4 _ _ _ _ _ _ _)
   | (with_reducible exact ih5 _ _ _ _ _ _ _)
   | (with_reducible exact ih6 _ _ _ _ _ _ _ _ _)
   | (with_reducible exact ih7 _ _ _ _ _ _ _ _ _ _)
   | (with_reducible exact ih8 _ _ _ _ _ _ _ _)
   | (with_reducible exact carve_Blocks.mono _ _ _ _)
   | (with_reducible exact carve_Edits.mono _ _ _ _)
   | (with_reducible exact chain_Blocks.mono _ _)
   | (with_reducible exact darninglaw14_Words.mono _ _ _)
   | (with_reducible exact darninglaw16_awake.mono _)
   | (with_reducible exact darningref4_Apply.mono _ _ _)
   | (with_reducible exact darningref4_MayBlocks.mono _ _ _)
   | (with_reducible exact darningref4_SameBlocks.mono _ _ _)
   | (with_reducible exact LeO.refl _)
   | (with_reducible exact LeO.none _)
   | (with_reducible refine LeO.ite ?_ ?_)
   | (with_reducible refine LeO.bind ?_ (fun _ => ?_))
   | exact ih0 _ _ _ _ _ _
   | exact ih1 _ _ _ _ _ _ _
   | exact ih2 _ _ _ _ _ _ _
   | exact ih3 _ _ _ _ _ _ _
   | exact ih4 _ _ _ _ _ _ _
   | exact ih5 _ _ _ _ _ _ _
   | exact ih6 _ _ _ _ _ _ _ _ _
   | exact ih7 _ _ _ _ _ _ _ _ _ _
   | exact ih8 _ _ _ _ _ _ _ _
   | exact carve_Blocks.mono _ _ _ _
   | exact carve_Edits.mono _ _ _ _
   | exact chain_Blocks.mono _ _
   | exact darninglaw14_Words.mono _ _ _
   | exact darninglaw16_awake.mono _
   | exact darningref4_Apply.mono _ _ _
   | exact darningref4_MayBlocks.mono _ _ _
   | exact darningref4_SameBlocks.mono _ _ _
   | exact LeO.none _
   | refine LeO.ite ?_ ?_
   | refine LeO.bind ?_ (fun _ => ?_)
  ·
   intro y0 y1 y2 y3 y4 y5 y6 y7 y8 y9
   unfold darninglaw16_CarveEdited.j6
   repeat' first
   | (with_reducible exact ih0 _ _ _ _ _ _)
   | (with_reducible exact ih1 _ _ _ _ _ _ _)
   | (with_reducible exact ih2 _ _ _ _ _ _ _)
   | (with_reducible exact ih3 _ _ _ _ _ _ _)
   | (with_reducible exact ih4 _ _ _ _ _ _ _)
   | (with_reducible exact ih5 _ _ _ _ _ _ _)
   | (with_reducible exact ih6 _ _ _ _ _ _ _ _ _)
   | (with_reducible exact ih7 _ _ _ _ _ _ _ _ _ _)
   | (with_reducible exact ih8 _ _ _ _ _ _ _ _)
   | (with_reducible exact carve_Blocks.mono _ _ _ _)
   | (with_reducible exact carve_Edits.mono _ _ _ _)
   | (with_reducible exact chain_Blocks.mono _ _)
   | (with_reducible exact darninglaw14_Words.mono _ _ _)
   | (with_reducible exact darninglaw16_awake.mono _)
   | (with_reducible exact darningref4_Apply.mono _ _ _)
   | (with_reducible exact darningref4_MayBlocks.mono _ _ _)
   | (with_reducible exact darningref4_SameBlocks.mono _ _ _)
   | (with_reducible exact LeO.refl _)
   | (with_reducible exact LeO.none _)
   | (with_reducible refine LeO.ite ?_ ?_)
   | (with_reducible refine LeO.bind ?_ (fun _ => ?_))
   | exact ih0 _ _ _ _ _ _
   | exact ih1 _ _ _ _ _ _ _
   | exact ih2 _ _ _ _ _ _ _
   | exact ih3 _ _ _ _ _ _ _
   | exact ih4 _ _ _ _ _ _ _
   | exact ih5 _ _ _ _ _ _ _
   | exact ih6 _ _ _ _ _ _ _ _ _
   | exact ih7 _ _ _ _ _ _ _ _ _ _
   | exact ih8 _ _ _ _ _ _ _ _
   | exact carve_Blocks.mono _ _ _ _
   | exact carve_Edits.mono _ _ _ _
   | exact chain_Blocks.mono _ _
   | exact darninglaw14_Words.mono _ _ _
   | exact darninglaw16_awake.mono _
   | exact darningref4_Apply.mono _ _ _
   | exact darningref4_MayBlocks.mono _ _ _
   | exact darningref4_SameBlocks.mono _ _ _
   | exact LeO.none _
   | refine LeO.ite ?_ ?_
   | refine LeO.bind ?_ (fun _ => ?_)
  ·
   intro y0 y1 y2 y3 y4 y5 y6 y7
   unfold darninglaw16_CarveEdited.j7
   repeat' first
   | (with_reducible exact ih0 _ _ _ _ _ _)
   | (with_reducible exact ih1 _ _ _ _ _ _ _)
   | (with_reducible exact ih2 _ _ _ _ _ _ _)
   | (with_reducible exact ih3 _ _ _ _ _ _ _)
   | (with_reducible exact ih4 _ _ _ _ _ _ _)
   | (with_reducible exact ih5 _ _ _ _ _ _ _)
   | (with_reducible exact ih6 _ _ _ _ _ _ _ _ _)
   | (with_reducible exact ih7 _ _ _ _ _ _ _ _ _ _)
   | (with_reducible exact ih8 _ _ _ _ _ _ _ _)
   | (with_reducible exact carve_Blocks.mono _ _ _ _)
   | (with_reducible exact carve_Edits.mono _ _ _ _)
   | (with_reducible exact chain_Blocks.mono _ _)
   | (with_reducible exact darninglaw14_Words.mono _ _ _)
   | (with_reducible exact darninglaw16_awake.mono _)
   | (with_reducible exact darningref4_Apply.mono _ _ _)
   | (with_reducible exact darningref4_MayBlocks.mono _ _ _)
   | (with_reducible exact darningref4_SameBlocks.mono _ _ _)
   | (with_reducible exact LeO.refl _)
   | (with_reducible exact LeO.none _)
   | (with_reducible refine LeO.ite ?_ ?_)
   | (with_reducible refine LeO.bind ?_ (fun _ => ?_))
   | exact ih0 _ _ _ _ _ _
   | exact ih1 _ _ _ _ _ _ _
   | exact ih2 _ _ _ _ _ _ _
   | exact ih3 _ _ _ _ _ _ _
   | exact ih4 _ _ _ _ _ _ _
   | exact ih5 _ _ _ _ _ _ _
   | exact ih6 _ _ _ _ _ _ _ _ _
   | exact ih7 _ _ _ _ _ _ _ _ _ _
   | exact ih8 _ _ _ _ _ _ _ _
   | exact carve_Blocks.mono _ _ _ _
   | exact carve_Edits.mono _ _ _ _
   | exact chain_Blocks.mono _ _
   | exact darninglaw14_Words.mono _ _ _
   | exact darninglaw16_awake.mono _
   | exact darningref4_Apply.mono _ _ _
   | exact darningref4_MayBlocks.mono _ _ _
   | exact darningref4_SameBlocks.mono _ _ _
   | exact LeO.none _
   | refine LeO.ite ?_ ?_
   | refine LeO.bind ?_ (fun _ => ?_)
theorem darninglaw16_CarveEdited.mono : ∀ a0 a1 a2 a3 a4 k, LeO (darninglaw16_CarveEdited.f k a0 a1 a2 a3 a4) (darninglaw16_CarveEdited.f (k + 1) a0 a1 a2 a3 a4) := by
 intro a0 a1 a2 a3 a4 k
 obtain ⟨ih0, ih1, ih2, ih3, ih4, ih5, ih6, ih7, ih8⟩ := darninglaw16_CarveEdited.mono_l k
 unfold darninglaw16_CarveEdited.f
 repeat' first
   | (with_reducible exact ih0 _ _ _ _ _ _)
   | (with_reducible exact ih1 _ _ _ _ _ _ _)
   | (with_reducible exact ih2 _ _ _ _ _ _ _)
   | (with_reducible exact ih3 _ _ _ _ _ _ _)
   | (with_reducible exact ih4 _ _ _ _ _ _ _)
   | (with_reducible exact ih5 _ _ _ _ _ _ _)
   | (with_reducible exact ih6 _ _ _ _ _ _ _ _ _)
   | (with_reducible exact ih7 _ _ _ _ _ _ _ _ _ _)
   | (with_reducible exact ih8 _ _ _ _ _ _ _ _)
   | (with_reducible exact carve_Blocks.mono _ _ _ _)
   | (with_reducible exact carve_Edits.mono _ _ _ _)
   | (with_reducible exact chain_Blocks.mono _ _)
   | (with_reducible exact darninglaw14_Words.mono _ _ _)
   | (with_reducible exact darninglaw16_awake.mono _)
   | (with_reducible exact darningref4_Apply.mono _ _ _)
   | (with_reducible exact darningref4_MayBlocks.mono _ _ _)
   | (with_reducible exact darningref4_SameBlocks.mono _ _ _)
   | (with_reducible exact LeO.refl _)
   | (with_reducible exact LeO.none _)
   | (with_reducible refine LeO.ite ?_ ?_)
   | (with_reducible refine LeO.bind ?_ (fun _ => ?_))
   | exact ih0 _ _ _ _ _ _
   | exact ih1 _ _ _ _ _ _ _
   | exact ih2 _ _ _ _ _ _ _
   | exact ih3 _ _ _ _ _ _ _
   | exact ih4 _ _ _ _ _ _ _
   | exact ih5 _ _ _ _ _ _ _
   | exact ih6 _ _ _ _ _ _ _ _ _
   | exact ih7 _ _ _ _ _ _ _ _ _ _
   | exact ih8 _ _ _ _ _ _ _ _
   | exact carve_Blocks.mono _ _ _ _
   | exact carve_Edits.mono _ _ _ _
   | exact chain_Blocks.mono _ _
   | exact darninglaw14_Words.mono _ _ _
   | exact darninglaw16_awake.mono _
   | exact darningref4_Apply.mono _ _ _
   | exact darningref4_MayBlocks.mono _ _ _
   | exact darningref4_SameBlocks.mono _ _ _
   | exact LeO.none _
   | refine LeO.ite ?_ ?_
   | refine LeO.bind ?_ (fun _ => ?_)
def darninglaw16_CarveEdited.T17 : Bool × List (List Nat × List Nat) := (true, [([], []), ([0], [0]), ([1], [1]), ([2], [2]), ([3, 2], [2, 3]), ([2, 4], [2, 4]), ([5, 2], [5]), ([6], [6]), ([6], [6]), ([7, 8, 6, 6], [6, 7, 8]), ([9, 6], [6, 9]), ([6, 10], [6, 10]), ([11, 9], [11]), ([12], [12]), ([12], [12]), ([14, 12], [12, 14]), ([13, 15, 12], [12, 13, 15]), ([12, 16], [12, 16]), ([17, 12], [17]), ([18], [18]), ([18], [18]), ([19, 20, 18], [18, 19, 20]), ([21, 18], [18, 21]), ([22, 18], [18, 22]), ([23, 18], [18, 23]), ([18, 24], [18, 24]), ([25, 18], [25]), ([26], [26]), ([26], [26]), ([27, 28, 26], [26, 27, 28]), ([29, 26], [26, 29]), ([30, 26], [26, 30]), ([26], [26]), ([26], [26]), ([32, 33, 26], [26, 32, 33]), ([34, 26], [26, 34]), ([35, 26], [26, 35]), ([31, 36, 26], [26, 31, 36]), ([26, 37], [26, 37])])
def darninglaw16_CarveEdited.B17 : List Nat := [0, 1, 3, 7, 15, 31, 63, 127, 127, 511, 1023, 2047, 4095, 8191, 8191, 24575, 65535, 131071, 262143, 524287, 524287, 2097151, 4194303, 8388607, 16777215, 33554431, 67108863, 134217727, 134217727, 536870911, 1073741823, 2147483647, 134217727, 134217727, 13019119615, 30198988799, 64558727167, 137438953471, 274877906943]
theorem darninglaw16_CarveEdited.tab17 : rtab .any (opsOf Try.f10 17) = darninglaw16_CarveEdited.T17 := by kernel_rfl
theorem darninglaw16_CarveEdited.bits17 : waitsOk darninglaw16_CarveEdited.T17.2 darninglaw16_CarveEdited.B17 = true := by kernel_rfl
def darninglaw16_CarveEdited.T22 : Bool × List (List Nat × List Nat) := (true, [([], []), ([], []), ([], []), ([1, 2], [1, 2]), ([3], [3]), ([4], [4]), ([0, 5], [0, 5]), ([6], [6]), ([7], [7]), ([7], [7]), ([7], [7]), ([9, 10, 7], [7, 9, 10]), ([11, 7], [7, 11]), ([12, 7], [7, 12]), ([7], [7]), ([7], [7]), ([14, 15, 7], [7, 14, 15]), ([16, 7], [7, 16]), ([17, 7], [7, 17]), ([13, 18, 7], [7, 13, 18]), ([8, 19, 7], [7, 8, 19]), ([7, 20], [7, 20]), ([21, 7, 0, 1, 2, 3, 4, 5, 6, 7, 8, 9, 10, 11, 12, 13, 14, 15, 16, 17, 18, 19, 20, 21], [21])])
def darninglaw16_CarveEdited.B22 : List Nat := [0, 0, 0, 6, 14, 30, 63, 127, 255, 255, 255, 1791, 3839, 7935, 255, 255, 49407, 114943, 246015, 524031, 1048575, 2097151, 4194303]
theorem darninglaw16_CarveEdited.tab22 : rtab .any (opsOf Try.f10 22) = darninglaw16_CarveEdited.T22 := by kernel_rfl
theorem darninglaw16_CarveEdited.bits22 : waitsOk darninglaw16_CarveEdited.T22.2 darninglaw16_CarveEdited.B22 = true := by kernel_rfl
def darninglaw16_CarveEdited.T23 : Bool × List (List Nat × List Nat) := (true, [([], []), ([], []), ([], []), ([1, 2], [1, 2]), ([3], [3]), ([4], [4]), ([0, 5], [0, 5]), ([6], [6]), ([7], [7]), ([7], [7]), ([7], [7]), ([9, 10, 7], [7, 9, 10]), ([11, 7], [7, 11]), ([12, 7], [7, 12]), ([7], [7]), ([7], [7]), ([14, 15, 7], [7, 14, 15]), ([16, 7], [7, 16]), ([17, 7], [7, 17]), ([13, 18, 7], [7, 13, 18]), ([8, 19, 7], [7, 8, 19]), ([20, 7, 7], [7, 20]), ([21], [21]), ([21], [21]), ([22, 23, 21], [21, 22, 23]), ([24, 21], [21, 24]), ([25, 21], [21, 25]), ([21], [21]), ([21], [21]), ([27, 28, 21], [21, 27, 28]), ([29, 21], [21, 29]), ([30, 21], [21, 30]), ([26, 31, 21], [21, 26, 31]), ([21, 32, 7], [7, 21, 32]), ([7, 33], [7, 33]), ([34, 21, 0, 1, 2, 3, 4, 5, 6, 7, 8, 9, 10, 11, 12, 13, 14, 15, 16, 17, 18, 19, 20, 21, 22, 23, 24, 25, 26, 27, 28, 29, 30, 31, 32, 33, 34], [34])])
def darninglaw16_CarveEdited.B23 : List Nat := [0, 0, 0, 6, 14, 30, 63, 127, 255, 255, 255, 1791, 3839, 7935, 255, 255, 49407, 114943, 246015, 524031, 1048575, 2097151, 4194303, 4194303, 16777215, 33554431, 67108863, 4194303, 4194303, 406847487, 943718399, 2017460223, 4294967295, 8589934591, 17179869183, 34359738367]
theorem darninglaw16_CarveEdited.tab23 : rtab .any (opsOf Try.f10 23) = darninglaw16_CarveEdited.T23 := by kernel_rfl
theorem darninglaw16_CarveEdited.bits23 : waitsOk darninglaw16_CarveEdited.T23.2 darninglaw16_CarveEdited.B23 = true := by kernel_rfl
def darninglaw16_CarveEdited.T24 : Bool × List (List Nat × List Nat) := (true, [([], []), ([0], [0]), ([1], [1]), ([1], [1]), ([2, 3, 1], [1, 2, 3]), ([4, 1], [1, 4]), ([5, 1], [1, 5]), ([1, 6], [1, 6]), ([7, 1], [7]), ([8], [8]), ([9, 8], [8, 9]), ([10, 8, 8], [8, 10]), ([11], [11]), ([12, 11], [11, 12]), ([11, 13, 8], [8, 11, 13]), ([14, 11, 8], [8, 14]), ([15], [15]), ([15], [15]), ([16, 17, 15], [15, 16, 17]), ([18, 15], [15, 18]), ([15], [15]), ([15], [15]), ([20, 21, 15], [15, 20, 21]), ([22, 15], [15, 22]), ([19, 23, 15], [15, 19, 23]), ([15, 24, 8], [8, 15, 24]), ([8, 25], [8, 25])])
def darninglaw16_CarveEdited.B24 : List Nat := [0, 1, 3, 3, 15, 31, 63, 127, 255, 511, 1023, 2047, 4095, 8191, 16383, 32767, 65535, 65535, 262143, 524287, 65535, 65535, 3211263, 7405567, 16777215, 33554431, 67108863]
theorem darninglaw16_CarveEdited.tab24 : rtab .any (opsOf Try.f10 24) = darninglaw16_CarveEdited.T24 := by kernel_rfl
theorem darninglaw16_CarveEdited.bits24 : waitsOk darninglaw16_CarveEdited.T24.2 darninglaw16_CarveEdited.B24 = true := by kernel_rfl
set_option maxHeartbeats 8000000 in
set_option maxRecDepth 100000 in
theorem darninglaw16_CarveEdited.calls (k : Nat) (A0 : Option Addr) (c0 : Nat) (l0 : List (S35)) (a1 : Int) (a2 : Int) (a3 : Int) (a4 : Int) (w : World) (hr0 : Kd.C k35 w A0 l0.length l0) (hc0 : l0.length ≤ c0) (h : darninglaw16_CarveEdited.f k l0 a1 a2 a3 a4 = some true) :
  Calls Try.prog 10 #[.slice A0 l0.length c0, .int .i64 a1, .int .i64 a2, .int .i64 a3, .int .u64 a4] w fun e w' => e = .returned (.bool true) ∧ Below w.heap.size w w' := by
 have HR0 := Aside0.mk hr0
 have HC0 := Aside0.mk hc0
 clear hr0 hc0
 have HB := Aside0.mk (Below.refl w.heap.size w)
 have H : (if (l0.length : Int) > 300 then (darninglaw16_CarveEdited.j0 k l0 a1 a2 a3 a4 true) else (if (l0.length : Int) = 0 then (darninglaw16_CarveEdited.j0 k l0 a1 a2 a3 a4 true) else ((darningref4_MayBlocks.f k l0 a1).bind fun t214 => (darninglaw16_CarveEdited.j0 k l0 a1 a2 a3 a4 (!t214))))) = some true := h
 clear h
 have HC6 := Aside0.mk H
 clear H
 go_enter Try.func10, Try.ntmps10
 go_upto_region 1 with (fail)
 go_cut [35] (fun v35 wc => ∃ (kq : Nat) (x35_5 : Bool), v35 = .bool x35_5 ∧ Aside0 (darninglaw16_CarveEdited.j0 kq l0 a1 a2 a3 a4 x35_5 = some true) ∧ Aside0 (kq ≤ k) ∧ Aside0 (Below w.heap.size w wc))
 case first =>
  have H := HC6.out
  clear HC6
  by_cases c7 : (l0.length : Int) > 300
  ·
   rw [if_pos c7] at H
   have c7b0 : decide (300 < (l0.length : Int)) = true := decide_eq_true c7
   have c7b1 : decide (300 < l0.length) = true := decide_eq_true (by omega)
   clear c7
   (first | rw [c7b0] | (simp only [i64_w, i32_w]; rw [c7b0]) | skip)
   as_aux_lemma =>
    have H' := Aside0.mk H
    clear H
    go_wp2
    go_meet
    case rel => exact ⟨_, (true), (by first | rfl | (simp; done) | (simp [*]; done)), H', ⟨by first | omega | exact Nat.le_refl _⟩, ⟨by repeat (first | (with_reducible first | exact HB.out | apply below_alloc | apply pw_below_drewN | apply below_drew1) | exact HB.out)⟩⟩
  ·
   rw [if_neg c7] at H
   have c7b0 : decide (300 < (l0.length : Int)) = false := decide_eq_false c7
   have c7b1 : decide (300 < l0.length) = false := decide_eq_false (by omega)
   clear c7
   (first | rw [c7b0] | (simp only [i64_w, i32_w]; rw [c7b0]) | skip)
   by_cases c8 : (l0.length : Int) = 0
   ·
    rw [if_pos c8] at H
    have c8b0 : ((l0.length : Int) == 0) = true := beq_iff_eq.mpr c8
    have c8b1 : ((l0.length : Int) != 0) = false := bne_eq_false_iff_eq.mpr c8
    clear c8
    as_aux_lemma =>
     have H' := Aside0.mk H
     clear H
     go_wp2
     go_meet
     case rel => exact ⟨_, (true), (by first | rfl | (simp; done) | (simp [*]; done)), H', ⟨by first | omega | exact Nat.le_refl _⟩, ⟨by repeat (first | (with_reducible first | exact HB.out | apply below_alloc | apply pw_below_drewN | apply below_drew1) | exact HB.out)⟩⟩
   ·
    rw [if_neg c8] at H
    have c8b0 : ((l0.length : Int) == 0) = false := beq_eq_false_iff_ne.mpr c8
    have c8b1 : ((l0.length : Int) != 0) = true := bne_iff_ne.mpr c8
    have c8b2 : ¬ (l0 = []) := fun h_ => c8 (by rw [h_]; rfl)
    replace H := Option.bind_eq_some_iff.mp H
    obtain ⟨t214, A90, H⟩ := H
    replace H : (darninglaw16_CarveEdited.j0 k l0 a1 a2 a3 a4 (!t214)) = some true := H
    have A9 := Aside0.mk A90
    clear A90
    as_aux_lemma =>
     have H' := Aside0.mk H
     clear H
     go_wp2_with (first | (go_at_call 21; (with_reducible refine (darningref4_MayBlocks.calls k _ _ l0 a1 t214 _ ?side1 ?side2 A9.out).mono ?_); (case side1 => repeat (first | exact (Kd.C_below HR0.out HB.out) | (with_reducible refine Kd.C_alloc ?_ _) | (with_reducible refine Kd.C_drewN ?_ _) | (with_reducible refine Kd.C_drew ?_))); (case side2 => exact HC0.out); rintro e w10 ⟨rfl, hb⟩; have n0_ := Aside0.mk (below_step (by repeat (first | (with_reducible first | exact HB.out | apply below_alloc | apply pw_below_drewN | apply below_drew1) | exact HB.out)) hb); clear HB; have HB := n0_; clear n0_; (try clear hb); (try clear hb2); (try clear hk); (try clear hi)))
     go_meet
     case rel => exact ⟨_, (!t214), (by first | rfl | (simp; done) | (simp [*]; done)), H', ⟨by first | omega | exact Nat.le_refl _⟩, ⟨by repeat (first | (with_reducible first | exact HB.out | apply below_alloc | apply pw_below_drewN | apply below_drew1) | exact HB.out)⟩⟩
 case rest =>
  clear HC6
  try clear c1
  try clear p2
  try clear c7
  try clear c7b0
  try clear c7b1
  try clear c8
  try clear c8b0
  try clear c8b1
  try clear c8b2
  try clear c10
  obtain ⟨kq, x35_5, rfl, HA, HJ5, HB⟩ := hcut
  cases kq with
  | zero => exact absurd HA.out (by simp [darninglaw16_CarveEdited.j0])
  | succ kj5 =>
   have H := HA.out
   clear HA
   simp only [darninglaw16_CarveEdited.j0] at H
   by_cases c11 : x35_5 = true
   ·
    subst c11
    have H1 : ((darninglaw16_awake.f kj5).bind fun t215 => (some t215)) = some true := by rw [if_pos rfl] at H; exact H
    clear H
    have H := H1
    clear H1
    replace H := Option.bind_eq_some_iff.mp H
    obtain ⟨t215, A120, H⟩ := H
    replace H : (some t215) = some true := H
    have A12 := Aside0.mk A120
    clear A120
    as_aux_lemma =>
     obtain rfl : t215 = true := Option.some.inj H
     go_wp2_with (first | ((with_reducible refine gate_callee (f := 22) rfl ?_); refine goesL_ (some 36) rfl rfl Try.func22 (by kernel_rfl) rfl #[] rfl (by (try simp only [List.map_toArray, List.map_cons, List.map_nil]); first | done | rfl | (simp only [List.length_drop, List.length_take]; rfl)) ?_; (with_reducible refine (darninglaw16_awake.calls kj5  true _ A12.out).mono ?_); rintro e w13 ⟨rfl, hb⟩; refine ⟨_, rfl, ?_⟩; have n0_ := Aside0.mk (below_step (by repeat (first | (with_reducible first | exact HB.out | apply below_alloc | apply pw_below_drewN | apply below_drew1) | exact HB.out)) hb); clear HB; have HB := n0_; clear n0_; (try clear hb); (try clear hb2); (try clear hk); (try clear hi)))
     go_ret
     exact ⟨by first | rfl | (rw [HRA_.out]) | (simp only [HRA_.out]; done) | (simp only [← HRA_.out]; done) | (have HR_ := HRA_.out; simp_all) | (simp [errW_none, errW_some] <;> rfl) | (simp [*, errW_none, errW_some] <;> rfl), by repeat (first | (with_reducible first | exact HB.out | apply below_alloc | apply pw_below_drewN | apply below_drew1) | exact HB.out)⟩
   ·
    replace c11 := Bool.eq_false_iff.mpr c11
    subst c11
    have H1 : (if (IntKind.u64.wrap ((l0.length : Int))) = 0 then (none) else ((darninglaw14_Words.f kj5 l0 a1).bind fun t216 => (darninglaw16_CarveEdited.l0 kj5 l0 (wrap64 (Int.tmod (IntKind.u64.wrap (a2)) (IntKind.u64.wrap ((l0.length : Int))))) (wrap64 (2 + (wrap64 (Int.tmod (IntKind.u64.wrap (a3)) 60)))) a4 t216 (t216.length : Int) 0))) = some true := by rw [if_neg (show ¬ (false = true) by decide)] at H; exact H
    clear H
    have H := H1
    clear H1
    by_cases c14 : (IntKind.u64.wrap ((l0.length : Int))) = 0
    ·
     rw [if_pos c14] at H
     exact absurd H (by simp)
    ·
     rw [if_neg c14] at H
     have c14b0 : ((IntKind.u64.wrap ((l0.length : Int))) == 0) = false := beq_eq_false_iff_ne.mpr c14
     have c14b1 : ((IntKind.u64.wrap ((l0.length : Int))) != 0) = true := bne_iff_ne.mpr c14
     replace H := Option.bind_eq_some_iff.mp H
     obtain ⟨t216, A150, H⟩ := H
     replace H : (darninglaw16_CarveEdited.l0 kj5 l0 (wrap64 (Int.tmod (IntKind.u64.wrap (a2)) (IntKind.u64.wrap ((l0.length : Int))))) (wrap64 (2 + (wrap64 (Int.tmod (IntKind.u64.wrap (a3)) 60)))) a4 t216 (t216.length : Int) 0) = some true := H
     have A15 := Aside0.mk A150
     clear A150
     have H' := Aside0.mk H
     clear H
     go_wp2_with (first | ((with_reducible refine gate_callee (f := 33) rfl ?_); refine goesL_ (some 51) rfl rfl Try.func33 (by kernel_rfl) rfl #[.slice A0 l0.length c0, .int .i64 a1] rfl (by (try simp only [List.map_toArray, List.map_cons, List.map_nil]); first | done | rfl | (simp only [List.length_drop, List.length_take]; rfl)) ?_; (with_reducible refine (darninglaw14_Words.calls kj5 _ _ l0 a1 t216 _ ?side1 ?side2 A15.out).mono ?_); (case side1 => repeat (first | exact (Kd.C_below HR0.out HB.out) | (with_reducible refine Kd.C_alloc ?_ _) | (with_reducible refine Kd.C_drewN ?_ _) | (with_reducible refine Kd.C_drew ?_))); (case side2 => exact HC0.out); rintro e w16 ⟨v217, rfl, ho0, hb⟩; refine ⟨_, rfl, ?_⟩; have n0_ := Aside0.mk (Kd.R_lower ho0 (below_size (by repeat (first | (with_reducible first | exact HB.out | apply below_alloc | apply pw_below_drewN | apply below_drew1) | exact HB.out)))); have n1_ := Aside0.mk (below_step (by repeat (first | (with_reducible first | exact HB.out | apply below_alloc | apply pw_below_drewN | apply below_drew1) | exact HB.out)) hb); clear HB; have HO218 := n0_; have HB := n1_; clear n0_ n1_; (try clear hb); (try clear hb2); (try clear hk); (try clear hi); (try clear ho0); obtain ⟨Ao17, co17, eo17⟩ := Kd.R_slice HO218.out; subst eo17))
     go_loopg [54] kj5 (fun kq v54 w' => ∃ (x11_2 : List Int) (x54_2 : Int), v54 = .int .i64 x54_2 ∧ Aside0 (darninglaw16_CarveEdited.l0 kq l0 (wrap64 (Int.tmod (IntKind.u64.wrap (a2)) (IntKind.u64.wrap ((l0.length : Int))))) (wrap64 (2 + (wrap64 (Int.tmod (IntKind.u64.wrap (a3)) 60)))) a4 x11_2 (t216.length : Int) x54_2 = some true) ∧ Aside0 (kq ≤ kj5) ∧ Aside0 (Kd.R (Kd.int .u64) 28 w' w.heap.size (fun _ => True) (.slice Ao17 t216.length co17) x11_2) ∧ Aside0 (Below w.heap.size w w'))
     case atStart => exact ⟨(t216), (0), (by first | rfl | (simp; done) | (simp [*]; done)), H', ⟨Nat.le_refl _⟩, ⟨by (with_reducible repeat (first | apply Kd.R_alloc | apply Kd.R_drewN | apply Kd.R_drew)); exact HO218.out⟩, ⟨by repeat (first | (with_reducible first | exact HB.out | apply below_alloc | apply pw_below_drewN | apply below_drew1) | exact HB.out)⟩⟩
     case round =>
      clear H'
      try clear c1
      try clear c2
      try clear p2
      try clear c3
      try clear p6
      try clear c7
      try clear c7b0
      try clear c7b1
      try clear c8
      try clear c8b0
      try clear c8b1
      try clear c8b2
      try clear c10
      try clear c11
      try clear c14
      try clear c14b0
      try clear c14b1
      try clear p2
      obtain ⟨x11_2, x54_2, rfl, HA, HK2, HO_11, HB⟩ := hrel
      have hl11_2 := (Kd.R_reads' HO_11.out).1
      rw [hl11_2] at HO_11
      (try simp only [hl11_2])
      cases gk with
      | zero => exact absurd HA.out (by simp [darninglaw16_CarveEdited.l0])
      | succ k2 =>
       have H := HA.out
       clear HA
       simp only [darninglaw16_CarveEdited.l0] at H
       by_cases c18 : x54_2 < (t216.length : Int)
       ·
        rw [if_pos c18] at H
        have c18b0 : decide (x54_2 < (t216.length : Int)) = true := decide_eq_true c18
        (try (have c18b0h := c18b0; simp only [hl11_2] at c18b0h))
        clear c18
        have HC19 := Aside0.mk H
        clear H
        go_upto_block 1 with (fail)
        go_cut [] (fun wc => ∃ (kq : Nat) (x11_18 : List Int), Aside0 (darninglaw16_CarveEdited.j2 kq l0 (wrap64 (Int.tmod (IntKind.u64.wrap (a2)) (IntKind.u64.wrap ((l0.length : Int))))) (wrap64 (2 + (wrap64 (Int.tmod (IntKind.u64.wrap (a3)) 60)))) a4 x11_18 (t216.length : Int) x54_2 = some true) ∧ Aside0 (kq ≤ k2) ∧ Aside0 (Kd.R (Kd.int .u64) 28 wc w.heap.size (fun _ => True) (.slice Ao17 x11_2.length co17) x11_18) ∧ Aside0 (Below w.heap.size w wc))
        case first =>
         have H := HC19.out
         clear HC19
         by_cases c20 : 0 ≤ x54_2
         ·
          rw [if_pos c20] at H
          have c20b0 : decide (0 ≤ x54_2) = true := decide_eq_true c20
          clear c20
          (first | rw [c20b0] | (simp only [i64_w, i32_w]; rw [c20b0]) | skip)
          by_cases c21 : x54_2 < (x11_2.length : Int)
          ·
           rw [if_pos c21] at H
           have c21b0 : decide (x54_2 < (x11_2.length : Int)) = true := decide_eq_true c21
           (try (have c21b0h := c21b0; simp only [hl11_2] at c21b0h))
           clear c21
           by_cases c22 : (rd x11_2 x54_2) = 0
           ·
            rw [if_pos c22] at H
            have c22b0 : ((rd x11_2 x54_2) == 0) = true := beq_iff_eq.mpr c22
            have c22b1 : ((rd x11_2 x54_2) != 0) = false := bne_eq_false_iff_eq.mpr c22
            clear c22
            obtain ⟨y220, hy220⟩ : ∃ y_ : List Int, y_ = (x11_2.set (x54_2 : Int).toNat (IntKind.u64.wrap (a4 + (IntKind.u64.wrap (x54_2))))) := ⟨_, rfl⟩
            replace H : (darninglaw16_CarveEdited.j2 k2 l0 (wrap64 (Int.tmod (IntKind.u64.wrap (a2)) (IntKind.u64.wrap ((l0.length : Int))))) (wrap64 (2 + (wrap64 (Int.tmod (IntKind.u64.wrap (a3)) 60)))) a4 y220 (t216.length : Int) x54_2) = some true := by first | (rw [hy220]; with_reducible exact H) | (have H2_ := (Option.bind_some _ _).symm.trans H; rw [hy220]; with_reducible exact H2_) | (have H2_ := (Option.bind_some _ _).symm.trans H; with_reducible exact H2_) | with_reducible exact H | (rw [hy220]; exact H) | exact H
            have Ny220 := Aside0.mk hy220
            clear hy220
            as_aux_lemma =>
             have H' := Aside0.mk H
             clear H
             have p219 : 0 ≤ (x54_2 : Int) := of_decide_eq_true (by first | (with_reducible assumption) | assumption)
             have q219 : x54_2 < (x11_2.length : Int) := of_decide_eq_true (by first | (with_reducible assumption) | assumption)
             obtain ⟨ad219, e219, hx219_0⟩ := Kd.at_int (Kd.R_reads' HO_11.out).2.2 x54_2 p219 q219
             cases e219
             replace p219 := eq_true p219
             replace q219 := eq_true q219
             have p23 : 0 ≤ (x54_2 : Int) := of_decide_eq_true (by first | (with_reducible assumption) | assumption)
             have q23 : (x54_2 : Int) < ((x11_2.length : Int) : Int) := of_decide_eq_true (by first | (with_reducible assumption) | assumption)
             obtain ⟨go23, co23, eo23, gb23, gl23, cl23, HG23⟩ := Kd.R_form HO_11.out (by omega)
             (first | cases eo23 | (injection eo23 with ea_ en_ ec_; (first | subst ea_ | (injection ea_ with ea_; subst ea_)); subst ec_; clear en_))
             have GB23 := Aside0.mk gb23
             have GG23 := Aside0.mk HG23
             clear gb23 gl23 HG23
             (first | simp only [add_plain] at hx219_0 | skip)
             obtain ⟨hx23_0, hf23_0⟩ := Kd.R_celln 0 HO_11.out (x54_2 : Int) p23 q23
             replace p23 := eq_true p23
             replace q23 := eq_true q23
             have HP24 := Kd.R_putg HO_11.out (x54_2 : Int) (IntKind.u64.wrap (a4 + (IntKind.u64.wrap (x54_2))))
             go_wp2_with (first | ((with_reducible refine gate_store (t := 28) (p := 68) rfl ?_); refine store_event (t := 28) (p := 68) (v := ?vo_w25) (w1 := (wr.setCell ⟨go23, (x54_2 : Int).toNat, none⟩ (.int .u64 (IntKind.u64.wrap (a4 + (IntKind.u64.wrap (x54_2))))))) ?hg ?ho ?hn ?hr ?_; (case ho => rfl); (case hg => rfl); (case hn => rfl); (case hr => first | (go_simp; done) | (go_simp; rfl)); intro w25 hw; have hg : wr.grownBy w25 (some go23) := (by rw [hw]; exact HP24.2); have hp_ : Kd.R (Kd.int .u64) 28 w25 w.heap.size (fun _ => True) (.slice (some ⟨go23, 0, none⟩) x11_2.length co17) y220 := (by rw [hw, Ny220.out]; exact HP24.1); clear HP24; have n0_ := Aside0.mk (hp_); have n1_ := Aside0.mk ((by rw [hw]; exact below_set (HB.out) GB23.out : Below w.heap.size w w25)); clear HO_11; clear HB; have HO_11 := n0_; have HB := n1_; clear n0_ n1_; clear hg hw hp_))
             go_meet
             case rel => exact ⟨_, (y220), H', ⟨by have := HJ5.out; have := HK2.out; first | omega | exact Nat.le_refl _⟩, ⟨by (try simp only [hl11_2]); (with_reducible repeat (first | apply Kd.R_alloc | apply Kd.R_drewN | apply Kd.R_drew)); exact HO_11.out⟩, ⟨by repeat (first | (with_reducible first | exact HB.out | apply below_alloc | apply pw_below_drewN | apply below_drew1) | exact HB.out)⟩⟩
           ·
            rw [if_neg c22] at H
            have c22b0 : ((rd x11_2 x54_2) == 0) = false := beq_eq_false_iff_ne.mpr c22
            have c22b1 : ((rd x11_2 x54_2) != 0) = true := bne_iff_ne.mpr c22
            as_aux_lemma =>
             have H' := Aside0.mk H
             clear H
             have p219 : 0 ≤ (x54_2 : Int) := of_decide_eq_true (by first | (with_reducible assumption) | assumption)
             have q219 : x54_2 < (x11_2.length : Int) := of_decide_eq_true (by first | (with_reducible assumption) | assumption)
             obtain ⟨ad219, e219, hx219_0⟩ := Kd.at_int (Kd.R_reads' HO_11.out).2.2 x54_2 p219 q219
             cases e219
             replace p219 := eq_true p219
             replace q219 := eq_true q219
             go_wp2
             go_meet
             case rel => exact ⟨_, (x11_2), H', ⟨by have := HJ5.out; have := HK2.out; first | omega | exact Nat.le_refl _⟩, ⟨by (try simp only [hl11_2]); (with_reducible repeat (first | apply Kd.R_alloc | apply Kd.R_drewN | apply Kd.R_drew)); exact HO_11.out⟩, ⟨by repeat (first | (with_reducible first | exact HB.out | apply below_alloc | apply pw_below_drewN | apply below_drew1) | exact HB.out)⟩⟩
          ·
           rw [if_neg c21] at H
           exact absurd H (by simp)
         ·
          rw [if_neg c20] at H
          exact absurd H (by simp)
        case rest =>
         clear HC19
         try clear c1
         try clear c2
         try clear p2
         try clear q2
         try clear hx2
         try clear c3
         try clear p6
         try clear c7
         try clear c7b0
         try clear c7b1
         try clear c8
         try clear c8b0
         try clear c8b1
         try clear c8b2
         try clear c10
         try clear c11
         try clear c14
         try clear c14b0
         try clear c14b1
         try clear c18
         try clear c18b0
         try clear c20
         try clear c20b0
         try clear c21
         try clear c21b0
         try clear p21
         try clear q21
         try clear hx21
         try clear c22
         try clear c22b0
         try clear c22b1
         try clear p23
         try clear q23
         try clear hx23
         try clear hf23
         try clear hx219_0
         try clear hx23_0
         try clear p2
         try clear p219
         try clear p23
         try clear p6
         try clear q219
         try clear q23
         obtain ⟨kq, x11_18, HA, HJ18, HO_11, HB⟩ := hcut
         have hl11_18 := (Kd.R_reads' HO_11.out).1
         rw [hl11_18] at HO_11
         (try simp only [hl11_18])
         cases kq with
         | zero => exact absurd HA.out (by simp [darninglaw16_CarveEdited.j2])
         | succ kj18 =>
          have H := HA.out
          clear HA
          simp only [darninglaw16_CarveEdited.j2] at H
          as_aux_lemma =>
           have H' := Aside0.mk H
           clear H
           go_wp2
           (try simp only [← hl11_2, ← hl11_18])
           go_roundg kj18
           case measure => have := HJ5.out; have := HK2.out; have := HJ18.out; omega
           case rel => exact ⟨(x11_18), (wrap64 (x54_2 + 1)), (by first | rfl | (simp; done) | (simp [*]; done)), H', ⟨by have := HJ5.out; have := HK2.out; have := HJ18.out; omega⟩, ⟨by (try simp only [hl11_2]); (try simp only [hl11_18]); (with_reducible repeat (first | apply Kd.R_alloc | apply Kd.R_drewN | apply Kd.R_drew)); exact HO_11.out⟩, ⟨by repeat (first | (with_reducible first | exact HB.out | apply below_alloc | apply pw_below_drewN | apply below_drew1) | exact HB.out)⟩⟩
       ·
        rw [if_neg c18] at H
        have c18b0 : decide (x54_2 < (t216.length : Int)) = false := decide_eq_false c18
        (try (have c18b0h := c18b0; simp only [hl11_2] at c18b0h))
        clear c18
        replace H := Option.bind_eq_some_iff.mp H
        obtain ⟨⟨t221, t224⟩, A260, H⟩ := H
        replace H : ((carve_Edits.f k2 l0 (wrap64 (Int.tmod (IntKind.u64.wrap (a2)) (IntKind.u64.wrap ((l0.length : Int))))) (wrap64 (2 + (wrap64 (Int.tmod (IntKind.u64.wrap (a3)) 60))))).bind fun t225 => (if 0 ≤ (wrap64 (Int.tmod (IntKind.u64.wrap (a2)) (IntKind.u64.wrap ((l0.length : Int))))) then (if (wrap64 (Int.tmod (IntKind.u64.wrap (a2)) (IntKind.u64.wrap ((l0.length : Int))))) < (l0.length : Int) then (if (rd_T35 l0 (wrap64 (Int.tmod (IntKind.u64.wrap (a2)) (IntKind.u64.wrap ((l0.length : Int)))))).f2 = true then (darninglaw16_CarveEdited.j3 k2 l0 (wrap64 (Int.tmod (IntKind.u64.wrap (a2)) (IntKind.u64.wrap ((l0.length : Int))))) x11_2 t221 t224 t225 true) else (darninglaw16_CarveEdited.j3 k2 l0 (wrap64 (Int.tmod (IntKind.u64.wrap (a2)) (IntKind.u64.wrap ((l0.length : Int))))) x11_2 t221 t224 t225 (decide (((rd_T35 l0 (wrap64 (Int.tmod (IntKind.u64.wrap (a2)) (IntKind.u64.wrap ((l0.length : Int)))))).f1) < (wrap64 (2 + (wrap64 (Int.tmod (IntKind.u64.wrap (a3)) 60)))))))) else (none)) else (none))) = some true := H
        have A26 := Aside0.mk A260
        clear A260
        replace H := Option.bind_eq_some_iff.mp H
        obtain ⟨t225, A270, H⟩ := H
        replace H : (if 0 ≤ (wrap64 (Int.tmod (IntKind.u64.wrap (a2)) (IntKind.u64.wrap ((l0.length : Int))))) then (if (wrap64 (Int.tmod (IntKind.u64.wrap (a2)) (IntKind.u64.wrap ((l0.length : Int))))) < (l0.length : Int) then (if (rd_T35 l0 (wrap64 (Int.tmod (IntKind.u64.wrap (a2)) (IntKind.u64.wrap ((l0.length : Int)))))).f2 = true then (darninglaw16_CarveEdited.j3 k2 l0 (wrap64 (Int.tmod (IntKind.u64.wrap (a2)) (IntKind.u64.wrap ((l0.length : Int))))) x11_2 t221 t224 t225 true) else (darninglaw16_CarveEdited.j3 k2 l0 (wrap64 (Int.tmod (IntKind.u64.wrap (a2)) (IntKind.u64.wrap ((l0.length : Int))))) x11_2 t221 t224 t225 (decide (((rd_T35 l0 (wrap64 (Int.tmod (IntKind.u64.wrap (a2)) (IntKind.u64.wrap ((l0.length : Int)))))).f1) < (wrap64 (2 + (wrap64 (Int.tmod (IntKind.u64.wrap (a3)) 60)))))))) else (none)) else (none)) = some true := H
        have A27 := Aside0.mk A270
        clear A270
        have HC28 := Aside0.mk H
        clear H
        go_upto_region 13 with (first | ((with_reducible refine gate_callee (f := 23) rfl ?_); refine goesL_ (some 74) rfl rfl Try.func23 (by kernel_rfl) rfl #[.slice A0 l0.length c0, .int .i64 (wrap64 (Int.tmod (IntKind.u64.wrap (a2)) (IntKind.u64.wrap ((l0.length : Int))))), .int .i64 (wrap64 (2 + (wrap64 (Int.tmod (IntKind.u64.wrap (a3)) 60))))] rfl (by (try simp only [List.map_toArray, List.map_cons, List.map_nil]); first | done | rfl | (simp only [List.length_drop, List.length_take]; rfl)) ?_; (with_reducible refine (carve_Blocks.calls k2 (fun k_ => k_ < w.heap.size) _ _ l0 (wrap64 (Int.tmod (IntKind.u64.wrap (a2)) (IntKind.u64.wrap ((l0.length : Int))))) (wrap64 (2 + (wrap64 (Int.tmod (IntKind.u64.wrap (a3)) 60)))) t221 t224 _ ?side1 A26.out).mono ?_); (case side1 => exact Kd.V_mk HC0.out (Kd.F_below (Kd.C_F k35_heap HR0.out) (by repeat (first | (with_reducible first | exact HB.out | apply below_alloc | apply pw_below_drewN | apply below_drew1) | exact HB.out)))); rintro e w29 ⟨v222, rfl, ho0, hb⟩; refine ⟨_, rfl, ?_⟩; have n0_ := Aside0.mk (Kd.R_below (by (with_reducible repeat (first | apply Kd.R_alloc | apply Kd.R_drewN | apply Kd.R_drew)); exact HO_11.out) hb); have n1_ := Aside0.mk (Kd.R_lower (Kd.R_mono (ok' := fun k_ => True) ho0 (fun _ hk_ => trivial)) (below_size (by repeat (first | (with_reducible first | exact HB.out | apply below_alloc | apply pw_below_drewN | apply below_drew1) | exact HB.out)))); have n2_ := Aside0.mk (below_step (by repeat (first | (with_reducible first | exact HB.out | apply below_alloc | apply pw_below_drewN | apply below_drew1) | exact HB.out)) hb); clear HO_11; clear HB; have HO_11 := n0_; have HO223 := n1_; have HB := n2_; clear n0_ n1_ n2_; (try clear hb); (try clear hb2); (try clear hk); (try clear hi); (try clear ho0)) | ((with_reducible refine gate_callee (f := 26) rfl ?_); refine goesL_ (some 80) rfl rfl Try.func26 (by kernel_rfl) rfl #[.slice A0 l0.length c0, .int .i64 (wrap64 (Int.tmod (IntKind.u64.wrap (a2)) (IntKind.u64.wrap ((l0.length : Int))))), .int .i64 (wrap64 (2 + (wrap64 (Int.tmod (IntKind.u64.wrap (a3)) 60))))] rfl (by (try simp only [List.map_toArray, List.map_cons, List.map_nil]); first | done | rfl | (simp only [List.length_drop, List.length_take]; rfl)) ?_; (with_reducible refine (carve_Edits.calls k2 _ _ l0 (wrap64 (Int.tmod (IntKind.u64.wrap (a2)) (IntKind.u64.wrap ((l0.length : Int))))) (wrap64 (2 + (wrap64 (Int.tmod (IntKind.u64.wrap (a3)) 60)))) t225 _ ?side1 ?side2 A27.out).mono ?_); (case side1 => repeat (first | exact (Kd.C_below HR0.out HB.out) | (with_reducible refine Kd.C_alloc ?_ _) | (with_reducible refine Kd.C_drewN ?_ _) | (with_reducible refine Kd.C_drew ?_))); (case side2 => exact HC0.out); rintro e w30 ⟨v226, rfl, ho0, hb⟩; refine ⟨_, rfl, ?_⟩; have n0_ := Aside0.mk (Kd.R_below (by (with_reducible repeat (first | apply Kd.R_alloc | apply Kd.R_drewN | apply Kd.R_drew)); exact HO_11.out) hb); have n1_ := Aside0.mk (Kd.R_below (by (with_reducible repeat (first | apply Kd.R_alloc | apply Kd.R_drewN | apply Kd.R_drew)); exact HO223.out) hb); have n2_ := Aside0.mk (Kd.R_lower ho0 (below_size (by repeat (first | (with_reducible first | exact HB.out | apply below_alloc | apply pw_below_drewN | apply below_drew1) | exact HB.out)))); have n3_ := Aside0.mk (below_step (by repeat (first | (with_reducible first | exact HB.out | apply below_alloc | apply pw_below_drewN | apply below_drew1) | exact HB.out)) hb); clear HO_11; clear HO223; clear HB; have HO_11 := n0_; have HO223 := n1_; have HO227 := n2_; have HB := n3_; clear n0_ n1_ n2_ n3_; (try clear hb); (try clear hb2); (try clear hk); (try clear hi); (try clear ho0)))
        (try simp only [Act.put, List.setIfInBounds_toArray, List.set_cons_zero, List.set_cons_succ])
        go_cut [94] (fun v94 wc => ∃ (kq : Nat) (x94_27 : Bool), v94 = .bool x94_27 ∧ Aside0 (darninglaw16_CarveEdited.j3 kq l0 (wrap64 (Int.tmod (IntKind.u64.wrap (a2)) (IntKind.u64.wrap ((l0.length : Int))))) x11_2 t221 t224 t225 x94_27 = some true) ∧ Aside0 (kq ≤ k2) ∧ Aside0 (Kd.R (Kd.int .u64) 28 wc w.heap.size (fun _ => True) (.slice Ao17 x11_2.length co17) x11_2) ∧ Aside0 (Kd.R k35 35 wc w.heap.size (fun _ => True) v222 t221) ∧ Aside0 (Kd.R k30 30 wc w.heap.size (fun _ => True) v226 t225) ∧ Aside0 (Below w.heap.size w wc))
        case first =>
         have H := HC28.out
         clear HC28
         obtain ⟨ji31, hji31⟩ : ∃ j_ : Int, (wrap64 (Int.tmod (IntKind.u64.wrap (a2)) (IntKind.u64.wrap ((l0.length : Int))))) = j_ := ⟨_, rfl⟩
         replace H : (if 0 ≤ (ji31) then (if (ji31) < (l0.length : Int) then (if (rd_T35 l0 (ji31)).f2 = true then (darninglaw16_CarveEdited.j3 k2 l0 (ji31) x11_2 t221 t224 t225 true) else (darninglaw16_CarveEdited.j3 k2 l0 (ji31) x11_2 t221 t224 t225 (decide (((rd_T35 l0 (ji31)).f1) < (wrap64 (2 + (wrap64 (Int.tmod (IntKind.u64.wrap (a3)) 60)))))))) else (none)) else (none)) = some true := by first | (rw [hji31] at H; exact H) | (simp only [hji31] at H ⊢; exact H)
         have hji31w : (IntKind.i64.wrap (Int.tmod (IntKind.u64.wrap (a2)) (IntKind.u64.wrap ((l0.length : Int))))) = ji31 := (i64_w _).trans hji31
         by_cases c32 : 0 ≤ (ji31)
         ·
          rw [if_pos c32] at H
          have c32b0 : decide (0 ≤ (ji31)) = true := decide_eq_true c32
          clear c32
          (first | rw [c32b0] | (simp only [i64_w, i32_w]; rw [c32b0]) | skip)
          by_cases c33 : (ji31) < (l0.length : Int)
          ·
           rw [if_pos c33] at H
           have c33b0 : decide ((ji31) < (l0.length : Int)) = true := decide_eq_true c33
           (try (have c33b0h := c33b0; simp only [hl11_2] at c33b0h))
           clear c33
           first | (generalize hbq34 : (rd_T35 l0 (ji31)).f2 = bq34 at *; replace hbq34 := hbq34.symm) | (obtain ⟨bq34, hbq34⟩ : ∃ b_ : Bool, b_ = ((rd_T35 l0 (ji31)).f2) := ⟨_, rfl⟩)
           replace H : (if bq34 = true then (darninglaw16_CarveEdited.j3 k2 l0 (ji31) x11_2 t221 t224 t225 true) else (darninglaw16_CarveEdited.j3 k2 l0 (ji31) x11_2 t221 t224 t225 (decide (((rd_T35 l0 (ji31)).f1) < (wrap64 (2 + (wrap64 (Int.tmod (IntKind.u64.wrap (a3)) 60)))))))) = some true := by first | exact H | (rw [← hbq34] at H; exact H)
           have Nbq34 := Aside0.mk hbq34
           clear hbq34
           (try rw [← Nbq34.out])
           by_cases c35 : bq34 = true
           ·
            subst c35
            have H1 : (darninglaw16_CarveEdited.j3 k2 l0 (ji31) x11_2 t221 t224 t225 true) = some true := by rw [if_pos rfl] at H; exact H
            clear H
            have H := H1
            clear H1
            as_aux_lemma =>
             have H' := Aside0.mk H
             clear H
             have p228 : 0 ≤ ((ji31) : Int) := of_decide_eq_true (by first | (with_reducible assumption) | assumption)
             have q228 : (ji31) < (l0.length : Int) := of_decide_eq_true (by first | (with_reducible assumption) | assumption)
             obtain ⟨ad228, e228, hx228_0, hx228_1, hx228_2⟩ := at_T35 HR0.out (ji31) p228 q228
             (try rw [← Nbq34.out] at hx228_2)
             cases e228
             replace hx228_0 := (HB.out.cell (World.block_lt_of_cell? w _ hx228_0)).trans hx228_0
             replace hx228_1 := (HB.out.cell (World.block_lt_of_cell? w _ hx228_1)).trans hx228_1
             replace hx228_2 := (HB.out.cell (World.block_lt_of_cell? w _ hx228_2)).trans hx228_2
             replace p228 := eq_true p228
             replace q228 := eq_true q228
             go_wp2
             (try simp only [← hji31])
             go_meet
             case rel => (try simp only [← Nbq34.out]); exact ⟨_, (true), (by first | rfl | (simp; done) | (simp [*]; done)), (by first | exact H' | ((try rw [hji31]); exact H')), ⟨by have := HJ5.out; have := HK2.out; first | omega | exact Nat.le_refl _⟩, ⟨by (try simp only [hl11_2]); (with_reducible repeat (first | apply Kd.R_alloc | apply Kd.R_drewN | apply Kd.R_drew)); exact HO_11.out⟩, ⟨by (try simp only [hl11_2]); (with_reducible repeat (first | apply Kd.R_alloc | apply Kd.R_drewN | apply Kd.R_drew)); exact HO223.out⟩, ⟨by (try simp only [hl11_2]); (with_reducible repeat (first | apply Kd.R_alloc | apply Kd.R_drewN | apply Kd.R_drew)); exact HO227.out⟩, ⟨by repeat (first | (with_reducible first | exact HB.out | apply below_alloc | apply pw_below_drewN | apply below_drew1) | exact HB.out)⟩⟩
           ·
            replace c35 := Bool.eq_false_iff.mpr c35
            subst c35
            have H1 : (darninglaw16_CarveEdited.j3 k2 l0 (ji31) x11_2 t221 t224 t225 (decide (((rd_T35 l0 (ji31)).f1) < (wrap64 (2 + (wrap64 (Int.tmod (IntKind.u64.wrap (a3)) 60))))))) = some true := by rw [if_neg (show ¬ (false = true) by decide)] at H; exact H
            clear H
            have H := H1
            clear H1
            as_aux_lemma =>
             have H' := Aside0.mk H
             clear H
             have p228 : 0 ≤ ((ji31) : Int) := of_decide_eq_true (by first | (with_reducible assumption) | assumption)
             have q228 : (ji31) < (l0.length : Int) := of_decide_eq_true (by first | (with_reducible assumption) | assumption)
             obtain ⟨ad228, e228, hx228_0, hx228_1, hx228_2⟩ := at_T35 HR0.out (ji31) p228 q228
             (try rw [← Nbq34.out] at hx228_2)
             cases e228
             replace hx228_0 := (HB.out.cell (World.block_lt_of_cell? w _ hx228_0)).trans hx228_0
             replace hx228_1 := (HB.out.cell (World.block_lt_of_cell? w _ hx228_1)).trans hx228_1
             replace hx228_2 := (HB.out.cell (World.block_lt_of_cell? w _ hx228_2)).trans hx228_2
             replace p228 := eq_true p228
             replace q228 := eq_true q228
             have p229 : 0 ≤ ((ji31) : Int) := of_decide_eq_true (by first | (with_reducible assumption) | assumption)
             have q229 : (ji31) < (l0.length : Int) := of_decide_eq_true (by first | (with_reducible assumption) | assumption)
             obtain ⟨ad229, e229, hx229_0, hx229_1, hx229_2⟩ := at_T35 HR0.out (ji31) p229 q229
             (try rw [← Nbq34.out] at hx229_2)
             obtain rfl : ad228 = ad229 := (by injection e229)
             replace hx229_0 := (HB.out.cell (World.block_lt_of_cell? w _ hx229_0)).trans hx229_0
             replace hx229_1 := (HB.out.cell (World.block_lt_of_cell? w _ hx229_1)).trans hx229_1
             replace hx229_2 := (HB.out.cell (World.block_lt_of_cell? w _ hx229_2)).trans hx229_2
             replace p229 := eq_true p229
             replace q229 := eq_true q229
             go_wp2
             (try simp only [← hji31])
             go_meet
             case rel => (try simp only [← Nbq34.out]); exact ⟨_, (decide (((rd_T35 l0 (ji31)).f1) < (wrap64 (2 + (wrap64 (Int.tmod (IntKind.u64.wrap (a3)) 60)))))), (by first | rfl | (simp; done) | (simp only [← hji31] <;> (first | rfl | simp)) | (simp [*]; done)), (by first | exact H' | (simp only [hji31]; exact H')), ⟨by have := HJ5.out; have := HK2.out; first | omega | exact Nat.le_refl _⟩, ⟨by (try simp only [hl11_2]); (with_reducible repeat (first | apply Kd.R_alloc | apply Kd.R_drewN | apply Kd.R_drew)); exact HO_11.out⟩, ⟨by (try simp only [hl11_2]); (with_reducible repeat (first | apply Kd.R_alloc | apply Kd.R_drewN | apply Kd.R_drew)); exact HO223.out⟩, ⟨by (try simp only [hl11_2]); (with_reducible repeat (first | apply Kd.R_alloc | apply Kd.R_drewN | apply Kd.R_drew)); exact HO227.out⟩, ⟨by repeat (first | (with_reducible first | exact HB.out | apply below_alloc | apply pw_below_drewN | apply below_drew1) | exact HB.out)⟩⟩
          ·
           rw [if_neg c33] at H
           exact absurd H (by simp)
         ·
          rw [if_neg c32] at H
          exact absurd H (by simp)
        case rest =>
         clear HC28
         try clear c1
         try clear c2
         try clear p2
         try clear q2
         try clear hx2
         try clear c3
         try clear q3
         try clear p6
         try clear c7
         try clear c7b0
         try clear c7b1
         try clear c8
         try clear c8b0
         try clear c8b1
         try clear c8b2
         try clear c10
         try clear c11
         try clear c14
         try clear c14b0
         try clear c14b1
         try clear c18
         try clear c18b0
         try clear c20
         try clear c20b0
         try clear c21
         try clear c21b0
         try clear p21
         try clear q21
         try clear hx21
         try clear c22
         try clear c22b0
         try clear c22b1
         try clear p22
         try clear q22
         try clear hx22
         try clear c23
         try clear p23
         try clear q23
         try clear hx23
         try clear hf23
         try clear c26
         try clear c32
         try clear c32b0
         try clear c33
         try clear c33b0
         try clear q34
         try clear c35
         try clear hx219_0
         try clear hx228_0
         try clear hx228_1
         try clear hx228_2
         try clear hx229_0
         try clear hx229_1
         try clear hx229_2
         try clear hx23_0
         try clear p2
         try clear p21
         try clear p219
         try clear p228
         try clear p229
         try clear p23
         try clear p6
         try clear q2
         try clear q21
         try clear q219
         try clear q228
         try clear q229
         try clear q23
         obtain ⟨kq, x94_27, rfl, HA, HJ27, HO_11, HO_13, HO_15, HB⟩ := hcut
         cases kq with
         | zero => exact absurd HA.out (by simp [darninglaw16_CarveEdited.j3])
         | succ kj27 =>
          have H := HA.out
          clear HA
          simp only [darninglaw16_CarveEdited.j3] at H
          by_cases c36 : x94_27 = true
          ·
           subst c36
           have H1 : (if t224 = true then (some false) else (if (t225.length : Int) = 0 then ((darninglaw16_awake.f kj27).bind fun t230 => (some t230)) else (some false))) = some true := by rw [if_pos rfl] at H; exact H
           clear H
           have H := H1
           clear H1
           by_cases c37 : t224 = true
           ·
            subst c37
            have H1 : (some false) = some true := by rw [if_pos rfl] at H; exact H
            clear H
            have H := H1
            clear H1
            exact absurd H (by simp)
           ·
            replace c37 := Bool.eq_false_iff.mpr c37
            subst c37
            have H1 : (if (t225.length : Int) = 0 then ((darninglaw16_awake.f kj27).bind fun t230 => (some t230)) else (some false)) = some true := by rw [if_neg (show ¬ (false = true) by decide)] at H; exact H
            clear H
            have H := H1
            clear H1
            by_cases c38 : (t225.length : Int) = 0
            ·
             rw [if_pos c38] at H
             have c38b0 : ((t225.length : Int) == 0) = true := beq_iff_eq.mpr c38
             have c38b1 : ((t225.length : Int) != 0) = false := bne_eq_false_iff_eq.mpr c38
             (try (have c38b0h := c38b0; simp only [hl11_2] at c38b0h))
             (try (have c38b1h := c38b1; simp only [hl11_2] at c38b1h))
             clear c38
             replace H := Option.bind_eq_some_iff.mp H
             obtain ⟨t230, A390, H⟩ := H
             replace H : (some t230) = some true := H
             have A39 := Aside0.mk A390
             clear A390
             as_aux_lemma =>
              obtain rfl : t230 = true := Option.some.inj H
              obtain ⟨Ao40, co40, eo40⟩ := Kd.R_slice HO_15.out
              subst eo40
              go_wp2_with (first | (go_at_call 22; (with_reducible refine (darninglaw16_awake.calls kj27  true _ A39.out).mono ?_); rintro e w41 ⟨rfl, hb⟩; have n0_ := Aside0.mk (Kd.R_below (by (with_reducible repeat (first | apply Kd.R_alloc | apply Kd.R_drewN | apply Kd.R_drew)); exact HO_11.out) hb); have n1_ := Aside0.mk (Kd.R_below (by (with_reducible repeat (first | apply Kd.R_alloc | apply Kd.R_drewN | apply Kd.R_drew)); exact HO_13.out) hb); have n2_ := Aside0.mk (Kd.R_below (by (with_reducible repeat (first | apply Kd.R_alloc | apply Kd.R_drewN | apply Kd.R_drew)); exact HO_15.out) hb); have n3_ := Aside0.mk (below_step (by repeat (first | (with_reducible first | exact HB.out | apply below_alloc | apply pw_below_drewN | apply below_drew1) | exact HB.out)) hb); clear HO_11; clear HO_13; clear HO_15; clear HB; have HO_11 := n0_; have HO_13 := n1_; have HO_15 := n2_; have HB := n3_; clear n0_ n1_ n2_ n3_; (try clear hb); (try clear hb2); (try clear hk); (try clear hi)))
              go_ret
              exact ⟨by first | rfl | (rw [HRA_.out]) | (simp only [HRA_.out]; done) | (simp only [← HRA_.out]; done) | (have HR_ := HRA_.out; simp_all) | (simp [errW_none, errW_some] <;> rfl) | (simp [*, errW_none, errW_some] <;> rfl), by repeat (first | (with_reducible first | exact HB.out | apply below_alloc | apply pw_below_drewN | apply below_drew1) | exact HB.out)⟩
            ·
             rw [if_neg c38] at H
             have c38b0 : ((t225.length : Int) == 0) = false := beq_eq_false_iff_ne.mpr c38
             have c38b1 : ((t225.length : Int) != 0) = true := bne_iff_ne.mpr c38
             have c38b2 : ¬ (t225 = []) := fun h_ => c38 (by rw [h_]; rfl)
             exact absurd H (by simp)
          ·
           replace c36 := Bool.eq_false_iff.mpr c36
           subst c36
           have H1 : ((darningref4_Apply.f kj27 x11_2 t225).bind fun t231 => ((chain_Blocks.f kj27 t231).bind fun bt234 => (if t224 = true then (if bt234.2 = true then ((darningref4_SameBlocks.f kj27 bt234.1 t221).bind fun t238 => (if t238 = true then (if (wrap64 (Int.tmod (IntKind.u64.wrap (a2)) (IntKind.u64.wrap ((l0.length : Int))))) ≥ (t221.length : Int) then (some false) else (if 0 ≤ (wrap64 (Int.tmod (IntKind.u64.wrap (a2)) (IntKind.u64.wrap ((l0.length : Int))))) then (if (wrap64 (Int.tmod (IntKind.u64.wrap (a2)) (IntKind.u64.wrap ((l0.length : Int))))) < (t221.length : Int) then (if ((rd_T35 t221 (wrap64 (Int.tmod (IntKind.u64.wrap (a2)) (IntKind.u64.wrap ((l0.length : Int)))))).f2 = true) then (if (wrap64 (Int.tmod (IntKind.u64.wrap (a2)) (IntKind.u64.wrap ((l0.length : Int))))) < (l0.length : Int) then (if ((rd_T35 t221 (wrap64 (Int.tmod (IntKind.u64.wrap (a2)) (IntKind.u64.wrap ((l0.length : Int)))))).f0) = ((rd_T35 l0 (wrap64 (Int.tmod (IntKind.u64.wrap (a2)) (IntKind.u64.wrap ((l0.length : Int)))))).f0) then (darninglaw16_CarveEdited.l1 kj27 l0 (wrap64 (Int.tmod (IntKind.u64.wrap (a2)) (IntKind.u64.wrap ((l0.length : Int))))) x11_2 t221 t231 (t231.length : Int) 0) else (some false)) else (none)) else (some false)) else (none)) else (none))) else (some false))) else (some false)) else (some false)))) = some true := by rw [if_neg (show ¬ (false = true) by decide)] at H; exact H
           clear H
           have H := H1
           clear H1
           replace H := Option.bind_eq_some_iff.mp H
           obtain ⟨t231, A420, H⟩ := H
           replace H : ((chain_Blocks.f kj27 t231).bind fun bt234 => (if t224 = true then (if bt234.2 = true then ((darningref4_SameBlocks.f kj27 bt234.1 t221).bind fun t238 => (if t238 = true then (if (wrap64 (Int.tmod (IntKind.u64.wrap (a2)) (IntKind.u64.wrap ((l0.length : Int))))) ≥ (t221.length : Int) then (some false) else (if 0 ≤ (wrap64 (Int.tmod (IntKind.u64.wrap (a2)) (IntKind.u64.wrap ((l0.length : Int))))) then (if (wrap64 (Int.tmod (IntKind.u64.wrap (a2)) (IntKind.u64.wrap ((l0.length : Int))))) < (t221.length : Int) then (if ((rd_T35 t221 (wrap64 (Int.tmod (IntKind.u64.wrap (a2)) (IntKind.u64.wrap ((l0.length : Int)))))).f2 = true) then (if (wrap64 (Int.tmod (IntKind.u64.wrap (a2)) (IntKind.u64.wrap ((l0.length : Int))))) < (l0.length : Int) then (if ((rd_T35 t221 (wrap64 (Int.tmod (IntKind.u64.wrap (a2)) (IntKind.u64.wrap ((l0.length : Int)))))).f0) = ((rd_T35 l0 (wrap64 (Int.tmod (IntKind.u64.wrap (a2)) (IntKind.u64.wrap ((l0.length : Int)))))).f0) then (darninglaw16_CarveEdited.l1 kj27 l0 (wrap64 (Int.tmod (IntKind.u64.wrap (a2)) (IntKind.u64.wrap ((l0.length : Int))))) x11_2 t221 t231 (t231.length : Int) 0) else (some false)) else (none)) else (some false)) else (none)) else (none))) else (some false))) else (some false)) else (some false))) = some true := H
           have A42 := Aside0.mk A420
           clear A420
           replace H := Option.bind_eq_some_iff.mp H
           obtain ⟨⟨t234, t235⟩, A430, H⟩ := H
           replace H : (if t224 = true then (if t235 = true then ((darningref4_SameBlocks.f kj27 t234 t221).bind fun t238 => (if t238 = true then (if (wrap64 (Int.tmod (IntKind.u64.wrap (a2)) (IntKind.u64.wrap ((l0.length : Int))))) ≥ (t221.length : Int) then (some false) else (if 0 ≤ (wrap64 (Int.tmod (IntKind.u64.wrap (a2)) (IntKind.u64.wrap ((l0.length : Int))))) then (if (wrap64 (Int.tmod (IntKind.u64.wrap (a2)) (IntKind.u64.wrap ((l0.length : Int))))) < (t221.length : Int) then (if ((rd_T35 t221 (wrap64 (Int.tmod (IntKind.u64.wrap (a2)) (IntKind.u64.wrap ((l0.length : Int)))))).f2 = true) then (if (wrap64 (Int.tmod (IntKind.u64.wrap (a2)) (IntKind.u64.wrap ((l0.length : Int))))) < (l0.length : Int) then (if ((rd_T35 t221 (wrap64 (Int.tmod (IntKind.u64.wrap (a2)) (IntKind.u64.wrap ((l0.length : Int)))))).f0) = ((rd_T35 l0 (wrap64 (Int.tmod (IntKind.u64.wrap (a2)) (IntKind.u64.wrap ((l0.length : Int)))))).f0) then (darninglaw16_CarveEdited.l1 kj27 l0 (wrap64 (Int.tmod (IntKind.u64.wrap (a2)) (IntKind.u64.wrap ((l0.length : Int))))) x11_2 t221 t231 (t231.length : Int) 0) else (some false)) else (none)) else (some false)) else (none)) else (none))) else (some false))) else (some false)) else (some false)) = some true := H
           have A43 := Aside0.mk A430
           clear A430
           by_cases c44 : t224 = true
           ·
            subst c44
            have H1 : (if t235 = true then ((darningref4_SameBlocks.f kj27 t234 t221).bind fun t238 => (if t238 = true then (if (wrap64 (Int.tmod (IntKind.u64.wrap (a2)) (IntKind.u64.wrap ((l0.length : Int))))) ≥ (t221.length : Int) then (some false) else (if 0 ≤ (wrap64 (Int.tmod (IntKind.u64.wrap (a2)) (IntKind.u64.wrap ((l0.length : Int))))) then (if (wrap64 (Int.tmod (IntKind.u64.wrap (a2)) (IntKind.u64.wrap ((l0.length : Int))))) < (t221.length : Int) then (if ((rd_T35 t221 (wrap64 (Int.tmod (IntKind.u64.wrap (a2)) (IntKind.u64.wrap ((l0.length : Int)))))).f2 = true) then (if (wrap64 (Int.tmod (IntKind.u64.wrap (a2)) (IntKind.u64.wrap ((l0.length : Int))))) < (l0.length : Int) then (if ((rd_T35 t221 (wrap64 (Int.tmod (IntKind.u64.wrap (a2)) (IntKind.u64.wrap ((l0.length : Int)))))).f0) = ((rd_T35 l0 (wrap64 (Int.tmod (IntKind.u64.wrap (a2)) (IntKind.u64.wrap ((l0.length : Int)))))).f0) then (darninglaw16_CarveEdited.l1 kj27 l0 (wrap64 (Int.tmod (IntKind.u64.wrap (a2)) (IntKind.u64.wrap ((l0.length : Int))))) x11_2 t221 t231 (t231.length : Int) 0) else (some false)) else (none)) else (some false)) else (none)) else (none))) else (some false))) else (some false)) = some true := by rw [if_pos rfl] at H; exact H
            clear H
            have H := H1
            clear H1
            by_cases c45 : t235 = true
            ·
             subst c45
             have H1 : ((darningref4_SameBlocks.f kj27 t234 t221).bind fun t238 => (if t238 = true then (if (wrap64 (Int.tmod (IntKind.u64.wrap (a2)) (IntKind.u64.wrap ((l0.length : Int))))) ≥ (t221.length : Int) then (some false) else (if 0 ≤ (wrap64 (Int.tmod (IntKind.u64.wrap (a2)) (IntKind.u64.wrap ((l0.length : Int))))) then (if (wrap64 (Int.tmod (IntKind.u64.wrap (a2)) (IntKind.u64.wrap ((l0.length : Int))))) < (t221.length : Int) then (if ((rd_T35 t221 (wrap64 (Int.tmod (IntKind.u64.wrap (a2)) (IntKind.u64.wrap ((l0.length : Int)))))).f2 = true) then (if (wrap64 (Int.tmod (IntKind.u64.wrap (a2)) (IntKind.u64.wrap ((l0.length : Int))))) < (l0.length : Int) then (if ((rd_T35 t221 (wrap64 (Int.tmod (IntKind.u64.wrap (a2)) (IntKind.u64.wrap ((l0.length : Int)))))).f0) = ((rd_T35 l0 (wrap64 (Int.tmod (IntKind.u64.wrap (a2)) (IntKind.u64.wrap ((l0.length : Int)))))).f0) then (darninglaw16_CarveEdited.l1 kj27 l0 (wrap64 (Int.tmod (IntKind.u64.wrap (a2)) (IntKind.u64.wrap ((l0.length : Int))))) x11_2 t221 t231 (t231.length : Int) 0) else (some false)) else (none)) else (some false)) else (none)) else (none))) else (some false))) = some true := by rw [if_pos rfl] at H; exact H
             clear H
             have H := H1
             clear H1
             replace H := Option.bind_eq_some_iff.mp H
             obtain ⟨t238, A460, H⟩ := H
             replace H : (if t238 = true then (if (wrap64 (Int.tmod (IntKind.u64.wrap (a2)) (IntKind.u64.wrap ((l0.length : Int))))) ≥ (t221.length : Int) then (some false) else (if 0 ≤ (wrap64 (Int.tmod (IntKind.u64.wrap (a2)) (IntKind.u64.wrap ((l0.length : Int))))) then (if (wrap64 (Int.tmod (IntKind.u64.wrap (a2)) (IntKind.u64.wrap ((l0.length : Int))))) < (t221.length : Int) then (if ((rd_T35 t221 (wrap64 (Int.tmod (IntKind.u64.wrap (a2)) (IntKind.u64.wrap ((l0.length : Int)))))).f2 = true) then (if (wrap64 (Int.tmod (IntKind.u64.wrap (a2)) (IntKind.u64.wrap ((l0.length : Int))))) < (l0.length : Int) then (if ((rd_T35 t221 (wrap64 (Int.tmod (IntKind.u64.wrap (a2)) (IntKind.u64.wrap ((l0.length : Int)))))).f0) = ((rd_T35 l0 (wrap64 (Int.tmod (IntKind.u64.wrap (a2)) (IntKind.u64.wrap ((l0.length : Int)))))).f0) then (darninglaw16_CarveEdited.l1 kj27 l0 (wrap64 (Int.tmod (IntKind.u64.wrap (a2)) (IntKind.u64.wrap ((l0.length : Int))))) x11_2 t221 t231 (t231.length : Int) 0) else (some false)) else (none)) else (some false)) else (none)) else (none))) else (some false)) = some true := H
             have A46 := Aside0.mk A460
             clear A460
             by_cases c47 : t238 = true
             ·
              subst c47
              have H1 : (if (wrap64 (Int.tmod (IntKind.u64.wrap (a2)) (IntKind.u64.wrap ((l0.length : Int))))) ≥ (t221.length : Int) then (some false) else (if 0 ≤ (wrap64 (Int.tmod (IntKind.u64.wrap (a2)) (IntKind.u64.wrap ((l0.length : Int))))) then (if (wrap64 (Int.tmod (IntKind.u64.wrap (a2)) (IntKind.u64.wrap ((l0.length : Int))))) < (t221.length : Int) then (if ((rd_T35 t221 (wrap64 (Int.tmod (IntKind.u64.wrap (a2)) (IntKind.u64.wrap ((l0.length : Int)))))).f2 = true) then (if (wrap64 (Int.tmod (IntKind.u64.wrap (a2)) (IntKind.u64.wrap ((l0.length : Int))))) < (l0.length : Int) then (if ((rd_T35 t221 (wrap64 (Int.tmod (IntKind.u64.wrap (a2)) (IntKind.u64.wrap ((l0.length : Int)))))).f0) = ((rd_T35 l0 (wrap64 (Int.tmod (IntKind.u64.wrap (a2)) (IntKind.u64.wrap ((l0.length : Int)))))).f0) then (darninglaw16_CarveEdited.l1 kj27 l0 (wrap64 (Int.tmod (IntKind.u64.wrap (a2)) (IntKind.u64.wrap ((l0.length : Int))))) x11_2 t221 t231 (t231.length : Int) 0) else (some false)) else (none)) else (some false)) else (none)) else (none))) = some true := by rw [if_pos rfl] at H; exact H
              clear H
              have H := H1
              clear H1
              by_cases c48 : (wrap64 (Int.tmod (IntKind.u64.wrap (a2)) (IntKind.u64.wrap ((l0.length : Int))))) ≥ (t221.length : Int)
              ·
               rw [if_pos c48] at H
               have c48b0 : decide ((t221.length : Int) ≤ (wrap64 (Int.tmod (IntKind.u64.wrap (a2)) (IntKind.u64.wrap ((l0.length : Int)))))) = true := decide_eq_true c48
               (try (have c48b0h := c48b0; simp only [hl11_2] at c48b0h))
               clear c48
               exact absurd H (by simp)
              ·
               rw [if_neg c48] at H
               have c48b0 : decide ((t221.length : Int) ≤ (wrap64 (Int.tmod (IntKind.u64.wrap (a2)) (IntKind.u64.wrap ((l0.length : Int)))))) = false := decide_eq_false c48
               (try (have c48b0h := c48b0; simp only [hl11_2] at c48b0h))
               clear c48
               obtain ⟨ji49, hji49⟩ : ∃ j_ : Int, (wrap64 (Int.tmod (IntKind.u64.wrap (a2)) (IntKind.u64.wrap ((l0.length : Int))))) = j_ := ⟨_, rfl⟩
               replace H : (if 0 ≤ (ji49) then (if (ji49) < (t221.length : Int) then (if ((rd_T35 t221 (ji49)).f2 = true) then (if (ji49) < (l0.length : Int) then (if ((rd_T35 t221 (ji49)).f0) = ((rd_T35 l0 (ji49)).f0) then (darninglaw16_CarveEdited.l1 kj27 l0 (ji49) x11_2 t221 t231 (t231.length : Int) 0) else (some false)) else (none)) else (some false)) else (none)) else (none)) = some true := by first | (rw [hji49] at H; exact H) | (simp only [hji49] at H ⊢; exact H)
               (try rw [hji49] at c48b0)
               (try rw [hji49] at A42)
               (try rw [hji49] at A43)
               (try rw [hji49] at A46)
               have hji49w : (IntKind.i64.wrap (Int.tmod (IntKind.u64.wrap (a2)) (IntKind.u64.wrap ((l0.length : Int))))) = ji49 := (i64_w _).trans hji49
               by_cases c50 : 0 ≤ (ji49)
               ·
                rw [if_pos c50] at H
                have c50b0 : decide (0 ≤ (ji49)) = true := decide_eq_true c50
                clear c50
                by_cases c51 : (ji49) < (t221.length : Int)
                ·
                 rw [if_pos c51] at H
                 have c51b0 : decide ((ji49) < (t221.length : Int)) = true := decide_eq_true c51
                 (try (have c51b0h := c51b0; simp only [hl11_2] at c51b0h))
                 clear c51
                 first | (generalize hbq52 : (rd_T35 t221 (ji49)).f2 = bq52 at *; replace hbq52 := hbq52.symm) | (obtain ⟨bq52, hbq52⟩ : ∃ b_ : Bool, b_ = ((rd_T35 t221 (ji49)).f2) := ⟨_, rfl⟩)
                 replace H : (if (bq52 = true) then (if (ji49) < (l0.length : Int) then (if ((rd_T35 t221 (ji49)).f0) = ((rd_T35 l0 (ji49)).f0) then (darninglaw16_CarveEdited.l1 kj27 l0 (ji49) x11_2 t221 t231 (t231.length : Int) 0) else (some false)) else (none)) else (some false)) = some true := by first | exact H | (rw [← hbq52] at H; exact H)
                 have Nbq52 := Aside0.mk hbq52
                 clear hbq52
                 (try rw [← Nbq52.out])
                 by_cases c53 : (bq52 = true)
                 ·
                  subst c53
                  have H1 : (if (ji49) < (l0.length : Int) then (if ((rd_T35 t221 (ji49)).f0) = ((rd_T35 l0 (ji49)).f0) then (darninglaw16_CarveEdited.l1 kj27 l0 (ji49) x11_2 t221 t231 (t231.length : Int) 0) else (some false)) else (none)) = some true := by rw [if_pos rfl] at H; exact H
                  clear H
                  have H := H1
                  clear H1
                  by_cases c54 : (ji49) < (l0.length : Int)
                  ·
                   rw [if_pos c54] at H
                   have c54b0 : decide ((ji49) < (l0.length : Int)) = true := decide_eq_true c54
                   (try (have c54b0h := c54b0; simp only [hl11_2] at c54b0h))
                   clear c54
                   by_cases c55 : ((rd_T35 t221 (ji49)).f0) = ((rd_T35 l0 (ji49)).f0)
                   ·
                    rw [if_pos c55] at H
                    have c55b0 : (((rd_T35 t221 (ji49)).f0) == ((rd_T35 l0 (ji49)).f0)) = true := beq_iff_eq.mpr c55
                    have c55b1 : (((rd_T35 t221 (ji49)).f0) != ((rd_T35 l0 (ji49)).f0)) = false := bne_eq_false_iff_eq.mpr c55
                    clear c55
                    have H' := Aside0.mk H
                    clear H
                    obtain ⟨Ao56, co56, eo56⟩ := Kd.R_slice HO_15.out
                    subst eo56
                    try go_wp2_with (first | ((with_reducible refine gate_callee (f := 34) rfl ?_); refine goesL_ (some 107) rfl rfl Try.func34 (by kernel_rfl) rfl #[.slice Ao17 x11_2.length co17, .slice Ao56 t225.length co56] rfl (by (try simp only [List.map_toArray, List.map_cons, List.map_nil]); first | done | rfl | (simp only [List.length_drop, List.length_take]; rfl)) ?_; (with_reducible refine (darningref4_Apply.calls kj27 _ _ x11_2 _ _ t225 t231 _ ?side1 ?side2 ?side3 ?side4 A42.out).mono ?_); (case side1 => repeat (first | exact (Kd.R_reads' HO_11.out).2.2 | (with_reducible refine Kd.C_alloc ?_ _) | (with_reducible refine Kd.C_drewN ?_ _) | (with_reducible refine Kd.C_drew ?_))); (case side2 => exact (Kd.R_reads' HO_11.out).2.1); (case side3 => repeat (first | exact (Kd.R_reads' HO_15.out).2.2 | (with_reducible refine Kd.C_alloc ?_ _) | (with_reducible refine Kd.C_drewN ?_ _) | (with_reducible refine Kd.C_drew ?_))); (case side4 => exact (Kd.R_reads' HO_15.out).2.1); rintro e w57 ⟨v232, rfl, ho0, hb⟩; refine ⟨_, rfl, ?_⟩; have n0_ := Aside0.mk (Kd.R_elder' (by (with_reducible repeat (first | apply Kd.R_alloc | apply Kd.R_drewN | apply Kd.R_drew)); exact HO_11.out) (Kd.R_base ho0) hb); have n1_ := Aside0.mk (Kd.R_below (by (with_reducible repeat (first | apply Kd.R_alloc | apply Kd.R_drewN | apply Kd.R_drew)); exact HO_13.out) hb); have n2_ := Aside0.mk (Kd.R_below (by (with_reducible repeat (first | apply Kd.R_alloc | apply Kd.R_drewN | apply Kd.R_drew)); exact HO_15.out) hb); have n3_ := Aside0.mk (Kd.R_lower (Kd.R_new' ho0 (Kd.R_lt (by (with_reducible repeat (first | apply Kd.R_alloc | apply Kd.R_drewN | apply Kd.R_drew)); exact HO_11.out))) (below_size (by repeat (first | (with_reducible first | exact HB.out | apply below_alloc | apply pw_below_drewN | apply below_drew1) | exact HB.out)))); have n4_ := Aside0.mk (below_step (by repeat (first | (with_reducible first | exact HB.out | apply below_alloc | apply pw_below_drewN | apply below_drew1) | exact HB.out)) hb); clear HO_11; clear HO_13; clear HO_15; clear HB; have HO_11 := n0_; have HO_13 := n1_; have HO_15 := n2_; have HO233 := n3_; have HB := n4_; clear n0_ n1_ n2_ n3_ n4_; (try clear hb); (try clear hb2); (try clear hk); (try clear hi); (try clear ho0); obtain ⟨Ao58, co58, eo58⟩ := Kd.R_slice HO233.out; subst eo58) | ((with_reducible refine gate_callee (f := 35) rfl ?_); refine goesL_ (some 110) rfl rfl Try.func35 (by kernel_rfl) rfl #[.slice Ao58 t231.length co58] rfl (by (try simp only [List.map_toArray, List.map_cons, List.map_nil]); first | done | rfl | (simp only [List.length_drop, List.length_take]; rfl)) ?_; (with_reducible refine (chain_Blocks.calls kj27 _ _ t231 t234 true _ ?side1 ?side2 A43.out).mono ?_); (case side1 => repeat (first | exact (Kd.R_reads' HO233.out).2.2 | (with_reducible refine Kd.C_alloc ?_ _) | (with_reducible refine Kd.C_drewN ?_ _) | (with_reducible refine Kd.C_drew ?_))); (case side2 => exact (Kd.R_reads' HO233.out).2.1); rintro e w59 ⟨v236, rfl, ho0, hb⟩; refine ⟨_, rfl, ?_⟩; have n0_ := Aside0.mk (Kd.R_below (by (with_reducible repeat (first | apply Kd.R_alloc | apply Kd.R_drewN | apply Kd.R_drew)); exact HO_11.out) hb); have n1_ := Aside0.mk (Kd.R_elder' (by (with_reducible repeat (first | apply Kd.R_alloc | apply Kd.R_drewN | apply Kd.R_drew)); exact HO_13.out) (Kd.R_base ho0) hb); have n2_ := Aside0.mk (Kd.R_below (by (with_reducible repeat (first | apply Kd.R_alloc | apply Kd.R_drewN | apply Kd.R_drew)); exact HO_15.out) hb); have n3_ := Aside0.mk (Kd.R_below (by (with_reducible repeat (first | apply Kd.R_alloc | apply Kd.R_drewN | apply Kd.R_drew)); exact HO233.out) hb); have n4_ := Aside0.mk (Kd.R_lower (Kd.R_new' ho0 (Kd.R_lt (by (with_reducible repeat (first | apply Kd.R_alloc | apply Kd.R_drewN | apply Kd.R_drew)); exact HO_13.out))) (below_size (by repeat (first | (with_reducible first | exact HB.out | apply below_alloc | apply pw_below_drewN | apply below_drew1) | exact HB.out)))); have n5_ := Aside0.mk (below_step (by repeat (first | (with_reducible first | exact HB.out | apply below_alloc | apply pw_below_drewN | apply below_drew1) | exact HB.out)) hb); clear HO_11; clear HO_13; clear HO_15; clear HO233; clear HB; have HO_11 := n0_; have HO_13 := n1_; have HO_15 := n2_; have HO233 := n3_; have HO237 := n4_; have HB := n5_; clear n0_ n1_ n2_ n3_ n4_ n5_; (try clear hb); (try clear hb2); (try clear hk); (try clear hi); (try clear ho0)))
                    have n0_ := Aside0.mk (Kd.R_drew HO_11.out)
                    have n1_ := Aside0.mk (Kd.R_drew HO_13.out)
                    have n2_ := Aside0.mk (Kd.R_drew HO_15.out)
                    have n3_ := Aside0.mk (Kd.R_drew HO233.out)
                    have n4_ := Aside0.mk (Kd.R_drew HO237.out)
                    have n5_ := Aside0.mk (below_drew1 HB.out)
                    clear HO_11
                    clear HO_13
                    clear HO_15
                    clear HO233
                    clear HO237
                    clear HB
                    have HO_11 := n0_
                    have HO_13 := n1_
                    have HO_15 := n2_
                    have HO233 := n3_
                    have HO237 := n4_
                    have HB := n5_
                    clear n0_ n1_ n2_ n3_ n4_ n5_
                    obtain ⟨Ao61, co61, eo61⟩ := Kd.R_slice HO237.out
                    (first | subst eo61 | (injection eo61 with f1_ f2_ f3_; have f4_ := f1_.symm; have f5_ := f3_.symm; clear f1_ f2_ f3_; subst f4_; subst f5_))
                    obtain ⟨Ao62, co62, eo62⟩ := Kd.R_slice HO_13.out
                    (first | subst eo62 | (injection eo62 with f1_ f2_ f3_; have f4_ := f1_.symm; have f5_ := f3_.symm; clear f1_ f2_ f3_; subst f4_; subst f5_))
                    have p239 : 0 ≤ ((ji49) : Int) := of_decide_eq_true (by first | (with_reducible assumption) | assumption)
                    have q239 : (ji49) < (t221.length : Int) := of_decide_eq_true (by first | (with_reducible assumption) | assumption)
                    obtain ⟨ad239, e239, hx239_0, hx239_1, hx239_2⟩ := at_T35 (Kd.R_reads' HO_13.out).2.2 (ji49) p239 q239
                    (try rw [← Nbq52.out] at hx239_2)
                    cases e239
                    replace p239 := eq_true p239
                    replace q239 := eq_true q239
                    have p240 : 0 ≤ ((ji49) : Int) := of_decide_eq_true (by first | (with_reducible assumption) | assumption)
                    have q240 : (ji49) < (t221.length : Int) := of_decide_eq_true (by first | (with_reducible assumption) | assumption)
                    obtain ⟨ad240, e240, hx240_0, hx240_1, hx240_2⟩ := at_T35 (Kd.R_reads' HO_13.out).2.2 (ji49) p240 q240
                    (try rw [← Nbq52.out] at hx240_2)
                    obtain rfl : ad239 = ad240 := (by injection e240)
                    replace p240 := eq_true p240
                    replace q240 := eq_true q240
                    have p241 : 0 ≤ ((ji49) : Int) := of_decide_eq_true (by first | (with_reducible assumption) | assumption)
                    have q241 : (ji49) < (l0.length : Int) := of_decide_eq_true (by first | (with_reducible assumption) | assumption)
                    obtain ⟨ad241, e241, hx241_0, hx241_1, hx241_2⟩ := at_T35 HR0.out (ji49) p241 q241
                    have hw241_2 := hx241_2
                    (try rw [← Nbq52.out] at hw241_2)
                    have hw241_1 := hx241_1
                    (try rw [← Nbq52.out] at hw241_1)
                    have hw241_0 := hx241_0
                    (try rw [← Nbq52.out] at hw241_0)
                    (try rw [← Nbq52.out] at hx241_2)
                    cases e241
                    replace hx241_0 := (HB.out.cell (World.block_lt_of_cell? w _ hx241_0)).trans hx241_0
                    replace hx241_1 := (HB.out.cell (World.block_lt_of_cell? w _ hx241_1)).trans hx241_1
                    replace hx241_2 := (HB.out.cell (World.block_lt_of_cell? w _ hx241_2)).trans hx241_2
                    replace p241 := eq_true p241
                    replace q241 := eq_true q241
                    refine start_ (n := 39) (S := fun w' => w'.cell? (ad239.add (((ji49)).toNat * 3)) = some (.int .i64 ((rd_T35 t221 (ji49)).f0)) ∧ w'.cell? ⟨(ad239.add (((ji49)).toNat * 3)).block, (ad239.add (((ji49)).toNat * 3)).off + 1, none⟩ = some (.int .i64 ((rd_T35 t221 (ji49)).f1)) ∧ w'.cell? ⟨(ad239.add (((ji49)).toNat * 3)).block, (ad239.add (((ji49)).toNat * 3)).off + 2, none⟩ = some (.bool true) ∧ w'.cell? (ad239.add (((ji49)).toNat * 3)) = some (.int .i64 ((rd_T35 t221 (ji49)).f0)) ∧ w'.cell? ⟨(ad239.add (((ji49)).toNat * 3)).block, (ad239.add (((ji49)).toNat * 3)).off + 1, none⟩ = some (.int .i64 ((rd_T35 t221 (ji49)).f1)) ∧ w'.cell? ⟨(ad239.add (((ji49)).toNat * 3)).block, (ad239.add (((ji49)).toNat * 3)).off + 2, none⟩ = some (.bool (true)) ∧ w'.cell? (ad241.add (((ji49)).toNat * 3)) = some (.int .i64 ((rd_T35 l0 (ji49)).f0)) ∧ w'.cell? ⟨(ad241.add (((ji49)).toNat * 3)).block, (ad241.add (((ji49)).toNat * 3)).off + 1, none⟩ = some (.int .i64 ((rd_T35 l0 (ji49)).f1)) ∧ w'.cell? ⟨(ad241.add (((ji49)).toNat * 3)).block, (ad241.add (((ji49)).toNat * 3)).off + 2, none⟩ = some (.bool ((rd_T35 l0 (ji49)).f2))) (ds := []) (onA 39 0) (by kernel_rfl) rfl rfl ⟨hx239_0, hx239_1, hx239_2, hx240_0, hx240_1, hx240_2, ((HB.out.cell (World.block_lt_of_cell? w _ hw241_0)).trans hw241_0), ((HB.out.cell (World.block_lt_of_cell? w _ hw241_1)).trans hw241_1), ((HB.out.cell (World.block_lt_of_cell? w _ hw241_2)).trans hw241_2)⟩ (fun hHeld => ?_); refine with_tabW darninglaw16_CarveEdited.tab17 darninglaw16_CarveEdited.bits17 (fun HT_ HW_ => ?_)
                    generalize w59.drew = w60 at HO_11 HO_13 HO_15 HO233 HO237 HB hx239_0 hx239_1 hx239_2 hx240_0 hx240_1 hx240_2 hx241_0 hx241_1 hx241_2 hHeld ⊢
                    refine pu_ (v := ?_) (a' := ?_) 0 113 (onA 39 1) HT_.out rfl rfl (by kernel_rfl) (fun _ _ _ h => h) (by rfl) ?_ ?_ ?_; rotate_left; (intro w'; go_simp; with_reducible rfl); rotate_left; (simp only [Act.put, List.setIfInBounds_toArray, List.set_cons_zero, List.set_cons_succ, i64_w, i32_w]; rfl)
                    refine pu_ (v := ?_) (a' := ?_) 1 114 (onA 39 2) HT_.out rfl rfl (by kernel_rfl) (fun _ _ _ h => h) (by rfl) ?_ ?_ ?_; rotate_left; (intro w'; go_simp; with_reducible rfl); rotate_left; (simp only [Act.put, List.setIfInBounds_toArray, List.set_cons_zero, List.set_cons_succ, i64_w, i32_w]; rfl)
                    refine pu_ (v := ?_) (a' := ?_) 2 115 (onA 39 3) HT_.out rfl rfl (by kernel_rfl) (fun _ _ _ h => h) (by rfl) ?_ ?_ ?_; rotate_left; (intro w'; go_simp; with_reducible rfl); rotate_left; (simp only [Act.put, List.setIfInBounds_toArray, List.set_cons_zero, List.set_cons_succ, i64_w, i32_w]; rfl)
                    refine pu_ (v := ?_) (a' := ?_) 3 116 (onA 39 4) HT_.out rfl rfl (by kernel_rfl) (fun _ _ _ h => h) (by rfl) ?_ ?_ ?_; rotate_left; (intro w'; go_simp; with_reducible rfl); rotate_left; (simp only [Act.put, List.setIfInBounds_toArray, List.set_cons_zero, List.set_cons_succ, i64_w, i32_w]; rfl)
                    refine pu_ (v := ?_) (a' := ?_) 4 117 (onA 39 5) HT_.out rfl rfl (by kernel_rfl) (fun _ _ _ h => h) (by rfl) ?_ ?_ ?_; rotate_left; (intro w'; go_simp; with_reducible rfl); rotate_left; (simp only [Act.put, List.setIfInBounds_toArray, List.set_cons_zero, List.set_cons_succ, i64_w, i32_w]; rfl)
                    refine pu_ (v := ?_) (a' := ?_) 5 118 (onA 39 6) HT_.out rfl rfl (by kernel_rfl) (fun _ _ _ h => h) (by rfl) ?_ ?_ ?_; rotate_left; (intro w'; go_simp; with_reducible rfl); rotate_left; (simp only [Act.put, List.setIfInBounds_toArray, List.set_cons_zero, List.set_cons_succ, i64_w, i32_w]; rfl)
                    refine pu_ (v := ?_) (a' := ?_) 6 119 (onA 39 7) HT_.out rfl rfl (by kernel_rfl) (fun _ _ _ h => h) (by rfl) ?_ ?_ ?_; rotate_left; (intro w'; go_simp; with_reducible rfl); rotate_left; (simp only [Act.put, List.setIfInBounds_toArray, List.set_cons_zero, List.set_cons_succ, i64_w, i32_w]; rfl)
                    refine pu_ (v := ?_) (a' := ?_) 7 120 (onA 39 8) HT_.out rfl rfl (by kernel_rfl) (fun _ _ _ h => h) (by rfl) ?_ ?_ ?_; rotate_left; (intro w'; go_simp; with_reducible rfl); rotate_left; (simp only [Act.put, List.setIfInBounds_toArray, List.set_cons_zero, List.set_cons_succ, i64_w, i32_w]; rfl)
                    refine pu_ (v := ?_) (a' := ?_) 8 121 (onA 39 9) HT_.out rfl rfl (by kernel_rfl) (fun _ _ _ h => h) (by rfl) ?_ ?_ ?_; rotate_left; (intro w'; go_simp; with_reducible rfl); rotate_left; (simp only [Act.put, List.setIfInBounds_toArray, List.set_cons_zero, List.set_cons_succ, i64_w, i32_w]; rfl)
                    refine one_ (i := 9) (N := some 122) (onA 39 10) rfl rfl (one_of HT_.out (by kernel_rfl)) (by decide) (fun K hK => ?_)
                    refine goes_ Try.func19 (by kernel_rfl) rfl #[.slice Ao61 t234.length co61, .slice (some ad239) t221.length co62] (by rfl) rfl rfl (by (try simp only [List.map_toArray, List.map_cons, List.map_nil]); first | done | rfl | (simp only [List.length_drop, List.length_take]; rfl)) ?_
                    with_reducible refine (darningref4_SameBlocks.calls kj27 _ _ t234 _ _ t221 true _ ?side1 ?side2 ?side3 ?side4 A46.out).mono ?_
                    (case side1 => repeat (first | exact (Kd.R_reads' HO237.out).2.2 | (with_reducible refine Kd.C_alloc ?_ _) | (with_reducible refine Kd.C_drewN ?_ _) | (with_reducible refine Kd.C_drew ?_)))
                    (case side2 => exact (Kd.R_reads' HO237.out).2.1)
                    (case side3 => repeat (first | exact (Kd.R_reads' HO_13.out).2.2 | (with_reducible refine Kd.C_alloc ?_ _) | (with_reducible refine Kd.C_drewN ?_ _) | (with_reducible refine Kd.C_drew ?_)))
                    (case side4 => exact (Kd.R_reads' HO_13.out).2.1)
                    rintro e w' ⟨rfl, ⟨nd, rfl⟩⟩
                    refine ⟨_, rfl, ?_⟩
                    refine hK.out _ _ ⟨hHeld.1, hHeld.2.1, hHeld.2.2.1, hHeld.2.2.2.1, hHeld.2.2.2.2.1, hHeld.2.2.2.2.2.1, ((HB.out.cell (World.block_lt_of_cell? w _ hw241_0)).trans hw241_0), ((HB.out.cell (World.block_lt_of_cell? w _ hw241_1)).trans hw241_1), ((HB.out.cell (World.block_lt_of_cell? w _ hw241_2)).trans hw241_2)⟩ (fun hHeld => ?_)
                    clear hK K
                    refine norm_ (a' := ?_) ?_ ?_
                    rotate_left
                    ·
                     show Act.put _ (some 122) _ = _
                     simp only [Act.put, List.setIfInBounds_toArray, List.set_cons_zero, List.set_cons_succ, i64_w, i32_w]
                     rfl
                    refine pu_ (v := ?_) (a' := ?_) 10 123 (onA 39 11) HT_.out rfl rfl (by kernel_rfl) (fun _ _ _ h => h) (by rfl) ?_ ?_ ?_; rotate_left; (intro w'; go_simp; with_reducible rfl); rotate_left; (simp only [Act.put, List.setIfInBounds_toArray, List.set_cons_zero, List.set_cons_succ, i64_w, i32_w]; rfl)
                    refine pu_ (v := ?_) (a' := ?_) 11 124 (onA 39 12) HT_.out rfl rfl (by kernel_rfl) (fun _ _ _ h => h) (by rfl) ?_ ?_ ?_; rotate_left; (intro w'; go_simp; with_reducible rfl); rotate_left; (simp only [Act.put, List.setIfInBounds_toArray, List.set_cons_zero, List.set_cons_succ, i64_w, i32_w]; rfl)
                    refine pu_ (v := ?_) (a' := ?_) 12 125 (onA 39 13) HT_.out rfl rfl (by kernel_rfl) (fun _ _ _ h => h) (by rfl) ?_ ?_ ?_; rotate_left; (intro w'; go_simp; with_reducible rfl); rotate_left; (simp only [Act.put, List.setIfInBounds_toArray, List.set_cons_zero, List.set_cons_succ, i64_w, i32_w]; rfl)
                    refine pu_ (v := ?_) (a' := ?_) 13 126 (onA 39 14) HT_.out rfl rfl (by kernel_rfl) (fun _ _ _ h => h) (by rfl) ?_ ?_ ?_; rotate_left; (intro w'; go_simp; with_reducible rfl); rotate_left; (simp only [Act.put, List.setIfInBounds_toArray, List.set_cons_zero, List.set_cons_succ, i64_w, i32_w]; rfl)
                    refine pu_ (v := ?_) (a' := ?_) 14 127 (onA 39 15) HT_.out rfl rfl (by kernel_rfl) (fun _ _ _ h => h) (by rfl) ?_ ?_ ?_; rotate_left; (intro w'; go_simp; with_reducible rfl); rotate_left; (simp only [Act.put, List.setIfInBounds_toArray, List.set_cons_zero, List.set_cons_succ, i64_w, i32_w]; rfl)
                    refine pu_ (v := ?_) (a' := ?_) 15 128 (onA 39 16) HT_.out rfl rfl (by kernel_rfl) (fun _ _ _ h => h) (by rfl) ?_ ?_ ?_; rotate_left; (intro w'; go_simp; with_reducible rfl); rotate_left; (simp only [Act.put, List.setIfInBounds_toArray, List.set_cons_zero, List.set_cons_succ, i64_w, i32_w]; rfl)
                    refine pu_ (v := ?_) (a' := ?_) 16 129 (onA 39 17) HT_.out rfl rfl (by kernel_rfl) (fun _ _ _ h => h) (by rfl) ?_ ?_ ?_; rotate_left; (intro w'; go_simp; with_reducible rfl); rotate_left; (simp only [Act.put, List.setIfInBounds_toArray, List.set_cons_zero, List.set_cons_succ, i64_w, i32_w]; rfl)
                    refine pu_ (v := ?_) (a' := ?_) 17 130 (onA 39 18) HT_.out rfl rfl (by kernel_rfl) (fun _ _ _ h => h) (by rfl) ?_ ?_ ?_; rotate_left; (intro w'; go_simp; with_reducible rfl); rotate_left; (simp only [Act.put, List.setIfInBounds_toArray, List.set_cons_zero, List.set_cons_succ, i64_w, i32_w]; rfl)
                    refine pu_ (v := ?_) (a' := ?_) 18 131 (onA 39 19) HT_.out rfl rfl (by kernel_rfl) (fun _ _ _ h => h) (by rfl) ?_ ?_ ?_; rotate_left; (intro w'; go_simp; with_reducible rfl); rotate_left; (simp only [Act.put, List.setIfInBounds_toArray, List.set_cons_zero, List.set_cons_succ, i64_w, i32_w]; rfl)
                    refine pu_ (v := ?_) (a' := ?_) 19 132 (onA 39 20) HT_.out rfl rfl (by kernel_rfl) (fun _ _ _ h => h) (by rfl) ?_ ?_ ?_; rotate_left; (intro w'; go_simp; with_reducible rfl); rotate_left; (simp only [Act.put, List.setIfInBounds_toArray, List.set_cons_zero, List.set_cons_succ, i64_w, i32_w]; rfl)
                    refine pu_ (v := ?_) (a' := ?_) 20 133 (onA 39 21) HT_.out rfl rfl (by kernel_rfl) (fun _ _ _ h => h) (by rfl) ?_ ?_ ?_; rotate_left; (intro w'; go_simp; with_reducible rfl); rotate_left; (simp only [Act.put, List.setIfInBounds_toArray, List.set_cons_zero, List.set_cons_succ, i64_w, i32_w]; rfl)
                    refine pu_ (v := ?_) (a' := ?_) 21 134 (onA 39 22) HT_.out rfl rfl (by kernel_rfl) (fun _ _ _ h => h) (by rfl) ?_ ?_ ?_; rotate_left; (intro w'; go_simp; with_reducible rfl); rotate_left; (simp only [Act.put, List.setIfInBounds_toArray, List.set_cons_zero, List.set_cons_succ, i64_w, i32_w]; rfl)
                    refine pu_ (v := ?_) (a' := ?_) 22 135 (onA 39 23) HT_.out rfl rfl (by kernel_rfl) (fun _ _ _ h => h) (by rfl) ?_ ?_ ?_; rotate_left; (intro w'; go_simp; with_reducible rfl); rotate_left; (simp only [Act.put, List.setIfInBounds_toArray, List.set_cons_zero, List.set_cons_succ, i64_w, i32_w]; rfl)
                    refine take_ (i := 23) (N := some 136) (v := ?_) (a' := ?_) (onA 39 24) rfl rfl (take_ofW HT_.out HW_.out (by kernel_rfl)) (fun _ _ _ h => h) (Or.inl ⟨by rfl, ?_⟩) hHeld ?_ ?_
                    rotate_left
                    ·
                     rintro w' ⟨s0, s1, s2, s3, s4, s5, s6, s7, s8⟩
                     go_simp
                     with_reducible rfl
                    rotate_left
                    ·
                     simp only [Act.put, List.setIfInBounds_toArray, List.set_cons_zero, List.set_cons_succ, i64_w, i32_w]
                     rfl
                    refine pu_ (v := ?_) (a' := ?_) 24 137 (onA 39 25) HT_.out rfl rfl (by kernel_rfl) (fun _ _ _ h => h) (by rfl) ?_ ?_ ?_; rotate_left; (intro w'; go_simp; with_reducible rfl); rotate_left; (simp only [Act.put, List.setIfInBounds_toArray, List.set_cons_zero, List.set_cons_succ, i64_w, i32_w]; rfl)
                    refine pu_ (v := ?_) (a' := ?_) 25 138 (onA 39 26) HT_.out rfl rfl (by kernel_rfl) (fun _ _ _ h => h) (by rfl) ?_ ?_ ?_; rotate_left; (intro w'; go_simp; with_reducible rfl); rotate_left; (simp only [Act.put, List.setIfInBounds_toArray, List.set_cons_zero, List.set_cons_succ, i64_w, i32_w]; rfl)
                    refine pu_ (v := ?_) (a' := ?_) 26 139 (onA 39 27) HT_.out rfl rfl (by kernel_rfl) (fun _ _ _ h => h) (by rfl) ?_ ?_ ?_; rotate_left; (intro w'; go_simp; with_reducible rfl); rotate_left; (simp only [Act.put, List.setIfInBounds_toArray, List.set_cons_zero, List.set_cons_succ, i64_w, i32_w]; rfl)
                    refine pu_ (v := ?_) (a' := ?_) 27 140 (onA 39 28) HT_.out rfl rfl (by kernel_rfl) (fun _ _ _ h => h) (by rfl) ?_ ?_ ?_; rotate_left; (intro w'; go_simp; with_reducible rfl); rotate_left; (simp only [Act.put, List.setIfInBounds_toArray, List.set_cons_zero, List.set_cons_succ, i64_w, i32_w]; rfl)
                    refine pu_ (v := ?_) (a' := ?_) 28 141 (onA 39 29) HT_.out rfl rfl (by kernel_rfl) (fun _ _ _ h => h) (by rfl) ?_ ?_ ?_; rotate_left; (intro w'; go_simp; with_reducible rfl); rotate_left; (simp only [Act.put, List.setIfInBounds_toArray, List.set_cons_zero, List.set_cons_succ, i64_w, i32_w]; rfl)
                    refine pu_ (v := ?_) (a' := ?_) 29 142 (onA 39 30) HT_.out rfl rfl (by kernel_rfl) (fun _ _ _ h => h) (by rfl) ?_ ?_ ?_; rotate_left; (intro w'; go_simp; with_reducible rfl); rotate_left; (simp only [Act.put, List.setIfInBounds_toArray, List.set_cons_zero, List.set_cons_succ, i64_w, i32_w]; rfl)
                    refine pu_ (v := ?_) (a' := ?_) 30 143 (onA 39 31) HT_.out rfl rfl (by kernel_rfl) (fun _ _ _ h => h) (by rfl) ?_ ?_ ?_; rotate_left; (intro w'; go_simp; with_reducible rfl); rotate_left; (simp only [Act.put, List.setIfInBounds_toArray, List.set_cons_zero, List.set_cons_succ, i64_w, i32_w]; rfl)
                    refine pu_ (v := ?_) (a' := ?_) 32 145 #[tt_, tt_, tt_, tt_, tt_, tt_, tt_, tt_, tt_, tt_, tt_, tt_, tt_, tt_, tt_, tt_, tt_, tt_, tt_, tt_, tt_, tt_, tt_, tt_, tt_, tt_, tt_, tt_, tt_, tt_, tt_, ff_, tt_, ff_, ff_, ff_, ff_, ff_, ff_] HT_.out rfl rfl (by kernel_rfl) (fun _ _ _ h => h) (by rfl) ?_ ?_ ?_; rotate_left; (intro w'; go_simp; with_reducible rfl); rotate_left; (simp only [Act.put, List.setIfInBounds_toArray, List.set_cons_zero, List.set_cons_succ, i64_w, i32_w]; rfl)
                    refine pu_ (v := ?_) (a' := ?_) 33 146 #[tt_, tt_, tt_, tt_, tt_, tt_, tt_, tt_, tt_, tt_, tt_, tt_, tt_, tt_, tt_, tt_, tt_, tt_, tt_, tt_, tt_, tt_, tt_, tt_, tt_, tt_, tt_, tt_, tt_, tt_, tt_, ff_, tt_, tt_, ff_, ff_, ff_, ff_, ff_] HT_.out rfl rfl (by kernel_rfl) (fun _ _ _ h => h) (by rfl) ?_ ?_ ?_; rotate_left; (intro w'; go_simp; with_reducible rfl); rotate_left; (simp only [Act.put, List.setIfInBounds_toArray, List.set_cons_zero, List.set_cons_succ, i64_w, i32_w]; rfl)
                    refine pu_ (v := ?_) (a' := ?_) 34 147 #[tt_, tt_, tt_, tt_, tt_, tt_, tt_, tt_, tt_, tt_, tt_, tt_, tt_, tt_, tt_, tt_, tt_, tt_, tt_, tt_, tt_, tt_, tt_, tt_, tt_, tt_, tt_, tt_, tt_, tt_, tt_, ff_, tt_, tt_, tt_, ff_, ff_, ff_, ff_] HT_.out rfl rfl (by kernel_rfl) (fun _ _ _ h => h) (by rfl) ?_ ?_ ?_; rotate_left; (intro w'; go_simp; with_reducible rfl); rotate_left; (simp only [Act.put, List.setIfInBounds_toArray, List.set_cons_zero, List.set_cons_succ, i64_w, i32_w]; rfl)
                    refine pu_ (v := ?_) (a' := ?_) 35 148 #[tt_, tt_, tt_, tt_, tt_, tt_, tt_, tt_, tt_, tt_, tt_, tt_, tt_, tt_, tt_, tt_, tt_, tt_, tt_, tt_, tt_, tt_, tt_, tt_, tt_, tt_, tt_, tt_, tt_, tt_, tt_, ff_, tt_, tt_, tt_, tt_, ff_, ff_, ff_] HT_.out rfl rfl (by kernel_rfl) (fun _ _ _ h => h) (by rfl) ?_ ?_ ?_; rotate_left; (intro w'; go_simp; with_reducible rfl); rotate_left; (simp only [Act.put, List.setIfInBounds_toArray, List.set_cons_zero, List.set_cons_succ, i64_w, i32_w]; rfl)
                    refine take_ (i := 31) (N := some 144) (v := ?_) (a' := ?_) (onA 39 36) rfl rfl (take_ofW HT_.out HW_.out (by kernel_rfl)) (fun _ _ _ h => h) (Or.inl ⟨by rfl, ?_⟩) hHeld ?_ ?_
                    rotate_left
                    ·
                     rintro w' ⟨s0, s1, s2, s3, s4, s5, s6, s7, s8⟩
                     go_simp
                     with_reducible rfl
                    rotate_left
                    ·
                     simp only [Act.put, List.setIfInBounds_toArray, List.set_cons_zero, List.set_cons_succ, i64_w, i32_w]
                     rfl
                    refine take_ (i := 36) (N := some 149) (v := ?_) (a' := ?_) (onA 39 37) rfl rfl (take_ofW HT_.out HW_.out (by kernel_rfl)) (fun _ _ _ h => h) (Or.inl ⟨by rfl, ?_⟩) hHeld ?_ ?_
                    rotate_left
                    ·
                     rintro w' ⟨s0, s1, s2, s3, s4, s5, s6, s7, s8⟩
                     go_simp
                     with_reducible rfl
                    rotate_left
                    ·
                     simp only [Act.put, List.setIfInBounds_toArray, List.set_cons_zero, List.set_cons_succ, i64_w, i32_w]
                     rfl
                    refine pu_ (v := ?_) (a' := ?_) 37 150 (onA 39 38) HT_.out rfl rfl (by kernel_rfl) (fun _ _ _ h => h) (by rfl) ?_ ?_ ?_; rotate_left; (intro w'; go_simp; with_reducible rfl); rotate_left; (simp only [Act.put, List.setIfInBounds_toArray, List.set_cons_zero, List.set_cons_succ, i64_w, i32_w]; rfl)
                    refine pu_ (v := ?_) (a' := ?_) 38 151 (onA 39 39) HT_.out rfl rfl (by kernel_rfl) (fun _ _ _ h => h) (by rfl) ?_ ?_ ?_; rotate_left; (intro w'; go_simp; with_reducible rfl); rotate_left; (simp only [Act.put, List.setIfInBounds_toArray, List.set_cons_zero, List.set_cons_succ, i64_w, i32_w]; rfl)
                    refine done_ (done_of HT_.out (by kernel_rfl)) ?_
                    try go_wp2
                    go_loopg [154] kj27 (fun kq v154 w' => ∃ (x154_4 : Int), v154 = .int .i64 x154_4 ∧ Aside0 (darninglaw16_CarveEdited.l1 kq l0 (ji49) x11_2 t221 t231 (t231.length : Int) x154_4 = some true) ∧ Aside0 (kq ≤ kj27) ∧ Aside0 (Kd.R (Kd.int .u64) 28 w' w.heap.size (fun k_ => some k_ ≠ ((.slice Ao58 t231.length co58) : Value).ownBlock) (.slice Ao17 x11_2.length co17) x11_2) ∧ Aside0 (Kd.R k35 35 w' w.heap.size (fun _ => True) (.slice (some ad239) t221.length co62) t221) ∧ Aside0 (Kd.R (Kd.int .u64) 28 w' w.heap.size (fun k_ => some k_ ≠ ((.slice Ao17 x11_2.length co17) : Value).ownBlock) (.slice Ao58 t231.length co58) t231) ∧ Aside0 (Below w.heap.size w w'))
                    case atStart => exact ⟨(0), (by first | rfl | (simp; done) | (simp [*]; done)), H', ⟨Nat.le_refl _⟩, ⟨by (try simp only [hl11_2]); (with_reducible repeat (first | apply Kd.R_alloc | apply Kd.R_drewN | apply Kd.R_drew)); exact Kd.R_mono HO_11.out (fun _ hk => hk.2)⟩, ⟨by (try simp only [hl11_2]); (with_reducible repeat (first | apply Kd.R_alloc | apply Kd.R_drewN | apply Kd.R_drew)); exact Kd.R_mono HO_13.out (fun _ hk => trivial)⟩, ⟨by (try simp only [hl11_2]); (with_reducible repeat (first | apply Kd.R_alloc | apply Kd.R_drewN | apply Kd.R_drew)); exact Kd.R_mono HO233.out (fun _ hk => hk.2)⟩, ⟨by repeat (first | (with_reducible first | exact HB.out | apply below_alloc | apply pw_below_drewN | apply below_drew1) | exact HB.out)⟩⟩
                    case round =>
                     clear H'
                     try clear c1
                     try clear c2
                     try clear p2
                     try clear q2
                     try clear hx2
                     try clear c3
                     try clear q3
                     try clear c4
                     try clear c5
                     try clear q5
                     try clear p6
                     try clear c7
                     try clear c7b0
                     try clear c7b1
                     try clear c8
                     try clear c8b0
                     try clear c8b1
                     try clear c8b2
                     try clear c10
                     try clear c11
                     try clear c14
                     try clear c14b0
                     try clear c14b1
                     try clear c18
                     try clear c18b0
                     try clear c19
                     try clear c20
                     try clear c20b0
                     try clear c21
                     try clear c21b0
                     try clear p21
                     try clear q21
                     try clear hx21
                     try clear c22
                     try clear c22b0
                     try clear c22b1
                     try clear p22
                     try clear q22
                     try clear hx22
                     try clear c23
                     try clear p23
                     try clear q23
                     try clear hx23
                     try clear hf23
                     try clear p24
                     try clear q24
                     try clear hx24
                     try clear c26
                     try clear c32
                     try clear c32b0
                     try clear c33
                     try clear c33b0
                     try clear c34
                     try clear q34
                     try clear c35
                     try clear c36
                     try clear c37
                     try clear c38
                     try clear c38b0
                     try clear c38b1
                     try clear c38b2
                     try clear c44
                     try clear c45
                     try clear c47
                     try clear c48
                     try clear c48b0
                     try clear c50
                     try clear c50b0
                     try clear c51
                     try clear c51b0
                     try clear q52
                     try clear c53
                     try clear c54
                     try clear c54b0
                     try clear c55
                     try clear c55b0
                     try clear c55b1
                     try clear hx219_0
                     try clear hx228_0
                     try clear hx228_1
                     try clear hx228_2
                     try clear hx229_0
                     try clear hx229_1
                     try clear hx229_2
                     try clear hx239_0
                     try clear hx239_1
                     try clear hx239_2
                     try clear hx23_0
                     try clear hx240_0
                     try clear hx240_1
                     try clear hx240_2
                     try clear hx241_0
                     try clear hx241_1
                     try clear hx241_2
                     try clear p2
                     try clear p21
                     try clear p219
                     try clear p22
                     try clear p228
                     try clear p229
                     try clear p23
                     try clear p239
                     try clear p240
                     try clear p241
                     try clear p6
                     try clear q2
                     try clear q21
                     try clear q219
                     try clear q22
                     try clear q228
                     try clear q229
                     try clear q23
                     try clear q239
                     try clear q240
                     try clear q241
                     try clear q3
                     try clear q34
                     obtain ⟨x154_4, rfl, HA, HK4, HO_11, HO_13, HO_16, HB⟩ := hrel
                     cases gk with
                     | zero => exact absurd HA.out (by simp [darninglaw16_CarveEdited.l1])
                     | succ k4 =>
                      have H := HA.out
                      clear HA
                      simp only [darninglaw16_CarveEdited.l1] at H
                      by_cases c63 : x154_4 < (t231.length : Int)
                      ·
                       rw [if_pos c63] at H
                       have c63b0 : decide (x154_4 < (t231.length : Int)) = true := decide_eq_true c63
                       (try (have c63b0h := c63b0; simp only [hl11_2] at c63b0h))
                       clear c63
                       have HC64 := Aside0.mk H
                       clear H
                       go_upto_block 3 with (fail)
                       go_cut [] (fun wc => ∃ (kq : Nat), Aside0 (darninglaw16_CarveEdited.j8 kq l0 (ji49) x11_2 t221 t231 (t231.length : Int) x154_4 = some true) ∧ Aside0 (kq ≤ k4) ∧ Aside0 (Kd.R (Kd.int .u64) 28 wc w.heap.size (fun k_ => some k_ ≠ ((.slice Ao58 t231.length co58) : Value).ownBlock) (.slice Ao17 x11_2.length co17) x11_2) ∧ Aside0 (Kd.R k35 35 wc w.heap.size (fun _ => True) (.slice (some ad239) t221.length co62) t221) ∧ Aside0 (Kd.R (Kd.int .u64) 28 wc w.heap.size (fun k_ => some k_ ≠ ((.slice Ao17 x11_2.length co17) : Value).ownBlock) (.slice Ao58 t231.length co58) t231) ∧ Aside0 (Below w.heap.size w wc))
                       case first =>
                        have H := HC64.out
                        clear HC64
                        have HC65 := Aside0.mk H
                        clear H
                        go_upto_region 22 with (fail)
                        go_cut [20] (fun v20 wc => ∃ (kq : Nat) (x20_64 : Bool), v20 = .bool x20_64 ∧ Aside0 (darninglaw16_CarveEdited.j5 kq l0 (ji49) x11_2 t221 t231 x154_4 x20_64 (t231.length : Int) x154_4 = some true) ∧ Aside0 (kq ≤ k4) ∧ Aside0 (Kd.R (Kd.int .u64) 28 wc w.heap.size (fun k_ => some k_ ≠ ((.slice Ao58 t231.length co58) : Value).ownBlock) (.slice Ao17 x11_2.length co17) x11_2) ∧ Aside0 (Kd.R k35 35 wc w.heap.size (fun _ => True) (.slice (some ad239) t221.length co62) t221) ∧ Aside0 (Kd.R (Kd.int .u64) 28 wc w.heap.size (fun k_ => some k_ ≠ ((.slice Ao17 x11_2.length co17) : Value).ownBlock) (.slice Ao58 t231.length co58) t231) ∧ Aside0 (Below w.heap.size w wc))
                        case first =>
                         have H := HC65.out
                         clear HC65
                         by_cases c66 : 0 ≤ (ji49)
                         ·
                          rw [if_pos c66] at H
                          have c66b0 : decide (0 ≤ (ji49)) = true := decide_eq_true c66
                          clear c66
                          (first | rw [c66b0] | (simp only [i64_w, i32_w]; rw [c66b0]) | skip)
                          by_cases c67 : (ji49) < (t221.length : Int)
                          ·
                           rw [if_pos c67] at H
                           have c67b0 : decide ((ji49) < (t221.length : Int)) = true := decide_eq_true c67
                           (try (have c67b0h := c67b0; simp only [hl11_2] at c67b0h))
                           clear c67
                           by_cases c68 : x154_4 > ((rd_T35 t221 (ji49)).f0)
                           ·
                            rw [if_pos c68] at H
                            have c68b0 : decide (((rd_T35 t221 (ji49)).f0) < x154_4) = true := decide_eq_true c68
                            clear c68
                            as_aux_lemma =>
                             have H' := Aside0.mk H
                             clear H
                             try go_wp2
                             have n0_ := Aside0.mk (Kd.R_drew HO_11.out)
                             have n1_ := Aside0.mk (Kd.R_drew HO_13.out)
                             have n2_ := Aside0.mk (Kd.R_drew HO_16.out)
                             have n3_ := Aside0.mk (below_drew1 HB.out)
                             clear HO_11
                             clear HO_13
                             clear HO_16
                             clear HB
                             have HO_11 := n0_
                             have HO_13 := n1_
                             have HO_16 := n2_
                             have HB := n3_
                             clear n0_ n1_ n2_ n3_
                             have p242 : 0 ≤ ((ji49) : Int) := of_decide_eq_true (by first | (with_reducible assumption) | assumption)
                             have q242 : (ji49) < (t221.length : Int) := of_decide_eq_true (by first | (with_reducible assumption) | assumption)
                             obtain ⟨ad242, e242, hx242_0, hx242_1, hx242_2⟩ := at_T35 (Kd.R_reads' HO_13.out).2.2 (ji49) p242 q242
                             (try rw [← Nbq52.out] at hx242_2)
                             obtain rfl : ad239 = ad242 := (by injection e242)
                             replace p242 := eq_true p242
                             replace q242 := eq_true q242
                             have p243 : 0 ≤ ((ji49) : Int) := of_decide_eq_true (by first | (with_reducible assumption) | assumption)
                             have q243 : (ji49) < (t221.length : Int) := of_decide_eq_true (by first | (with_reducible assumption) | assumption)
                             obtain ⟨ad243, e243, hx243_0, hx243_1, hx243_2⟩ := at_T35 (Kd.R_reads' HO_13.out).2.2 (ji49) p243 q243
                             (try rw [← Nbq52.out] at hx243_2)
                             obtain rfl : ad239 = ad243 := (by injection e243)
                             replace p243 := eq_true p243
                             replace q243 := eq_true q243
                             have p244 : 0 ≤ ((ji49) : Int) := of_decide_eq_true (by first | (with_reducible assumption) | assumption)
                             have q244 : (ji49) < (t221.length : Int) := of_decide_eq_true (by first | (with_reducible assumption) | assumption)
                             obtain ⟨ad244, e244, hx244_0, hx244_1, hx244_2⟩ := at_T35 (Kd.R_reads' HO_13.out).2.2 (ji49) p244 q244
                             (try rw [← Nbq52.out] at hx244_2)
                             obtain rfl : ad239 = ad244 := (by injection e244)
                             replace p244 := eq_true p244
                             replace q244 := eq_true q244
                             refine start_ (n := 23) (S := fun w' => w'.cell? (ad239.add (((ji49)).toNat * 3)) = some (.int .i64 ((rd_T35 t221 (ji49)).f0)) ∧ w'.cell? ⟨(ad239.add (((ji49)).toNat * 3)).block, (ad239.add (((ji49)).toNat * 3)).off + 1, none⟩ = some (.int .i64 ((rd_T35 t221 (ji49)).f1)) ∧ w'.cell? ⟨(ad239.add (((ji49)).toNat * 3)).block, (ad239.add (((ji49)).toNat * 3)).off + 2, none⟩ = some (.bool (true)) ∧ w'.cell? (ad239.add (((ji49)).toNat * 3)) = some (.int .i64 ((rd_T35 t221 (ji49)).f0)) ∧ w'.cell? ⟨(ad239.add (((ji49)).toNat * 3)).block, (ad239.add (((ji49)).toNat * 3)).off + 1, none⟩ = some (.int .i64 ((rd_T35 t221 (ji49)).f1)) ∧ w'.cell? ⟨(ad239.add (((ji49)).toNat * 3)).block, (ad239.add (((ji49)).toNat * 3)).off + 2, none⟩ = some (.bool (true)) ∧ w'.cell? (ad239.add (((ji49)).toNat * 3)) = some (.int .i64 ((rd_T35 t221 (ji49)).f0)) ∧ w'.cell? ⟨(ad239.add (((ji49)).toNat * 3)).block, (ad239.add (((ji49)).toNat * 3)).off + 1, none⟩ = some (.int .i64 ((rd_T35 t221 (ji49)).f1)) ∧ w'.cell? ⟨(ad239.add (((ji49)).toNat * 3)).block, (ad239.add (((ji49)).toNat * 3)).off + 2, none⟩ = some (.bool (true))) (ds := []) (onA 23 0) (by kernel_rfl) rfl rfl ⟨hx242_0, hx242_1, hx242_2, hx243_0, hx243_1, hx243_2, hx244_0, hx244_1, hx244_2⟩ (fun hHeld => ?_); refine with_tabW darninglaw16_CarveEdited.tab22 darninglaw16_CarveEdited.bits22 (fun HT_ HW_ => ?_)
                             generalize wr.drew = w69 at HO_11 HO_13 HO_16 HB hx242_0 hx242_1 hx242_2 hx243_0 hx243_1 hx243_2 hx244_0 hx244_1 hx244_2 hHeld ⊢
                             refine pu_ (v := ?_) (a' := ?_) 0 157 (onA 23 1) HT_.out rfl rfl (by kernel_rfl) (fun _ _ _ h => h) (by rfl) ?_ ?_ ?_; rotate_left; (intro w'; go_simp; with_reducible rfl); rotate_left; (simp only [Act.put, List.setIfInBounds_toArray, List.set_cons_zero, List.set_cons_succ, i64_w, i32_w]; rfl)
                             refine pu_ (v := ?_) (a' := ?_) 1 158 (onA 23 2) HT_.out rfl rfl (by kernel_rfl) (fun _ _ _ h => h) (by rfl) ?_ ?_ ?_; rotate_left; (intro w'; go_simp; with_reducible rfl); rotate_left; (simp only [Act.put, List.setIfInBounds_toArray, List.set_cons_zero, List.set_cons_succ, i64_w, i32_w]; rfl)
                             refine pu_ (v := ?_) (a' := ?_) 2 159 (onA 23 3) HT_.out rfl rfl (by kernel_rfl) (fun _ _ _ h => h) (by rfl) ?_ ?_ ?_; rotate_left; (intro w'; go_simp; with_reducible rfl); rotate_left; (simp only [Act.put, List.setIfInBounds_toArray, List.set_cons_zero, List.set_cons_succ, i64_w, i32_w]; rfl)
                             refine pu_ (v := ?_) (a' := ?_) 3 160 (onA 23 4) HT_.out rfl rfl (by kernel_rfl) (fun _ _ _ h => h) (by rfl) ?_ ?_ ?_; rotate_left; (intro w'; go_simp; with_reducible rfl); rotate_left; (simp only [Act.put, List.setIfInBounds_toArray, List.set_cons_zero, List.set_cons_succ, i64_w, i32_w]; rfl)
                             refine pu_ (v := ?_) (a' := ?_) 4 161 (onA 23 5) HT_.out rfl rfl (by kernel_rfl) (fun _ _ _ h => h) (by rfl) ?_ ?_ ?_; rotate_left; (intro w'; go_simp; with_reducible rfl); rotate_left; (simp only [Act.put, List.setIfInBounds_toArray, List.set_cons_zero, List.set_cons_succ, i64_w, i32_w]; rfl)
                             refine take_ (i := 5) (N := some 162) (v := ?_) (a' := ?_) (onA 23 6) rfl rfl (take_ofW HT_.out HW_.out (by kernel_rfl)) (fun _ _ _ h => h) (Or.inl ⟨by rfl, ?_⟩) hHeld ?_ ?_
                             rotate_left
                             ·
                              rintro w' ⟨s0, s1, s2, s3, s4, s5, s6, s7, s8⟩
                              go_simp
                              with_reducible rfl
                             rotate_left
                             ·
                              simp only [Act.put, List.setIfInBounds_toArray, List.set_cons_zero, List.set_cons_succ, i64_w, i32_w]
                              rfl
                             refine pu_ (v := ?_) (a' := ?_) 6 163 (onA 23 7) HT_.out rfl rfl (by kernel_rfl) (fun _ _ _ h => h) (by rfl) ?_ ?_ ?_; rotate_left; (intro w'; go_simp; with_reducible rfl); rotate_left; (simp only [Act.put, List.setIfInBounds_toArray, List.set_cons_zero, List.set_cons_succ, i64_w, i32_w]; rfl)
                             refine pu_ (v := ?_) (a' := ?_) 7 164 (onA 23 8) HT_.out rfl rfl (by kernel_rfl) (fun _ _ _ h => h) (by rfl) ?_ ?_ ?_; rotate_left; (intro w'; go_simp; with_reducible rfl); rotate_left; (simp only [Act.put, List.setIfInBounds_toArray, List.set_cons_zero, List.set_cons_succ, i64_w, i32_w]; rfl)
                             refine pu_ (v := ?_) (a' := ?_) 8 165 (onA 23 9) HT_.out rfl rfl (by kernel_rfl) (fun _ _ _ h => h) (by rfl) ?_ ?_ ?_; rotate_left; (intro w'; go_simp; with_reducible rfl); rotate_left; (simp only [Act.put, List.setIfInBounds_toArray, List.set_cons_zero, List.set_cons_succ, i64_w, i32_w]; rfl)
                             refine pu_ (v := ?_) (a' := ?_) 9 166 (onA 23 10) HT_.out rfl rfl (by kernel_rfl) (fun _ _ _ h => h) (by rfl) ?_ ?_ ?_; rotate_left; (intro w'; go_simp; with_reducible rfl); rotate_left; (simp only [Act.put, List.setIfInBounds_toArray, List.set_cons_zero, List.set_cons_succ, i64_w, i32_w]; rfl)
                             refine pu_ (v := ?_) (a' := ?_) 10 167 (onA 23 11) HT_.out rfl rfl (by kernel_rfl) (fun _ _ _ h => h) (by rfl) ?_ ?_ ?_; rotate_left; (intro w'; go_simp; with_reducible rfl); rotate_left; (simp only [Act.put, List.setIfInBounds_toArray, List.set_cons_zero, List.set_cons_succ, i64_w, i32_w]; rfl)
                             refine pu_ (v := ?_) (a' := ?_) 11 168 (onA 23 12) HT_.out rfl rfl (by kernel_rfl) (fun _ _ _ h => h) (by rfl) ?_ ?_ ?_; rotate_left; (intro w'; go_simp; with_reducible rfl); rotate_left; (simp only [Act.put, List.setIfInBounds_toArray, List.set_cons_zero, List.set_cons_succ, i64_w, i32_w]; rfl)
                             refine pu_ (v := ?_) (a' := ?_) 12 169 (onA 23 13) HT_.out rfl rfl (by kernel_rfl) (fun _ _ _ h => h) (by rfl) ?_ ?_ ?_; rotate_left; (intro w'; go_simp; with_reducible rfl); rotate_left; (simp only [Act.put, List.setIfInBounds_toArray, List.set_cons_zero, List.set_cons_succ, i64_w, i32_w]; rfl)
                             refine pu_ (v := ?_) (a' := ?_) 14 171 #[tt_, tt_, tt_, tt_, tt_, tt_, tt_, tt_, tt_, tt_, tt_, tt_, tt_, ff_, tt_, ff_, ff_, ff_, ff_, ff_, ff_, ff_, ff_] HT_.out rfl rfl (by kernel_rfl) (fun _ _ _ h => h) (by rfl) ?_ ?_ ?_; rotate_left; (intro w'; go_simp; with_reducible rfl); rotate_left; (simp only [Act.put, List.setIfInBounds_toArray, List.set_cons_zero, List.set_cons_succ, i64_w, i32_w]; rfl)
                             refine pu_ (v := ?_) (a' := ?_) 15 172 #[tt_, tt_, tt_, tt_, tt_, tt_, tt_, tt_, tt_, tt_, tt_, tt_, tt_, ff_, tt_, tt_, ff_, ff_, ff_, ff_, ff_, ff_, ff_] HT_.out rfl rfl (by kernel_rfl) (fun _ _ _ h => h) (by rfl) ?_ ?_ ?_; rotate_left; (intro w'; go_simp; with_reducible rfl); rotate_left; (simp only [Act.put, List.setIfInBounds_toArray, List.set_cons_zero, List.set_cons_succ, i64_w, i32_w]; rfl)
                             refine pu_ (v := ?_) (a' := ?_) 16 173 #[tt_, tt_, tt_, tt_, tt_, tt_, tt_, tt_, tt_, tt_, tt_, tt_, tt_, ff_, tt_, tt_, tt_, ff_, ff_, ff_, ff_, ff_, ff_] HT_.out rfl rfl (by kernel_rfl) (fun _ _ _ h => h) (by rfl) ?_ ?_ ?_; rotate_left; (intro w'; go_simp; with_reducible rfl); rotate_left; (simp only [Act.put, List.setIfInBounds_toArray, List.set_cons_zero, List.set_cons_succ, i64_w, i32_w]; rfl)
                             refine pu_ (v := ?_) (a' := ?_) 17 174 #[tt_, tt_, tt_, tt_, tt_, tt_, tt_, tt_, tt_, tt_, tt_, tt_, tt_, ff_, tt_, tt_, tt_, tt_, ff_, ff_, ff_, ff_, ff_] HT_.out rfl rfl (by kernel_rfl) (fun _ _ _ h => h) (by rfl) ?_ ?_ ?_; rotate_left; (intro w'; go_simp; with_reducible rfl); rotate_left; (simp only [Act.put, List.setIfInBounds_toArray, List.set_cons_zero, List.set_cons_succ, i64_w, i32_w]; rfl)
                             refine take_ (i := 13) (N := some 170) (v := ?_) (a' := ?_) (onA 23 18) rfl rfl (take_ofW HT_.out HW_.out (by kernel_rfl)) (fun _ _ _ h => h) (Or.inl ⟨by rfl, ?_⟩) hHeld ?_ ?_
                             rotate_left
                             ·
                              rintro w' ⟨s0, s1, s2, s3, s4, s5, s6, s7, s8⟩
                              go_simp
                              with_reducible rfl
                             rotate_left
                             ·
                              simp only [Act.put, List.setIfInBounds_toArray, List.set_cons_zero, List.set_cons_succ, i64_w, i32_w]
                              rfl
                             refine take_ (i := 18) (N := some 175) (v := ?_) (a' := ?_) (onA 23 19) rfl rfl (take_ofW HT_.out HW_.out (by kernel_rfl)) (fun _ _ _ h => h) (Or.inl ⟨by rfl, ?_⟩) hHeld ?_ ?_
                             rotate_left
                             ·
                              rintro w' ⟨s0, s1, s2, s3, s4, s5, s6, s7, s8⟩
                              go_simp
                              with_reducible rfl
                             rotate_left
                             ·
                              simp only [Act.put, List.setIfInBounds_toArray, List.set_cons_zero, List.set_cons_succ, i64_w, i32_w]
                              rfl
                             refine pu_ (v := ?_) (a' := ?_) 19 176 (onA 23 20) HT_.out rfl rfl (by kernel_rfl) (fun _ _ _ h => h) (by rfl) ?_ ?_ ?_; rotate_left; (intro w'; go_simp; with_reducible rfl); rotate_left; (simp only [Act.put, List.setIfInBounds_toArray, List.set_cons_zero, List.set_cons_succ, i64_w, i32_w]; rfl)
                             refine pu_ (v := ?_) (a' := ?_) 20 177 (onA 23 21) HT_.out rfl rfl (by kernel_rfl) (fun _ _ _ h => h) (by rfl) ?_ ?_ ?_; rotate_left; (intro w'; go_simp; with_reducible rfl); rotate_left; (simp only [Act.put, List.setIfInBounds_toArray, List.set_cons_zero, List.set_cons_succ, i64_w, i32_w]; rfl)
                             refine pu_ (v := ?_) (a' := ?_) 21 178 (onA 23 22) HT_.out rfl rfl (by kernel_rfl) (fun _ _ _ h => h) (by rfl) ?_ ?_ ?_; rotate_left; (intro w'; go_simp; with_reducible rfl); rotate_left; (simp only [Act.put, List.setIfInBounds_toArray, List.set_cons_zero, List.set_cons_succ, i64_w, i32_w]; rfl)
                             refine pu_ (v := ?_) (a' := ?_) 22 20 (onA 23 23) HT_.out rfl rfl (by kernel_rfl) (fun _ _ _ h => h) (by rfl) ?_ ?_ ?_; rotate_left; (intro w'; go_simp; with_reducible rfl); rotate_left; (simp only [Act.put, List.setIfInBounds_toArray, List.set_cons_zero, List.set_cons_succ, i64_w, i32_w]; rfl)
                             refine done_ (done_of HT_.out (by kernel_rfl)) ?_
                             try go_wp2
                             go_meet
                             case rel => (try simp only [← Nbq52.out]); exact ⟨_, (decide (x154_4 < (wrap64 (((rd_T35 t221 (ji49)).f0) + ((rd_T35 t221 (ji49)).f1))))), (by first | rfl | (simp; done) | (simp only [← hji49] <;> (first | rfl | simp)) | (simp [*]; done)), (by first | exact H' | (simp only [hji49]; exact H')), ⟨by have := HJ5.out; have := HK2.out; have := HJ27.out; have := HK4.out; first | omega | exact Nat.le_refl _⟩, ⟨by (try simp only [hl11_2]); (with_reducible repeat (first | apply Kd.R_alloc | apply Kd.R_drewN | apply Kd.R_drew)); exact HO_11.out⟩, ⟨by (try simp only [hl11_2]); (with_reducible repeat (first | apply Kd.R_alloc | apply Kd.R_drewN | apply Kd.R_drew)); exact HO_13.out⟩, ⟨by (try simp only [hl11_2]); (with_reducible repeat (first | apply Kd.R_alloc | apply Kd.R_drewN | apply Kd.R_drew)); exact HO_16.out⟩, ⟨by repeat (first | (with_reducible first | exact HB.out | apply below_alloc | apply pw_below_drewN | apply below_drew1) | exact HB.out)⟩⟩
                           ·
                            rw [if_neg c68] at H
                            have c68b0 : decide (((rd_T35 t221 (ji49)).f0) < x154_4) = false := decide_eq_false c68
                            clear c68
                            as_aux_lemma =>
                             have H' := Aside0.mk H
                             clear H
                             try go_wp2
                             have n0_ := Aside0.mk (Kd.R_drew HO_11.out)
                             have n1_ := Aside0.mk (Kd.R_drew HO_13.out)
                             have n2_ := Aside0.mk (Kd.R_drew HO_16.out)
                             have n3_ := Aside0.mk (below_drew1 HB.out)
                             clear HO_11
                             clear HO_13
                             clear HO_16
                             clear HB
                             have HO_11 := n0_
                             have HO_13 := n1_
                             have HO_16 := n2_
                             have HB := n3_
                             clear n0_ n1_ n2_ n3_
                             have p242 : 0 ≤ ((ji49) : Int) := of_decide_eq_true (by first | (with_reducible assumption) | assumption)
                             have q242 : (ji49) < (t221.length : Int) := of_decide_eq_true (by first | (with_reducible assumption) | assumption)
                             obtain ⟨ad242, e242, hx242_0, hx242_1, hx242_2⟩ := at_T35 (Kd.R_reads' HO_13.out).2.2 (ji49) p242 q242
                             (try rw [← Nbq52.out] at hx242_2)
                             obtain rfl : ad239 = ad242 := (by injection e242)
                             replace p242 := eq_true p242
                             replace q242 := eq_true q242
                             refine start_ (n := 23) (S := fun w' => w'.cell? (ad239.add (((ji49)).toNat * 3)) = some (.int .i64 ((rd_T35 t221 (ji49)).f0)) ∧ w'.cell? ⟨(ad239.add (((ji49)).toNat * 3)).block, (ad239.add (((ji49)).toNat * 3)).off + 1, none⟩ = some (.int .i64 ((rd_T35 t221 (ji49)).f1)) ∧ w'.cell? ⟨(ad239.add (((ji49)).toNat * 3)).block, (ad239.add (((ji49)).toNat * 3)).off + 2, none⟩ = some (.bool (true))) (ds := []) (onA 23 0) (by kernel_rfl) rfl rfl ⟨hx242_0, hx242_1, hx242_2⟩ (fun hHeld => ?_); refine with_tabW darninglaw16_CarveEdited.tab22 darninglaw16_CarveEdited.bits22 (fun HT_ HW_ => ?_)
                             generalize wr.drew = w70 at HO_11 HO_13 HO_16 HB hx242_0 hx242_1 hx242_2 hHeld ⊢
                             refine pu_ (v := ?_) (a' := ?_) 0 157 (onA 23 1) HT_.out rfl rfl (by kernel_rfl) (fun _ _ _ h => h) (by rfl) ?_ ?_ ?_; rotate_left; (intro w'; go_simp; with_reducible rfl); rotate_left; (simp only [Act.put, List.setIfInBounds_toArray, List.set_cons_zero, List.set_cons_succ, i64_w, i32_w]; rfl)
                             refine pu_ (v := ?_) (a' := ?_) 1 158 (onA 23 2) HT_.out rfl rfl (by kernel_rfl) (fun _ _ _ h => h) (by rfl) ?_ ?_ ?_; rotate_left; (intro w'; go_simp; with_reducible rfl); rotate_left; (simp only [Act.put, List.setIfInBounds_toArray, List.set_cons_zero, List.set_cons_succ, i64_w, i32_w]; rfl)
                             refine pu_ (v := ?_) (a' := ?_) 2 159 (onA 23 3) HT_.out rfl rfl (by kernel_rfl) (fun _ _ _ h => h) (by rfl) ?_ ?_ ?_; rotate_left; (intro w'; go_simp; with_reducible rfl); rotate_left; (simp only [Act.put, List.setIfInBounds_toArray, List.set_cons_zero, List.set_cons_succ, i64_w, i32_w]; rfl)
                             refine pu_ (v := ?_) (a' := ?_) 3 160 (onA 23 4) HT_.out rfl rfl (by kernel_rfl) (fun _ _ _ h => h) (by rfl) ?_ ?_ ?_; rotate_left; (intro w'; go_simp; with_reducible rfl); rotate_left; (simp only [Act.put, List.setIfInBounds_toArray, List.set_cons_zero, List.set_cons_succ, i64_w, i32_w]; rfl)
                             refine pu_ (v := ?_) (a' := ?_) 4 161 (onA 23 5) HT_.out rfl rfl (by kernel_rfl) (fun _ _ _ h => h) (by rfl) ?_ ?_ ?_; rotate_left; (intro w'; go_simp; with_reducible rfl); rotate_left; (simp only [Act.put, List.setIfInBounds_toArray, List.set_cons_zero, List.set_cons_succ, i64_w, i32_w]; rfl)
                             refine take_ (i := 5) (N := some 162) (v := ?_) (a' := ?_) (onA 23 6) rfl rfl (take_ofW HT_.out HW_.out (by kernel_rfl)) (fun _ _ _ h => h) (Or.inl ⟨by rfl, ?_⟩) hHeld ?_ ?_
                             rotate_left
                             ·
                              rintro w' ⟨s0, s1, s2⟩
                              go_simp
                              with_reducible rfl
                             rotate_left
                             ·
                              simp only [Act.put, List.setIfInBounds_toArray, List.set_cons_zero, List.set_cons_succ, i64_w, i32_w]
                              rfl
                             refine pu_ (v := ?_) (a' := ?_) 6 163 (onA 23 7) HT_.out rfl rfl (by kernel_rfl) (fun _ _ _ h => h) (by rfl) ?_ ?_ ?_; rotate_left; (intro w'; go_simp; with_reducible rfl); rotate_left; (simp only [Act.put, List.setIfInBounds_toArray, List.set_cons_zero, List.set_cons_succ, i64_w, i32_w]; rfl)
                             refine pu_ (v := ?_) (a' := ?_) 7 164 (onA 23 8) HT_.out rfl rfl (by kernel_rfl) (fun _ _ _ h => h) (by rfl) ?_ ?_ ?_; rotate_left; (intro w'; go_simp; with_reducible rfl); rotate_left; (simp only [Act.put, List.setIfInBounds_toArray, List.set_cons_zero, List.set_cons_succ, i64_w, i32_w]; rfl)
                             refine pure_ (i := 8) (N := some 165) (v := undef) (a' := ?_) (onA 23 9) rfl rfl (any_of HT_.out (by kernel_rfl)) (fun _ _ _ h => h) (Or.inr ⟨by rfl, rfl⟩) ?_ ?_
                             rotate_left
                             ·
                              simp only [Act.put, List.setIfInBounds_toArray, List.set_cons_zero, List.set_cons_succ, i64_w, i32_w]
                              rfl
                             refine pure_ (i := 9) (N := some 166) (v := undef) (a' := ?_) (onA 23 10) rfl rfl (any_of HT_.out (by kernel_rfl)) (fun _ _ _ h => h) (Or.inr ⟨by rfl, rfl⟩) ?_ ?_
                             rotate_left
                             ·
                              simp only [Act.put, List.setIfInBounds_toArray, List.set_cons_zero, List.set_cons_succ, i64_w, i32_w]
                              rfl
                             refine pure_ (i := 10) (N := some 167) (v := undef) (a' := ?_) (onA 23 11) rfl rfl (any_of HT_.out (by kernel_rfl)) (fun _ _ _ h => h) (Or.inr ⟨by rfl, rfl⟩) ?_ ?_
                             rotate_left
                             ·
                              simp only [Act.put, List.setIfInBounds_toArray, List.set_cons_zero, List.set_cons_succ, i64_w, i32_w]
                              rfl
                             refine pure_ (i := 11) (N := some 168) (v := undef) (a' := ?_) (onA 23 12) rfl rfl (any_of HT_.out (by kernel_rfl)) (fun _ _ _ h => h) (Or.inr ⟨by rfl, rfl⟩) ?_ ?_
                             rotate_left
                             ·
                              simp only [Act.put, List.setIfInBounds_toArray, List.set_cons_zero, List.set_cons_succ, i64_w, i32_w]
                              rfl
                             refine pure_ (i := 12) (N := some 169) (v := undef) (a' := ?_) (onA 23 13) rfl rfl (any_of HT_.out (by kernel_rfl)) (fun _ _ _ h => h) (Or.inr ⟨by rfl, rfl⟩) ?_ ?_
                             rotate_left
                             ·
                              simp only [Act.put, List.setIfInBounds_toArray, List.set_cons_zero, List.set_cons_succ, i64_w, i32_w]
                              rfl
                             refine pure_ (i := 13) (N := some 170) (v := undef) (a' := ?_) (onA 23 14) rfl rfl (any_of HT_.out (by kernel_rfl)) (fun _ _ _ h => h) (Or.inr ⟨by rfl, rfl⟩) ?_ ?_
                             rotate_left
                             ·
                              simp only [Act.put, List.setIfInBounds_toArray, List.set_cons_zero, List.set_cons_succ, i64_w, i32_w]
                              rfl
                             refine pure_ (i := 14) (N := some 171) (v := undef) (a' := ?_) (onA 23 15) rfl rfl (any_of HT_.out (by kernel_rfl)) (fun _ _ _ h => h) (Or.inr ⟨by rfl, rfl⟩) ?_ ?_
                             rotate_left
                             ·
                              simp only [Act.put, List.setIfInBounds_toArray, List.set_cons_zero, List.set_cons_succ, i64_w, i32_w]
                              rfl
                             refine pure_ (i := 15) (N := some 172) (v := undef) (a' := ?_) (onA 23 16) rfl rfl (any_of HT_.out (by kernel_rfl)) (fun _ _ _ h => h) (Or.inr ⟨by rfl, rfl⟩) ?_ ?_
                             rotate_left
                             ·
                              simp only [Act.put, List.setIfInBounds_toArray, List.set_cons_zero, List.set_cons_succ, i64_w, i32_w]
                              rfl
                             refine pure_ (i := 16) (N := some 173) (v := undef) (a' := ?_) (onA 23 17) rfl rfl (any_of HT_.out (by kernel_rfl)) (fun _ _ _ h => h) (Or.inr ⟨by rfl, rfl⟩) ?_ ?_
                             rotate_left
                             ·
                              simp only [Act.put, List.setIfInBounds_toArray, List.set_cons_zero, List.set_cons_succ, i64_w, i32_w]
                              rfl
                             refine pure_ (i := 17) (N := some 174) (v := undef) (a' := ?_) (onA 23 18) rfl rfl (any_of HT_.out (by kernel_rfl)) (fun _ _ _ h => h) (Or.inr ⟨by rfl, rfl⟩) ?_ ?_
                             rotate_left
                             ·
                              simp only [Act.put, List.setIfInBounds_toArray, List.set_cons_zero, List.set_cons_succ, i64_w, i32_w]
                              rfl
                             refine pure_ (i := 18) (N := some 175) (v := undef) (a' := ?_) (onA 23 19) rfl rfl (any_of HT_.out (by kernel_rfl)) (fun _ _ _ h => h) (Or.inr ⟨by rfl, rfl⟩) ?_ ?_
                             rotate_left
                             ·
                              simp only [Act.put, List.setIfInBounds_toArray, List.set_cons_zero, List.set_cons_succ, i64_w, i32_w]
                              rfl
                             refine pure_ (i := 19) (N := some 176) (v := undef) (a' := ?_) (onA 23 20) rfl rfl (any_of HT_.out (by kernel_rfl)) (fun _ _ _ h => h) (Or.inr ⟨by rfl, rfl⟩) ?_ ?_
                             rotate_left
                             ·
                              simp only [Act.put, List.setIfInBounds_toArray, List.set_cons_zero, List.set_cons_succ, i64_w, i32_w]
                              rfl
                             refine pure_ (i := 20) (N := some 177) (v := undef) (a' := ?_) (onA 23 21) rfl rfl (any_of HT_.out (by kernel_rfl)) (fun _ _ _ h => h) (Or.inr ⟨by rfl, rfl⟩) ?_ ?_
                             rotate_left
                             ·
                              simp only [Act.put, List.setIfInBounds_toArray, List.set_cons_zero, List.set_cons_succ, i64_w, i32_w]
                              rfl
                             refine pu_ (v := ?_) (a' := ?_) 21 178 (onA 23 22) HT_.out rfl rfl (by kernel_rfl) (fun _ _ _ h => h) (by rfl) ?_ ?_ ?_; rotate_left; (intro w'; go_simp; with_reducible rfl); rotate_left; (simp only [Act.put, List.setIfInBounds_toArray, List.set_cons_zero, List.set_cons_succ, i64_w, i32_w]; rfl)
                             refine pu_ (v := ?_) (a' := ?_) 22 20 (onA 23 23) HT_.out rfl rfl (by kernel_rfl) (fun _ _ _ h => h) (by rfl) ?_ ?_ ?_; rotate_left; (intro w'; go_simp; with_reducible rfl); rotate_left; (simp only [Act.put, List.setIfInBounds_toArray, List.set_cons_zero, List.set_cons_succ, i64_w, i32_w]; rfl)
                             refine done_ (done_of HT_.out (by kernel_rfl)) ?_
                             try go_wp2
                             go_meet
                             case rel => (try simp only [← Nbq52.out]); exact ⟨_, (false), (by first | rfl | (simp; done) | (simp [*]; done)), (by first | exact H' | ((try rw [hji31]); (try rw [hji49]); exact H')), ⟨by have := HJ5.out; have := HK2.out; have := HJ27.out; have := HK4.out; first | omega | exact Nat.le_refl _⟩, ⟨by (try simp only [hl11_2]); (with_reducible repeat (first | apply Kd.R_alloc | apply Kd.R_drewN | apply Kd.R_drew)); exact HO_11.out⟩, ⟨by (try simp only [hl11_2]); (with_reducible repeat (first | apply Kd.R_alloc | apply Kd.R_drewN | apply Kd.R_drew)); exact HO_13.out⟩, ⟨by (try simp only [hl11_2]); (with_reducible repeat (first | apply Kd.R_alloc | apply Kd.R_drewN | apply Kd.R_drew)); exact HO_16.out⟩, ⟨by repeat (first | (with_reducible first | exact HB.out | apply below_alloc | apply pw_below_drewN | apply below_drew1) | exact HB.out)⟩⟩
                          ·
                           rw [if_neg c67] at H
                           exact absurd H (by simp)
                         ·
                          rw [if_neg c66] at H
                          exact absurd H (by simp)
                        case rest =>
                         clear HC65
                         try clear c1
                         try clear c2
                         try clear p2
                         try clear q2
                         try clear hx2
                         try clear c3
                         try clear q3
                         try clear c4
                         try clear c5
                         try clear q5
                         try clear c6
                         try clear p6
                         try clear c7
                         try clear c7b0
                         try clear c7b1
                         try clear c8
                         try clear c8b0
                         try clear c8b1
                         try clear c8b2
                         try clear c10
                         try clear c11
                         try clear c14
                         try clear c14b0
                         try clear c14b1
                         try clear c18
                         try clear c18b0
                         try clear c19
                         try clear c20
                         try clear c20b0
                         try clear c21
                         try clear c21b0
                         try clear p21
                         try clear q21
                         try clear hx21
                         try clear c22
                         try clear c22b0
                         try clear c22b1
                         try clear p22
                         try clear q22
                         try clear hx22
                         try clear c23
                         try clear p23
                         try clear q23
                         try clear hx23
                         try clear hf23
                         try clear p24
                         try clear q24
                         try clear hx24
                         try clear c26
                         try clear c32
                         try clear c32b0
                         try clear c33
                         try clear c33b0
                         try clear c34
                         try clear q34
                         try clear c35
                         try clear c36
                         try clear c37
                         try clear c38
                         try clear c38b0
                         try clear c38b1
                         try clear c38b2
                         try clear c44
                         try clear c45
                         try clear c47
                         try clear c48
                         try clear c48b0
                         try clear c50
                         try clear c50b0
                         try clear c51
                         try clear c51b0
                         try clear q52
                         try clear c53
                         try clear c54
                         try clear c54b0
                         try clear c55
                         try clear c55b0
                         try clear c55b1
                         try clear c63
                         try clear c63b0
                         try clear p64
                         try clear c66
                         try clear c66b0
                         try clear c67
                         try clear c67b0
                         try clear c68
                         try clear c68b0
                         try clear hx219_0
                         try clear hx228_0
                         try clear hx228_1
                         try clear hx228_2
                         try clear hx229_0
                         try clear hx229_1
                         try clear hx229_2
                         try clear hx239_0
                         try clear hx239_1
                         try clear hx239_2
                         try clear hx23_0
                         try clear hx240_0
                         try clear hx240_1
                         try clear hx240_2
                         try clear hx241_0
                         try clear hx241_1
                         try clear hx241_2
                         try clear hx242_0
                         try clear hx242_1
                         try clear hx242_2
                         try clear hx243_0
                         try clear hx243_1
                         try clear hx243_2
                         try clear hx244_0
                         try clear hx244_1
                         try clear hx244_2
                         try clear p2
                         try clear p21
                         try clear p219
                         try clear p22
                         try clear p228
                         try clear p229
                         try clear p23
                         try clear p239
                         try clear p24
                         try clear p240
                         try clear p241
                         try clear p242
                         try clear p243
                         try clear p244
                         try clear p6
                         try clear q2
                         try clear q21
                         try clear q219
                         try clear q22
                         try clear q228
                         try clear q229
                         try clear q23
                         try clear q239
                         try clear q24
                         try clear q240
                         try clear q241
                         try clear q242
                         try clear q243
                         try clear q244
                         try clear q3
                         try clear q34
                         try clear q5
                         try clear q52
                         obtain ⟨kq, x20_64, rfl, HA, HJ64, HO_11, HO_13, HO_16, HB⟩ := hcut
                         cases kq with
                         | zero => exact absurd HA.out (by simp [darninglaw16_CarveEdited.j5])
                         | succ kj64 =>
                          have H := HA.out
                          clear HA
                          simp only [darninglaw16_CarveEdited.j5] at H
                          have HC71 := Aside0.mk H
                          clear H
                          go_upto_region 23 with (fail)
                          go_cut [21] (fun v21 wc => ∃ (kq : Nat) (x21_70 : Bool), v21 = .bool x21_70 ∧ Aside0 (darninglaw16_CarveEdited.j6 kq l0 (ji49) x11_2 t221 t231 x154_4 x20_64 x21_70 (t231.length : Int) x154_4 = some true) ∧ Aside0 (kq ≤ kj64) ∧ Aside0 (Kd.R (Kd.int .u64) 28 wc w.heap.size (fun k_ => some k_ ≠ ((.slice Ao58 t231.length co58) : Value).ownBlock) (.slice Ao17 x11_2.length co17) x11_2) ∧ Aside0 (Kd.R k35 35 wc w.heap.size (fun _ => True) (.slice (some ad239) t221.length co62) t221) ∧ Aside0 (Kd.R (Kd.int .u64) 28 wc w.heap.size (fun k_ => some k_ ≠ ((.slice Ao17 x11_2.length co17) : Value).ownBlock) (.slice Ao58 t231.length co58) t231) ∧ Aside0 (Below w.heap.size w wc))
                          case first =>
                           have H := HC71.out
                           clear HC71
                           by_cases c72 : 0 ≤ (ji49)
                           ·
                            rw [if_pos c72] at H
                            have c72b0 : decide (0 ≤ (ji49)) = true := decide_eq_true c72
                            clear c72
                            (first | rw [c72b0] | (simp only [i64_w, i32_w]; rw [c72b0]) | skip)
                            by_cases c73 : (ji49) < (t221.length : Int)
                            ·
                             rw [if_pos c73] at H
                             have c73b0 : decide ((ji49) < (t221.length : Int)) = true := decide_eq_true c73
                             (try (have c73b0h := c73b0; simp only [hl11_2] at c73b0h))
                             clear c73
                             by_cases c74 : x154_4 = ((rd_T35 t221 (ji49)).f0)
                             ·
                              rw [if_pos c74] at H
                              have c74b0 : (x154_4 == ((rd_T35 t221 (ji49)).f0)) = true := beq_iff_eq.mpr c74
                              have c74b1 : (x154_4 != ((rd_T35 t221 (ji49)).f0)) = false := bne_eq_false_iff_eq.mpr c74
                              clear c74
                              as_aux_lemma =>
                               have H' := Aside0.mk H
                               clear H
                               try go_wp2
                               have n0_ := Aside0.mk (Kd.R_drew HO_11.out)
                               have n1_ := Aside0.mk (Kd.R_drew HO_13.out)
                               have n2_ := Aside0.mk (Kd.R_drew HO_16.out)
                               have n3_ := Aside0.mk (below_drew1 HB.out)
                               clear HO_11
                               clear HO_13
                               clear HO_16
                               clear HB
                               have HO_11 := n0_
                               have HO_13 := n1_
                               have HO_16 := n2_
                               have HB := n3_
                               clear n0_ n1_ n2_ n3_
                               have p245 : 0 ≤ ((ji49) : Int) := of_decide_eq_true (by first | (with_reducible assumption) | assumption)
                               have q245 : (ji49) < (t221.length : Int) := of_decide_eq_true (by first | (with_reducible assumption) | assumption)
                               obtain ⟨ad245, e245, hx245_0, hx245_1, hx245_2⟩ := at_T35 (Kd.R_reads' HO_13.out).2.2 (ji49) p245 q245
                               (try rw [← Nbq52.out] at hx245_2)
                               obtain rfl : ad239 = ad245 := (by injection e245)
                               replace p245 := eq_true p245
                               replace q245 := eq_true q245
                               refine start_ (n := 36) (S := fun w' => w'.cell? (ad239.add (((ji49)).toNat * 3)) = some (.int .i64 ((rd_T35 t221 (ji49)).f0)) ∧ w'.cell? ⟨(ad239.add (((ji49)).toNat * 3)).block, (ad239.add (((ji49)).toNat * 3)).off + 1, none⟩ = some (.int .i64 ((rd_T35 t221 (ji49)).f1)) ∧ w'.cell? ⟨(ad239.add (((ji49)).toNat * 3)).block, (ad239.add (((ji49)).toNat * 3)).off + 2, none⟩ = some (.bool (true))) (ds := []) (onA 36 0) (by kernel_rfl) rfl rfl ⟨hx245_0, hx245_1, hx245_2⟩ (fun hHeld => ?_); refine with_tabW darninglaw16_CarveEdited.tab23 darninglaw16_CarveEdited.bits23 (fun HT_ HW_ => ?_)
                               generalize wc.drew = w75 at HO_11 HO_13 HO_16 HB hx245_0 hx245_1 hx245_2 hHeld ⊢
                               refine pu_ (v := ?_) (a' := ?_) 0 179 (onA 36 1) HT_.out rfl rfl (by kernel_rfl) (fun _ _ _ h => h) (by rfl) ?_ ?_ ?_; rotate_left; (intro w'; go_simp; with_reducible rfl); rotate_left; (simp only [Act.put, List.setIfInBounds_toArray, List.set_cons_zero, List.set_cons_succ, i64_w, i32_w]; rfl)
                               refine pu_ (v := ?_) (a' := ?_) 1 180 (onA 36 2) HT_.out rfl rfl (by kernel_rfl) (fun _ _ _ h => h) (by rfl) ?_ ?_ ?_; rotate_left; (intro w'; go_simp; with_reducible rfl); rotate_left; (simp only [Act.put, List.setIfInBounds_toArray, List.set_cons_zero, List.set_cons_succ, i64_w, i32_w]; rfl)
                               refine pu_ (v := ?_) (a' := ?_) 2 181 (onA 36 3) HT_.out rfl rfl (by kernel_rfl) (fun _ _ _ h => h) (by rfl) ?_ ?_ ?_; rotate_left; (intro w'; go_simp; with_reducible rfl); rotate_left; (simp only [Act.put, List.setIfInBounds_toArray, List.set_cons_zero, List.set_cons_succ, i64_w, i32_w]; rfl)
                               refine pu_ (v := ?_) (a' := ?_) 3 182 (onA 36 4) HT_.out rfl rfl (by kernel_rfl) (fun _ _ _ h => h) (by rfl) ?_ ?_ ?_; rotate_left; (intro w'; go_simp; with_reducible rfl); rotate_left; (simp only [Act.put, List.setIfInBounds_toArray, List.set_cons_zero, List.set_cons_succ, i64_w, i32_w]; rfl)
                               refine pu_ (v := ?_) (a' := ?_) 4 183 (onA 36 5) HT_.out rfl rfl (by kernel_rfl) (fun _ _ _ h => h) (by rfl) ?_ ?_ ?_; rotate_left; (intro w'; go_simp; with_reducible rfl); rotate_left; (simp only [Act.put, List.setIfInBounds_toArray, List.set_cons_zero, List.set_cons_succ, i64_w, i32_w]; rfl)
                               refine take_ (i := 5) (N := some 184) (v := ?_) (a' := ?_) (onA 36 6) rfl rfl (take_ofW HT_.out HW_.out (by kernel_rfl)) (fun _ _ _ h => h) (Or.inl ⟨by rfl, ?_⟩) hHeld ?_ ?_
                               rotate_left
                               ·
                                rintro w' ⟨s0, s1, s2⟩
                                go_simp
                                with_reducible rfl
                               rotate_left
                               ·
                                simp only [Act.put, List.setIfInBounds_toArray, List.set_cons_zero, List.set_cons_succ, i64_w, i32_w]
                                rfl
                               refine pu_ (v := ?_) (a' := ?_) 6 185 (onA 36 7) HT_.out rfl rfl (by kernel_rfl) (fun _ _ _ h => h) (by rfl) ?_ ?_ ?_; rotate_left; (intro w'; go_simp; with_reducible rfl); rotate_left; (simp only [Act.put, List.setIfInBounds_toArray, List.set_cons_zero, List.set_cons_succ, i64_w, i32_w]; rfl)
                               refine pu_ (v := ?_) (a' := ?_) 7 186 (onA 36 8) HT_.out rfl rfl (by kernel_rfl) (fun _ _ _ h => h) (by rfl) ?_ ?_ ?_; rotate_left; (intro w'; go_simp; with_reducible rfl); rotate_left; (simp only [Act.put, List.setIfInBounds_toArray, List.set_cons_zero, List.set_cons_succ, i64_w, i32_w]; rfl)
                               refine pure_ (i := 8) (N := some 187) (v := undef) (a' := ?_) (onA 36 9) rfl rfl (any_of HT_.out (by kernel_rfl)) (fun _ _ _ h => h) (Or.inr ⟨by rfl, rfl⟩) ?_ ?_
                               rotate_left
                               ·
                                simp only [Act.put, List.setIfInBounds_toArray, List.set_cons_zero, List.set_cons_succ, i64_w, i32_w]
                                rfl
                               refine pure_ (i := 9) (N := some 188) (v := undef) (a' := ?_) (onA 36 10) rfl rfl (any_of HT_.out (by kernel_rfl)) (fun _ _ _ h => h) (Or.inr ⟨by rfl, rfl⟩) ?_ ?_
                               rotate_left
                               ·
                                simp only [Act.put, List.setIfInBounds_toArray, List.set_cons_zero, List.set_cons_succ, i64_w, i32_w]
                                rfl
                               refine pure_ (i := 10) (N := some 189) (v := undef) (a' := ?_) (onA 36 11) rfl rfl (any_of HT_.out (by kernel_rfl)) (fun _ _ _ h => h) (Or.inr ⟨by rfl, rfl⟩) ?_ ?_
                               rotate_left
                               ·
                                simp only [Act.put, List.setIfInBounds_toArray, List.set_cons_zero, List.set_cons_succ, i64_w, i32_w]
                                rfl
                               refine pure_ (i := 11) (N := some 190) (v := undef) (a' := ?_) (onA 36 12) rfl rfl (any_of HT_.out (by kernel_rfl)) (fun _ _ _ h => h) (Or.inr ⟨by rfl, rfl⟩) ?_ ?_
                               rotate_left
                               ·
                                simp only [Act.put, List.setIfInBounds_toArray, List.set_cons_zero, List.set_cons_succ, i64_w, i32_w]
                                rfl
                               refine pure_ (i := 12) (N := some 191) (v := undef) (a' := ?_) (onA 36 13) rfl rfl (any_of HT_.out (by kernel_rfl)) (fun _ _ _ h => h) (Or.inr ⟨by rfl, rfl⟩) ?_ ?_
                               rotate_left
                               ·
                                simp only [Act.put, List.setIfInBounds_toArray, List.set_cons_zero, List.set_cons_succ, i64_w, i32_w]
                                rfl
                               refine pure_ (i := 13) (N := some 192) (v := undef) (a' := ?_) (onA 36 14) rfl rfl (any_of HT_.out (by kernel_rfl)) (fun _ _ _ h => h) (Or.inr ⟨by rfl, rfl⟩) ?_ ?_
                               rotate_left
                               ·
                                simp only [Act.put, List.setIfInBounds_toArray, List.set_cons_zero, List.set_cons_succ, i64_w, i32_w]
                                rfl
                               refine pure_ (i := 14) (N := some 193) (v := undef) (a' := ?_) (onA 36 15) rfl rfl (any_of HT_.out (by kernel_rfl)) (fun _ _ _ h => h) (Or.inr ⟨by rfl, rfl⟩) ?_ ?_
                               rotate_left
                               ·
                                simp only [Act.put, List.setIfInBounds_toArray, List.set_cons_zero, List.set_cons_succ, i64_w, i32_w]
                                rfl
                               refine pure_ (i := 15) (N := some 194) (v := undef) (a' := ?_) (onA 36 16) rfl rfl (any_of HT_.out (by kernel_rfl)) (fun _ _ _ h => h) (Or.inr ⟨by rfl, rfl⟩) ?_ ?_
                               rotate_left
                               ·
                                simp only [Act.put, List.setIfInBounds_toArray, List.set_cons_zero, List.set_cons_succ, i64_w, i32_w]
                                rfl
                               refine pure_ (i := 16) (N := some 195) (v := undef) (a' := ?_) (onA 36 17) rfl rfl (any_of HT_.out (by kernel_rfl)) (fun _ _ _ h => h) (Or.inr ⟨by rfl, rfl⟩) ?_ ?_
                               rotate_left
                               ·
                                simp only [Act.put, List.setIfInBounds_toArray, List.set_cons_zero, List.set_cons_succ, i64_w, i32_w]
                                rfl
                               refine pure_ (i := 17) (N := some 196) (v := undef) (a' := ?_) (onA 36 18) rfl rfl (any_of HT_.out (by kernel_rfl)) (fun _ _ _ h => h) (Or.inr ⟨by rfl, rfl⟩) ?_ ?_
                               rotate_left
                               ·
                                simp only [Act.put, List.setIfInBounds_toArray, List.set_cons_zero, List.set_cons_succ, i64_w, i32_w]
                                rfl
                               refine pure_ (i := 18) (N := some 197) (v := undef) (a' := ?_) (onA 36 19) rfl rfl (any_of HT_.out (by kernel_rfl)) (fun _ _ _ h => h) (Or.inr ⟨by rfl, rfl⟩) ?_ ?_
                               rotate_left
                               ·
                                simp only [Act.put, List.setIfInBounds_toArray, List.set_cons_zero, List.set_cons_succ, i64_w, i32_w]
                                rfl
                               refine pure_ (i := 19) (N := some 198) (v := undef) (a' := ?_) (onA 36 20) rfl rfl (any_of HT_.out (by kernel_rfl)) (fun _ _ _ h => h) (Or.inr ⟨by rfl, rfl⟩) ?_ ?_
                               rotate_left
                               ·
                                simp only [Act.put, List.setIfInBounds_toArray, List.set_cons_zero, List.set_cons_succ, i64_w, i32_w]
                                rfl
                               refine pure_ (i := 20) (N := some 199) (v := undef) (a' := ?_) (onA 36 21) rfl rfl (any_of HT_.out (by kernel_rfl)) (fun _ _ _ h => h) (Or.inr ⟨by rfl, rfl⟩) ?_ ?_
                               rotate_left
                               ·
                                simp only [Act.put, List.setIfInBounds_toArray, List.set_cons_zero, List.set_cons_succ, i64_w, i32_w]
                                rfl
                               refine pure_ (i := 21) (N := some 200) (v := undef) (a' := ?_) (onA 36 22) rfl rfl (any_of HT_.out (by kernel_rfl)) (fun _ _ _ h => h) (Or.inr ⟨by rfl, rfl⟩) ?_ ?_
                               rotate_left
                               ·
                                simp only [Act.put, List.setIfInBounds_toArray, List.set_cons_zero, List.set_cons_succ, i64_w, i32_w]
                                rfl
                               refine pure_ (i := 22) (N := some 201) (v := undef) (a' := ?_) (onA 36 23) rfl rfl (any_of HT_.out (by kernel_rfl)) (fun _ _ _ h => h) (Or.inr ⟨by rfl, rfl⟩) ?_ ?_
                               rotate_left
                               ·
                                simp only [Act.put, List.setIfInBounds_toArray, List.set_cons_zero, List.set_cons_succ, i64_w, i32_w]
                                rfl
                               refine pure_ (i := 23) (N := some 202) (v := undef) (a' := ?_) (onA 36 24) rfl rfl (any_of HT_.out (by kernel_rfl)) (fun _ _ _ h => h) (Or.inr ⟨by rfl, rfl⟩) ?_ ?_
                               rotate_left
                               ·
                                simp only [Act.put, List.setIfInBounds_toArray, List.set_cons_zero, List.set_cons_succ, i64_w, i32_w]
                                rfl
                               refine pure_ (i := 24) (N := some 203) (v := undef) (a' := ?_) (onA 36 25) rfl rfl (any_of HT_.out (by kernel_rfl)) (fun _ _ _ h => h) (Or.inr ⟨by rfl, rfl⟩) ?_ ?_
                               rotate_left
                               ·
                                simp only [Act.put, List.setIfInBounds_toArray, List.set_cons_zero, List.set_cons_succ, i64_w, i32_w]
                                rfl
                               refine pure_ (i := 25) (N := some 204) (v := undef) (a' := ?_) (onA 36 26) rfl rfl (any_of HT_.out (by kernel_rfl)) (fun _ _ _ h => h) (Or.inr ⟨by rfl, rfl⟩) ?_ ?_
                               rotate_left
                               ·
                                simp only [Act.put, List.setIfInBounds_toArray, List.set_cons_zero, List.set_cons_succ, i64_w, i32_w]
                                rfl
                               refine pure_ (i := 26) (N := some 205) (v := undef) (a' := ?_) (onA 36 27) rfl rfl (any_of HT_.out (by kernel_rfl)) (fun _ _ _ h => h) (Or.inr ⟨by rfl, rfl⟩) ?_ ?_
                               rotate_left
                               ·
                                simp only [Act.put, List.setIfInBounds_toArray, List.set_cons_zero, List.set_cons_succ, i64_w, i32_w]
                                rfl
                               refine pure_ (i := 27) (N := some 206) (v := undef) (a' := ?_) (onA 36 28) rfl rfl (any_of HT_.out (by kernel_rfl)) (fun _ _ _ h => h) (Or.inr ⟨by rfl, rfl⟩) ?_ ?_
                               rotate_left
                               ·
                                simp only [Act.put, List.setIfInBounds_toArray, List.set_cons_zero, List.set_cons_succ, i64_w, i32_w]
                                rfl
                               refine pure_ (i := 28) (N := some 207) (v := undef) (a' := ?_) (onA 36 29) rfl rfl (any_of HT_.out (by kernel_rfl)) (fun _ _ _ h => h) (Or.inr ⟨by rfl, rfl⟩) ?_ ?_
                               rotate_left
                               ·
                                simp only [Act.put, List.setIfInBounds_toArray, List.set_cons_zero, List.set_cons_succ, i64_w, i32_w]
                                rfl
                               refine pure_ (i := 29) (N := some 208) (v := undef) (a' := ?_) (onA 36 30) rfl rfl (any_of HT_.out (by kernel_rfl)) (fun _ _ _ h => h) (Or.inr ⟨by rfl, rfl⟩) ?_ ?_
                               rotate_left
                               ·
                                simp only [Act.put, List.setIfInBounds_toArray, List.set_cons_zero, List.set_cons_succ, i64_w, i32_w]
                                rfl
                               refine pure_ (i := 30) (N := some 209) (v := undef) (a' := ?_) (onA 36 31) rfl rfl (any_of HT_.out (by kernel_rfl)) (fun _ _ _ h => h) (Or.inr ⟨by rfl, rfl⟩) ?_ ?_
                               rotate_left
                               ·
                                simp only [Act.put, List.setIfInBounds_toArray, List.set_cons_zero, List.set_cons_succ, i64_w, i32_w]
                                rfl
                               refine pure_ (i := 31) (N := some 210) (v := undef) (a' := ?_) (onA 36 32) rfl rfl (any_of HT_.out (by kernel_rfl)) (fun _ _ _ h => h) (Or.inr ⟨by rfl, rfl⟩) ?_ ?_
                               rotate_left
                               ·
                                simp only [Act.put, List.setIfInBounds_toArray, List.set_cons_zero, List.set_cons_succ, i64_w, i32_w]
                                rfl
                               refine pure_ (i := 32) (N := some 211) (v := undef) (a' := ?_) (onA 36 33) rfl rfl (any_of HT_.out (by kernel_rfl)) (fun _ _ _ h => h) (Or.inr ⟨by rfl, rfl⟩) ?_ ?_
                               rotate_left
                               ·
                                simp only [Act.put, List.setIfInBounds_toArray, List.set_cons_zero, List.set_cons_succ, i64_w, i32_w]
                                rfl
                               refine pure_ (i := 33) (N := some 212) (v := undef) (a' := ?_) (onA 36 34) rfl rfl (any_of HT_.out (by kernel_rfl)) (fun _ _ _ h => h) (Or.inr ⟨by rfl, rfl⟩) ?_ ?_
                               rotate_left
                               ·
                                simp only [Act.put, List.setIfInBounds_toArray, List.set_cons_zero, List.set_cons_succ, i64_w, i32_w]
                                rfl
                               refine pu_ (v := ?_) (a' := ?_) 34 213 (onA 36 35) HT_.out rfl rfl (by kernel_rfl) (fun _ _ _ h => h) (by rfl) ?_ ?_ ?_; rotate_left; (intro w'; go_simp; with_reducible rfl); rotate_left; (simp only [Act.put, List.setIfInBounds_toArray, List.set_cons_zero, List.set_cons_succ, i64_w, i32_w]; rfl)
                               refine pu_ (v := ?_) (a' := ?_) 35 21 (onA 36 36) HT_.out rfl rfl (by kernel_rfl) (fun _ _ _ h => h) (by rfl) ?_ ?_ ?_; rotate_left; (intro w'; go_simp; with_reducible rfl); rotate_left; (simp only [Act.put, List.setIfInBounds_toArray, List.set_cons_zero, List.set_cons_succ, i64_w, i32_w]; rfl)
                               refine done_ (done_of HT_.out (by kernel_rfl)) ?_
                               try go_wp2
                               go_meet
                               case rel => (try simp only [← Nbq52.out]); exact ⟨_, (true), (by first | rfl | (simp; done) | (simp [*]; done)), (by first | exact H' | ((try rw [hji31]); (try rw [hji49]); exact H')), ⟨by have := HJ5.out; have := HK2.out; have := HJ27.out; have := HK4.out; have := HJ64.out; first | omega | exact Nat.le_refl _⟩, ⟨by (try simp only [hl11_2]); (with_reducible repeat (first | apply Kd.R_alloc | apply Kd.R_drewN | apply Kd.R_drew)); exact HO_11.out⟩, ⟨by (try simp only [hl11_2]); (with_reducible repeat (first | apply Kd.R_alloc | apply Kd.R_drewN | apply Kd.R_drew)); exact HO_13.out⟩, ⟨by (try simp only [hl11_2]); (with_reducible repeat (first | apply Kd.R_alloc | apply Kd.R_drewN | apply Kd.R_drew)); exact HO_16.out⟩, ⟨by repeat (first | (with_reducible first | exact HB.out | apply below_alloc | apply pw_below_drewN | apply below_drew1) | exact HB.out)⟩⟩
                             ·
                              rw [if_neg c74] at H
                              have c74b0 : (x154_4 == ((rd_T35 t221 (ji49)).f0)) = false := beq_eq_false_iff_ne.mpr c74
                              have c74b1 : (x154_4 != ((rd_T35 t221 (ji49)).f0)) = true := bne_iff_ne.mpr c74
                              by_cases c76 : x154_4 = (wrap64 (((rd_T35 t221 (ji49)).f0) + ((rd_T35 t221 (ji49)).f1)))
                              ·
                               rw [if_pos c76] at H
                               have c76b0 : (x154_4 == (wrap64 (((rd_T35 t221 (ji49)).f0) + ((rd_T35 t221 (ji49)).f1)))) = true := beq_iff_eq.mpr c76
                               have c76b1 : (x154_4 != (wrap64 (((rd_T35 t221 (ji49)).f0) + ((rd_T35 t221 (ji49)).f1)))) = false := bne_eq_false_iff_eq.mpr c76
                               clear c76
                               by_cases c77 : (ji49) < (l0.length : Int)
                               ·
                                rw [if_pos c77] at H
                                have c77b0 : decide ((ji49) < (l0.length : Int)) = true := decide_eq_true c77
                                (try (have c77b0h := c77b0; simp only [hl11_2] at c77b0h))
                                clear c77
                                as_aux_lemma =>
                                 have H' := Aside0.mk H
                                 clear H
                                 try go_wp2
                                 have n0_ := Aside0.mk (Kd.R_drew HO_11.out)
                                 have n1_ := Aside0.mk (Kd.R_drew HO_13.out)
                                 have n2_ := Aside0.mk (Kd.R_drew HO_16.out)
                                 have n3_ := Aside0.mk (below_drew1 HB.out)
                                 clear HO_11
                                 clear HO_13
                                 clear HO_16
                                 clear HB
                                 have HO_11 := n0_
                                 have HO_13 := n1_
                                 have HO_16 := n2_
                                 have HB := n3_
                                 clear n0_ n1_ n2_ n3_
                                 have p245 : 0 ≤ ((ji49) : Int) := of_decide_eq_true (by first | (with_reducible assumption) | assumption)
                                 have q245 : (ji49) < (t221.length : Int) := of_decide_eq_true (by first | (with_reducible assumption) | assumption)
                                 obtain ⟨ad245, e245, hx245_0, hx245_1, hx245_2⟩ := at_T35 (Kd.R_reads' HO_13.out).2.2 (ji49) p245 q245
                                 (try rw [← Nbq52.out] at hx245_2)
                                 obtain rfl : ad239 = ad245 := (by injection e245)
                                 replace p245 := eq_true p245
                                 replace q245 := eq_true q245
                                 have p246 : 0 ≤ ((ji49) : Int) := of_decide_eq_true (by first | (with_reducible assumption) | assumption)
                                 have q246 : (ji49) < (t221.length : Int) := of_decide_eq_true (by first | (with_reducible assumption) | assumption)
                                 obtain ⟨ad246, e246, hx246_0, hx246_1, hx246_2⟩ := at_T35 (Kd.R_reads' HO_13.out).2.2 (ji49) p246 q246
                                 (try rw [← Nbq52.out] at hx246_2)
                                 obtain rfl : ad239 = ad246 := (by injection e246)
                                 replace p246 := eq_true p246
                                 replace q246 := eq_true q246
                                 have p247 : 0 ≤ ((ji49) : Int) := of_decide_eq_true (by first | (with_reducible assumption) | assumption)
                                 have q247 : (ji49) < (t221.length : Int) := of_decide_eq_true (by first | (with_reducible assumption) | assumption)
                                 obtain ⟨ad247, e247, hx247_0, hx247_1, hx247_2⟩ := at_T35 (Kd.R_reads' HO_13.out).2.2 (ji49) p247 q247
                                 (try rw [← Nbq52.out] at hx247_2)
                                 obtain rfl : ad239 = ad247 := (by injection e247)
                                 replace p247 := eq_true p247
                                 replace q247 := eq_true q247
                                 have p248 : 0 ≤ ((ji49) : Int) := of_decide_eq_true (by first | (with_reducible assumption) | assumption)
                                 have q248 : (ji49) < (t221.length : Int) := of_decide_eq_true (by first | (with_reducible assumption) | assumption)
                                 obtain ⟨ad248, e248, hx248_0, hx248_1, hx248_2⟩ := at_T35 (Kd.R_reads' HO_13.out).2.2 (ji49) p248 q248
                                 (try rw [← Nbq52.out] at hx248_2)
                                 obtain rfl : ad239 = ad248 := (by injection e248)
                                 replace p248 := eq_true p248
                                 replace q248 := eq_true q248
                                 have p249 : 0 ≤ ((ji49) : Int) := of_decide_eq_true (by first | (with_reducible assumption) | assumption)
                                 have q249 : (ji49) < (l0.length : Int) := of_decide_eq_true (by first | (with_reducible assumption) | assumption)
                                 obtain ⟨ad249, e249, hx249_0, hx249_1, hx249_2⟩ := at_T35 HR0.out (ji49) p249 q249
                                 have hw249_2 := hx249_2
                                 (try rw [← Nbq52.out] at hw249_2)
                                 have hw249_1 := hx249_1
                                 (try rw [← Nbq52.out] at hw249_1)
                                 have hw249_0 := hx249_0
                                 (try rw [← Nbq52.out] at hw249_0)
                                 (try rw [← Nbq52.out] at hx249_2)
                                 obtain rfl : ad241 = ad249 := (by injection e249)
                                 replace hx249_0 := (HB.out.cell (World.block_lt_of_cell? w _ hx249_0)).trans hx249_0
                                 replace hx249_1 := (HB.out.cell (World.block_lt_of_cell? w _ hx249_1)).trans hx249_1
                                 replace hx249_2 := (HB.out.cell (World.block_lt_of_cell? w _ hx249_2)).trans hx249_2
                                 replace p249 := eq_true p249
                                 replace q249 := eq_true q249
                                 refine start_ (n := 36) (S := fun w' => w'.cell? (ad239.add (((ji49)).toNat * 3)) = some (.int .i64 ((rd_T35 t221 (ji49)).f0)) ∧ w'.cell? ⟨(ad239.add (((ji49)).toNat * 3)).block, (ad239.add (((ji49)).toNat * 3)).off + 1, none⟩ = some (.int .i64 ((rd_T35 t221 (ji49)).f1)) ∧ w'.cell? ⟨(ad239.add (((ji49)).toNat * 3)).block, (ad239.add (((ji49)).toNat * 3)).off + 2, none⟩ = some (.bool (true)) ∧ w'.cell? (ad239.add (((ji49)).toNat * 3)) = some (.int .i64 ((rd_T35 t221 (ji49)).f0)) ∧ w'.cell? ⟨(ad239.add (((ji49)).toNat * 3)).block, (ad239.add (((ji49)).toNat * 3)).off + 1, none⟩ = some (.int .i64 ((rd_T35 t221 (ji49)).f1)) ∧ w'.cell? ⟨(ad239.add (((ji49)).toNat * 3)).block, (ad239.add (((ji49)).toNat * 3)).off + 2, none⟩ = some (.bool (true)) ∧ w'.cell? (ad239.add (((ji49)).toNat * 3)) = some (.int .i64 ((rd_T35 t221 (ji49)).f0)) ∧ w'.cell? ⟨(ad239.add (((ji49)).toNat * 3)).block, (ad239.add (((ji49)).toNat * 3)).off + 1, none⟩ = some (.int .i64 ((rd_T35 t221 (ji49)).f1)) ∧ w'.cell? ⟨(ad239.add (((ji49)).toNat * 3)).block, (ad239.add (((ji49)).toNat * 3)).off + 2, none⟩ = some (.bool (true)) ∧ w'.cell? (ad239.add (((ji49)).toNat * 3)) = some (.int .i64 ((rd_T35 t221 (ji49)).f0)) ∧ w'.cell? ⟨(ad239.add (((ji49)).toNat * 3)).block, (ad239.add (((ji49)).toNat * 3)).off + 1, none⟩ = some (.int .i64 ((rd_T35 t221 (ji49)).f1)) ∧ w'.cell? ⟨(ad239.add (((ji49)).toNat * 3)).block, (ad239.add (((ji49)).toNat * 3)).off + 2, none⟩ = some (.bool (true)) ∧ w'.cell? (ad241.add (((ji49)).toNat * 3)) = some (.int .i64 ((rd_T35 l0 (ji49)).f0)) ∧ w'.cell? ⟨(ad241.add (((ji49)).toNat * 3)).block, (ad241.add (((ji49)).toNat * 3)).off + 1, none⟩ = some (.int .i64 ((rd_T35 l0 (ji49)).f1)) ∧ w'.cell? ⟨(ad241.add (((ji49)).toNat * 3)).block, (ad241.add (((ji49)).toNat * 3)).off + 2, none⟩ = some (.bool ((rd_T35 l0 (ji49)).f2))) (ds := []) (onA 36 0) (by kernel_rfl) rfl rfl ⟨hx245_0, hx245_1, hx245_2, hx246_0, hx246_1, hx246_2, hx247_0, hx247_1, hx247_2, hx248_0, hx248_1, hx248_2, ((HB.out.cell (World.block_lt_of_cell? w _ hw249_0)).trans hw249_0), ((HB.out.cell (World.block_lt_of_cell? w _ hw249_1)).trans hw249_1), ((HB.out.cell (World.block_lt_of_cell? w _ hw249_2)).trans hw249_2)⟩ (fun hHeld => ?_); refine with_tabW darninglaw16_CarveEdited.tab23 darninglaw16_CarveEdited.bits23 (fun HT_ HW_ => ?_)
                                 generalize wc.drew = w78 at HO_11 HO_13 HO_16 HB hx245_0 hx245_1 hx245_2 hx246_0 hx246_1 hx246_2 hx247_0 hx247_1 hx247_2 hx248_0 hx248_1 hx248_2 hx249_0 hx249_1 hx249_2 hHeld ⊢
                                 refine pu_ (v := ?_) (a' := ?_) 0 179 (onA 36 1) HT_.out rfl rfl (by kernel_rfl) (fun _ _ _ h => h) (by rfl) ?_ ?_ ?_; rotate_left; (intro w'; go_simp; with_reducible rfl); rotate_left; (simp only [Act.put, List.setIfInBounds_toArray, List.set_cons_zero, List.set_cons_succ, i64_w, i32_w]; rfl)
                                 refine pu_ (v := ?_) (a' := ?_) 1 180 (onA 36 2) HT_.out rfl rfl (by kernel_rfl) (fun _ _ _ h => h) (by rfl) ?_ ?_ ?_; rotate_left; (intro w'; go_simp; with_reducible rfl); rotate_left; (simp only [Act.put, List.setIfInBounds_toArray, List.set_cons_zero, List.set_cons_succ, i64_w, i32_w]; rfl)
                                 refine pu_ (v := ?_) (a' := ?_) 2 181 (onA 36 3) HT_.out rfl rfl (by kernel_rfl) (fun _ _ _ h => h) (by rfl) ?_ ?_ ?_; rotate_left; (intro w'; go_simp; with_reducible rfl); rotate_left; (simp only [Act.put, List.setIfInBounds_toArray, List.set_cons_zero, List.set_cons_succ, i64_w, i32_w]; rfl)
                                 refine pu_ (v := ?_) (a' := ?_) 3 182 (onA 36 4) HT_.out rfl rfl (by kernel_rfl) (fun _ _ _ h => h) (by rfl) ?_ ?_ ?_; rotate_left; (intro w'; go_simp; with_reducible rfl); rotate_left; (simp only [Act.put, List.setIfInBounds_toArray, List.set_cons_zero, List.set_cons_succ, i64_w, i32_w]; rfl)
                                 refine pu_ (v := ?_) (a' := ?_) 4 183 (onA 36 5) HT_.out rfl rfl (by kernel_rfl) (fun _ _ _ h => h) (by rfl) ?_ ?_ ?_; rotate_left; (intro w'; go_simp; with_reducible rfl); rotate_left; (simp only [Act.put, List.setIfInBounds_toArray, List.set_cons_zero, List.set_cons_succ, i64_w, i32_w]; rfl)
                                 refine take_ (i := 5) (N := some 184) (v := ?_) (a' := ?_) (onA 36 6) rfl rfl (take_ofW HT_.out HW_.out (by kernel_rfl)) (fun _ _ _ h => h) (Or.inl ⟨by rfl, ?_⟩) hHeld ?_ ?_
                                 rotate_left
                                 ·
                                  rintro w' ⟨s0, s1, s2, s3, s4, s5, s6, s7, s8, s9, s10, s11, s12, s13, s14⟩
                                  go_simp
                                  with_reducible rfl
                                 rotate_left
                                 ·
                                  simp only [Act.put, List.setIfInBounds_toArray, List.set_cons_zero, List.set_cons_succ, i64_w, i32_w]
                                  rfl
                                 refine pu_ (v := ?_) (a' := ?_) 6 185 (onA 36 7) HT_.out rfl rfl (by kernel_rfl) (fun _ _ _ h => h) (by rfl) ?_ ?_ ?_; rotate_left; (intro w'; go_simp; with_reducible rfl); rotate_left; (simp only [Act.put, List.setIfInBounds_toArray, List.set_cons_zero, List.set_cons_succ, i64_w, i32_w]; rfl)
                                 refine pu_ (v := ?_) (a' := ?_) 7 186 (onA 36 8) HT_.out rfl rfl (by kernel_rfl) (fun _ _ _ h => h) (by rfl) ?_ ?_ ?_; rotate_left; (intro w'; go_simp; with_reducible rfl); rotate_left; (simp only [Act.put, List.setIfInBounds_toArray, List.set_cons_zero, List.set_cons_succ, i64_w, i32_w]; rfl)
                                 refine pu_ (v := ?_) (a' := ?_) 8 187 (onA 36 9) HT_.out rfl rfl (by kernel_rfl) (fun _ _ _ h => h) (by rfl) ?_ ?_ ?_; rotate_left; (intro w'; go_simp; with_reducible rfl); rotate_left; (simp only [Act.put, List.setIfInBounds_toArray, List.set_cons_zero, List.set_cons_succ, i64_w, i32_w]; rfl)
                                 refine pu_ (v := ?_) (a' := ?_) 9 188 (onA 36 10) HT_.out rfl rfl (by kernel_rfl) (fun _ _ _ h => h) (by rfl) ?_ ?_ ?_; rotate_left; (intro w'; go_simp; with_reducible rfl); rotate_left; (simp only [Act.put, List.setIfInBounds_toArray, List.set_cons_zero, List.set_cons_succ, i64_w, i32_w]; rfl)
                                 refine pu_ (v := ?_) (a' := ?_) 10 189 (onA 36 11) HT_.out rfl rfl (by kernel_rfl) (fun _ _ _ h => h) (by rfl) ?_ ?_ ?_; rotate_left; (intro w'; go_simp; with_reducible rfl); rotate_left; (simp only [Act.put, List.setIfInBounds_toArray, List.set_cons_zero, List.set_cons_succ, i64_w, i32_w]; rfl)
                                 refine pu_ (v := ?_) (a' := ?_) 11 190 (onA 36 12) HT_.out rfl rfl (by kernel_rfl) (fun _ _ _ h => h) (by rfl) ?_ ?_ ?_; rotate_left; (intro w'; go_simp; with_reducible rfl); rotate_left; (simp only [Act.put, List.setIfInBounds_toArray, List.set_cons_zero, List.set_cons_succ, i64_w, i32_w]; rfl)
                                 refine pu_ (v := ?_) (a' := ?_) 12 191 (onA 36 13) HT_.out rfl rfl (by kernel_rfl) (fun _ _ _ h => h) (by rfl) ?_ ?_ ?_; rotate_left; (intro w'; go_simp; with_reducible rfl); rotate_left; (simp only [Act.put, List.setIfInBounds_toArray, List.set_cons_zero, List.set_cons_succ, i64_w, i32_w]; rfl)
                                 refine pu_ (v := ?_) (a' := ?_) 14 193 #[tt_, tt_, tt_, tt_, tt_, tt_, tt_, tt_, tt_, tt_, tt_, tt_, tt_, ff_, tt_, ff_, ff_, ff_, ff_, ff_, ff_, ff_, ff_, ff_, ff_, ff_, ff_, ff_, ff_, ff_, ff_, ff_, ff_, ff_, ff_, ff_] HT_.out rfl rfl (by kernel_rfl) (fun _ _ _ h => h) (by rfl) ?_ ?_ ?_; rotate_left; (intro w'; go_simp; with_reducible rfl); rotate_left; (simp only [Act.put, List.setIfInBounds_toArray, List.set_cons_zero, List.set_cons_succ, i64_w, i32_w]; rfl)
                                 refine pu_ (v := ?_) (a' := ?_) 15 194 #[tt_, tt_, tt_, tt_, tt_, tt_, tt_, tt_, tt_, tt_, tt_, tt_, tt_, ff_, tt_, tt_, ff_, ff_, ff_, ff_, ff_, ff_, ff_, ff_, ff_, ff_, ff_, ff_, ff_, ff_, ff_, ff_, ff_, ff_, ff_, ff_] HT_.out rfl rfl (by kernel_rfl) (fun _ _ _ h => h) (by rfl) ?_ ?_ ?_; rotate_left; (intro w'; go_simp; with_reducible rfl); rotate_left; (simp only [Act.put, List.setIfInBounds_toArray, List.set_cons_zero, List.set_cons_succ, i64_w, i32_w]; rfl)
                                 refine pu_ (v := ?_) (a' := ?_) 16 195 #[tt_, tt_, tt_, tt_, tt_, tt_, tt_, tt_, tt_, tt_, tt_, tt_, tt_, ff_, tt_, tt_, tt_, ff_, ff_, ff_, ff_, ff_, ff_, ff_, ff_, ff_, ff_, ff_, ff_, ff_, ff_, ff_, ff_, ff_, ff_, ff_] HT_.out rfl rfl (by kernel_rfl) (fun _ _ _ h => h) (by rfl) ?_ ?_ ?_; rotate_left; (intro w'; go_simp; with_reducible rfl); rotate_left; (simp only [Act.put, List.setIfInBounds_toArray, List.set_cons_zero, List.set_cons_succ, i64_w, i32_w]; rfl)
                                 refine pu_ (v := ?_) (a' := ?_) 17 196 #[tt_, tt_, tt_, tt_, tt_, tt_, tt_, tt_, tt_, tt_, tt_, tt_, tt_, ff_, tt_, tt_, tt_, tt_, ff_, ff_, ff_, ff_, ff_, ff_, ff_, ff_, ff_, ff_, ff_, ff_, ff_, ff_, ff_, ff_, ff_, ff_] HT_.out rfl rfl (by kernel_rfl) (fun _ _ _ h => h) (by rfl) ?_ ?_ ?_; rotate_left; (intro w'; go_simp; with_reducible rfl); rotate_left; (simp only [Act.put, List.setIfInBounds_toArray, List.set_cons_zero, List.set_cons_succ, i64_w, i32_w]; rfl)
                                 refine take_ (i := 13) (N := some 192) (v := ?_) (a' := ?_) (onA 36 18) rfl rfl (take_ofW HT_.out HW_.out (by kernel_rfl)) (fun _ _ _ h => h) (Or.inl ⟨by rfl, ?_⟩) hHeld ?_ ?_
                                 rotate_left
                                 ·
                                  rintro w' ⟨s0, s1, s2, s3, s4, s5, s6, s7, s8, s9, s10, s11, s12, s13, s14⟩
                                  go_simp
                                  with_reducible rfl
                                 rotate_left
                                 ·
                                  simp only [Act.put, List.setIfInBounds_toArray, List.set_cons_zero, List.set_cons_succ, i64_w, i32_w]
                                  rfl
                                 refine take_ (i := 18) (N := some 197) (v := ?_) (a' := ?_) (onA 36 19) rfl rfl (take_ofW HT_.out HW_.out (by kernel_rfl)) (fun _ _ _ h => h) (Or.inl ⟨by rfl, ?_⟩) hHeld ?_ ?_
                                 rotate_left
                                 ·
                                  rintro w' ⟨s0, s1, s2, s3, s4, s5, s6, s7, s8, s9, s10, s11, s12, s13, s14⟩
                                  go_simp
                                  with_reducible rfl
                                 rotate_left
                                 ·
                                  simp only [Act.put, List.setIfInBounds_toArray, List.set_cons_zero, List.set_cons_succ, i64_w, i32_w]
                                  rfl
                                 refine pu_ (v := ?_) (a' := ?_) 19 198 (onA 36 20) HT_.out rfl rfl (by kernel_rfl) (fun _ _ _ h => h) (by rfl) ?_ ?_ ?_; rotate_left; (intro w'; go_simp; with_reducible rfl); rotate_left; (simp only [Act.put, List.setIfInBounds_toArray, List.set_cons_zero, List.set_cons_succ, i64_w, i32_w]; rfl)
                                 refine pu_ (v := ?_) (a' := ?_) 20 199 (onA 36 21) HT_.out rfl rfl (by kernel_rfl) (fun _ _ _ h => h) (by rfl) ?_ ?_ ?_; rotate_left; (intro w'; go_simp; with_reducible rfl); rotate_left; (simp only [Act.put, List.setIfInBounds_toArray, List.set_cons_zero, List.set_cons_succ, i64_w, i32_w]; rfl)
                                 refine pu_ (v := ?_) (a' := ?_) 21 200 (onA 36 22) HT_.out rfl rfl (by kernel_rfl) (fun _ _ _ h => h) (by rfl) ?_ ?_ ?_; rotate_left; (intro w'; go_simp; with_reducible rfl); rotate_left; (simp only [Act.put, List.setIfInBounds_toArray, List.set_cons_zero, List.set_cons_succ, i64_w, i32_w]; rfl)
                                 refine pu_ (v := ?_) (a' := ?_) 22 201 (onA 36 23) HT_.out rfl rfl (by kernel_rfl) (fun _ _ _ h => h) (by rfl) ?_ ?_ ?_; rotate_left; (intro w'; go_simp; with_reducible rfl); rotate_left; (simp only [Act.put, List.setIfInBounds_toArray, List.set_cons_zero, List.set_cons_succ, i64_w, i32_w]; rfl)
                                 refine pu_ (v := ?_) (a' := ?_) 23 202 (onA 36 24) HT_.out rfl rfl (by kernel_rfl) (fun _ _ _ h => h) (by rfl) ?_ ?_ ?_; rotate_left; (intro w'; go_simp; with_reducible rfl); rotate_left; (simp only [Act.put, List.setIfInBounds_toArray, List.set_cons_zero, List.set_cons_succ, i64_w, i32_w]; rfl)
                                 refine pu_ (v := ?_) (a' := ?_) 24 203 (onA 36 25) HT_.out rfl rfl (by kernel_rfl) (fun _ _ _ h => h) (by rfl) ?_ ?_ ?_; rotate_left; (intro w'; go_simp; with_reducible rfl); rotate_left; (simp only [Act.put, List.setIfInBounds_toArray, List.set_cons_zero, List.set_cons_succ, i64_w, i32_w]; rfl)
                                 refine pu_ (v := ?_) (a' := ?_) 25 204 (onA 36 26) HT_.out rfl rfl (by kernel_rfl) (fun _ _ _ h => h) (by rfl) ?_ ?_ ?_; rotate_left; (intro w'; go_simp; with_reducible rfl); rotate_left; (simp only [Act.put, List.setIfInBounds_toArray, List.set_cons_zero, List.set_cons_succ, i64_w, i32_w]; rfl)
                                 refine pu_ (v := ?_) (a' := ?_) 27 206 #[tt_, tt_, tt_, tt_, tt_, tt_, tt_, tt_, tt_, tt_, tt_, tt_, tt_, tt_, tt_, tt_, tt_, tt_, tt_, tt_, tt_, tt_, tt_, tt_, tt_, tt_, ff_, tt_, ff_, ff_, ff_, ff_, ff_, ff_, ff_, ff_] HT_.out rfl rfl (by kernel_rfl) (fun _ _ _ h => h) (by rfl) ?_ ?_ ?_; rotate_left; (intro w'; go_simp; with_reducible rfl); rotate_left; (simp only [Act.put, List.setIfInBounds_toArray, List.set_cons_zero, List.set_cons_succ, i64_w, i32_w]; rfl)
                                 refine pu_ (v := ?_) (a' := ?_) 28 207 #[tt_, tt_, tt_, tt_, tt_, tt_, tt_, tt_, tt_, tt_, tt_, tt_, tt_, tt_, tt_, tt_, tt_, tt_, tt_, tt_, tt_, tt_, tt_, tt_, tt_, tt_, ff_, tt_, tt_, ff_, ff_, ff_, ff_, ff_, ff_, ff_] HT_.out rfl rfl (by kernel_rfl) (fun _ _ _ h => h) (by rfl) ?_ ?_ ?_; rotate_left; (intro w'; go_simp; with_reducible rfl); rotate_left; (simp only [Act.put, List.setIfInBounds_toArray, List.set_cons_zero, List.set_cons_succ, i64_w, i32_w]; rfl)
                                 refine pu_ (v := ?_) (a' := ?_) 29 208 #[tt_, tt_, tt_, tt_, tt_, tt_, tt_, tt_, tt_, tt_, tt_, tt_, tt_, tt_, tt_, tt_, tt_, tt_, tt_, tt_, tt_, tt_, tt_, tt_, tt_, tt_, ff_, tt_, tt_, tt_, ff_, ff_, ff_, ff_, ff_, ff_] HT_.out rfl rfl (by kernel_rfl) (fun _ _ _ h => h) (by rfl) ?_ ?_ ?_; rotate_left; (intro w'; go_simp; with_reducible rfl); rotate_left; (simp only [Act.put, List.setIfInBounds_toArray, List.set_cons_zero, List.set_cons_succ, i64_w, i32_w]; rfl)
                                 refine pu_ (v := ?_) (a' := ?_) 30 209 #[tt_, tt_, tt_, tt_, tt_, tt_, tt_, tt_, tt_, tt_, tt_, tt_, tt_, tt_, tt_, tt_, tt_, tt_, tt_, tt_, tt_, tt_, tt_, tt_, tt_, tt_, ff_, tt_, tt_, tt_, tt_, ff_, ff_, ff_, ff_, ff_] HT_.out rfl rfl (by kernel_rfl) (fun _ _ _ h => h) (by rfl) ?_ ?_ ?_; rotate_left; (intro w'; go_simp; with_reducible rfl); rotate_left; (simp only [Act.put, List.setIfInBounds_toArray, List.set_cons_zero, List.set_cons_succ, i64_w, i32_w]; rfl)
                                 refine take_ (i := 26) (N := some 205) (v := ?_) (a' := ?_) (onA 36 31) rfl rfl (take_ofW HT_.out HW_.out (by kernel_rfl)) (fun _ _ _ h => h) (Or.inl ⟨by rfl, ?_⟩) hHeld ?_ ?_
                                 rotate_left
                                 ·
                                  rintro w' ⟨s0, s1, s2, s3, s4, s5, s6, s7, s8, s9, s10, s11, s12, s13, s14⟩
                                  go_simp
                                  with_reducible rfl
                                 rotate_left
                                 ·
                                  simp only [Act.put, List.setIfInBounds_toArray, List.set_cons_zero, List.set_cons_succ, i64_w, i32_w]
                                  rfl
                                 refine take_ (i := 31) (N := some 210) (v := ?_) (a' := ?_) (onA 36 32) rfl rfl (take_ofW HT_.out HW_.out (by kernel_rfl)) (fun _ _ _ h => h) (Or.inl ⟨by rfl, ?_⟩) hHeld ?_ ?_
                                 rotate_left
                                 ·
                                  rintro w' ⟨s0, s1, s2, s3, s4, s5, s6, s7, s8, s9, s10, s11, s12, s13, s14⟩
                                  go_simp
                                  with_reducible rfl
                                 rotate_left
                                 ·
                                  simp only [Act.put, List.setIfInBounds_toArray, List.set_cons_zero, List.set_cons_succ, i64_w, i32_w]
                                  rfl
                                 refine pu_ (v := ?_) (a' := ?_) 32 211 (onA 36 33) HT_.out rfl rfl (by kernel_rfl) (fun _ _ _ h => h) (by rfl) ?_ ?_ ?_; rotate_left; (intro w'; go_simp; with_reducible rfl); rotate_left; (simp only [Act.put, List.setIfInBounds_toArray, List.set_cons_zero, List.set_cons_succ, i64_w, i32_w]; rfl)
                                 refine pu_ (v := ?_) (a' := ?_) 33 212 (onA 36 34) HT_.out rfl rfl (by kernel_rfl) (fun _ _ _ h => h) (by rfl) ?_ ?_ ?_; rotate_left; (intro w'; go_simp; with_reducible rfl); rotate_left; (simp only [Act.put, List.setIfInBounds_toArray, List.set_cons_zero, List.set_cons_succ, i64_w, i32_w]; rfl)
                                 refine pu_ (v := ?_) (a' := ?_) 34 213 (onA 36 35) HT_.out rfl rfl (by kernel_rfl) (fun _ _ _ h => h) (by rfl) ?_ ?_ ?_; rotate_left; (intro w'; go_simp; with_reducible rfl); rotate_left; (simp only [Act.put, List.setIfInBounds_toArray, List.set_cons_zero, List.set_cons_succ, i64_w, i32_w]; rfl)
                                 refine pu_ (v := ?_) (a' := ?_) 35 21 (onA 36 36) HT_.out rfl rfl (by kernel_rfl) (fun _ _ _ h => h) (by rfl) ?_ ?_ ?_; rotate_left; (intro w'; go_simp; with_reducible rfl); rotate_left; (simp only [Act.put, List.setIfInBounds_toArray, List.set_cons_zero, List.set_cons_succ, i64_w, i32_w]; rfl)
                                 refine done_ (done_of HT_.out (by kernel_rfl)) ?_
                                 try go_wp2
                                 go_meet
                                 case rel => (try simp only [← Nbq52.out]); exact ⟨_, (decide (((rd_T35 t221 (ji49)).f1) < ((rd_T35 l0 (ji49)).f1))), (by first | rfl | (simp; done) | (simp only [← hji49] <;> (first | rfl | simp)) | (simp [*]; done)), (by first | exact H' | (simp only [hji49]; exact H')), ⟨by have := HJ5.out; have := HK2.out; have := HJ27.out; have := HK4.out; have := HJ64.out; first | omega | exact Nat.le_refl _⟩, ⟨by (try simp only [hl11_2]); (with_reducible repeat (first | apply Kd.R_alloc | apply Kd.R_drewN | apply Kd.R_drew)); exact HO_11.out⟩, ⟨by (try simp only [hl11_2]); (with_reducible repeat (first | apply Kd.R_alloc | apply Kd.R_drewN | apply Kd.R_drew)); exact HO_13.out⟩, ⟨by (try simp only [hl11_2]); (with_reducible repeat (first | apply Kd.R_alloc | apply Kd.R_drewN | apply Kd.R_drew)); exact HO_16.out⟩, ⟨by repeat (first | (with_reducible first | exact HB.out | apply below_alloc | apply pw_below_drewN | apply below_drew1) | exact HB.out)⟩⟩
                               ·
                                rw [if_neg c77] at H
                                exact absurd H (by simp)
                              ·
                               rw [if_neg c76] at H
                               have c76b0 : (x154_4 == (wrap64 (((rd_T35 t221 (ji49)).f0) + ((rd_T35 t221 (ji49)).f1)))) = false := beq_eq_false_iff_ne.mpr c76
                               have c76b1 : (x154_4 != (wrap64 (((rd_T35 t221 (ji49)).f0) + ((rd_T35 t221 (ji49)).f1)))) = true := bne_iff_ne.mpr c76
                               as_aux_lemma =>
                                have H' := Aside0.mk H
                                clear H
                                try go_wp2
                                have n0_ := Aside0.mk (Kd.R_drew HO_11.out)
                                have n1_ := Aside0.mk (Kd.R_drew HO_13.out)
                                have n2_ := Aside0.mk (Kd.R_drew HO_16.out)
                                have n3_ := Aside0.mk (below_drew1 HB.out)
                                clear HO_11
                                clear HO_13
                                clear HO_16
                                clear HB
                                have HO_11 := n0_
                                have HO_13 := n1_
                                have HO_16 := n2_
                                have HB := n3_
                                clear n0_ n1_ n2_ n3_
                                have p245 : 0 ≤ ((ji49) : Int) := of_decide_eq_true (by first | (with_reducible assumption) | assumption)
                                have q245 : (ji49) < (t221.length : Int) := of_decide_eq_true (by first | (with_reducible assumption) | assumption)
                                obtain ⟨ad245, e245, hx245_0, hx245_1, hx245_2⟩ := at_T35 (Kd.R_reads' HO_13.out).2.2 (ji49) p245 q245
                                (try rw [← Nbq52.out] at hx245_2)
                                obtain rfl : ad239 = ad245 := (by injection e245)
                                replace p245 := eq_true p245
                                replace q245 := eq_true q245
                                have p246 : 0 ≤ ((ji49) : Int) := of_decide_eq_true (by first | (with_reducible assumption) | assumption)
                                have q246 : (ji49) < (t221.length : Int) := of_decide_eq_true (by first | (with_reducible assumption) | assumption)
                                obtain ⟨ad246, e246, hx246_0, hx246_1, hx246_2⟩ := at_T35 (Kd.R_reads' HO_13.out).2.2 (ji49) p246 q246
                                (try rw [← Nbq52.out] at hx246_2)
                                obtain rfl : ad239 = ad246 := (by injection e246)
                                replace p246 := eq_true p246
                                replace q246 := eq_true q246
                                have p247 : 0 ≤ ((ji49) : Int) := of_decide_eq_true (by first | (with_reducible assumption) | assumption)
                                have q247 : (ji49) < (t221.length : Int) := of_decide_eq_true (by first | (with_reducible assumption) | assumption)
                                obtain ⟨ad247, e247, hx247_0, hx247_1, hx247_2⟩ := at_T35 (Kd.R_reads' HO_13.out).2.2 (ji49) p247 q247
                                (try rw [← Nbq52.out] at hx247_2)
                                obtain rfl : ad239 = ad247 := (by injection e247)
                                replace p247 := eq_true p247
                                replace q247 := eq_true q247
                                refine start_ (n := 36) (S := fun w' => w'.cell? (ad239.add (((ji49)).toNat * 3)) = some (.int .i64 ((rd_T35 t221 (ji49)).f0)) ∧ w'.cell? ⟨(ad239.add (((ji49)).toNat * 3)).block, (ad239.add (((ji49)).toNat * 3)).off + 1, none⟩ = some (.int .i64 ((rd_T35 t221 (ji49)).f1)) ∧ w'.cell? ⟨(ad239.add (((ji49)).toNat * 3)).block, (ad239.add (((ji49)).toNat * 3)).off + 2, none⟩ = some (.bool (true)) ∧ w'.cell? (ad239.add (((ji49)).toNat * 3)) = some (.int .i64 ((rd_T35 t221 (ji49)).f0)) ∧ w'.cell? ⟨(ad239.add (((ji49)).toNat * 3)).block, (ad239.add (((ji49)).toNat * 3)).off + 1, none⟩ = some (.int .i64 ((rd_T35 t221 (ji49)).f1)) ∧ w'.cell? ⟨(ad239.add (((ji49)).toNat * 3)).block, (ad239.add (((ji49)).toNat * 3)).off + 2, none⟩ = some (.bool (true)) ∧ w'.cell? (ad239.add (((ji49)).toNat * 3)) = some (.int .i64 ((rd_T35 t221 (ji49)).f0)) ∧ w'.cell? ⟨(ad239.add (((ji49)).toNat * 3)).block, (ad239.add (((ji49)).toNat * 3)).off + 1, none⟩ = some (.int .i64 ((rd_T35 t221 (ji49)).f1)) ∧ w'.cell? ⟨(ad239.add (((ji49)).toNat * 3)).block, (ad239.add (((ji49)).toNat * 3)).off + 2, none⟩ = some (.bool (true))) (ds := []) (onA 36 0) (by kernel_rfl) rfl rfl ⟨hx245_0, hx245_1, hx245_2, hx246_0, hx246_1, hx246_2, hx247_0, hx247_1, hx247_2⟩ (fun hHeld => ?_); refine with_tabW darninglaw16_CarveEdited.tab23 darninglaw16_CarveEdited.bits23 (fun HT_ HW_ => ?_)
                                generalize wc.drew = w79 at HO_11 HO_13 HO_16 HB hx245_0 hx245_1 hx245_2 hx246_0 hx246_1 hx246_2 hx247_0 hx247_1 hx247_2 hHeld ⊢
                                refine pu_ (v := ?_) (a' := ?_) 0 179 (onA 36 1) HT_.out rfl rfl (by kernel_rfl) (fun _ _ _ h => h) (by rfl) ?_ ?_ ?_; rotate_left; (intro w'; go_simp; with_reducible rfl); rotate_left; (simp only [Act.put, List.setIfInBounds_toArray, List.set_cons_zero, List.set_cons_succ, i64_w, i32_w]; rfl)
                                refine pu_ (v := ?_) (a' := ?_) 1 180 (onA 36 2) HT_.out rfl rfl (by kernel_rfl) (fun _ _ _ h => h) (by rfl) ?_ ?_ ?_; rotate_left; (intro w'; go_simp; with_reducible rfl); rotate_left; (simp only [Act.put, List.setIfInBounds_toArray, List.set_cons_zero, List.set_cons_succ, i64_w, i32_w]; rfl)
                                refine pu_ (v := ?_) (a' := ?_) 2 181 (onA 36 3) HT_.out rfl rfl (by kernel_rfl) (fun _ _ _ h => h) (by rfl) ?_ ?_ ?_; rotate_left; (intro w'; go_simp; with_reducible rfl); rotate_left; (simp only [Act.put, List.setIfInBounds_toArray, List.set_cons_zero, List.set_cons_succ, i64_w, i32_w]; rfl)
                                refine pu_ (v := ?_) (a' := ?_) 3 182 (onA 36 4) HT_.out rfl rfl (by kernel_rfl) (fun _ _ _ h => h) (by rfl) ?_ ?_ ?_; rotate_left; (intro w'; go_simp; with_reducible rfl); rotate_left; (simp only [Act.put, List.setIfInBounds_toArray, List.set_cons_zero, List.set_cons_succ, i64_w, i32_w]; rfl)
                                refine pu_ (v := ?_) (a' := ?_) 4 183 (onA 36 5) HT_.out rfl rfl (by kernel_rfl) (fun _ _ _ h => h) (by rfl) ?_ ?_ ?_; rotate_left; (intro w'; go_simp; with_reducible rfl); rotate_left; (simp only [Act.put, List.setIfInBounds_toArray, List.set_cons_zero, List.set_cons_succ, i64_w, i32_w]; rfl)
                                refine take_ (i := 5) (N := some 184) (v := ?_) (a' := ?_) (onA 36 6) rfl rfl (take_ofW HT_.out HW_.out (by kernel_rfl)) (fun _ _ _ h => h) (Or.inl ⟨by rfl, ?_⟩) hHeld ?_ ?_
                                rotate_left
                                ·
                                 rintro w' ⟨s0, s1, s2, s3, s4, s5, s6, s7, s8⟩
                                 go_simp
                                 with_reducible rfl
                                rotate_left
                                ·
                                 simp only [Act.put, List.setIfInBounds_toArray, List.set_cons_zero, List.set_cons_succ, i64_w, i32_w]
                                 rfl
                                refine pu_ (v := ?_) (a' := ?_) 6 185 (onA 36 7) HT_.out rfl rfl (by kernel_rfl) (fun _ _ _ h => h) (by rfl) ?_ ?_ ?_; rotate_left; (intro w'; go_simp; with_reducible rfl); rotate_left; (simp only [Act.put, List.setIfInBounds_toArray, List.set_cons_zero, List.set_cons_succ, i64_w, i32_w]; rfl)
                                refine pu_ (v := ?_) (a' := ?_) 7 186 (onA 36 8) HT_.out rfl rfl (by kernel_rfl) (fun _ _ _ h => h) (by rfl) ?_ ?_ ?_; rotate_left; (intro w'; go_simp; with_reducible rfl); rotate_left; (simp only [Act.put, List.setIfInBounds_toArray, List.set_cons_zero, List.set_cons_succ, i64_w, i32_w]; rfl)
                                refine pu_ (v := ?_) (a' := ?_) 8 187 (onA 36 9) HT_.out rfl rfl (by kernel_rfl) (fun _ _ _ h => h) (by rfl) ?_ ?_ ?_; rotate_left; (intro w'; go_simp; with_reducible rfl); rotate_left; (simp only [Act.put, List.setIfInBounds_toArray, List.set_cons_zero, List.set_cons_succ, i64_w, i32_w]; rfl)
                                refine pu_ (v := ?_) (a' := ?_) 9 188 (onA 36 10) HT_.out rfl rfl (by kernel_rfl) (fun _ _ _ h => h) (by rfl) ?_ ?_ ?_; rotate_left; (intro w'; go_simp; with_reducible rfl); rotate_left; (simp only [Act.put, List.setIfInBounds_toArray, List.set_cons_zero, List.set_cons_succ, i64_w, i32_w]; rfl)
                                refine pu_ (v := ?_) (a' := ?_) 10 189 (onA 36 11) HT_.out rfl rfl (by kernel_rfl) (fun _ _ _ h => h) (by rfl) ?_ ?_ ?_; rotate_left; (intro w'; go_simp; with_reducible rfl); rotate_left; (simp only [Act.put, List.setIfInBounds_toArray, List.set_cons_zero, List.set_cons_succ, i64_w, i32_w]; rfl)
                                refine pu_ (v := ?_) (a' := ?_) 11 190 (onA 36 12) HT_.out rfl rfl (by kernel_rfl) (fun _ _ _ h => h) (by rfl) ?_ ?_ ?_; rotate_left; (intro w'; go_simp; with_reducible rfl); rotate_left; (simp only [Act.put, List.setIfInBounds_toArray, List.set_cons_zero, List.set_cons_succ, i64_w, i32_w]; rfl)
                                refine pu_ (v := ?_) (a' := ?_) 12 191 (onA 36 13) HT_.out rfl rfl (by kernel_rfl) (fun _ _ _ h => h) (by rfl) ?_ ?_ ?_; rotate_left; (intro w'; go_simp; with_reducible rfl); rotate_left; (simp only [Act.put, List.setIfInBounds_toArray, List.set_cons_zero, List.set_cons_succ, i64_w, i32_w]; rfl)
                                refine pu_ (v := ?_) (a' := ?_) 14 193 #[tt_, tt_, tt_, tt_, tt_, tt_, tt_, tt_, tt_, tt_, tt_, tt_, tt_, ff_, tt_, ff_, ff_, ff_, ff_, ff_, ff_, ff_, ff_, ff_, ff_, ff_, ff_, ff_, ff_, ff_, ff_, ff_, ff_, ff_, ff_, ff_] HT_.out rfl rfl (by kernel_rfl) (fun _ _ _ h => h) (by rfl) ?_ ?_ ?_; rotate_left; (intro w'; go_simp; with_reducible rfl); rotate_left; (simp only [Act.put, List.setIfInBounds_toArray, List.set_cons_zero, List.set_cons_succ, i64_w, i32_w]; rfl)
                                refine pu_ (v := ?_) (a' := ?_) 15 194 #[tt_, tt_, tt_, tt_, tt_, tt_, tt_, tt_, tt_, tt_, tt_, tt_, tt_, ff_, tt_, tt_, ff_, ff_, ff_, ff_, ff_, ff_, ff_, ff_, ff_, ff_, ff_, ff_, ff_, ff_, ff_, ff_, ff_, ff_, ff_, ff_] HT_.out rfl rfl (by kernel_rfl) (fun _ _ _ h => h) (by rfl) ?_ ?_ ?_; rotate_left; (intro w'; go_simp; with_reducible rfl); rotate_left; (simp only [Act.put, List.setIfInBounds_toArray, List.set_cons_zero, List.set_cons_succ, i64_w, i32_w]; rfl)
                                refine pu_ (v := ?_) (a' := ?_) 16 195 #[tt_, tt_, tt_, tt_, tt_, tt_, tt_, tt_, tt_, tt_, tt_, tt_, tt_, ff_, tt_, tt_, tt_, ff_, ff_, ff_, ff_, ff_, ff_, ff_, ff_, ff_, ff_, ff_, ff_, ff_, ff_, ff_, ff_, ff_, ff_, ff_] HT_.out rfl rfl (by kernel_rfl) (fun _ _ _ h => h) (by rfl) ?_ ?_ ?_; rotate_left; (intro w'; go_simp; with_reducible rfl); rotate_left; (simp only [Act.put, List.setIfInBounds_toArray, List.set_cons_zero, List.set_cons_succ, i64_w, i32_w]; rfl)
                                refine pu_ (v := ?_) (a' := ?_) 17 196 #[tt_, tt_, tt_, tt_, tt_, tt_, tt_, tt_, tt_, tt_, tt_, tt_, tt_, ff_, tt_, tt_, tt_, tt_, ff_, ff_, ff_, ff_, ff_, ff_, ff_, ff_, ff_, ff_, ff_, ff_, ff_, ff_, ff_, ff_, ff_, ff_] HT_.out rfl rfl (by kernel_rfl) (fun _ _ _ h => h) (by rfl) ?_ ?_ ?_; rotate_left; (intro w'; go_simp; with_reducible rfl); rotate_left; (simp only [Act.put, List.setIfInBounds_toArray, List.set_cons_zero, List.set_cons_succ, i64_w, i32_w]; rfl)
                                refine take_ (i := 13) (N := some 192) (v := ?_) (a' := ?_) (onA 36 18) rfl rfl (take_ofW HT_.out HW_.out (by kernel_rfl)) (fun _ _ _ h => h) (Or.inl ⟨by rfl, ?_⟩) hHeld ?_ ?_
                                rotate_left
                                ·
                                 rintro w' ⟨s0, s1, s2, s3, s4, s5, s6, s7, s8⟩
                                 go_simp
                                 with_reducible rfl
                                rotate_left
                                ·
                                 simp only [Act.put, List.setIfInBounds_toArray, List.set_cons_zero, List.set_cons_succ, i64_w, i32_w]
                                 rfl
                                refine take_ (i := 18) (N := some 197) (v := ?_) (a' := ?_) (onA 36 19) rfl rfl (take_ofW HT_.out HW_.out (by kernel_rfl)) (fun _ _ _ h => h) (Or.inl ⟨by rfl, ?_⟩) hHeld ?_ ?_
                                rotate_left
                                ·
                                 rintro w' ⟨s0, s1, s2, s3, s4, s5, s6, s7, s8⟩
                                 go_simp
                                 with_reducible rfl
                                rotate_left
                                ·
                                 simp only [Act.put, List.setIfInBounds_toArray, List.set_cons_zero, List.set_cons_succ, i64_w, i32_w]
                                 rfl
                                refine pu_ (v := ?_) (a' := ?_) 19 198 (onA 36 20) HT_.out rfl rfl (by kernel_rfl) (fun _ _ _ h => h) (by rfl) ?_ ?_ ?_; rotate_left; (intro w'; go_simp; with_reducible rfl); rotate_left; (simp only [Act.put, List.setIfInBounds_toArray, List.set_cons_zero, List.set_cons_succ, i64_w, i32_w]; rfl)
                                refine pu_ (v := ?_) (a' := ?_) 20 199 (onA 36 21) HT_.out rfl rfl (by kernel_rfl) (fun _ _ _ h => h) (by rfl) ?_ ?_ ?_; rotate_left; (intro w'; go_simp; with_reducible rfl); rotate_left; (simp only [Act.put, List.setIfInBounds_toArray, List.set_cons_zero, List.set_cons_succ, i64_w, i32_w]; rfl)
                                refine pu_ (v := ?_) (a' := ?_) 21 200 (onA 36 22) HT_.out rfl rfl (by kernel_rfl) (fun _ _ _ h => h) (by rfl) ?_ ?_ ?_; rotate_left; (intro w'; go_simp; with_reducible rfl); rotate_left; (simp only [Act.put, List.setIfInBounds_toArray, List.set_cons_zero, List.set_cons_succ, i64_w, i32_w]; rfl)
                                refine pure_ (i := 22) (N := some 201) (v := undef) (a' := ?_) (onA 36 23) rfl rfl (any_of HT_.out (by kernel_rfl)) (fun _ _ _ h => h) (Or.inr ⟨by rfl, rfl⟩) ?_ ?_
                                rotate_left
                                ·
                                 simp only [Act.put, List.setIfInBounds_toArray, List.set_cons_zero, List.set_cons_succ, i64_w, i32_w]
                                 rfl
                                refine pure_ (i := 23) (N := some 202) (v := undef) (a' := ?_) (onA 36 24) rfl rfl (any_of HT_.out (by kernel_rfl)) (fun _ _ _ h => h) (Or.inr ⟨by rfl, rfl⟩) ?_ ?_
                                rotate_left
                                ·
                                 simp only [Act.put, List.setIfInBounds_toArray, List.set_cons_zero, List.set_cons_succ, i64_w, i32_w]
                                 rfl
                                refine pure_ (i := 24) (N := some 203) (v := undef) (a' := ?_) (onA 36 25) rfl rfl (any_of HT_.out (by kernel_rfl)) (fun _ _ _ h => h) (Or.inr ⟨by rfl, rfl⟩) ?_ ?_
                                rotate_left
                                ·
                                 simp only [Act.put, List.setIfInBounds_toArray, List.set_cons_zero, List.set_cons_succ, i64_w, i32_w]
                                 rfl
                                refine pure_ (i := 25) (N := some 204) (v := undef) (a' := ?_) (onA 36 26) rfl rfl (any_of HT_.out (by kernel_rfl)) (fun _ _ _ h => h) (Or.inr ⟨by rfl, rfl⟩) ?_ ?_
                                rotate_left
                                ·
                                 simp only [Act.put, List.setIfInBounds_toArray, List.set_cons_zero, List.set_cons_succ, i64_w, i32_w]
                                 rfl
                                refine pure_ (i := 26) (N := some 205) (v := undef) (a' := ?_) (onA 36 27) rfl rfl (any_of HT_.out (by kernel_rfl)) (fun _ _ _ h => h) (Or.inr ⟨by rfl, rfl⟩) ?_ ?_
                                rotate_left
                                ·
                                 simp only [Act.put, List.setIfInBounds_toArray, List.set_cons_zero, List.set_cons_succ, i64_w, i32_w]
                                 rfl
                                refine pure_ (i := 27) (N := some 206) (v := undef) (a' := ?_) (onA 36 28) rfl rfl (any_of HT_.out (by kernel_rfl)) (fun _ _ _ h => h) (Or.inr ⟨by rfl, rfl⟩) ?_ ?_
                                rotate_left
                                ·
                                 simp only [Act.put, List.setIfInBounds_toArray, List.set_cons_zero, List.set_cons_succ, i64_w, i32_w]
                                 rfl
                                refine pure_ (i := 28) (N := some 207) (v := undef) (a' := ?_) (onA 36 29) rfl rfl (any_of HT_.out (by kernel_rfl)) (fun _ _ _ h => h) (Or.inr ⟨by rfl, rfl⟩) ?_ ?_
                                rotate_left
                                ·
                                 simp only [Act.put, List.setIfInBounds_toArray, List.set_cons_zero, List.set_cons_succ, i64_w, i32_w]
                                 rfl
                                refine pure_ (i := 29) (N := some 208) (v := undef) (a' := ?_) (onA 36 30) rfl rfl (any_of HT_.out (by kernel_rfl)) (fun _ _ _ h => h) (Or.inr ⟨by rfl, rfl⟩) ?_ ?_
                                rotate_left
                                ·
                                 simp only [Act.put, List.setIfInBounds_toArray, List.set_cons_zero, List.set_cons_succ, i64_w, i32_w]
                                 rfl
                                refine pure_ (i := 30) (N := some 209) (v := undef) (a' := ?_) (onA 36 31) rfl rfl (any_of HT_.out (by kernel_rfl)) (fun _ _ _ h => h) (Or.inr ⟨by rfl, rfl⟩) ?_ ?_
                                rotate_left
                                ·
                                 simp only [Act.put, List.setIfInBounds_toArray, List.set_cons_zero, List.set_cons_succ, i64_w, i32_w]
                                 rfl
                                refine pure_ (i := 31) (N := some 210) (v := undef) (a' := ?_) (onA 36 32) rfl rfl (any_of HT_.out (by kernel_rfl)) (fun _ _ _ h => h) (Or.inr ⟨by rfl, rfl⟩) ?_ ?_
                                rotate_left
                                ·
                                 simp only [Act.put, List.setIfInBounds_toArray, List.set_cons_zero, List.set_cons_succ, i64_w, i32_w]
                                 rfl
                                refine pure_ (i := 32) (N := some 211) (v := undef) (a' := ?_) (onA 36 33) rfl rfl (any_of HT_.out (by kernel_rfl)) (fun _ _ _ h => h) (Or.inr ⟨by rfl, rfl⟩) ?_ ?_
                                rotate_left
                                ·
                                 simp only [Act.put, List.setIfInBounds_toArray, List.set_cons_zero, List.set_cons_succ, i64_w, i32_w]
                                 rfl
                                refine pu_ (v := ?_) (a' := ?_) 33 212 (onA 36 34) HT_.out rfl rfl (by kernel_rfl) (fun _ _ _ h => h) (by rfl) ?_ ?_ ?_; rotate_left; (intro w'; go_simp; with_reducible rfl); rotate_left; (simp only [Act.put, List.setIfInBounds_toArray, List.set_cons_zero, List.set_cons_succ, i64_w, i32_w]; rfl)
                                refine pu_ (v := ?_) (a' := ?_) 34 213 (onA 36 35) HT_.out rfl rfl (by kernel_rfl) (fun _ _ _ h => h) (by rfl) ?_ ?_ ?_; rotate_left; (intro w'; go_simp; with_reducible rfl); rotate_left; (simp only [Act.put, List.setIfInBounds_toArray, List.set_cons_zero, List.set_cons_succ, i64_w, i32_w]; rfl)
                                refine pu_ (v := ?_) (a' := ?_) 35 21 (onA 36 36) HT_.out rfl rfl (by kernel_rfl) (fun _ _ _ h => h) (by rfl) ?_ ?_ ?_; rotate_left; (intro w'; go_simp; with_reducible rfl); rotate_left; (simp only [Act.put, List.setIfInBounds_toArray, List.set_cons_zero, List.set_cons_succ, i64_w, i32_w]; rfl)
                                refine done_ (done_of HT_.out (by kernel_rfl)) ?_
                                try go_wp2
                                go_meet
                                case rel => (try simp only [← Nbq52.out]); exact ⟨_, (false), (by first | rfl | (simp; done) | (simp [*]; done)), (by first | exact H' | ((try rw [hji31]); (try rw [hji49]); exact H')), ⟨by have := HJ5.out; have := HK2.out; have := HJ27.out; have := HK4.out; have := HJ64.out; first | omega | exact Nat.le_refl _⟩, ⟨by (try simp only [hl11_2]); (with_reducible repeat (first | apply Kd.R_alloc | apply Kd.R_drewN | apply Kd.R_drew)); exact HO_11.out⟩, ⟨by (try simp only [hl11_2]); (with_reducible repeat (first | apply Kd.R_alloc | apply Kd.R_drewN | apply Kd.R_drew)); exact HO_13.out⟩, ⟨by (try simp only [hl11_2]); (with_reducible repeat (first | apply Kd.R_alloc | apply Kd.R_drewN | apply Kd.R_drew)); exact HO_16.out⟩, ⟨by repeat (first | (with_reducible first | exact HB.out | apply below_alloc | apply pw_below_drewN | apply below_drew1) | exact HB.out)⟩⟩
                            ·
                             rw [if_neg c73] at H
                             exact absurd H (by simp)
                           ·
                            rw [if_neg c72] at H
                            exact absurd H (by simp)
                          case rest =>
                           clear HC71
                           try clear p2
                           try clear q2
                           try clear hx2
                           try clear q5
                           try clear p6
                           try clear c7
                           try clear p24
                           try clear q24
                           try clear hx24
                           try clear q52
                           try clear p64
                           try clear c72
                           try clear c73
                           try clear c76
                           try clear c76b0
                           try clear c76b1
                           try clear c77
                           try clear hx245_0
                           try clear hx245_1
                           try clear hx245_2
                           try clear hx246_0
                           try clear hx246_1
                           try clear hx246_2
                           try clear hx247_0
                           try clear hx247_1
                           try clear hx247_2
                           try clear hx248_0
                           try clear hx248_1
                           try clear hx248_2
                           try clear hx249_0
                           try clear hx249_1
                           try clear hx249_2
                           try clear p245
                           try clear p246
                           try clear p247
                           try clear p249
                           try clear q245
                           try clear q246
                           try clear q247
                           try clear q249
                           obtain ⟨kq, x21_70, rfl, HA, HJ70, HO_11, HO_13, HO_16, HB⟩ := hcut
                           cases kq with
                           | zero => exact absurd HA.out (by simp [darninglaw16_CarveEdited.j6])
                           | succ kj70 =>
                            have H := HA.out
                            clear HA
                            simp only [darninglaw16_CarveEdited.j6] at H
                            have HC80 := Aside0.mk H
                            clear H
                            go_upto_region 24 with (fail)
                            go_cut [240] (fun v240 wc => ∃ (kq : Nat) (x240_79 : Bool), v240 = .bool x240_79 ∧ Aside0 (darninglaw16_CarveEdited.j7 kq l0 (ji49) x11_2 t221 t231 (t231.length : Int) x154_4 x240_79 = some true) ∧ Aside0 (kq ≤ kj70) ∧ Aside0 (Kd.R (Kd.int .u64) 28 wc w.heap.size (fun k_ => some k_ ≠ ((.slice Ao58 t231.length co58) : Value).ownBlock) (.slice Ao17 x11_2.length co17) x11_2) ∧ Aside0 (Kd.R k35 35 wc w.heap.size (fun _ => True) (.slice (some ad239) t221.length co62) t221) ∧ Aside0 (Kd.R (Kd.int .u64) 28 wc w.heap.size (fun k_ => some k_ ≠ ((.slice Ao17 x11_2.length co17) : Value).ownBlock) (.slice Ao58 t231.length co58) t231) ∧ Aside0 (Below w.heap.size w wc))
                            case first =>
                             have H := HC80.out
                             clear HC80
                             by_cases c81 : x20_64 = true
                             ·
                              subst c81
                              have H1 : (if 0 ≤ x154_4 then (if x154_4 < (t231.length : Int) then (if (rd t231 x154_4) = 0 then (darninglaw16_CarveEdited.j7 kj70 l0 (ji49) x11_2 t221 t231 (t231.length : Int) x154_4 false) else (some false)) else (none)) else (none)) = some true := by rw [if_pos rfl] at H; exact H
                              clear H
                              have H := H1
                              clear H1
                              by_cases c82 : 0 ≤ x154_4
                              ·
                               rw [if_pos c82] at H
                               have c82b0 : decide (0 ≤ x154_4) = true := decide_eq_true c82
                               clear c82
                               (first | rw [c82b0] | (simp only [i64_w, i32_w]; rw [c82b0]) | skip)
                               by_cases c83 : x154_4 < (t231.length : Int)
                               ·
                                rw [if_pos c83] at H
                                have c83b0 : decide (x154_4 < (t231.length : Int)) = true := decide_eq_true c83
                                (try (have c83b0h := c83b0; simp only [hl11_2] at c83b0h))
                                clear c83
                                by_cases c84 : (rd t231 x154_4) = 0
                                ·
                                 rw [if_pos c84] at H
                                 have c84b0 : ((rd t231 x154_4) == 0) = true := beq_iff_eq.mpr c84
                                 have c84b1 : ((rd t231 x154_4) != 0) = false := bne_eq_false_iff_eq.mpr c84
                                 clear c84
                                 as_aux_lemma =>
                                  have H' := Aside0.mk H
                                  clear H
                                  try go_wp2
                                  have n0_ := Aside0.mk (Kd.R_drew HO_11.out)
                                  have n1_ := Aside0.mk (Kd.R_drew HO_13.out)
                                  have n2_ := Aside0.mk (Kd.R_drew HO_16.out)
                                  have n3_ := Aside0.mk (below_drew1 HB.out)
                                  clear HO_11
                                  clear HO_13
                                  clear HO_16
                                  clear HB
                                  have HO_11 := n0_
                                  have HO_13 := n1_
                                  have HO_16 := n2_
                                  have HB := n3_
                                  clear n0_ n1_ n2_ n3_
                                  have p250 : 0 ≤ (x154_4 : Int) := of_decide_eq_true (by first | (with_reducible assumption) | assumption)
                                  have q250 : x154_4 < (t231.length : Int) := of_decide_eq_true (by first | (with_reducible assumption) | assumption)
                                  obtain ⟨ad250, e250, hx250_0⟩ := Kd.at_int (Kd.R_reads' HO_16.out).2.2 x154_4 p250 q250
                                  cases e250
                                  replace p250 := eq_true p250
                                  replace q250 := eq_true q250
                                  refine start_ (n := 27) (S := fun w' => w'.cell? (ad250.add (x154_4).toNat) = some (.int .u64 (rd t231 x154_4))) (ds := []) (onA 27 0) (by kernel_rfl) rfl rfl (hx250_0) (fun hHeld => ?_); refine with_tabW darninglaw16_CarveEdited.tab24 darninglaw16_CarveEdited.bits24 (fun HT_ HW_ => ?_)
                                  generalize wc.drew = w85 at HO_11 HO_13 HO_16 HB hx250_0 hHeld ⊢
                                  refine pu_ (v := ?_) (a' := ?_) 0 214 (onA 27 1) HT_.out rfl rfl (by kernel_rfl) (fun _ _ _ h => h) (by rfl) ?_ ?_ ?_; rotate_left; (intro w'; go_simp; with_reducible rfl); rotate_left; (simp only [Act.put, List.setIfInBounds_toArray, List.set_cons_zero, List.set_cons_succ, i64_w, i32_w]; rfl)
                                  refine pu_ (v := ?_) (a' := ?_) 1 215 (onA 27 2) HT_.out rfl rfl (by kernel_rfl) (fun _ _ _ h => h) (by rfl) ?_ ?_ ?_; rotate_left; (intro w'; go_simp; with_reducible rfl); rotate_left; (simp only [Act.put, List.setIfInBounds_toArray, List.set_cons_zero, List.set_cons_succ, i64_w, i32_w]; rfl)
                                  refine pu_ (v := ?_) (a' := ?_) 2 216 (onA 27 3) HT_.out rfl rfl (by kernel_rfl) (fun _ _ _ h => h) (by rfl) ?_ ?_ ?_; rotate_left; (intro w'; go_simp; with_reducible rfl); rotate_left; (simp only [Act.put, List.setIfInBounds_toArray, List.set_cons_zero, List.set_cons_succ, i64_w, i32_w]; rfl)
                                  refine pu_ (v := ?_) (a' := ?_) 3 217 (onA 27 4) HT_.out rfl rfl (by kernel_rfl) (fun _ _ _ h => h) (by rfl) ?_ ?_ ?_; rotate_left; (intro w'; go_simp; with_reducible rfl); rotate_left; (simp only [Act.put, List.setIfInBounds_toArray, List.set_cons_zero, List.set_cons_succ, i64_w, i32_w]; rfl)
                                  refine pu_ (v := ?_) (a' := ?_) 4 218 (onA 27 5) HT_.out rfl rfl (by kernel_rfl) (fun _ _ _ h => h) (by rfl) ?_ ?_ ?_; rotate_left; (intro w'; go_simp; with_reducible rfl); rotate_left; (simp only [Act.put, List.setIfInBounds_toArray, List.set_cons_zero, List.set_cons_succ, i64_w, i32_w]; rfl)
                                  refine take_ (i := 5) (N := some 219) (v := ?_) (a' := ?_) (onA 27 6) rfl rfl (take_ofW HT_.out HW_.out (by kernel_rfl)) (fun _ _ _ h => h) (Or.inl ⟨by rfl, ?_⟩) hHeld ?_ ?_
                                  rotate_left
                                  ·
                                   intro w' s0
                                   go_simp
                                   with_reducible rfl
                                  rotate_left
                                  ·
                                   simp only [Act.put, List.setIfInBounds_toArray, List.set_cons_zero, List.set_cons_succ, i64_w, i32_w]
                                   rfl
                                  refine pu_ (v := ?_) (a' := ?_) 6 220 (onA 27 7) HT_.out rfl rfl (by kernel_rfl) (fun _ _ _ h => h) (by rfl) ?_ ?_ ?_; rotate_left; (intro w'; go_simp; with_reducible rfl); rotate_left; (simp only [Act.put, List.setIfInBounds_toArray, List.set_cons_zero, List.set_cons_succ, i64_w, i32_w]; rfl)
                                  refine pu_ (v := ?_) (a' := ?_) 7 221 (onA 27 8) HT_.out rfl rfl (by kernel_rfl) (fun _ _ _ h => h) (by rfl) ?_ ?_ ?_; rotate_left; (intro w'; go_simp; with_reducible rfl); rotate_left; (simp only [Act.put, List.setIfInBounds_toArray, List.set_cons_zero, List.set_cons_succ, i64_w, i32_w]; rfl)
                                  refine pu_ (v := ?_) (a' := ?_) 8 222 (onA 27 9) HT_.out rfl rfl (by kernel_rfl) (fun _ _ _ h => h) (by rfl) ?_ ?_ ?_; rotate_left; (intro w'; go_simp; with_reducible rfl); rotate_left; (simp only [Act.put, List.setIfInBounds_toArray, List.set_cons_zero, List.set_cons_succ, i64_w, i32_w]; rfl)
                                  refine pu_ (v := ?_) (a' := ?_) 9 223 (onA 27 10) HT_.out rfl rfl (by kernel_rfl) (fun _ _ _ h => h) (by rfl) ?_ ?_ ?_; rotate_left; (intro w'; go_simp; with_reducible rfl); rotate_left; (simp only [Act.put, List.setIfInBounds_toArray, List.set_cons_zero, List.set_cons_succ, i64_w, i32_w]; rfl)
                                  refine pu_ (v := ?_) (a' := ?_) 10 224 (onA 27 11) HT_.out rfl rfl (by kernel_rfl) (fun _ _ _ h => h) (by rfl) ?_ ?_ ?_; rotate_left; (intro w'; go_simp; with_reducible rfl); rotate_left; (simp only [Act.put, List.setIfInBounds_toArray, List.set_cons_zero, List.set_cons_succ, i64_w, i32_w]; rfl)
                                  refine pu_ (v := ?_) (a' := ?_) 11 225 (onA 27 12) HT_.out rfl rfl (by kernel_rfl) (fun _ _ _ h => h) (by rfl) ?_ ?_ ?_; rotate_left; (intro w'; go_simp; with_reducible rfl); rotate_left; (simp only [Act.put, List.setIfInBounds_toArray, List.set_cons_zero, List.set_cons_succ, i64_w, i32_w]; rfl)
                                  refine pure_ (i := 12) (N := some 226) (v := undef) (a' := ?_) (onA 27 13) rfl rfl (any_of HT_.out (by kernel_rfl)) (fun _ _ _ h => h) (Or.inr ⟨by rfl, rfl⟩) ?_ ?_
                                  rotate_left
                                  ·
                                   simp only [Act.put, List.setIfInBounds_toArray, List.set_cons_zero, List.set_cons_succ, i64_w, i32_w]
                                   rfl
                                  refine pure_ (i := 13) (N := some 227) (v := undef) (a' := ?_) (onA 27 14) rfl rfl (any_of HT_.out (by kernel_rfl)) (fun _ _ _ h => h) (Or.inr ⟨by rfl, rfl⟩) ?_ ?_
                                  rotate_left
                                  ·
                                   simp only [Act.put, List.setIfInBounds_toArray, List.set_cons_zero, List.set_cons_succ, i64_w, i32_w]
                                   rfl
                                  refine pu_ (v := ?_) (a' := ?_) 14 228 (onA 27 15) HT_.out rfl rfl (by kernel_rfl) (fun _ _ _ h => h) (by rfl) ?_ ?_ ?_; rotate_left; (intro w'; go_simp; with_reducible rfl); rotate_left; (simp only [Act.put, List.setIfInBounds_toArray, List.set_cons_zero, List.set_cons_succ, i64_w, i32_w]; rfl)
                                  refine pu_ (v := ?_) (a' := ?_) 15 229 (onA 27 16) HT_.out rfl rfl (by kernel_rfl) (fun _ _ _ h => h) (by rfl) ?_ ?_ ?_; rotate_left; (intro w'; go_simp; with_reducible rfl); rotate_left; (simp only [Act.put, List.setIfInBounds_toArray, List.set_cons_zero, List.set_cons_succ, i64_w, i32_w]; rfl)
                                  refine pure_ (i := 16) (N := some 230) (v := undef) (a' := ?_) (onA 27 17) rfl rfl (any_of HT_.out (by kernel_rfl)) (fun _ _ _ h => h) (Or.inr ⟨by rfl, rfl⟩) ?_ ?_
                                  rotate_left
                                  ·
                                   simp only [Act.put, List.setIfInBounds_toArray, List.set_cons_zero, List.set_cons_succ, i64_w, i32_w]
                                   rfl
                                  refine pure_ (i := 17) (N := some 231) (v := undef) (a' := ?_) (onA 27 18) rfl rfl (any_of HT_.out (by kernel_rfl)) (fun _ _ _ h => h) (Or.inr ⟨by rfl, rfl⟩) ?_ ?_
                                  rotate_left
                                  ·
                                   simp only [Act.put, List.setIfInBounds_toArray, List.set_cons_zero, List.set_cons_succ, i64_w, i32_w]
                                   rfl
                                  refine pure_ (i := 18) (N := some 232) (v := undef) (a' := ?_) (onA 27 19) rfl rfl (any_of HT_.out (by kernel_rfl)) (fun _ _ _ h => h) (Or.inr ⟨by rfl, rfl⟩) ?_ ?_
                                  rotate_left
                                  ·
                                   simp only [Act.put, List.setIfInBounds_toArray, List.set_cons_zero, List.set_cons_succ, i64_w, i32_w]
                                   rfl
                                  refine pure_ (i := 19) (N := some 233) (v := undef) (a' := ?_) (onA 27 20) rfl rfl (any_of HT_.out (by kernel_rfl)) (fun _ _ _ h => h) (Or.inr ⟨by rfl, rfl⟩) ?_ ?_
                                  rotate_left
                                  ·
                                   simp only [Act.put, List.setIfInBounds_toArray, List.set_cons_zero, List.set_cons_succ, i64_w, i32_w]
                                   rfl
                                  refine pure_ (i := 20) (N := some 234) (v := undef) (a' := ?_) (onA 27 21) rfl rfl (any_of HT_.out (by kernel_rfl)) (fun _ _ _ h => h) (Or.inr ⟨by rfl, rfl⟩) ?_ ?_
                                  rotate_left
                                  ·
                                   simp only [Act.put, List.setIfInBounds_toArray, List.set_cons_zero, List.set_cons_succ, i64_w, i32_w]
                                   rfl
                                  refine pure_ (i := 21) (N := some 235) (v := undef) (a' := ?_) (onA 27 22) rfl rfl (any_of HT_.out (by kernel_rfl)) (fun _ _ _ h => h) (Or.inr ⟨by rfl, rfl⟩) ?_ ?_
                                  rotate_left
                                  ·
                                   simp only [Act.put, List.setIfInBounds_toArray, List.set_cons_zero, List.set_cons_succ, i64_w, i32_w]
                                   rfl
                                  refine pure_ (i := 22) (N := some 236) (v := undef) (a' := ?_) (onA 27 23) rfl rfl (any_of HT_.out (by kernel_rfl)) (fun _ _ _ h => h) (Or.inr ⟨by rfl, rfl⟩) ?_ ?_
                                  rotate_left
                                  ·
                                   simp only [Act.put, List.setIfInBounds_toArray, List.set_cons_zero, List.set_cons_succ, i64_w, i32_w]
                                   rfl
                                  refine pure_ (i := 23) (N := some 237) (v := undef) (a' := ?_) (onA 27 24) rfl rfl (any_of HT_.out (by kernel_rfl)) (fun _ _ _ h => h) (Or.inr ⟨by rfl, rfl⟩) ?_ ?_
                                  rotate_left
                                  ·
                                   simp only [Act.put, List.setIfInBounds_toArray, List.set_cons_zero, List.set_cons_succ, i64_w, i32_w]
                                   rfl
                                  refine pure_ (i := 24) (N := some 238) (v := undef) (a' := ?_) (onA 27 25) rfl rfl (any_of HT_.out (by kernel_rfl)) (fun _ _ _ h => h) (Or.inr ⟨by rfl, rfl⟩) ?_ ?_
                                  rotate_left
                                  ·
                                   simp only [Act.put, List.setIfInBounds_toArray, List.set_cons_zero, List.set_cons_succ, i64_w, i32_w]
                                   rfl
                                  refine pu_ (v := ?_) (a' := ?_) 25 239 (onA 27 26) HT_.out rfl rfl (by kernel_rfl) (fun _ _ _ h => h) (by rfl) ?_ ?_ ?_; rotate_left; (intro w'; go_simp; with_reducible rfl); rotate_left; (simp only [Act.put, List.setIfInBounds_toArray, List.set_cons_zero, List.set_cons_succ, i64_w, i32_w]; rfl)
                                  refine pu_ (v := ?_) (a' := ?_) 26 240 (onA 27 27) HT_.out rfl rfl (by kernel_rfl) (fun _ _ _ h => h) (by rfl) ?_ ?_ ?_; rotate_left; (intro w'; go_simp; with_reducible rfl); rotate_left; (simp only [Act.put, List.setIfInBounds_toArray, List.set_cons_zero, List.set_cons_succ, i64_w, i32_w]; rfl)
                                  refine done_ (done_of HT_.out (by kernel_rfl)) ?_
                                  try go_wp2
                                  go_meet
                                  case rel => (try simp only [← Nbq52.out]); exact ⟨_, (false), (by first | rfl | (simp; done) | (simp [*]; done)), (by first | exact H' | ((try rw [hji31]); (try rw [hji49]); exact H')), ⟨by have := HJ5.out; have := HK2.out; have := HJ27.out; have := HK4.out; have := HJ64.out; have := HJ70.out; first | omega | exact Nat.le_refl _⟩, ⟨by (try simp only [hl11_2]); (with_reducible repeat (first | apply Kd.R_alloc | apply Kd.R_drewN | apply Kd.R_drew)); exact HO_11.out⟩, ⟨by (try simp only [hl11_2]); (with_reducible repeat (first | apply Kd.R_alloc | apply Kd.R_drewN | apply Kd.R_drew)); exact HO_13.out⟩, ⟨by (try simp only [hl11_2]); (with_reducible repeat (first | apply Kd.R_alloc | apply Kd.R_drewN | apply Kd.R_drew)); exact HO_16.out⟩, ⟨by repeat (first | (with_reducible first | exact HB.out | apply below_alloc | apply pw_below_drewN | apply below_drew1) | exact HB.out)⟩⟩
                                ·
                                 rw [if_neg c84] at H
                                 have c84b0 : ((rd t231 x154_4) == 0) = false := beq_eq_false_iff_ne.mpr c84
                                 have c84b1 : ((rd t231 x154_4) != 0) = true := bne_iff_ne.mpr c84
                                 exact absurd H (by simp)
                               ·
                                rw [if_neg c83] at H
                                exact absurd H (by simp)
                              ·
                               rw [if_neg c82] at H
                               exact absurd H (by simp)
                             ·
                              replace c81 := Bool.eq_false_iff.mpr c81
                              subst c81
                              have H1 : (if x21_70 = true then (darninglaw16_CarveEdited.j7 kj70 l0 (ji49) x11_2 t221 t231 (t231.length : Int) x154_4 false) else (if 0 ≤ x154_4 then (if x154_4 < (t231.length : Int) then (if x154_4 < (x11_2.length : Int) then (darninglaw16_CarveEdited.j7 kj70 l0 (ji49) x11_2 t221 t231 (t231.length : Int) x154_4 ((rd t231 x154_4) != (rd x11_2 x154_4))) else (none)) else (none)) else (none))) = some true := by rw [if_neg (show ¬ (false = true) by decide)] at H; exact H
                              clear H
                              have H := H1
                              clear H1
                              by_cases c86 : x21_70 = true
                              ·
                               subst c86
                               have H1 : (darninglaw16_CarveEdited.j7 kj70 l0 (ji49) x11_2 t221 t231 (t231.length : Int) x154_4 false) = some true := by rw [if_pos rfl] at H; exact H
                               clear H
                               have H := H1
                               clear H1
                               as_aux_lemma =>
                                have H' := Aside0.mk H
                                clear H
                                try go_wp2
                                have n0_ := Aside0.mk (Kd.R_drew HO_11.out)
                                have n1_ := Aside0.mk (Kd.R_drew HO_13.out)
                                have n2_ := Aside0.mk (Kd.R_drew HO_16.out)
                                have n3_ := Aside0.mk (below_drew1 HB.out)
                                clear HO_11
                                clear HO_13
                                clear HO_16
                                clear HB
                                have HO_11 := n0_
                                have HO_13 := n1_
                                have HO_16 := n2_
                                have HB := n3_
                                clear n0_ n1_ n2_ n3_
                                refine start_ (n := 27) (S := fun w' => True) (ds := []) (onA 27 0) (by kernel_rfl) rfl rfl trivial (fun hHeld => ?_); refine with_tabW darninglaw16_CarveEdited.tab24 darninglaw16_CarveEdited.bits24 (fun HT_ HW_ => ?_)
                                generalize wc.drew = w87 at HO_11 HO_13 HO_16 HB hHeld ⊢
                                refine pu_ (v := ?_) (a' := ?_) 0 214 (onA 27 1) HT_.out rfl rfl (by kernel_rfl) (fun _ _ _ h => h) (by rfl) ?_ ?_ ?_; rotate_left; (intro w'; go_simp; with_reducible rfl); rotate_left; (simp only [Act.put, List.setIfInBounds_toArray, List.set_cons_zero, List.set_cons_succ, i64_w, i32_w]; rfl)
                                refine pu_ (v := ?_) (a' := ?_) 1 215 (onA 27 2) HT_.out rfl rfl (by kernel_rfl) (fun _ _ _ h => h) (by rfl) ?_ ?_ ?_; rotate_left; (intro w'; go_simp; with_reducible rfl); rotate_left; (simp only [Act.put, List.setIfInBounds_toArray, List.set_cons_zero, List.set_cons_succ, i64_w, i32_w]; rfl)
                                refine pure_ (i := 2) (N := some 216) (v := undef) (a' := ?_) (onA 27 3) rfl rfl (any_of HT_.out (by kernel_rfl)) (fun _ _ _ h => h) (Or.inr ⟨by rfl, rfl⟩) ?_ ?_
                                rotate_left
                                ·
                                 simp only [Act.put, List.setIfInBounds_toArray, List.set_cons_zero, List.set_cons_succ, i64_w, i32_w]
                                 rfl
                                refine pure_ (i := 3) (N := some 217) (v := undef) (a' := ?_) (onA 27 4) rfl rfl (any_of HT_.out (by kernel_rfl)) (fun _ _ _ h => h) (Or.inr ⟨by rfl, rfl⟩) ?_ ?_
                                rotate_left
                                ·
                                 simp only [Act.put, List.setIfInBounds_toArray, List.set_cons_zero, List.set_cons_succ, i64_w, i32_w]
                                 rfl
                                refine pure_ (i := 4) (N := some 218) (v := undef) (a' := ?_) (onA 27 5) rfl rfl (any_of HT_.out (by kernel_rfl)) (fun _ _ _ h => h) (Or.inr ⟨by rfl, rfl⟩) ?_ ?_
                                rotate_left
                                ·
                                 simp only [Act.put, List.setIfInBounds_toArray, List.set_cons_zero, List.set_cons_succ, i64_w, i32_w]
                                 rfl
                                refine pure_ (i := 5) (N := some 219) (v := undef) (a' := ?_) (onA 27 6) rfl rfl (any_of HT_.out (by kernel_rfl)) (fun _ _ _ h => h) (Or.inr ⟨by rfl, rfl⟩) ?_ ?_
                                rotate_left
                                ·
                                 simp only [Act.put, List.setIfInBounds_toArray, List.set_cons_zero, List.set_cons_succ, i64_w, i32_w]
                                 rfl
                                refine pure_ (i := 6) (N := some 220) (v := undef) (a' := ?_) (onA 27 7) rfl rfl (any_of HT_.out (by kernel_rfl)) (fun _ _ _ h => h) (Or.inr ⟨by rfl, rfl⟩) ?_ ?_
                                rotate_left
                                ·
                                 simp only [Act.put, List.setIfInBounds_toArray, List.set_cons_zero, List.set_cons_succ, i64_w, i32_w]
                                 rfl
                                refine pu_ (v := ?_) (a' := ?_) 7 221 (onA 27 8) HT_.out rfl rfl (by kernel_rfl) (fun _ _ _ h => h) (by rfl) ?_ ?_ ?_; rotate_left; (intro w'; go_simp; with_reducible rfl); rotate_left; (simp only [Act.put, List.setIfInBounds_toArray, List.set_cons_zero, List.set_cons_succ, i64_w, i32_w]; rfl)
                                refine pu_ (v := ?_) (a' := ?_) 8 222 (onA 27 9) HT_.out rfl rfl (by kernel_rfl) (fun _ _ _ h => h) (by rfl) ?_ ?_ ?_; rotate_left; (intro w'; go_simp; with_reducible rfl); rotate_left; (simp only [Act.put, List.setIfInBounds_toArray, List.set_cons_zero, List.set_cons_succ, i64_w, i32_w]; rfl)
                                refine pu_ (v := ?_) (a' := ?_) 9 223 (onA 27 10) HT_.out rfl rfl (by kernel_rfl) (fun _ _ _ h => h) (by rfl) ?_ ?_ ?_; rotate_left; (intro w'; go_simp; with_reducible rfl); rotate_left; (simp only [Act.put, List.setIfInBounds_toArray, List.set_cons_zero, List.set_cons_succ, i64_w, i32_w]; rfl)
                                refine pu_ (v := ?_) (a' := ?_) 10 224 (onA 27 11) HT_.out rfl rfl (by kernel_rfl) (fun _ _ _ h => h) (by rfl) ?_ ?_ ?_; rotate_left; (intro w'; go_simp; with_reducible rfl); rotate_left; (simp only [Act.put, List.setIfInBounds_toArray, List.set_cons_zero, List.set_cons_succ, i64_w, i32_w]; rfl)
                                refine pu_ (v := ?_) (a' := ?_) 11 225 (onA 27 12) HT_.out rfl rfl (by kernel_rfl) (fun _ _ _ h => h) (by rfl) ?_ ?_ ?_; rotate_left; (intro w'; go_simp; with_reducible rfl); rotate_left; (simp only [Act.put, List.setIfInBounds_toArray, List.set_cons_zero, List.set_cons_succ, i64_w, i32_w]; rfl)
                                refine pu_ (v := ?_) (a' := ?_) 12 226 (onA 27 13) HT_.out rfl rfl (by kernel_rfl) (fun _ _ _ h => h) (by rfl) ?_ ?_ ?_; rotate_left; (intro w'; go_simp; with_reducible rfl); rotate_left; (simp only [Act.put, List.setIfInBounds_toArray, List.set_cons_zero, List.set_cons_succ, i64_w, i32_w]; rfl)
                                refine pu_ (v := ?_) (a' := ?_) 13 227 (onA 27 14) HT_.out rfl rfl (by kernel_rfl) (fun _ _ _ h => h) (by rfl) ?_ ?_ ?_; rotate_left; (intro w'; go_simp; with_reducible rfl); rotate_left; (simp only [Act.put, List.setIfInBounds_toArray, List.set_cons_zero, List.set_cons_succ, i64_w, i32_w]; rfl)
                                refine pu_ (v := ?_) (a' := ?_) 14 228 (onA 27 15) HT_.out rfl rfl (by kernel_rfl) (fun _ _ _ h => h) (by rfl) ?_ ?_ ?_; rotate_left; (intro w'; go_simp; with_reducible rfl); rotate_left; (simp only [Act.put, List.setIfInBounds_toArray, List.set_cons_zero, List.set_cons_succ, i64_w, i32_w]; rfl)
                                refine pu_ (v := ?_) (a' := ?_) 15 229 (onA 27 16) HT_.out rfl rfl (by kernel_rfl) (fun _ _ _ h => h) (by rfl) ?_ ?_ ?_; rotate_left; (intro w'; go_simp; with_reducible rfl); rotate_left; (simp only [Act.put, List.setIfInBounds_toArray, List.set_cons_zero, List.set_cons_succ, i64_w, i32_w]; rfl)
                                refine pure_ (i := 16) (N := some 230) (v := undef) (a' := ?_) (onA 27 17) rfl rfl (any_of HT_.out (by kernel_rfl)) (fun _ _ _ h => h) (Or.inr ⟨by rfl, rfl⟩) ?_ ?_
                                rotate_left
                                ·
                                 simp only [Act.put, List.setIfInBounds_toArray, List.set_cons_zero, List.set_cons_succ, i64_w, i32_w]
                                 rfl
                                refine pure_ (i := 17) (N := some 231) (v := undef) (a' := ?_) (onA 27 18) rfl rfl (any_of HT_.out (by kernel_rfl)) (fun _ _ _ h => h) (Or.inr ⟨by rfl, rfl⟩) ?_ ?_
                                rotate_left
                                ·
                                 simp only [Act.put, List.setIfInBounds_toArray, List.set_cons_zero, List.set_cons_succ, i64_w, i32_w]
                                 rfl
                                refine pure_ (i := 18) (N := some 232) (v := undef) (a' := ?_) (onA 27 19) rfl rfl (any_of HT_.out (by kernel_rfl)) (fun _ _ _ h => h) (Or.inr ⟨by rfl, rfl⟩) ?_ ?_
                                rotate_left
                                ·
                                 simp only [Act.put, List.setIfInBounds_toArray, List.set_cons_zero, List.set_cons_succ, i64_w, i32_w]
                                 rfl
                                refine pure_ (i := 19) (N := some 233) (v := undef) (a' := ?_) (onA 27 20) rfl rfl (any_of HT_.out (by kernel_rfl)) (fun _ _ _ h => h) (Or.inr ⟨by rfl, rfl⟩) ?_ ?_
                                rotate_left
                                ·
                                 simp only [Act.put, List.setIfInBounds_toArray, List.set_cons_zero, List.set_cons_succ, i64_w, i32_w]
                                 rfl
                                refine pure_ (i := 20) (N := some 234) (v := undef) (a' := ?_) (onA 27 21) rfl rfl (any_of HT_.out (by kernel_rfl)) (fun _ _ _ h => h) (Or.inr ⟨by rfl, rfl⟩) ?_ ?_
                                rotate_left
                                ·
                                 simp only [Act.put, List.setIfInBounds_toArray, List.set_cons_zero, List.set_cons_succ, i64_w, i32_w]
                                 rfl
                                refine pure_ (i := 21) (N := some 235) (v := undef) (a' := ?_) (onA 27 22) rfl rfl (any_of HT_.out (by kernel_rfl)) (fun _ _ _ h => h) (Or.inr ⟨by rfl, rfl⟩) ?_ ?_
                                rotate_left
                                ·
                                 simp only [Act.put, List.setIfInBounds_toArray, List.set_cons_zero, List.set_cons_succ, i64_w, i32_w]
                                 rfl
                                refine pure_ (i := 22) (N := some 236) (v := undef) (a' := ?_) (onA 27 23) rfl rfl (any_of HT_.out (by kernel_rfl)) (fun _ _ _ h => h) (Or.inr ⟨by rfl, rfl⟩) ?_ ?_
                                rotate_left
                                ·
                                 simp only [Act.put, List.setIfInBounds_toArray, List.set_cons_zero, List.set_cons_succ, i64_w, i32_w]
                                 rfl
                                refine pure_ (i := 23) (N := some 237) (v := undef) (a' := ?_) (onA 27 24) rfl rfl (any_of HT_.out (by kernel_rfl)) (fun _ _ _ h => h) (Or.inr ⟨by rfl, rfl⟩) ?_ ?_
                                rotate_left
                                ·
                                 simp only [Act.put, List.setIfInBounds_toArray, List.set_cons_zero, List.set_cons_succ, i64_w, i32_w]
                                 rfl
                                refine pure_ (i := 24) (N := some 238) (v := undef) (a' := ?_) (onA 27 25) rfl rfl (any_of HT_.out (by kernel_rfl)) (fun _ _ _ h => h) (Or.inr ⟨by rfl, rfl⟩) ?_ ?_
                                rotate_left
                                ·
                                 simp only [Act.put, List.setIfInBounds_toArray, List.set_cons_zero, List.set_cons_succ, i64_w, i32_w]
                                 rfl
                                refine pu_ (v := ?_) (a' := ?_) 25 239 (onA 27 26) HT_.out rfl rfl (by kernel_rfl) (fun _ _ _ h => h) (by rfl) ?_ ?_ ?_; rotate_left; (intro w'; go_simp; with_reducible rfl); rotate_left; (simp only [Act.put, List.setIfInBounds_toArray, List.set_cons_zero, List.set_cons_succ, i64_w, i32_w]; rfl)
                                refine pu_ (v := ?_) (a' := ?_) 26 240 (onA 27 27) HT_.out rfl rfl (by kernel_rfl) (fun _ _ _ h => h) (by rfl) ?_ ?_ ?_; rotate_left; (intro w'; go_simp; with_reducible rfl); rotate_left; (simp only [Act.put, List.setIfInBounds_toArray, List.set_cons_zero, List.set_cons_succ, i64_w, i32_w]; rfl)
                                refine done_ (done_of HT_.out (by kernel_rfl)) ?_
                                try go_wp2
                                go_meet
                                case rel => (try simp only [← Nbq52.out]); exact ⟨_, (false), (by first | rfl | (simp; done) | (simp [*]; done)), (by first | exact H' | ((try rw [hji31]); (try rw [hji49]); exact H')), ⟨by have := HJ5.out; have := HK2.out; have := HJ27.out; have := HK4.out; have := HJ64.out; have := HJ70.out; first | omega | exact Nat.le_refl _⟩, ⟨by (try simp only [hl11_2]); (with_reducible repeat (first | apply Kd.R_alloc | apply Kd.R_drewN | apply Kd.R_drew)); exact HO_11.out⟩, ⟨by (try simp only [hl11_2]); (with_reducible repeat (first | apply Kd.R_alloc | apply Kd.R_drewN | apply Kd.R_drew)); exact HO_13.out⟩, ⟨by (try simp only [hl11_2]); (with_reducible repeat (first | apply Kd.R_alloc | apply Kd.R_drewN | apply Kd.R_drew)); exact HO_16.out⟩, ⟨by repeat (first | (with_reducible first | exact HB.out | apply below_alloc | apply pw_below_drewN | apply below_drew1) | exact HB.out)⟩⟩
                              ·
                               replace c86 := Bool.eq_false_iff.mpr c86
                               subst c86
                               have H1 : (if 0 ≤ x154_4 then (if x154_4 < (t231.length : Int) then (if x154_4 < (x11_2.length : Int) then (darninglaw16_CarveEdited.j7 kj70 l0 (ji49) x11_2 t221 t231 (t231.length : Int) x154_4 ((rd t231 x154_4) != (rd x11_2 x154_4))) else (none)) else (none)) else (none)) = some true := by rw [if_neg (show ¬ (false = true) by decide)] at H; exact H
                               clear H
                               have H := H1
                               clear H1
                               by_cases c88 : 0 ≤ x154_4
                               ·
                                rw [if_pos c88] at H
                                have c88b0 : decide (0 ≤ x154_4) = true := decide_eq_true c88
                                clear c88
                                by_cases c89 : x154_4 < (t231.length : Int)
                                ·
                                 rw [if_pos c89] at H
                                 have c89b0 : decide (x154_4 < (t231.length : Int)) = true := decide_eq_true c89
                                 (try (have c89b0h := c89b0; simp only [hl11_2] at c89b0h))
                                 clear c89
                                 by_cases c90 : x154_4 < (x11_2.length : Int)
                                 ·
                                  rw [if_pos c90] at H
                                  have c90b0 : decide (x154_4 < (x11_2.length : Int)) = true := decide_eq_true c90
                                  (try (have c90b0h := c90b0; simp only [hl11_2] at c90b0h))
                                  clear c90
                                  as_aux_lemma =>
                                   have H' := Aside0.mk H
                                   clear H
                                   try go_wp2
                                   have n0_ := Aside0.mk (Kd.R_drew HO_11.out)
                                   have n1_ := Aside0.mk (Kd.R_drew HO_13.out)
                                   have n2_ := Aside0.mk (Kd.R_drew HO_16.out)
                                   have n3_ := Aside0.mk (below_drew1 HB.out)
                                   clear HO_11
                                   clear HO_13
                                   clear HO_16
                                   clear HB
                                   have HO_11 := n0_
                                   have HO_13 := n1_
                                   have HO_16 := n2_
                                   have HB := n3_
                                   clear n0_ n1_ n2_ n3_
                                   have p251 : 0 ≤ (x154_4 : Int) := of_decide_eq_true (by first | (with_reducible assumption) | assumption)
                                   have q251 : x154_4 < (t231.length : Int) := of_decide_eq_true (by first | (with_reducible assumption) | assumption)
                                   obtain ⟨ad251, e251, hx251_0⟩ := Kd.at_int (Kd.R_reads' HO_16.out).2.2 x154_4 p251 q251
                                   cases e251
                                   replace p251 := eq_true p251
                                   replace q251 := eq_true q251
                                   have p252 : 0 ≤ (x154_4 : Int) := of_decide_eq_true (by first | (with_reducible assumption) | assumption)
                                   have q252 : x154_4 < (x11_2.length : Int) := of_decide_eq_true (by first | (with_reducible assumption) | assumption)
                                   obtain ⟨ad252, e252, hx252_0⟩ := Kd.at_int (Kd.R_reads' HO_11.out).2.2 x154_4 p252 q252
                                   cases e252
                                   replace p252 := eq_true p252
                                   replace q252 := eq_true q252
                                   refine start_ (n := 27) (S := fun w' => w'.cell? (ad251.add (x154_4).toNat) = some (.int .u64 (rd t231 x154_4)) ∧ w'.cell? (ad252.add (x154_4).toNat) = some (.int .u64 (rd x11_2 x154_4))) (ds := []) (onA 27 0) (by kernel_rfl) rfl rfl ⟨hx251_0, hx252_0⟩ (fun hHeld => ?_); refine with_tabW darninglaw16_CarveEdited.tab24 darninglaw16_CarveEdited.bits24 (fun HT_ HW_ => ?_)
                                   generalize wc.drew = w91 at HO_11 HO_13 HO_16 HB hx251_0 hx252_0 hHeld ⊢
                                   refine pu_ (v := ?_) (a' := ?_) 0 214 (onA 27 1) HT_.out rfl rfl (by kernel_rfl) (fun _ _ _ h => h) (by rfl) ?_ ?_ ?_; rotate_left; (intro w'; go_simp; with_reducible rfl); rotate_left; (simp only [Act.put, List.setIfInBounds_toArray, List.set_cons_zero, List.set_cons_succ, i64_w, i32_w]; rfl)
                                   refine pu_ (v := ?_) (a' := ?_) 1 215 (onA 27 2) HT_.out rfl rfl (by kernel_rfl) (fun _ _ _ h => h) (by rfl) ?_ ?_ ?_; rotate_left; (intro w'; go_simp; with_reducible rfl); rotate_left; (simp only [Act.put, List.setIfInBounds_toArray, List.set_cons_zero, List.set_cons_succ, i64_w, i32_w]; rfl)
                                   refine pure_ (i := 2) (N := some 216) (v := undef) (a' := ?_) (onA 27 3) rfl rfl (any_of HT_.out (by kernel_rfl)) (fun _ _ _ h => h) (Or.inr ⟨by rfl, rfl⟩) ?_ ?_
                                   rotate_left
                                   ·
                                    simp only [Act.put, List.setIfInBounds_toArray, List.set_cons_zero, List.set_cons_succ, i64_w, i32_w]
                                    rfl
                                   refine pure_ (i := 3) (N := some 217) (v := undef) (a' := ?_) (onA 27 4) rfl rfl (any_of HT_.out (by kernel_rfl)) (fun _ _ _ h => h) (Or.inr ⟨by rfl, rfl⟩) ?_ ?_
                                   rotate_left
                                   ·
                                    simp only [Act.put, List.setIfInBounds_toArray, List.set_cons_zero, List.set_cons_succ, i64_w, i32_w]
                                    rfl
                                   refine pure_ (i := 4) (N := some 218) (v := undef) (a' := ?_) (onA 27 5) rfl rfl (any_of HT_.out (by kernel_rfl)) (fun _ _ _ h => h) (Or.inr ⟨by rfl, rfl⟩) ?_ ?_
                                   rotate_left
                                   ·
                                    simp only [Act.put, List.setIfInBounds_toArray, List.set_cons_zero, List.set_cons_succ, i64_w, i32_w]
                                    rfl
                                   refine pure_ (i := 5) (N := some 219) (v := undef) (a' := ?_) (onA 27 6) rfl rfl (any_of HT_.out (by kernel_rfl)) (fun _ _ _ h => h) (Or.inr ⟨by rfl, rfl⟩) ?_ ?_
                                   rotate_left
                                   ·
                                    simp only [Act.put, List.setIfInBounds_toArray, List.set_cons_zero, List.set_cons_succ, i64_w, i32_w]
                                    rfl
                                   refine pure_ (i := 6) (N := some 220) (v := undef) (a' := ?_) (onA 27 7) rfl rfl (any_of HT_.out (by kernel_rfl)) (fun _ _ _ h => h) (Or.inr ⟨by rfl, rfl⟩) ?_ ?_
                                   rotate_left
                                   ·
                                    simp only [Act.put, List.setIfInBounds_toArray, List.set_cons_zero, List.set_cons_succ, i64_w, i32_w]
                                    rfl
                                   refine pu_ (v := ?_) (a' := ?_) 7 221 (onA 27 8) HT_.out rfl rfl (by kernel_rfl) (fun _ _ _ h => h) (by rfl) ?_ ?_ ?_; rotate_left; (intro w'; go_simp; with_reducible rfl); rotate_left; (simp only [Act.put, List.setIfInBounds_toArray, List.set_cons_zero, List.set_cons_succ, i64_w, i32_w]; rfl)
                                   refine pu_ (v := ?_) (a' := ?_) 8 222 (onA 27 9) HT_.out rfl rfl (by kernel_rfl) (fun _ _ _ h => h) (by rfl) ?_ ?_ ?_; rotate_left; (intro w'; go_simp; with_reducible rfl); rotate_left; (simp only [Act.put, List.setIfInBounds_toArray, List.set_cons_zero, List.set_cons_succ, i64_w, i32_w]; rfl)
                                   refine pu_ (v := ?_) (a' := ?_) 9 223 (onA 27 10) HT_.out rfl rfl (by kernel_rfl) (fun _ _ _ h => h) (by rfl) ?_ ?_ ?_; rotate_left; (intro w'; go_simp; with_reducible rfl); rotate_left; (simp only [Act.put, List.setIfInBounds_toArray, List.set_cons_zero, List.set_cons_succ, i64_w, i32_w]; rfl)
                                   refine pu_ (v := ?_) (a' := ?_) 10 224 (onA 27 11) HT_.out rfl rfl (by kernel_rfl) (fun _ _ _ h => h) (by rfl) ?_ ?_ ?_; rotate_left; (intro w'; go_simp; with_reducible rfl); rotate_left; (simp only [Act.put, List.setIfInBounds_toArray, List.set_cons_zero, List.set_cons_succ, i64_w, i32_w]; rfl)
                                   refine pu_ (v := ?_) (a' := ?_) 11 225 (onA 27 12) HT_.out rfl rfl (by kernel_rfl) (fun _ _ _ h => h) (by rfl) ?_ ?_ ?_; rotate_left; (intro w'; go_simp; with_reducible rfl); rotate_left; (simp only [Act.put, List.setIfInBounds_toArray, List.set_cons_zero, List.set_cons_succ, i64_w, i32_w]; rfl)
                                   refine pu_ (v := ?_) (a' := ?_) 12 226 (onA 27 13) HT_.out rfl rfl (by kernel_rfl) (fun _ _ _ h => h) (by rfl) ?_ ?_ ?_; rotate_left; (intro w'; go_simp; with_reducible rfl); rotate_left; (simp only [Act.put, List.setIfInBounds_toArray, List.set_cons_zero, List.set_cons_succ, i64_w, i32_w]; rfl)
                                   refine pu_ (v := ?_) (a' := ?_) 13 227 (onA 27 14) HT_.out rfl rfl (by kernel_rfl) (fun _ _ _ h => h) (by rfl) ?_ ?_ ?_; rotate_left; (intro w'; go_simp; with_reducible rfl); rotate_left; (simp only [Act.put, List.setIfInBounds_toArray, List.set_cons_zero, List.set_cons_succ, i64_w, i32_w]; rfl)
                                   refine pu_ (v := ?_) (a' := ?_) 14 228 (onA 27 15) HT_.out rfl rfl (by kernel_rfl) (fun _ _ _ h => h) (by rfl) ?_ ?_ ?_; rotate_left; (intro w'; go_simp; with_reducible rfl); rotate_left; (simp only [Act.put, List.setIfInBounds_toArray, List.set_cons_zero, List.set_cons_succ, i64_w, i32_w]; rfl)
                                   refine pu_ (v := ?_) (a' := ?_) 15 229 (onA 27 16) HT_.out rfl rfl (by kernel_rfl) (fun _ _ _ h => h) (by rfl) ?_ ?_ ?_; rotate_left; (intro w'; go_simp; with_reducible rfl); rotate_left; (simp only [Act.put, List.setIfInBounds_toArray, List.set_cons_zero, List.set_cons_succ, i64_w, i32_w]; rfl)
                                   refine pu_ (v := ?_) (a' := ?_) 16 230 (onA 27 17) HT_.out rfl rfl (by kernel_rfl) (fun _ _ _ h => h) (by rfl) ?_ ?_ ?_; rotate_left; (intro w'; go_simp; with_reducible rfl); rotate_left; (simp only [Act.put, List.setIfInBounds_toArray, List.set_cons_zero, List.set_cons_succ, i64_w, i32_w]; rfl)
                                   refine pu_ (v := ?_) (a' := ?_) 17 231 (onA 27 18) HT_.out rfl rfl (by kernel_rfl) (fun _ _ _ h => h) (by rfl) ?_ ?_ ?_; rotate_left; (intro w'; go_simp; with_reducible rfl); rotate_left; (simp only [Act.put, List.setIfInBounds_toArray, List.set_cons_zero, List.set_cons_succ, i64_w, i32_w]; rfl)
                                   refine pu_ (v := ?_) (a' := ?_) 18 232 (onA 27 19) HT_.out rfl rfl (by kernel_rfl) (fun _ _ _ h => h) (by rfl) ?_ ?_ ?_; rotate_left; (intro w'; go_simp; with_reducible rfl); rotate_left; (simp only [Act.put, List.setIfInBounds_toArray, List.set_cons_zero, List.set_cons_succ, i64_w, i32_w]; rfl)
                                   refine pu_ (v := ?_) (a' := ?_) 20 234 #[tt_, tt_, tt_, tt_, tt_, tt_, tt_, tt_, tt_, tt_, tt_, tt_, tt_, tt_, tt_, tt_, tt_, tt_, tt_, ff_, tt_, ff_, ff_, ff_, ff_, ff_, ff_] HT_.out rfl rfl (by kernel_rfl) (fun _ _ _ h => h) (by rfl) ?_ ?_ ?_; rotate_left; (intro w'; go_simp; with_reducible rfl); rotate_left; (simp only [Act.put, List.setIfInBounds_toArray, List.set_cons_zero, List.set_cons_succ, i64_w, i32_w]; rfl)
                                   refine pu_ (v := ?_) (a' := ?_) 21 235 #[tt_, tt_, tt_, tt_, tt_, tt_, tt_, tt_, tt_, tt_, tt_, tt_, tt_, tt_, tt_, tt_, tt_, tt_, tt_, ff_, tt_, tt_, ff_, ff_, ff_, ff_, ff_] HT_.out rfl rfl (by kernel_rfl) (fun _ _ _ h => h) (by rfl) ?_ ?_ ?_; rotate_left; (intro w'; go_simp; with_reducible rfl); rotate_left; (simp only [Act.put, List.setIfInBounds_toArray, List.set_cons_zero, List.set_cons_succ, i64_w, i32_w]; rfl)
                                   refine pu_ (v := ?_) (a' := ?_) 22 236 #[tt_, tt_, tt_, tt_, tt_, tt_, tt_, tt_, tt_, tt_, tt_, tt_, tt_, tt_, tt_, tt_, tt_, tt_, tt_, ff_, tt_, tt_, tt_, ff_, ff_, ff_, ff_] HT_.out rfl rfl (by kernel_rfl) (fun _ _ _ h => h) (by rfl) ?_ ?_ ?_; rotate_left; (intro w'; go_simp; with_reducible rfl); rotate_left; (simp only [Act.put, List.setIfInBounds_toArray, List.set_cons_zero, List.set_cons_succ, i64_w, i32_w]; rfl)
                                   refine take_ (i := 19) (N := some 233) (v := ?_) (a' := ?_) (onA 27 23) rfl rfl (take_ofW HT_.out HW_.out (by kernel_rfl)) (fun _ _ _ h => h) (Or.inl ⟨by rfl, ?_⟩) hHeld ?_ ?_
                                   rotate_left
                                   ·
                                    rintro w' ⟨s0, s1⟩
                                    go_simp
                                    with_reducible rfl
                                   rotate_left
                                   ·
                                    simp only [Act.put, List.setIfInBounds_toArray, List.set_cons_zero, List.set_cons_succ, i64_w, i32_w]
                                    rfl
                                   refine take_ (i := 23) (N := some 237) (v := ?_) (a' := ?_) (onA 27 24) rfl rfl (take_ofW HT_.out HW_.out (by kernel_rfl)) (fun _ _ _ h => h) (Or.inl ⟨by rfl, ?_⟩) hHeld ?_ ?_
                                   rotate_left
                                   ·
                                    rintro w' ⟨s0, s1⟩
                                    go_simp
                                    with_reducible rfl
                                   rotate_left
                                   ·
                                    simp only [Act.put, List.setIfInBounds_toArray, List.set_cons_zero, List.set_cons_succ, i64_w, i32_w]
                                    rfl
                                   refine pu_ (v := ?_) (a' := ?_) 24 238 (onA 27 25) HT_.out rfl rfl (by kernel_rfl) (fun _ _ _ h => h) (by rfl) ?_ ?_ ?_; rotate_left; (intro w'; go_simp; with_reducible rfl); rotate_left; (simp only [Act.put, List.setIfInBounds_toArray, List.set_cons_zero, List.set_cons_succ, i64_w, i32_w]; rfl)
                                   refine pu_ (v := ?_) (a' := ?_) 25 239 (onA 27 26) HT_.out rfl rfl (by kernel_rfl) (fun _ _ _ h => h) (by rfl) ?_ ?_ ?_; rotate_left; (intro w'; go_simp; with_reducible rfl); rotate_left; (simp only [Act.put, List.setIfInBounds_toArray, List.set_cons_zero, List.set_cons_succ, i64_w, i32_w]; rfl)
                                   refine pu_ (v := ?_) (a' := ?_) 26 240 (onA 27 27) HT_.out rfl rfl (by kernel_rfl) (fun _ _ _ h => h) (by rfl) ?_ ?_ ?_; rotate_left; (intro w'; go_simp; with_reducible rfl); rotate_left; (simp only [Act.put, List.setIfInBounds_toArray, List.set_cons_zero, List.set_cons_succ, i64_w, i32_w]; rfl)
                                   refine done_ (done_of HT_.out (by kernel_rfl)) ?_
                                   try go_wp2
                                   go_meet
                                   case rel => (try simp only [← Nbq52.out]); exact ⟨_, (((rd t231 x154_4) != (rd x11_2 x154_4))), (by first | rfl | (simp; done) | (simp [*]; done)), (by first | exact H' | ((try rw [hji31]); (try rw [hji49]); exact H')), ⟨by have := HJ5.out; have := HK2.out; have := HJ27.out; have := HK4.out; have := HJ64.out; have := HJ70.out; first | omega | exact Nat.le_refl _⟩, ⟨by (try simp only [hl11_2]); (with_reducible repeat (first | apply Kd.R_alloc | apply Kd.R_drewN | apply Kd.R_drew)); exact HO_11.out⟩, ⟨by (try simp only [hl11_2]); (with_reducible repeat (first | apply Kd.R_alloc | apply Kd.R_drewN | apply Kd.R_drew)); exact HO_13.out⟩, ⟨by (try simp only [hl11_2]); (with_reducible repeat (first | apply Kd.R_alloc | apply Kd.R_drewN | apply Kd.R_drew)); exact HO_16.out⟩, ⟨by repeat (first | (with_reducible first | exact HB.out | apply below_alloc | apply pw_below_drewN | apply below_drew1) | exact HB.out)⟩⟩
                                 ·
                                  rw [if_neg c90] at H
                                  exact absurd H (by simp)
                                ·
                                 rw [if_neg c89] at H
                                 exact absurd H (by simp)
                               ·
                                rw [if_neg c88] at H
                                exact absurd H (by simp)
                            case rest =>
                             clear HC80
                             try clear p2
                             try clear q2
                             try clear hx2
                             try clear q5
                             try clear c8
                             try clear c9
                             try clear p25
                             try clear q25
                             try clear hx25
                             try clear q52
                             try clear c81
                             try clear c82
                             try clear c83
                             try clear c84
                             try clear c84b0
                             try clear c84b1
                             try clear c86
                             try clear c88
                             try clear c88b0
                             try clear c89
                             try clear c89b0
                             try clear c90
                             try clear c90b0
                             try clear hx251_0
                             try clear hx252_0
                             try clear p251
                             try clear p252
                             try clear q251
                             try clear q252
                             obtain ⟨kq, x240_79, rfl, HA, HJ79, HO_11, HO_13, HO_16, HB⟩ := hcut
                             cases kq with
                             | zero => exact absurd HA.out (by simp [darninglaw16_CarveEdited.j7])
                             | succ kj79 =>
                              have H := HA.out
                              clear HA
                              simp only [darninglaw16_CarveEdited.j7] at H
                              by_cases c92 : x240_79 = true
                              ·
                               subst c92
                               have H1 : (some false) = some true := by rw [if_pos rfl] at H; exact H
                               clear H
                               have H := H1
                               clear H1
                               exact absurd H (by simp)
                              ·
                               replace c92 := Bool.eq_false_iff.mpr c92
                               subst c92
                               have H1 : (darninglaw16_CarveEdited.j8 kj79 l0 (ji49) x11_2 t221 t231 (t231.length : Int) x154_4) = some true := by rw [if_neg (show ¬ (false = true) by decide)] at H; exact H
                               clear H
                               have H := H1
                               clear H1
                               as_aux_lemma =>
                                have H' := Aside0.mk H
                                clear H
                                go_wp2
                                go_meet
                                case rel => (try simp only [← Nbq52.out]); exact ⟨_, (by first | exact H' | ((try rw [hji31]); (try rw [hji49]); exact H')), ⟨by have := HJ5.out; have := HK2.out; have := HJ27.out; have := HK4.out; have := HJ64.out; have := HJ70.out; have := HJ79.out; first | omega | exact Nat.le_refl _⟩, ⟨by (try simp only [hl11_2]); (with_reducible repeat (first | apply Kd.R_alloc | apply Kd.R_drewN | apply Kd.R_drew)); exact HO_11.out⟩, ⟨by (try simp only [hl11_2]); (with_reducible repeat (first | apply Kd.R_alloc | apply Kd.R_drewN | apply Kd.R_drew)); exact HO_13.out⟩, ⟨by (try simp only [hl11_2]); (with_reducible repeat (first | apply Kd.R_alloc | apply Kd.R_drewN | apply Kd.R_drew)); exact HO_16.out⟩, ⟨by repeat (first | (with_reducible first | exact HB.out | apply below_alloc | apply pw_below_drewN | apply below_drew1) | exact HB.out)⟩⟩
                       case rest =>
                        clear HC64
                        try clear p2
                        try clear q2
                        try clear hx2
                        try clear q5
                        try clear c8
                        try clear c9
                        try clear p25
                        try clear q25
                        try clear hx25
                        try clear q52
                        try clear c81
                        try clear c82
                        try clear c83
                        try clear c84
                        try clear c84b0
                        try clear c84b1
                        try clear c86
                        try clear c88
                        try clear c88b0
                        try clear c89
                        try clear c89b0
                        try clear c90
                        try clear c90b0
                        try clear c92
                        try clear hx251_0
                        try clear hx252_0
                        try clear p2
                        try clear p25
                        try clear p251
                        try clear p252
                        try clear q2
                        try clear q25
                        try clear q251
                        try clear q252
                        try clear q5
                        try clear q52
                        obtain ⟨kq, HA, HJ63, HO_11, HO_13, HO_16, HB⟩ := hcut
                        cases kq with
                        | zero => exact absurd HA.out (by simp [darninglaw16_CarveEdited.j8])
                        | succ kj63 =>
                         have H := HA.out
                         clear HA
                         simp only [darninglaw16_CarveEdited.j8] at H
                         as_aux_lemma =>
                          have H' := Aside0.mk H
                          clear H
                          go_wp2
                          go_roundg kj63
                          case measure => have := HJ5.out; have := HK2.out; have := HJ27.out; have := HK4.out; have := HJ63.out; omega
                          case rel => exact ⟨(wrap64 (x154_4 + 1)), (by first | rfl | (simp; done) | (simp [*]; done)), (by first | exact H' | ((try rw [hji31]); (try rw [hji49]); exact H')), ⟨by have := HJ5.out; have := HK2.out; have := HJ27.out; have := HK4.out; have := HJ63.out; omega⟩, ⟨by (try simp only [hl11_2]); (with_reducible repeat (first | apply Kd.R_alloc | apply Kd.R_drewN | apply Kd.R_drew)); exact HO_11.out⟩, ⟨by (try simp only [hl11_2]); (with_reducible repeat (first | apply Kd.R_alloc | apply Kd.R_drewN | apply Kd.R_drew)); exact HO_13.out⟩, ⟨by (try simp only [hl11_2]); (with_reducible repeat (first | apply Kd.R_alloc | apply Kd.R_drewN | apply Kd.R_drew)); exact HO_16.out⟩, ⟨by repeat (first | (with_reducible first | exact HB.out | apply below_alloc | apply pw_below_drewN | apply below_drew1) | exact HB.out)⟩⟩
                      ·
                       rw [if_neg c63] at H
                       have c63b0 : decide (x154_4 < (t231.length : Int)) = false := decide_eq_false c63
                       (try (have c63b0h := c63b0; simp only [hl11_2] at c63b0h))
                       clear c63
                       replace H := Option.bind_eq_some_iff.mp H
                       obtain ⟨t253, A930, H⟩ := H
                       replace H : (some t253) = some true := H
                       have A93 := Aside0.mk A930
                       clear A930
                       as_aux_lemma =>
                        obtain rfl : t253 = true := Option.some.inj H
                        go_wp2_with (first | ((with_reducible refine gate_callee (f := 22) rfl ?_); refine goesL_ (some 242) rfl rfl Try.func22 (by kernel_rfl) rfl #[] rfl (by (try simp only [List.map_toArray, List.map_cons, List.map_nil]); first | done | rfl | (simp only [List.length_drop, List.length_take]; rfl)) ?_; (with_reducible refine (darninglaw16_awake.calls k4  true _ A93.out).mono ?_); rintro e w94 ⟨rfl, hb⟩; refine ⟨_, rfl, ?_⟩; have n0_ := Aside0.mk (Kd.R_below (by (with_reducible repeat (first | apply Kd.R_alloc | apply Kd.R_drewN | apply Kd.R_drew)); exact HO_11.out) hb); have n1_ := Aside0.mk (Kd.R_below (by (with_reducible repeat (first | apply Kd.R_alloc | apply Kd.R_drewN | apply Kd.R_drew)); exact HO_13.out) hb); have n2_ := Aside0.mk (Kd.R_below (by (with_reducible repeat (first | apply Kd.R_alloc | apply Kd.R_drewN | apply Kd.R_drew)); exact HO_16.out) hb); have n3_ := Aside0.mk (below_step (by repeat (first | (with_reducible first | exact HB.out | apply below_alloc | apply pw_below_drewN | apply below_drew1) | exact HB.out)) hb); clear HO_11; clear HO_13; clear HO_16; clear HB; have HO_11 := n0_; have HO_13 := n1_; have HO_16 := n2_; have HB := n3_; clear n0_ n1_ n2_ n3_; (try clear hb); (try clear hb2); (try clear hk); (try clear hi)))
                        go_ret
                        exact ⟨by first | rfl | (rw [HRA_.out]) | (simp only [HRA_.out]; done) | (simp only [← HRA_.out]; done) | (have HR_ := HRA_.out; simp_all) | (simp [errW_none, errW_some] <;> rfl) | (simp only [← hji49]; first | rfl | (simp [errW_none, errW_some] <;> rfl)) | (simp [*, errW_none, errW_some] <;> rfl), by repeat (first | (with_reducible first | exact HB.out | apply below_alloc | apply pw_below_drewN | apply below_drew1) | exact HB.out)⟩
                   ·
                    rw [if_neg c55] at H
                    have c55b0 : (((rd_T35 t221 (ji49)).f0) == ((rd_T35 l0 (ji49)).f0)) = false := beq_eq_false_iff_ne.mpr c55
                    have c55b1 : (((rd_T35 t221 (ji49)).f0) != ((rd_T35 l0 (ji49)).f0)) = true := bne_iff_ne.mpr c55
                    exact absurd H (by simp)
                  ·
                   rw [if_neg c54] at H
                   exact absurd H (by simp)
                 ·
                  replace c53 := Bool.eq_false_iff.mpr c53
                  subst c53
                  have H1 : (some false) = some true := by rw [if_neg (show ¬ (false = true) by decide)] at H; exact H
                  clear H
                  have H := H1
                  clear H1
                  exact absurd H (by simp)
                ·
                 rw [if_neg c51] at H
                 exact absurd H (by simp)
               ·
                rw [if_neg c50] at H
                exact absurd H (by simp)
             ·
              replace c47 := Bool.eq_false_iff.mpr c47
              subst c47
              have H1 : (some false) = some true := by rw [if_neg (show ¬ (false = true) by decide)] at H; exact H
              clear H
              have H := H1
              clear H1
              exact absurd H (by simp)
            ·
             replace c45 := Bool.eq_false_iff.mpr c45
             subst c45
             have H1 : (some false) = some true := by rw [if_neg (show ¬ (false = true) by decide)] at H; exact H
             clear H
             have H := H1
             clear H1
             exact absurd H (by simp)
           ·
            replace c44 := Bool.eq_false_iff.mpr c44
            subst c44
            have H1 : (some false) = some true := by rw [if_neg (show ¬ (false = true) by decide)] at H; exact H
            clear H
            have H := H1
            clear H1
            exact absurd H (by simp)
/-- What a value of type 35 that is read fits. -/
def wfT35 (x : S35) : Prop := (Lit.int .i64 x.f0).wf = true ∧ (Lit.int .i64 x.f1).wf = true ∧ True

/-- THE ONE PURE STATEMENT of darninglaw16_CarveEdited. -/
def darninglaw16_CarveEdited.Pure : Prop := ∀ (l0 : List (S35)) (a1 : Int) (a2 : Int) (a3 : Int) (a4 : Int), l0.length ≤ maxLen → l0.length * 24 ≤ 140737488351232 → (∀ x ∈ l0, wfT35 x) → (Lit.int .i64 a1).wf = true → (Lit.int .i64 a2).wf = true → (Lit.int .i64 a3).wf = true → (Lit.int .u64 a4).wf = true → ∃ k, darninglaw16_CarveEdited.f k l0 a1 a2 a3 a4 = some true
theorem darninglaw16_CarveEdited.walk (P : darninglaw16_CarveEdited.Pure) (A0 : Option Addr) (c0 : Nat) (l0 : List (S35)) (a1 : Int) (a2 : Int) (a3 : Int) (a4 : Int) (w : World) (hr0 : Kd.C k35 w A0 l0.length l0) (hc0 : l0.length ≤ c0) (hm0 : l0.length ≤ maxLen) (y0 : l0.length * 24 ≤ 140737488351232) (hw0 : (∀ x ∈ l0, wfT35 x)) (w1 : (Lit.int .i64 a1).wf = true) (w2 : (Lit.int .i64 a2).wf = true) (w3 : (Lit.int .i64 a3).wf = true) (w4 : (Lit.int .u64 a4).wf = true) :
  Calls Try.prog 10 #[.slice A0 l0.length c0, .int .i64 a1, .int .i64 a2, .int .i64 a3, .int .u64 a4] w fun e w' => e = .returned (.bool true) ∧ Below w.heap.size w w' := by
 obtain ⟨k, h⟩ := P l0 a1 a2 a3 a4 hm0 y0 hw0 w1 w2 w3 w4
 refine (darninglaw16_CarveEdited.calls k A0 c0 l0 a1 a2 a3 a4 w hr0 hc0 h).mono ?_
 rintro e w' ⟨rfl, hd⟩
 exact ⟨rfl, hd⟩

end Go.Proofs.Ytglekonhdjploaa.XCarveEdited
