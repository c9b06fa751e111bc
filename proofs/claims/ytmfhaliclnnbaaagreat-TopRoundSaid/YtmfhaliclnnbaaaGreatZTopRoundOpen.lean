import Derived.Test.YtmfhaliclnnbaaaGreatZTopRoundM0
import Derived.ChangeSlices
import Derived.ChangeSame
import Derived.Deep.Slices
import Derived.OpenShut
import Derived.SizedLaws
namespace Go.Proofs.YtmfhaliclnnbaaaGreat.Open
open Go.ChangeShapes Go.WideShapes Go.RowKit Go.Proofs.YtmfhaliclnnbaaaGreatW.PrintWords
def Opens (P : Program) (t : TypeId) {α : Type} (d : Kd α) (wf : α → Prop) : Prop :=
 ∀ (H : Type) (enc : TypeId × Value → H) (w : World) (base : Nat) (spare : Nat → Bool) (held : Bool) (fuel : Nat) (cs : List Value) (x : DataW H × List MemPlace),
  DataW.trod enc P w base spare held fuel t cs = some x → ∃ a, d.K w a cs ∧ wf a
section
variable {P : Program} {t e : TypeId} {α β γ δ ε ζ : Type}
theorem opens_int {k : IntKind} (ht : P.underlying t = some (.int k)) : Opens P t (Kd.int k) (fun n => (Lit.int k n).wf = true) := by
 intro H enc w base spare held fuel cs x h;obtain ⟨n, rfl, _, hw⟩ := DataW.trod_int ht h;exact ⟨n, rfl, hw⟩
def pw (P : Program) (o : Nat) (fs : List Field) {α : Type} (d : Kd α) (wf : α → Prop) : Prop :=
 ∀ (H : Type) (enc : TypeId × Value → H) (w : World) (base : Nat) (spare : Nat → Bool) (held : Bool) (fuel : Nat) (cs : List Value), cs.length = o + d.sz →
  (∀ f ∈ fs, ∃ x, DataW.trod enc P w base spare held fuel f.type ((cs.drop f.offset).take (P.cellsOf f.type)) = some x) → ∃ a, d.K w a (cs.drop o) ∧ wf a
theorem fields_one {f : Field} {o : Nat} {d : Kd α} {wf : α → Prop} (h0 : f.offset = o) (hs : P.cellsOf f.type = d.sz) (O : Opens P f.type d wf) : pw P o [f] d wf := by
 subst h0;intro H enc w base spare held fuel cs hl h;obtain ⟨x, hx⟩ := h f (by simp);rw [hs, List.take_of_length_le (by simp; omega)] at hx;exact O H enc w base spare held fuel _ x hx
theorem fields_cons {f : Field} {fs : List Field} {d : Kd α} {d2 : Kd β} {wf : α → Prop} {wf2 : β → Prop} {o o2 : Nat} (h0 : f.offset = o) (ho : o2 = o + d.sz) (hs : P.cellsOf f.type = d.sz) (O : Opens P f.type d wf) (O2 : pw P o2 fs d2 wf2) : pw P o (f :: fs) (Kd.pair d d2) (fun x => wf x.1 ∧ wf2 x.2) := by
 subst h0;intro H enc w base spare held fuel cs hl h;obtain ⟨x, hx⟩ := h f (by simp);rw [hs] at hx;obtain ⟨a, ha, hwa⟩ := O H enc w base spare held fuel _ x hx;have hsz : (Kd.pair d d2).sz = d.sz + d2.sz := rfl;obtain ⟨b, hb, hwb⟩ := O2 H enc w base spare held fuel cs (by omega) (fun g hg => h g (by simp [hg]));refine ⟨(a, b), ⟨_, _, ?_, ha, hb⟩, hwa, hwb⟩;rw [ho, ← List.drop_drop];exact (List.take_append_drop _ _).symm
theorem opens_struct {fs : Array Field} {l : List Field} {d : Kd α} {wf : α → Prop} (ht : P.underlying t = some (.struct fs)) (hl : fs.toList = l) (hs : P.cellsOf t = d.sz) (O : pw P 0 l d wf) : Opens P t d wf := by
 subst hl;intro H enc w base spare held fuel cs x h;obtain ⟨xs, n, _, _, hl, hxl, hf⟩ := DataW.trod_struct ht h;obtain ⟨a, ha, hw⟩ := O H enc w base spare held n cs (by omega) (fun f hm => by
  obtain ⟨i, hi, he⟩ := List.getElem_of_mem hm;have h1 := hf i f (by rw [← Array.getElem?_toList, List.getElem?_eq_getElem hi, he]);rw [List.getElem?_eq_getElem (by simp at hi; omega)] at h1;exact ⟨_, h1⟩)
 exact ⟨a, ha, hw⟩
theorem struct_arg {H : Type} {enc : TypeId × Value → H} {w : World} {base : Nat} {spare : Nat → Bool} {held : Bool} {vs : Array Value} {dt : DataW H} {ps : List MemPlace} {d : Kd α} {wf : α → Prop} (O : Opens P t d wf) (h : DataW.Trod enc P w base spare held t (.agg vs) dt ps) : ∃ a : α, d.K w a vs.toList ∧ wf a := by
 obtain ⟨fuel, hf⟩ := h;exact O H enc w base spare held fuel _ _ hf
end
end Go.Proofs.YtmfhaliclnnbaaaGreat.Open
