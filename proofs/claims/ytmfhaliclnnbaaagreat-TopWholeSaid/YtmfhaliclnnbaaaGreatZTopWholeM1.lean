import Derived.OrdersHeld
import Derived.Deep.RegionHeld3
import Derived.Laws.BitsLemmas
import Derived.RowKit
import Derived.Test.YtmfhaliclnnbaaaGreatZTopWholeM0
import Derived.Laws.StructEq
import Derived.Test.YtmfhaliclnnbaaaGreatProg
import Derived.Below
import Derived.Deep.Draws
import Derived.Deep.AppendLies
import Derived.Maps.AppendAt
import Derived.OwnWalk
import Derived.Laws.BytesArg
import Derived.Laws.MakeOwn
import Derived.Laws.OwnMore
import Derived.Deep.OwnRows
import Derived.Tactics
import Derived.Lib.ConvBytes
import Derived.Laws.Slices
import Derived.WalkKit
import Derived.KernelRfl
import Derived.RowKit3
import Derived.Deep.LoopGhost
import Derived.Deep.QuietTactic
import Derived.BigQuiet
import Derived.WideLaws
import Derived.Deep.DeepCutAuto
import Derived.Deep.CutBlock
import Derived.Laws.Rows
import Derived.Lib.AppendStr
import Derived.ArgAppend
import Derived.Laws.IdiomCopy
import Derived.Shelf.SlicesQ.IndexFunc
import Derived.Lib.SliceRun
import Derived.Lib.Hide
import Derived.Deep.RegionWith
import Derived.WalkSpells
namespace Go.Proofs.YtmfhaliclnnbaaaGreatW.PrintLast
section
variable{P:Program}{ops:Array Oper}{Q:Exit->Act->World->Prop}{md:Region.Mode}{S:World->Prop}{ds:List Nat}
def Region.reachB (md : Region.Mode) (ops : Array Oper) (i : Nat) : Nat → Nat → Bool
  |0,_=>false
  | fuel + 1, d => match ops[d]? with
    |some o=>o.after.any fun e=>Region.binds md e&&(e.on==i||Region.reachB md ops i fuel e.on)
    |none=>false
def Region.closedB (md : Region.Mode) (ops : Array Oper) (listed : Array Bool) : Bool :=
  (List.range ops.size).all fun j=>!listed.getD j false||match ops[j]? with
    |some o=>o.after.all fun e=>!Region.binds md e||listed.getD e.on false
    |none=>true
def Region.lastB(md:Region.Mode)(ops:Array Oper)(listed:Array Bool)(ds:List Nat)(i:Nat):Bool:=
  ds.all fun d=>listed.getD d true||Region.reachB md ops i ops.size d
def lp(md:Region.Mode)(ops:Array Oper)(listed:Array Bool):Prop:=
  ∀ j oj,ops[j]? =some oj->listed.getD j false=true→∀ e∈oj.after,Region.binds md e=true->listed.getD e.on false=true
theorem Region.closedB_spec{listed:Array Bool}(h:Region.closedB md ops listed=true):lp md ops listed:=by
  intro j oj hj hl e he hb;have hlt:j<ops.size:=(Array.getElem?_eq_some_iff.1 hj).1;have h1:=List.all_eq_true.1 h j (List.mem_range.2 hlt);simp only[hl,hj,Bool.not_true,Bool.false_or]at h1;have h2:=Array.all_eq_true_iff_forall_mem.1 h1 e he;simpa[hb]using h2
theorem lp.set{listed:Array Bool}{i:Nat}(h:lp md ops listed)(hi:i∈Region.ready md ops listed):lp md ops (listed.setIfInBounds i true):=by
  obtain⟨_,oi,hoi,hall⟩:=mem_ready.1 hi;intro j oj hj hl e he hb;by_cases hij:i=j
  · subst hij
    have:oj=oi:=Option.some.inj (hj.symm.trans hoi)
    subst this
    exact getD_set_true (hall e he hb)
  · rw [getD_set_ne false hij] at hl
    exact getD_set_true (h j oj hj hl e he hb)
theorem Region.reach_listed{listed:Array Bool}{i:Nat}(hc:lp md ops listed):∀ (fuel d:Nat),Region.reachB md ops i fuel d=true->listed.getD d false=true->listed.getD i false=true
  |0,_,h,_=>by simp[Region.reachB]at h
  | fuel + 1, d, h, hl => by
    unfold Region.reachB at h
    cases ho:ops[d]? with
    |none=>rw[ho]at h;simp at h
    | some o =>
      rw[ho]at h
      obtain⟨e,he,h1⟩:=Array.any_eq_true'.1 h
      simp only[Bool.and_eq_true,Bool.or_eq_true,beq_iff_eq]at h1
      have hle:=hc d o ho hl e he h1.1
      rcases h1.2 with h2|h2
      · rw[<-h2];exact hle
      · exact Region.reach_listed hc fuel e.on h2 hle
theorem Region.reach_not_ready{listed:Array Bool}{i d fuel:Nat}(hc:lp md ops listed)(hr:Region.reachB md ops i fuel d=true)(hun:listed.getD i true=false):d ∉ Region.ready md ops listed:=by
  intro hd;obtain⟨_,o,ho,hall⟩:=mem_ready.1 hd;have hi:listed.getD i false=true:=by
    cases fuel with
    |zero=>simp[Region.reachB]at hr
    | succ n =>
      unfold Region.reachB at hr;rw[ho]at hr;obtain⟨e,he,h1⟩:=Array.any_eq_true'.1 hr;simp only[Bool.and_eq_true,Bool.or_eq_true,beq_iff_eq]at h1;have hle:=hall e he h1.1;rcases h1.2 with h2|h2
      · rw[<-h2];exact hle
      · exact Region.reach_listed hc n e.on h2 hle
  rcases Nat.lt_or_ge i listed.size with h'|h'
  · simp [h'] at hun hi
    rw[hun]at hi
    cases hi
  · simp[Array.getElem?_eq_none h']at hun
def bf (P : Program) (md : Region.Mode) (ops : Array Oper) (Q : Exit → Act → World → Prop) (S : World → Prop) (ds : List Nat) : Nat → Array Bool → Act → World → Prop
  |0,listed,a,w=>Region.ready md ops listed=[]/\Q .normal a w
  | fuel + 1, listed, a, w =>
    (Region.ready md ops listed=[]->Q .normal a w)∧
    ∀ i∈Region.ready md ops listed,wpOp P ops Q i (fun a' w'=>(i ∉ ds->S w->S w')/\bf P md ops Q S ds fuel (listed.setIfInBounds i true) a' w') a w
theorem yt:∀ (fuel:Nat) (listed:Array Bool) (a:Act) (w:World),bf P md ops Q S ds fuel listed a w->wpAny P md ops Q fuel listed a w
  |0,_,_,_,h=>h
  |fuel+1,_,_,_,h=>⟨h.1,fun i hi=>wpOp_mono (fun a' w' h'=>yt fuel _ a' w' h'.2) (h.2 i hi)⟩
theorem qb2 {i : Nat} {oi : Oper} {v : Value} (hi : ops[i]? = some oi) (hsel : ∀ (j : Nat) (o : Oper) cs b, ops[j]? = some o → o.op ≠ .select cs b) (hQ : ∀ c a w, Q (.panic c) (a.put oi.dst v) w → Q (.panic c) a w) (n : Nat) : ∀ (fuel : Nat) (listed : Array Bool) (a : Act) (w : World), (∀ j oj, ops[j]? = some oj → j ≠ i → listed.getD j true = false → (∀ e ∈ oj.after, Region.binds md e = true → e.on ≠ i) → oi.apart ops oj = true) → lp md ops listed → (∀ d ∈ ds, listed.getD d true = false → Region.reachB md ops i n d = true) → i ∈ Region.ready md ops listed → YieldsIf P ops S oi v a → S w → bf P md ops Q S ds fuel (listed.setIfInBounds i true) (a.put oi.dst v) w → bf P md ops Q S ds (fuel + 1) listed a w := by
  intro fuel
  induction fuel with
  | zero =>
    intro listed a w _ _ _ hr hy hS H;refine⟨fun h=>(by rw[h]at hr;cases hr),fun j hj=>?_⟩;by_cases hji:j=i
    · subst hji;exact hy.wpOp hi hS ⟨fun _ h=>h,H⟩
    · have := ready_mono hj hji
      rw[H.1]at this
      cases this
  | succ fuel ih =>
    intro listed a w hfree hc hd hr hy hS H;refine⟨fun h=>(by rw[h]at hr;cases hr),fun j hj=>?_⟩;by_cases hji:j=i
    · subst hji;exact hy.wpOp hi hS ⟨fun _ h=>h,H⟩
    · have h1 := H.2 j (ready_mono hj hji)
      obtain⟨hjun,oj,hoj,hall⟩:=mem_ready.1 hj
      have hiun:=(mem_ready.1 hr).1
      have hnot:∀ e∈oj.after,Region.binds md e=true->e.on≠i:=fun e he hb heq=>by
        have h1:=hall e he hb;rw[heq]at h1;rcases Nat.lt_or_ge i listed.size with h'|h'
        · simp[h']at hiun h1;rw[hiun]at h1;cases h1
        · simp[Array.getElem?_eq_none h']at h1
      have hjd:j ∉ ds:=fun hm=>Region.reach_not_ready hc (hd j hm hjun) hiun hj
      have h2:=wpOp_putIf hoj (hfree j oj hoj hji hjun hnot) (fun cs b=>hsel i oi cs b hi) (fun cs b=>hsel j oj cs b hoj) hQ hy h1
      have hfree':∀ k ok,ops[k]? =some ok->k≠i->(listed.setIfInBounds j true).getD k true=false→
          (∀ e∈ok.after,Region.binds md e=true->e.on≠i)->oi.apart ops ok=true:=fun k ok hk hki hun hno=>by
        refine hfree k ok hk hki ?_ hno
        by_cases hjk:j=k
        · subst hjk;exact hjun
        · rw[getD_set_ne true hjk]at hun;exact hun
      have hd':∀ d∈ds,(listed.setIfInBounds j true).getD d true=false->Region.reachB md ops i n d=true:=fun d hm hun=>by
        refine hd d hm ?_;by_cases hjk:j=d
        · subst hjk;exact hjun
        · rw[getD_set_ne true hjk]at hun;exact hun
      refine wpOp_mono (fun a' w' h3=>⟨h3.2.1,ih (listed.setIfInBounds j true) a' w' hfree' (hc.set hj) hd' (ready_mono hr (Ne.symm hji)) h3.1 (h3.2.1 hjd hS) ?_⟩) h2
      rw[Array.setIfInBounds_comm _ _ hji]
      exact h3.2.2
theorem qeh {i : Nat} {oi : Oper} {v : Value} (hi : ops[i]? = some oi) (hsel : ∀ (j : Nat) (o : Oper) cs b, ops[j]? = some o → o.op ≠ .select cs b) (hQ : ∀ c a w, Q (.panic c) (a.put oi.dst v) w → Q (.panic c) a w) : ∀ (fuel : Nat) (listed : Array Bool) (a : Act) (w : World), (∀ j oj, ops[j]? = some oj → j ≠ i → listed.getD j true = false → (∀ e ∈ oj.after, Region.binds md e = true → e.on ≠ i) → oi.apart ops oj = true) → i ∈ Region.ready md ops listed → Yields P ops oi v a → bf P md ops Q S ds fuel (listed.setIfInBounds i true) (a.put oi.dst v) w → bf P md ops Q S ds (fuel + 1) listed a w := by
  intro fuel
  induction fuel with
  | zero =>
    intro listed a w _ hr hy H;refine⟨fun h=>(by rw[h]at hr;cases hr),fun j hj=>?_⟩;by_cases hji:j=i
    · subst hji;exact(hy.yieldsIf (S:=fun _=>True)).wpOp hi trivial ⟨fun _ h=>h,H⟩
    · have := ready_mono hj hji
      rw[H.1]at this
      cases this
  | succ fuel ih =>
    intro listed a w hfree hr hy H;refine⟨fun h=>(by rw[h]at hr;cases hr),fun j hj=>?_⟩;by_cases hji:j=i
    · subst hji;exact(hy.yieldsIf (S:=fun _=>True)).wpOp hi trivial ⟨fun _ h=>h,H⟩
    · have h1 := H.2 j (ready_mono hj hji)
      obtain⟨hjun,oj,hoj,hall⟩:=mem_ready.1 hj
      have hiun:=(mem_ready.1 hr).1
      have hnot:∀ e∈oj.after,Region.binds md e=true->e.on≠i:=fun e he hb heq=>by
        have h1:=hall e he hb;rw[heq]at h1;rcases Nat.lt_or_ge i listed.size with h'|h'
        · simp[h']at hiun h1;rw[hiun]at h1;cases h1
        · simp[Array.getElem?_eq_none h']at h1
      have h2:=wpOp_put hoj (hfree j oj hoj hji hjun hnot) (fun cs b=>hsel i oi cs b hi) (fun cs b=>hsel j oj cs b hoj) hQ hy h1
      have hfree':∀ k ok,ops[k]? =some ok->k≠i->(listed.setIfInBounds j true).getD k true=false→
          (∀ e∈ok.after,Region.binds md e=true->e.on≠i)->oi.apart ops ok=true:=fun k ok hk hki hun hno=>by
        refine hfree k ok hk hki ?_ hno
        by_cases hjk:j=k
        · subst hjk;exact hjun
        · rw[getD_set_ne true hjk]at hun;exact hun
      refine wpOp_mono (fun a' w' h3=>⟨h3.2.1,ih (listed.setIfInBounds j true) a' w' hfree' (ready_mono hr (Ne.symm hji)) h3.1 ?_⟩) h2
      rw[Array.setIfInBounds_comm _ _ hji]
      exact h3.2.2
theorem qdw{i:Nat}{oi:Oper}{v:Value}{fuel:Nat}{listed:Array Bool}{a:Act}{w:World}(hi:ops[i]? =some oi)
    (hs:Region.noSelect ops=true) (hf:Region.free md ops listed i=true) (hr:(Region.ready md ops listed).contains i=true)
    (hc:Region.closedB md ops listed=true) (hl:Region.lastB md ops listed ds i=true)
    (hQ:∀ c a w,Q (.panic c) (a.put oi.dst v) w->Q (.panic c) a w) (hy:YieldsIf P ops S oi v a) (hS:S w)
    (h:bf P md ops Q S ds fuel (listed.setIfInBounds i true) (a.put oi.dst v) w):bf P md ops Q S ds (fuel+1) listed a w:=
  qb2 hi (Region.noSelect_spec hs) hQ ops.size fuel listed a w (Region.free_spec hi hf) (Region.closedB_spec hc)
    (fun d hm hun=>by have:=List.all_eq_true.1 hl d hm;rw[hun]at this;simpa using this) (by simpa using hr) hy hS h
theorem qeg{rs:List Nat}{fuel:Nat}{listed:Array Bool}{a:Act}{w:World}(hr:Region.ready md ops listed=rs)(hne:rs≠[])
    (h:∀ i∈rs,wpOp P ops Q i (fun a' w'=>(i ∉ ds->S w->S w')/\bf P md ops Q S ds fuel (listed.setIfInBounds i true) a' w') a w):bf P md ops Q S ds (fuel+1) listed a w:=
  ⟨fun h0=>absurd (hr ▸ h0) hne,hr ▸ h⟩
theorem qdv{listed:Array Bool}{a:Act}{w:World}(hr:Region.ready md ops listed=[])(h:Q .normal a w):
    ∀ fuel,bf P md ops Q S ds fuel listed a w
  |0=>⟨hr,h⟩
  |_+1=>⟨fun _=>h,by rw[hr];simp⟩
theorem qdx{id:Nat}{a:Act}{w:World}(hm:P.follows .mixedOrders=true)
    (h:bf P .any ops Q S ds ops.size (Array.replicate ops.size false) a {w with drawn:=w.drawn+1}):(Code.region id ops true).wp P Q a w:=
  wp_region_any hm (yt _ _ _ _ h)
end
section
variable{P:Program}{ops:Array Oper}{Q:Exit->Act->World->Prop}{md:Region.Mode}{S:World->Prop}{ds:List Nat}
def ir(P:Program)(md:Region.Mode)(ops:Array Oper)(Q:Exit->Act->World->Prop)(S:World->Prop)(ds:List Nat)(fuel:Nat)(listed:Array Bool)(a:Act)(w:World)(rs:List Nat):Prop:=
  ∀ i∈rs,wpOp P ops Q i (fun a' w'=>(i ∉ ds->S w->S w')/\bf P md ops Q S ds fuel (listed.setIfInBounds i true) a' w') a w
theorem ir.nil{fuel:Nat}{listed:Array Bool}{a:Act}{w:World}:ir P md ops Q S ds fuel listed a w []:=fun _ h=>by cases h
theorem ir.cons{fuel:Nat}{listed:Array Bool}{a:Act}{w:World}{i:Nat}{o:Oper}{rs:List Nat}(ho:ops[i]? =some o)(hd:i ∉ ds)(h:∀ K':Act->World->Prop,Shut (∀ a w,S w->(S w->bf P md ops Q S ds fuel (listed.setIfInBounds i true) a w)->K' a w)->if Region.wanted o (yielded ops a.tmps)=true then Oper.wp P o a w K' Q else K' (a.put o.dst undef) w)(hs:ir P md ops Q S ds fuel listed a w rs):ir P md ops Q S ds fuel listed a w (i::rs):=fun j hj=>by
  rcases List.mem_cons.1 hj with rfl|hj
  · exact wpOp_step ho (fun K' hK=>h K' (fun a w hS hW=>hK a w ⟨fun _ _=>hS,hW hS⟩))
  · exact hs j hj
theorem ir.cons_last{fuel:Nat}{listed:Array Bool}{a:Act}{w:World}{i:Nat}{o:Oper}{rs:List Nat}(ho:ops[i]? =some o)(hd:i∈ds)(h:∀ K':Act->World->Prop,Shut (∀ a w,bf P md ops Q S ds fuel (listed.setIfInBounds i true) a w->K' a w)->if Region.wanted o (yielded ops a.tmps)=true then Oper.wp P o a w K' Q else K' (a.put o.dst undef) w)(hs:ir P md ops Q S ds fuel listed a w rs):ir P md ops Q S ds fuel listed a w (i::rs):=fun j hj=>by
  rcases List.mem_cons.1 hj with rfl|hj
  · exact wpOp_step ho (fun K' hK=>h K' (fun a w hW=>hK a w ⟨fun hn=>absurd hd hn,hW⟩))
  · exact hs j hj
theorem qz{rs:List Nat}{fuel:Nat}{listed:Array Bool}{a:Act}{w:World}(hr:Region.ready md ops listed=rs)(hne:rs≠[])
    (h:ir P md ops Q S ds fuel listed a w rs):bf P md ops Q S ds (fuel+1) listed a w:=qeg hr hne h
theorem dj{id n:Nat}{a:Act}{w:World}(l:Array Bool)(hm:P.follows .mixedOrders=true)(hn:ops.size=n)(hl:Array.replicate n false=l)(hS:S w.drew)(h:S w.drew->bf P .any ops Q S ds n l a w.drew):(Code.region id ops true).wp P Q a w:=by
  subst hn;subst hl;exact qdx hm (h hS)
def yr(md:Region.Mode)(ops:Array Oper)(ds:List Nat)(l l':Array Bool)(i:Nat):Bool:=
  Region.noSelect ops&&Region.free md ops l i&&(Region.ready md ops l).contains i&&Region.closedB md ops l&&Region.lastB md ops l ds i&&(l.setIfInBounds i true==l')
theorem take_{i:Nat}{N:Option Tmp}{oi:Oper}{v:Value}{fuel:Nat}{l:Array Bool}{a:Act}{w:World}(l':Array Bool)(hi:ops[i]? =some oi)(hN:oi.dst=N)(hc:yr md ops ds l l' i=true)(hQ:∀ c a w,Q (.panic c) (a.put oi.dst v) w->Q (.panic c) a w)(hy:YieldsIf P ops S oi v a)(hS:S w){a':Act}(ha:a.put N v=a')(h:bf P md ops Q S ds fuel l' a' w):bf P md ops Q S ds (fuel+1) l a w:=by
  subst ha;subst hN;simp only[yr,Bool.and_eq_true,beq_iff_eq]at hc;obtain⟨⟨⟨⟨⟨h1,h2⟩,h3⟩,h4⟩,h5⟩,h6⟩:=hc;subst h6;exact qdw hi h1 h2 h3 h4 h5 hQ hy hS h
def qg7(md:Region.Mode)(ops:Array Oper)(l l':Array Bool)(i:Nat):Bool:=
  Region.noSelect ops&&Region.free md ops l i&&(Region.ready md ops l).contains i&&(l.setIfInBounds i true==l')
theorem ja{i:Nat}{N:Option Tmp}{oi:Oper}{v:Value}{fuel:Nat}{l:Array Bool}{a:Act}{w:World}(l':Array Bool)(hi:ops[i]? =some oi)(hN:oi.dst=N)(hc:qg7 md ops l l' i=true)(hQ:∀ c a w,Q (.panic c) (a.put oi.dst v) w->Q (.panic c) a w)(hy:Yields P ops oi v a){a':Act}(ha:a.put N v=a')(h:bf P md ops Q S ds fuel l' a' w):bf P md ops Q S ds (fuel+1) l a w:=by
  subst ha;subst hN;simp only[qg7,Bool.and_eq_true,beq_iff_eq]at hc;obtain⟨⟨⟨h1,h2⟩,h3⟩,h6⟩:=hc;subst h6;exact qeh hi (Region.noSelect_spec h1) hQ fuel l a w (Region.free_spec hi h2) (by simpa using h3) hy h
def n9(md:Region.Mode)(ops:Array Oper)(l l':Array Bool)(i:Nat):Bool:=(Region.ready md ops l==[i])&&(l.setIfInBounds i true==l')
theorem ip{i:Nat}{N:Option Tmp}{oi:Oper}{fuel:Nat}{l:Array Bool}{a:Act}{w:World}(l':Array Bool)(hi:ops[i]? =some oi)(hN:oi.dst=N)(hc:n9 md ops l l' i=true)(hd:i ∉ ds)(h:∀ K:Act->World->Prop,Shut (∀ a' w',S w'→(S w'→bf P md ops Q S ds fuel l' a' w')->K a' w')->if Region.wanted oi (yielded ops a.tmps)=true then Oper.wp P oi a w K Q else K (a.put N undef) w):bf P md ops Q S ds (fuel+1) l a w:=by
  subst hN;simp only[n9,Bool.and_eq_true,beq_iff_eq]at hc;obtain⟨h1,h2⟩:=hc;subst h2;exact qz h1 (by simp) (ir.cons hi hd (fun K hK=>h K hK) ir.nil)
theorem ko{i:Nat}{N:Option Tmp}{oi:Oper}{fuel:Nat}{l:Array Bool}{a:Act}{w:World}(l':Array Bool)(hi:ops[i]? =some oi)(hN:oi.dst=N)(hc:n9 md ops l l' i=true)(hd:i∈ds)(h:∀ K:Act->World->Prop,Shut (∀ a' w',bf P md ops Q S ds fuel l' a' w'→K a' w')->if Region.wanted oi (yielded ops a.tmps)=true then Oper.wp P oi a w K Q else K (a.put N undef) w):bf P md ops Q S ds (fuel+1) l a w:=by
  subst hN;simp only[n9,Bool.and_eq_true,beq_iff_eq]at hc;obtain⟨h1,h2⟩:=hc;subst h2;exact qz h1 (by simp) (ir.cons_last hi hd (fun K hK=>h K hK) ir.nil)
theorem fa{l:Array Bool}{a:Act}{w:World}{n:Nat}(hr:(Region.ready md ops l==[])=true)(h:Q .normal a w):bf P md ops Q S ds n l a w:=qdv (by simpa using hr) h n
theorem qgo{i j:Nat}{Ni Nj:Option Tmp}{oi oj:Oper}{fuel:Nat}{l:Array Bool}{a:Act}{w:World}(li lj:Array Bool)(hi:ops[i]? =some oi)(hj:ops[j]? =some oj)(hNi:oi.dst=Ni)(hNj:oj.dst=Nj)(hc:(Region.ready md ops l==[i,j]&&l.setIfInBounds i true==li&&l.setIfInBounds j true==lj)=true)(hdi:i ∉ ds)(hdj:j ∉ ds)(h1:∀ K:Act->World->Prop,Shut (∀ a' w',S w'→(S w'→bf P md ops Q S ds fuel li a' w')->K a' w')->if Region.wanted oi (yielded ops a.tmps)=true then Oper.wp P oi a w K Q else K (a.put Ni undef) w)(h2:∀ K:Act->World->Prop,Shut (∀ a' w',S w'→(S w'→bf P md ops Q S ds fuel lj a' w')->K a' w')->if Region.wanted oj (yielded ops a.tmps)=true then Oper.wp P oj a w K Q else K (a.put Nj undef) w):bf P md ops Q S ds (fuel+1) l a w:=by
  subst hNi;subst hNj;simp only[Bool.and_eq_true,beq_iff_eq]at hc;obtain⟨⟨h3,h4⟩,h5⟩:=hc;subst h4;subst h5;exact qz h3 (by simp) (ir.cons hi hdi (fun K hK=>h1 K hK) (ir.cons hj hdj (fun K hK=>h2 K hK) ir.nil))
def ly:Act->List (Tmp×Value)->Act
  |a,[]=>a
  |a,(n,v)::r=>ly (a.put (some n) v) r
theorem qkc{σ:Type}{fuel:Nat}{l:Array Bool}{a:Act}{w:World}(fuel':Nat)(l':Array Bool)(ns:σ->List (Tmp×Value))(F:σ->World->Prop)
    (hcont:∀ s w',F s w'→bf P md ops Q S ds fuel' l' (ly a (ns s)) w')
    (h:(∀ s w',F s w'→bf P md ops Q S ds fuel' l' (ly a (ns s)) w')->bf P md ops Q S ds fuel l a w):bf P md ops Q S ds fuel l a w:=h hcont
theorem mq{fuel:Nat}{l:Array Bool}{a a':Act}{w:World}(ha:a=a')(h:bf P md ops Q S ds fuel l a' w):bf P md ops Q S ds fuel l a w:=by
  subst ha;exact h
theorem qr2{oi:Oper}{N:Option Tmp}{a:Act}{w:World}{K:Act->World->Prop}(f:FuncId)(args:Array Value)(hw:Region.wanted oi (yielded ops a.tmps)=true)(hN:oi.dst=N)(hrun:(execOp a.eval oi).run P w=.ok (.enter f args) w)(h:Calls P f args w fun e w'=>∃ v,e=.returned v/\K (a.put N v) w'):if Region.wanted oi (yielded ops a.tmps)=true then Oper.wp P oi a w K Q else K (a.put N undef) w:=by
  rw[if_pos hw];subst hN;unfold Oper.wp;rw[hrun,Oper.upon_enter];refine h.mono fun e w'' hh=>?_;obtain⟨v,rfl,hk⟩:=hh;exact hk
theorem qca{f:FuncId}{fn:Func}(hf:P.funcs[f]? =some fn)(hname:(fn.name=="runtime.NumGoroutine")=false)(hb:fn.body.isSome=true)(args:Array Value)(w:World):(callFunc f args).run P w=.ok (.enter f args) w:=by
  have h1:fn.name≠"runtime.NumGoroutine":=by simpa using hname
  obtain⟨c,hc⟩:=Option.isSome_iff_exists.1 hb;simp[callFunc,hf,h1,hc]
theorem fv{oi:Oper}{N:Option Tmp}{a:Act}{w:World}{K:Act->World->Prop}{f:FuncId}{fn:Func}{ar9:Array Operand}{ts:Array TypeId}(hf:P.funcs[f]? =some fn)(hname:(fn.name=="runtime.NumGoroutine")=false)(hb:fn.body.isSome=true)(args:Array Value)(hw:Region.wanted oi (yielded ops a.tmps)=true)(hN:oi.dst=N)(hop:oi.op=.call {callee:=.value (.func f),args:=ar9,argTypes:=ts})(hargs:ar9.map a.eval=args)(h:Calls P f args w fun e w'=>∃ v,e=.returned v/\K (a.put N v) w'):if Region.wanted oi (yielded ops a.tmps)=true then Oper.wp P oi a w K Q else K (a.put N undef) w:=by
  refine qr2 f args hw hN ?_ h;have he:=qca hf hname hb args w;unfold execOp;simp[hop,resolve,Deferred.ofValue,invoke,Act.eval,hargs,he]
theorem qq2{rest:List Oper}{oi:Oper}{a:Act}{w:World}(N:Option Tmp)(hd:oi.dst=N)(hg:oi.guard=none){f:FuncId}{fn:Func}{ar9:Array Operand}{ts:Array TypeId}(hf:P.funcs[f]? =some fn)(hname:(fn.name=="runtime.NumGoroutine")=false)(hb:fn.body.isSome=true)(args:Array Value)(hop:oi.op=.call {callee:=.value (.func f),args:=ar9,argTypes:=ts})(hargs:ar9.map a.eval=args)(h:Calls P f args w fun e w'=>∃ v,e=.returned v/\wpList P ops Q rest (a.put N v) w'):wpList P ops Q (oi::rest) a w:=by
  refine wpList_plain hg fun K hK=>?_;have he:=qca hf hname hb args w;have hrun:(execOp a.eval oi).run P w=.ok (.enter f args) w:=by unfold execOp;simp[hop,resolve,Deferred.ofValue,invoke,Act.eval,hargs,he]
  unfold Oper.wp;rw[hrun,Oper.upon_enter];refine h.mono fun e w'' hh=>?_;obtain⟨v,rfl,hk⟩:=hh;subst hd;exact hK _ _ hk
theorem jt{oi:Oper}{N:Option Tmp}{a:Act}{w w1:World}{v:Value}{K:Act->World->Prop}(hw:Region.wanted oi (yielded ops a.tmps)=true)(hN:oi.dst=N)(hrun:(execOp a.eval oi).run P w=.ok (.value v) w1)(h:K (a.put N v) w1):if Region.wanted oi (yielded ops a.tmps)=true then Oper.wp P oi a w K Q else K (a.put N undef) w:=by
  rw[if_pos hw];subst hN;unfold Oper.wp;rw[hrun];exact h
theorem su{oi:Oper}{a:Act}{w w1:World}{K:Act->World->Prop}(hw:Region.wanted oi (yielded ops a.tmps)=true)(hN:oi.dst=none)(hrun:(execOp a.eval oi).run P w=.ok .skip w1)(h:K a w1):if Region.wanted oi (yielded ops a.tmps)=true then Oper.wp P oi a w K Q else K (a.put none undef) w:=by
  rw[if_pos hw];unfold Oper.wp;rw[hrun];show K (a.put oi.dst undef) w1;rw[hN];exact h
theorem bu(n:Int):IntKind.i64.wrap n=Go.RowKit.wrap64 n:=by unfold Go.RowKit.wrap64;exact IntKind.wrap_i64 n
theorem iu(n:Int):IntKind.i32.wrap n=Go.RowKit.wrap32 n:=by unfold Go.RowKit.wrap32;exact IntKind.wrap_i32 n
end
end Go.Proofs.YtmfhaliclnnbaaaGreatW.PrintLast
namespace Go.Proofs.YtmfhaliclnnbaaaGreatW.PrintLast
open Go.Proofs.YtmfhaliclnnbaaaGreatW.PrintWords (Aside0)
def xq(md:Region.Mode)(o:Oper):List Nat:=(o.after.toList.filter (fun e=>Region.binds md e)).map (fun e=>e.on)
def qft(md:Region.Mode)(ops:Array Oper)(i:Nat)(oi:Oper):List Nat:=(List.range ops.size).filter fun j=>!(j==i)&&match ops[j]? with
  |some oj=>!(oj.after.any (fun e=>Region.binds md e&&e.on==i)||oi.apart ops oj)
  |none=>false
def qy(md:Region.Mode)(ops:Array Oper):Bool×List (List Nat×List Nat):=(Region.noSelect ops,(List.range ops.size).map fun i=>match ops[i]? with
  |some o=>(xq md o,qft md ops i o)
  |none=>([],[]))
def tb(T:List (List Nat×List Nat))(l:List Bool)(i:Nat):Bool:=!l.getD i true&&match T[i]? with
  |some r=>r.1.all (fun j=>l.getD j false)
  |none=>false
def qa5(T:List (List Nat×List Nat))(l:List Bool):List Nat:=(List.range T.length).filter (tb T l)
def qhj(T:List (List Nat×List Nat))(l:List Bool)(i:Nat):Bool:=match T[i]? with
  |some r=>r.2.all (fun j=>l.getD j true)
  |none=>false
def qb8(T:List (List Nat×List Nat))(l:List Bool):Bool:=(List.range T.length).all fun j=>!l.getD j false||match T[j]? with
  |some r=>r.1.all (fun k=>l.getD k false)
  |none=>true
def qa4 (T : List (List Nat × List Nat)) (i : Nat) : Nat → Nat → Bool
  |0,_=>false
  | fuel + 1, d => match T[d]? with
    |some r=>r.1.any fun j=>j==i||qa4 T i fuel j
    |none=>false
def qkd(T:List (List Nat×List Nat))(l:List Bool)(ds:List Nat)(i:Nat):Bool:=ds.all fun d=>l.getD d true||qa4 T i T.length d
section
variable{md:Region.Mode}{ops:Array Oper}{T:Bool×List (List Nat×List Nat)}{l l' li lj lk:Array Bool}{ds:List Nat}{i j k:Nat}
theorem gd(l:Array Bool)(j:Nat)(b:Bool):l.getD j b=l.toList.getD j b:=by simp[Array.getD_eq_getD_getElem?,List.getD_eq_getElem?_getD]
theorem qe1(o:Oper)(p:Nat->Bool):o.after.all (fun e=>!Region.binds md e||p e.on)=(xq md o).all p:=by
  unfold xq;rw[<-Array.all_toList]
  induction o.after.toList with
  |nil=>rfl
  | cons e r ih =>
    rw[List.all_cons,ih,List.filter_cons];cases h:Region.binds md e <;> simp
theorem qlq(o:Oper)(p:Nat->Bool):o.after.any (fun e=>Region.binds md e&&p e.on)=(xq md o).any p:=by
  unfold xq;rw[<-Array.any_toList]
  induction o.after.toList with
  |nil=>rfl
  | cons e r ih =>
    rw[List.any_cons,ih,List.filter_cons];cases h:Region.binds md e <;> simp
theorem tc:(qy md ops).2.length=ops.size:=by simp[qy]
theorem yb{o:Oper}(h:ops[i]? =some o):(qy md ops).2[i]? =some (xq md o,qft md ops i o):=by
  have hi:=(Array.getElem?_eq_some_iff.1 h).1;unfold qy;rw[List.getElem?_map,List.getElem?_range hi,Option.map_some,h]
theorem ya(h:ops[i]? =none):(qy md ops).2[i]? =none:=by
  have hi:ops.size<=i:=Array.getElem?_eq_none_iff.1 h;exact List.getElem?_eq_none (by rw[tc];exact hi)
theorem qjw:tb (qy md ops).2 l.toList i=(!l.getD i true&&((ops[i]?).map (·.after.all fun e=>!Region.binds md e||l.getD e.on false)).getD false):=by
  unfold tb;rw[gd];cases h:ops[i]? with
  |none=>rw[ya h];rfl
  | some o =>
    rw[yb h];simp only[Option.map_some,Option.getD_some];rw[<-qe1];simp only[gd]
theorem qah:Region.ready md ops l=qa5 (qy md ops).2 l.toList:=by
  unfold Region.ready qa5;rw[tc];refine List.filter_congr (fun i _=>?_);rw[qjw]
theorem qka:Region.free md ops l i=qhj (qy md ops).2 l.toList i:=by
  unfold Region.free qhj;cases h:ops[i]? with
  |none=>rw[ya h]
  | some oi =>
    rw[yb h];simp only[qft];rw[List.all_filter];congr 1;funext j;rw[gd];cases hj:ops[j]? with
    |none=>cases (j==i) <;> cases (l.toList.getD j true) <;> simp
    | some oj =>
      cases (j==i) <;> cases (l.toList.getD j true) <;> cases (oj.after.any (fun e=>Region.binds md e&&e.on==i)||oi.apart ops oj) <;> simp_all
theorem qk7:Region.closedB md ops l=qb8 (qy md ops).2 l.toList:=by
  unfold Region.closedB qb8;rw[tc];congr 1;funext j;rw[gd];cases h:ops[j]? with
  |none=>rw[ya h]
  | some o =>
    rw[yb h];simp only;rw[<-qe1];simp only[gd]
theorem qh4:∀ (fuel d:Nat),Region.reachB md ops i fuel d=qa4 (qy md ops).2 i fuel d
  |0,_=>rfl
  | fuel + 1, d => by
    unfold Region.reachB qa4
    cases h:ops[d]? with
    |none=>rw[ya h]
    | some o =>
      rw[yb h]
      simp only
      rw[<-qlq]
      congr 1
      funext e
      rw[qh4 fuel]
theorem qo7:Region.lastB md ops l ds i=qkd (qy md ops).2 l.toList ds i:=by
  unfold Region.lastB qkd;rw[tc];congr 1;funext d;rw[gd,qh4]
theorem qbo(h:tb T.2 l.toList i=true)(hT:qy md ops=T):(Region.ready md ops l).contains i=true:=by
  subst hT;rw[qah];unfold qa5;rw[List.contains_iff_mem,List.mem_filter,List.mem_range];refine⟨?_,h⟩;unfold tb at h;rw[Bool.and_eq_true]at h;cases hq:(qy md ops).2[i]? with
  |none=>rw[hq]at h;simp at h
  |some r=>exact(List.getElem?_eq_some_iff.1 hq).1
theorem qdp(h:(l.toList.set i true==l'.toList)=true):(l.setIfInBounds i true==l')=true:=by
  rw[beq_iff_eq]at h ⊢;apply Array.ext';rw[Array.toList_setIfInBounds];exact h
def qon(T:Bool×List (List Nat×List Nat))(l l':List Bool)(i:Nat):Bool:=T.1&&qhj T.2 l i&&tb T.2 l i&&(l.set i true==l')
theorem qmk(hT:qy md ops=T)(h:qon T l.toList l'.toList i=true):qg7 md ops l l' i=true:=by
  simp only[qon,Bool.and_eq_true]at h;obtain⟨⟨⟨h1,h2⟩,h3⟩,h4⟩:=h;have h5:=qbo h3 hT;have h6:=qdp h4;subst hT;simp only[qg7,Bool.and_eq_true];exact⟨⟨⟨h1,by rw[qka];exact h2⟩,h5⟩,h6⟩
def qoc(T:Bool×List (List Nat×List Nat))(ds:List Nat)(l l':List Bool)(i:Nat):Bool:=T.1&&qhj T.2 l i&&tb T.2 l i&&qb8 T.2 l&&qkd T.2 l ds i&&(l.set i true==l')
theorem qp3(hT:qy md ops=T)(h:qoc T ds l.toList l'.toList i=true):yr md ops ds l l' i=true:=by
  simp only[qoc,Bool.and_eq_true]at h;obtain⟨⟨⟨⟨⟨h1,h2⟩,h3⟩,h4⟩,h5⟩,h6⟩:=h;have h7:=qbo h3 hT;have h8:=qdp h6;subst hT;simp only[yr,Bool.and_eq_true];exact⟨⟨⟨⟨⟨h1,by rw[qka];exact h2⟩,h7⟩,by rw[qk7];exact h4⟩,by rw[qo7];exact h5⟩,h8⟩
theorem qdf(hT:qy md ops=T)(h:(qa5 T.2 l.toList==[i]&&l.toList.set i true==l'.toList)=true):n9 md ops l l' i=true:=by
  simp only[Bool.and_eq_true]at h;obtain⟨h1,h2⟩:=h;subst hT;simp only[n9,Bool.and_eq_true];exact⟨by rw[qah];exact h1,qdp h2⟩
theorem qgp(hT:qy md ops=T)(h:(qa5 T.2 l.toList==[i,j]&&l.toList.set i true==li.toList&&l.toList.set j true==lj.toList)=true):(Region.ready md ops l==[i,j]&&l.setIfInBounds i true==li&&l.setIfInBounds j true==lj)=true:=by
  simp only[Bool.and_eq_true]at h ⊢;obtain⟨⟨h1,h2⟩,h3⟩:=h;subst hT;exact⟨⟨by rw[qah];exact h1,qdp h2⟩,qdp h3⟩
theorem qfw(hT:qy md ops=T)(h:(qa5 T.2 l.toList==[])=true):(Region.ready md ops l==[])=true:=by
  subst hT;rw[qah];exact h
def upM(B:List Nat)(d:Nat):List Nat->Nat
  |[]=>0
  |n::r=>(2 ^ n|||(if n<d then B.getD n 0 else 0))|||upM B d r
def ye(T:List (List Nat×List Nat))(B:List Nat):Bool:=(List.range T.length).all fun d=>match T[d]? with
  |some r=>(B.getD d 0|||upM B d r.1)==upM B d r.1
  |none=>false
theorem qko {B : List Nat} {d i : Nat} : ∀ {ns : List Nat}, (upM B d ns).testBit i = true → ∃ n ∈ ns, n = i ∨ (n < d ∧ (B.getD n 0).testBit i = true)
  |[],h=>by simp[upM]at h
  | n :: r, h => by
    unfold upM at h
    rw[Nat.testBit_or,Nat.testBit_or,Bool.or_eq_true,Bool.or_eq_true]at h
    rcases h with (h|h)|h
    · rw [Nat.testBit_two_pow] at h
      exact⟨n,List.mem_cons_self, .inl (by simpa using h)⟩
    · by_cases hn : n < d
      · rw [if_pos hn] at h
        exact⟨n,List.mem_cons_self, .inr ⟨hn,h⟩⟩
      · rw [if_neg hn] at h
        simp at h
    · obtain ⟨m, hm, h2⟩ := qko h
      exact⟨m,List.mem_cons_of_mem _ hm,h2⟩
theorem qe8{T:List (List Nat×List Nat)}{B:List Nat}(hB:ye T B=true):∀ (fuel d:Nat),d<fuel->d<T.length->(B.getD d 0).testBit i=true->qa4 T i fuel d=true
  |0,d,h,_,_=>by omega
  | fuel + 1, d, h, hd, hb => by
    have h1:=List.all_eq_true.1 hB d (List.mem_range.2 hd)
    cases hr:T[d]? with
    |none=>rw[hr]at h1;simp at h1
    | some r =>
      rw[hr]at h1
      simp only[beq_iff_eq]at h1
      have h2:(upM B d r.1).testBit i=true:=by rw[<-h1,Nat.testBit_or,hb,Bool.true_or]
      obtain⟨n,hn,h3⟩:=qko h2
      unfold qa4
      rw[hr]
      simp only
      rw[List.any_eq_true]
      refine⟨n,hn,?_⟩
      rcases h3 with rfl|⟨h4,h5⟩
      · simp
      · rw[qe8 hB fuel n (by omega) (by omega) h5,Bool.or_true]
def qqe(T:List (List Nat×List Nat))(B:List Nat)(l:List Bool)(ds:List Nat)(i:Nat):Bool:=ds.all fun d=>l.getD d true||(decide (d<T.length)&&(B.getD d 0).testBit i)
def qqq(T:Bool×List (List Nat×List Nat))(B:List Nat)(ds:List Nat)(l l':List Bool)(i:Nat):Bool:=T.1&&qhj T.2 l i&&tb T.2 l i&&qb8 T.2 l&&qqe T.2 B l ds i&&(l.set i true==l')
theorem qdr{B:List Nat}(hT:qy md ops=T)(hB:ye T.2 B=true)(h:qqq T B ds l.toList l'.toList i=true):yr md ops ds l l' i=true:=by
  refine qp3 hT ?_;simp only[qqq,qoc,Bool.and_eq_true]at h ⊢;obtain⟨⟨⟨⟨⟨h1,h2⟩,h3⟩,h4⟩,h5⟩,h6⟩:=h;refine⟨⟨⟨⟨⟨h1,h2⟩,h3⟩,h4⟩,?_⟩,h6⟩;unfold qqe at h5;unfold qkd;rw[List.all_eq_true]at h5 ⊢;intro d hd;have h7:=h5 d hd;rw[Bool.or_eq_true,Bool.and_eq_true,decide_eq_true_eq]at h7;rcases h7 with h7|⟨h8,h9⟩
  · rw[h7,Bool.true_or]
  · rw[qe8 hB _ d h8 h8 h9,Bool.or_true]
theorem qa8{P:Program}{Q:Exit->Act->World->Prop}{S:World->Prop}{n:Nat}{a:Act}{w:World}{B:List Nat}(hT:qy md ops=T)(hB:ye T.2 B=true)(h:Aside0 (qy md ops=T)->Aside0 (ye T.2 B=true)->bf P md ops Q S ds n l a w):bf P md ops Q S ds n l a w:=h ⟨hT⟩ ⟨hB⟩
end
def yo : Code → Nat → Option (Array Oper)
  | .region id ops _,k=>if id==k then some ops else none
  | .seq a b, k => match yo a k with
    |some o=>some o
    |none=>yo b k
  | .cond _ a b, k => match yo a k with
    |some o=>some o
    |none=>yo b k
  | .block _ c,k=>yo c k
  | .loop c,k=>yo c k
  | .scope c,k=>yo c k
  | .rangeFunc _ _ a b, k => match yo a k with
    |some o=>some o
    |none=>yo b k
  |_,_=>none
def qql(f:Func)(k:Nat):Array Oper:=((f.body.bind fun c=>yo c k)).getD #[]
end Go.Proofs.YtmfhaliclnnbaaaGreatW.PrintLast
namespace Go.Proofs.YtmfhaliclnnbaaaGreatW.PrintLast
section
variable{P:Program}{ops:Array Oper}{Q:Exit->Act->World->Prop}{md:Region.Mode}{S:World->Prop}{ds:List Nat}{T:Bool×List (List Nat×List Nat)}
end
end Go.Proofs.YtmfhaliclnnbaaaGreatW.PrintLast
namespace Go.Proofs.YtmfhaliclnnbaaaGreatW.PrintWords
open Go.RowKit
namespace Kd
section
variable{α:Type}{d:Kd α}{e base g o n cap:Nat}{ok okp:Nat->Prop}{w W:World}{v:Value}{xs:List α}
end
section
variable{α:Type}{enc:α->Value}{h1:∀ x,(enc x).oneCell'=true}{e base g o n cap:Nat}{ok:Nat->Prop}{W:World}{xs:List α}
end
end Kd
namespace Kd
def tag{α:Type}(f:Nat->Nat)(d:Kd α):Kd (α×Nat) where
  sz:=d.sz
  E:=d.E
  K:=fun w x cs=>d.K w x.1 cs
  M:=fun w base ok x cs=>d.M w base (fun k=>ok k/\f k=x.2) x.1 cs
  K_len:=fun h=>d.K_len h
  K_one:=fun h=>d.K_one h
  K_below:=fun hb h=>d.K_below hb h
  K_of_M:=fun h=>d.K_of_M h
  M_mono:=fun hok h=>d.M_mono (fun k hk=>⟨hok k hk.1,hk.2⟩) h
  M_bound:=fun h=>d.M_mono (fun _ hk=>⟨⟨hk.1.1,hk.2⟩,hk.1.2⟩) (d.M_bound h)
  M_move:=fun hm h=>d.M_move (fun k hk=>hm k hk.1) h
  M_lower:=fun hb h=>d.M_lower hb h
def raw(sz:Nat):Kd (List Value) where
  sz:=sz
  E:=[]
  K:=fun _ x cs=>cs=x/\cs.length=sz∧∀ u∈cs,u.oneCell'=true
  M:=fun _ _ _ x cs=>cs=x/\cs.length=sz∧∀ u∈cs,u.oneCell'=true
  K_len:=fun h=>h.2.1
  K_one:=fun h=>h.2.2
  K_below:=fun _ h=>h
  K_of_M:=fun h=>h
  M_mono:=fun _ h=>h
  M_bound:=fun h=>h
  M_move:=fun _ h=>h
  M_lower:=fun _ h=>h
def S{α:Type}(d:Kd α)(e:Nat)(w:World)(base:Nat)(ok:Nat->Prop)(v:Value)(xs:List α):Prop:=∃ f,(tag f d).R e w base ok v xs.zipIdx
section
variable{α β:Type}{d:Kd α}{d':Kd β}{e e':Nat}{w w1 W:World}{base b:Nat}{ok ok' okv oku:Nat->Prop}{u v:Value}{xs:List α}{ys:List β}
theorem S_nil(d:Kd α)(e:Nat)(w:World)(base:Nat)(ok:Nat->Prop):S d e w base ok (.slice none 0 0) []:=⟨fun _=>0,R_nil _ _ _ _ _⟩
end
section
variable{α β:Type}{d:Kd α}{d':Kd β}{e e' g:Nat}{w w1 W:World}{base b:Nat}{ok ok' okv oku:Nat->Prop}{u v:Value}{xs:List α}{ys:List β}
end
section
variable{P:Program}{ops:Array Oper}{rest:List Oper}{o:Oper}{a:Act}{Q:Exit->Act->World->Prop}{Kc:Act->World->Prop}{α:Type}
end
def gap {α : Type} (f : Nat → Nat) (d : Kd α) (i : Nat) (c : List Value) : Kd (α × Nat) where
  sz:=d.sz
  E:=d.E
  K:=fun w x cs=>(x.2=i->cs=c/\cs.length=d.sz∧∀ u∈cs,u.oneCell'=true)/\(x.2≠i->d.K w x.1 cs)
  M:=fun w base ok x cs=>(x.2=i->cs=c/\cs.length=d.sz∧∀ u∈cs,u.oneCell'=true)/\(x.2≠i->d.M w base (fun k=>ok k/\f k=x.2) x.1 cs)
  K_len:=fun {w x cs} h=>by
    by_cases hx:x.2=i
    · exact(h.1 hx).2.1
    · exact d.K_len (h.2 hx)
  K_one:=fun {w x cs} h=>by
    by_cases hx:x.2=i
    · exact(h.1 hx).2.2
    · exact d.K_one (h.2 hx)
  K_below:=fun hb h=>⟨h.1,fun hx=>d.K_below hb (h.2 hx)⟩
  K_of_M:=fun h=>⟨h.1,fun hx=>d.K_of_M (h.2 hx)⟩
  M_mono:=fun hok h=>⟨h.1,fun hx=>d.M_mono (fun k hk=>⟨hok k hk.1,hk.2⟩) (h.2 hx)⟩
  M_bound:=fun h=>⟨h.1,fun hx=>d.M_mono (fun _ hk=>⟨⟨hk.1.1,hk.2⟩,hk.1.2⟩) (d.M_bound (h.2 hx))⟩
  M_move:=fun hm h=>⟨h.1,fun hx=>d.M_move (fun k hk=>hm k hk.1) (h.2 hx)⟩
  M_lower:=fun hb h=>⟨h.1,fun hx=>d.M_lower hb (h.2 hx)⟩
def H{α:Type}(d:Kd α)(e:Nat)(w:World)(base:Nat)(ok:Nat->Prop)(v:Value)(xs:List α)(i:Int)(oki:Nat->Prop)(c:List Value):Prop:=
  (∀ k,oki k->ok k)∧∃ f,(gap f d i.toNat c).R e w base (fun k=>ok k∧¬ oki k) v xs.zipIdx
section
variable{α β:Type}{d:Kd α}{e e' g n cap:Nat}{w w1 W:World}{base:Nat}{ok ok' oki okp:Nat->Prop}{u v:Value}{xs:List α}{i:Int}{c:List Value}
end
section
variable{P:Program}{ops:Array Oper}{rest:List Oper}{o:Oper}{a:Act}{Q:Exit->Act->World->Prop}{α:Type}
end
end Kd
namespace Kd
theorem qn0{α:Type}{R:α->List Value->Prop}{size:Nat}{ps:List α}{cs:List Value}(h:fp R size ps cs)(hs0:0<size)(hR:∀ p c,R p c→∀ u∈c,u.oneCell'=true):∀ u∈cs,u.oneCell'=true:=by
  intro u hu;obtain⟨q,hq,rfl⟩:=List.mem_iff_getElem.1 hu;have hql:q / size<ps.length:=by rw[Nat.div_lt_iff_lt_mul hs0,←h.1];exact hq
  refine hR _ _ (h.2 (q / size) _ (List.getElem?_eq_getElem hql)) _ ?_;rw[List.mem_iff_getElem?];refine⟨q % size,?_⟩;rw[List.getElem?_take,if_pos (Nat.mod_lt _ hs0),List.getElem?_drop,Nat.mul_comm,Nat.div_add_mod,List.getElem?_eq_getElem hq]
def arr{α:Type}(n:Nat)(d:Kd α)(hs:0<d.sz):Kd (List α) where
  sz:=n*d.sz
  E:=d.E
  K:=fun w xs cs=>xs.length=n/\fp (d.K w) d.sz xs cs
  M:=fun w base ok xs cs=>xs.length=n/\fp (d.M w base ok) d.sz xs cs
  K_len:=fun h=>by rw[<-h.1];exact h.2.1
  K_one:=fun h=>qn0 h.2 hs (fun _ _ hk=>d.K_one hk)
  K_below:=fun hb h=>⟨h.1,h.2.imp_ (fun _ _ hk=>d.K_below hb hk)⟩
  K_of_M:=fun h=>⟨h.1,h.2.imp_ (fun _ _ hk=>d.K_of_M hk)⟩
  M_mono:=fun hok h=>⟨h.1,h.2.imp_ (fun _ _ hk=>d.M_mono hok hk)⟩
  M_bound:=fun h=>⟨h.1,h.2.imp_ (fun _ _ hk=>d.M_bound hk)⟩
  M_move:=fun hm h=>⟨h.1,h.2.imp_ (fun _ _ hk=>d.M_move hm hk)⟩
  M_lower:=fun hb h=>⟨h.1,h.2.imp_ (fun _ _ hk=>d.M_lower hb hk)⟩
section
variable{α:Type}{n:Nat}{d:Kd α}{hs:0<d.sz}{w:World}{base:Nat}{ok:Nat->Prop}{xs:List α}{cs:List Value}
end
section
variable{α:Type}{n:Nat}{enc:α->Value}{h1:∀ x,(enc x).oneCell'=true}{hs:0<(nf enc h1).sz}{w:World}{base:Nat}{ok:Nat->Prop}{xs:List α}{cs:List Value}
end
end Kd
section
variable{P:Program}
end
namespace Kd
section
variable{P:Program}{ops:Array Oper}{rest:List Oper}{o:Oper}{a:Act}{Q:Exit->Act->World->Prop}{Kc:Act->World->Prop}{α:Type}
end
section
variable{α:Type}{d:Kd α}{e:Nat}{w:World}{base:Nat}{ok:Nat->Prop}{v:Value}{xs:List α}
end
section
variable{P:Program}{ops:Array Oper}{rest:List Oper}{o:Oper}{a:Act}{Q:Exit->Act->World->Prop}{Kc:Act->World->Prop}{α:Type}
end
end Kd
namespace Kd
structure Heap {α:Type} (d:Kd α):Prop where
  K:∀ {w w1:World} {x:α} {cs:List Value},(∀ k,k<w.heap.size->w1.heap[k]? =w.heap[k]?)->d.K w x cs->d.K w1 x cs
theorem qk4{w w1:World}(hb:∀ k,k<w.heap.size->w1.heap[k]? =w.heap[k]?){a:Addr}{v:Value}(h:w.cell? a=some v):w1.cell? a=some v:=by
  have:=hb a.block (World.block_lt_of_cell? w a h);simpa[World.cell?,this]using h
theorem Heap.C{α:Type}{d:Kd α}(hd:Heap d){w w1:World}{A:Option Addr}{n:Nat}{xs:List α}(hb:∀ k,k<w.heap.size->w1.heap[k]? =w.heap[k]?)(h:d.C w A n xs):d.C w1 A n xs:=
  ⟨h.1,h.2.1,fun hn=>by
    obtain⟨ad,e,hc⟩:=h.2.2 hn
    refine⟨ad,e,fun j p hj=>?_⟩
    obtain⟨c,hs,hr,hcell⟩:=hc j p hj
    exact⟨c,hs,hd.K hb hr,fun i u hu=>qk4 hb (hcell i u hu)⟩⟩
section
variable{α:Type}{d:Kd α}{e base g n c:Nat}{ok:Nat->Prop}{w w0 W:World}{A:Option Addr}{xs:List α}
end
end Kd
def aq(w W:World)(S:Nat->Prop):Prop:=w.heap.size<=W.heap.size∧∀ i,i<w.heap.size→¬ S i->W.heap[i]? =w.heap[i]?
section
variable{w W W2:World}{S S2 S':Nat->Prop}
theorem aq.refl(w:World)(S:Nat->Prop):aq w w S:=⟨Nat.le_refl _,fun _ _ _=>rfl⟩
theorem aq.of_below(h:Below w.heap.size w W)(S:Nat->Prop):aq w W S:=⟨h.size,fun i hi _=>h.block i hi⟩
theorem aq.mono(h:aq w W S)(hs:∀ k,S k->S' k):aq w W S':=⟨h.1,fun i hi hn=>h.2 i hi (fun hk=>hn (hs i hk))⟩
theorem aq.then_(h:aq w W S)(k:aq W W2 S2)(hs:∀ k,S2 k->S k\/w.heap.size<=k):aq w W2 S:=
  ⟨Nat.le_trans h.1 k.1,fun i hi hn=>(k.2 i (Nat.lt_of_lt_of_le hi h.1) (fun h2=>(hs i h2).elim hn (fun h3=>by omega))).trans (h.2 i hi hn)⟩
theorem aq.below(h:aq w W S)(hb:Below W.heap.size W W2):aq w W2 S:=h.then_ (aq.of_below hb (fun _=>False)) (fun _ hk=>hk.elim)
theorem aq.alloc(h:aq w W S)(o:Obj):aq w (W.alloc o) S:=h.below (ca (Below.refl _ _) o)
theorem aq.drew(h:aq w W S):aq w W.drew S:=h
theorem aq.drewN(h:aq w W S)(m:Nat):aq w (W.drewN m) S:=h
theorem aq.setCell(h:aq w W S){p:Addr}(hp:S p.block\/w.heap.size<=p.block)(u:Value):aq w (W.setCell p u) S:=
  h.then_ (S2:=fun k=>k=p.block) ⟨by simp[World.setCell],fun i _ hn=>Below.heap_setCell W p u i hn⟩ (fun k hk=>by rw[hk];exact hp)
theorem aq.keep{g:Nat}(h:j4 w W g none)(k:aq W W2 S2)(hs:∀ k,S2 k->w.heap.size<=k):j4 w W2 g none:=
  ⟨Nat.le_trans h.1 k.1,fun i hi hg hr=>(k.2 i (Nat.lt_of_lt_of_le hi h.1) (fun h2=>by have:=hs i h2;omega)).trans (h.2 i hi hg hr)⟩
end
namespace Kd
section
variable{α:Type}{d:Kd α}{e base n c:Nat}{ok oki S S2:Nat->Prop}{w w0 W W1 W2:World}{v:Value}{A:Option Addr}{xs:List α}{i:Int}{cs:List Value}
theorem oq(h:d.R e W base ok v xs)(hk:aq W W2 S)(hne:∀ k,ok k→¬ S k):d.R e W2 base ok v xs:=R_step h (fun k ho hlt=>hk.2 k hlt (hne k ho))
end
end Kd
def yu(P:World->Prop)(W:World)(ok:Nat->Prop):Prop:=∀ W':World,(∀ k,ok k->k<W.heap.size->W'.heap[k]? =W.heap[k]?)->P W'
theorem qo3{W W1:World}{k:Nat}(h:W1.heap[k]? =W.heap[k]?)(hlt:k<W.heap.size):k<W1.heap.size:=by
  rw[Array.getElem?_eq_getElem hlt]at h;exact(Array.getElem?_eq_some_iff.1 h).1
namespace yu
variable{P Q:World->Prop}{W W1:World}{ok ok':Nat->Prop}
theorem now(h:yu P W ok):P W:=h W (fun _ _ _=>rfl)
theorem mono(h:yu P W ok)(hok:∀ k,ok k->ok' k):yu P W ok':=fun W' hW=>h W' (fun k hk hlt=>hW k (hok k hk) hlt)
theorem bound(h:yu P W ok):yu P W (fun k=>ok k/\k<W.heap.size):=fun W' hW=>h W' (fun k hk hlt=>hW k ⟨hk,hlt⟩ hlt)
theorem step(h:yu P W ok)(hm:∀ k,ok k->k<W.heap.size->W1.heap[k]? =W.heap[k]?):yu P W1 ok:=fun W' hW=>h W' (fun k hk hlt=>(hW k hk (qo3 (hm k hk hlt) hlt)).trans (hm k hk hlt))
theorem imp(h:yu P W ok)(hi:∀ W',P W'→Q W'):yu Q W ok:=fun W' hW=>hi W' (h W' hW)
theorem old(h:yu P W ok)(hb:Below W.heap.size W W1):yu P W1 (fun k=>ok k/\k<W.heap.size):=(h.bound).step (fun k _ hlt=>hb.block k hlt)
end yu
namespace Kd
def F{α:Type}(d:Kd α)(W:World)(ok:Nat->Prop)(A:Option Addr)(n:Nat)(xs:List α):Prop:=yu (fun W=>d.C W A n xs) W ok
def FK{α:Type}(d:Kd α)(W:World)(ok:Nat->Prop)(x:α)(c:List Value):Prop:=yu (fun W=>d.K W x c) W ok
section
variable{α β:Type}{d:Kd α}{e base n n' cc g N:Nat}{ok ok' okp S:Nat->Prop}{w w0 w1 W W1:World}{A A':Option Addr}{u v v1:Value}{xs:List α}{xs':List β}{d':Kd β}{x:α}{c:List Value}
theorem qry(d:Kd α)(W:World)(ok:Nat->Prop):F d W ok none ([]:List α).length []:=fun W' _=>qrx d W'
theorem qol(h:d.M W base ok x c):FK d W ok x c:=fun _ hW=>d.K_of_M (qmh h hW)
end
end Kd
namespace Kd
def y5(sz:Nat)(n:Nat)(inner:List Value):List (List Value):=(List.range n).map fun j=>(inner.drop (j*sz)).take sz
theorem nj(sz n:Nat)(inner:List Value):(y5 sz n inner).length=n:=by simp[y5]
theorem qk6{sz n:Nat}{inner:List Value}{j:Nat}(hj:j<n):(y5 sz n inner)[j]? =some ((inner.drop (j*sz)).take sz):=by simp[y5,hj]
theorem qcv{sz n:Nat}{inner:List Value}{j:Nat}{c:List Value}(h:(y5 sz n inner)[j]? =some c):c=(inner.drop (j*sz)).take sz:=by
  have hj:j<n:=by have:=(List.getElem?_eq_some_iff.1 h).1;rwa[nj]at this
  rw[qk6 hj]at h;injection h with h;exact h.symm
theorem qn1{α:Type}{Rr:α->List Value->Prop}{sz:Nat}{xs:List α}{inner:List Value}(h:fp Rr sz xs inner)(hR:∀ x c,Rr x c->c.length=sz∧∀ u∈c,u.oneCell'=true):fp (fun x cs=>cs=x/\cs.length=sz∧∀ u∈cs,u.oneCell'=true) sz (y5 sz xs.length inner) inner:=by
  refine⟨by rw[nj];exact h.1,fun j p hj=>?_⟩;have hjl:j<xs.length:=by have:=(List.getElem?_eq_some_iff.1 hj).1;rwa[nj]at this
  have hp:=qcv hj;exact⟨hp.symm,hR _ _ (h.2 j _ (List.getElem?_eq_getElem hjl))⟩
section
variable{α:Type}{d:Kd α}{e base n cc g:Nat}{ok ok' okp S:Nat->Prop}{w w1 W W1:World}{A:Option Addr}{u v v1:Value}{xs:List α}{x:α}{c:List Value}
def N{α:Type}(d:Kd α)(e:Nat)(w:World)(base:Nat)(ok:Nat->Prop)(v:Value)(xs:List α):Prop:=
  (∀ k,v.ownBlock=some k->ok k)∧∃ rows:List (List Value),rows.length=xs.length/\(raw d.sz).R e w base (fun k=>some k=v.ownBlock) v rows∧∀ (j:Nat) (x:α) (c:List Value),xs[j]? =some x->rows[j]? =some c->FK d w (fun k=>ok k/\some k≠v.ownBlock) x c
theorem R_N(h:d.R e w base ok v xs):N d e w base ok v xs:=by
  obtain⟨h0,inner,ho,hr⟩:=h;refine⟨h0,y5 d.sz xs.length inner,nj _ _ _,⟨fun k hk=>hk.symm,inner,by rw[nj];exact ho,qn1 hr (fun x c hp=>⟨d.K_len (d.K_of_M hp),d.K_one (d.K_of_M hp)⟩)⟩,fun j x c hx hc=>?_⟩;rw[qcv hc];exact qol (hr.2 j x hx)
theorem N_nil(d:Kd α)(e:Nat)(w:World)(base:Nat)(ok:Nat->Prop):N d e w base ok (.slice none 0 0) []:=R_N (R_nil _ _ _ _ _)
end
end Kd
namespace Kd
section
variable{α:Type}{d:Kd α}{W:World}{g n:Nat}{S ok:Nat->Prop}{A:Option Addr}{ad:Addr}{xs:List α}
end
end Kd
section
variable{w w' u:World}{m B g:Nat}{o:Obj}{row:Option Nat}{S:Nat->Prop}{a:Addr}{v:Value}
end
namespace Kd
section
variable{α:Type}{d:Kd α}{e base n m:Nat}{ok:Nat->Prop}{w w':World}{v:Value}{A:Option Addr}{xs:List α}
theorem qok(hq:w.drewN m=w')(h:d.C w A n xs):d.C w' A n xs:=by subst hq;exact C_drewN h m
end
end Kd
section
variable{P:Program}{d:Nat}{xs ys:Array Value}{f:Field}{fs:List Field}{a b:Value}{r s:Bool}{w:World}
theorem qmx(hn:(f.name=="_")=false)(ha:(part f.type xs f.offset).run P w=.ok a w)(hb:(part f.type ys f.offset).run P w=.ok b w)(he:(Op.equalIn d f.type a b).run P w=.ok r w):(Op.eqFields d xs ys [f]).run P w=.ok r w:=by
  have hn':f.name≠"_":=by simpa using hn
  simp only[Op.eqFields,if_pos hn',Sem.run_bind,ha,hb,he,Result.andThen_ok];cases r <;> simp
theorem qhf(hn:(f.name=="_")=false)(ha:(part f.type xs f.offset).run P w=.ok a w)(hb:(part f.type ys f.offset).run P w=.ok b w)(he:(Op.equalIn d f.type a b).run P w=.ok r w)(hr:(Op.eqFields d xs ys fs).run P w=.ok s w):(Op.eqFields d xs ys (f::fs)).run P w=.ok (r&&s) w:=by
  have hn':f.name≠"_":=by simpa using hn
  rw[Op.eqFields];simp only[if_pos hn',Sem.run_bind,ha,hb,he,Result.andThen_ok];cases r
  · simp
  · simpa using hr
theorem qqy{t:TypeId}{fs:Array Field}(hu:P.underlying t=some (.struct fs))(hp:P.stoodInHeld t=false)(h:(Op.eqFields d xs ys fs.toList).run P w=.ok r w):(Op.equalIn (d+1) t (.agg xs) (.agg ys)).run P w=.ok r w:=by
  have hf:P.fieldsOf t=fs:=by simp[Program.fieldsOf,hu]
  rw[run_equalIn_struct (P:=P) w d t xs ys (by rw[hf];exact hu) hp,hf];exact h
end
end Go.Proofs.YtmfhaliclnnbaaaGreatW.PrintWords
namespace Go.Proofs.YtmfhaliclnnbaaaGreatW.PrintWords
theorem fp.front{α:Type}{R:α->List Value->Prop}{size:Nat}{ps:List α}{cs c all:List Value}{p:α}(hp:R p c)(hc:c.length=size)(h:fp R size ps cs)(ha:c++cs=all):fp R size (p::ps) all:=by
  subst ha;refine⟨by rw[List.length_append,hc,h.1,List.length_cons,Nat.succ_mul,Nat.add_comm],fun j q hq=>?_⟩;cases j with
  | zero =>
    simp only[List.getElem?_cons_zero,Option.some.injEq]at hq;subst hq;rw[Nat.zero_mul,List.drop_zero,List.take_append_of_le_length (by omega),List.take_of_length_le (by omega)];exact hp
  | succ j =>
    simp only[List.getElem?_cons_succ]at hq;have h1:=h.2 j q hq;rw[Nat.succ_mul,List.drop_append,List.drop_of_length_le (by rw[hc];exact Nat.le_add_left _ _),List.nil_append,hc,Nat.add_sub_cancel];exact h1
theorem fp.c2{α:Type}{R:α->List Value->Prop}{ps:List α}{cs:List Value}{p:α}{va vb:Value}(hp:R p [va,vb])(h:fp R 2 ps cs):fp R 2 (p::ps) (va::vb::cs):=fp.front hp rfl h rfl
theorem fp.c3{α:Type}{R:α->List Value->Prop}{ps:List α}{cs:List Value}{p:α}{va vb vc:Value}(hp:R p [va,vb,vc])(h:fp R 3 ps cs):fp R 3 (p::ps) (va::vb::vc::cs):=fp.front hp rfl h rfl
theorem fp.c4{α:Type}{R:α->List Value->Prop}{ps:List α}{cs:List Value}{p:α}{va vb vc vd:Value}(hp:R p [va,vb,vc,vd])(h:fp R 4 ps cs):fp R 4 (p::ps) (va::vb::vc::vd::cs):=fp.front hp rfl h rfl
theorem fp.c5{α:Type}{R:α->List Value->Prop}{ps:List α}{cs:List Value}{p:α}{va vb vc vd ve:Value}(hp:R p [va,vb,vc,vd,ve])(h:fp R 5 ps cs):fp R 5 (p::ps) (va::vb::vc::vd::ve::cs):=fp.front hp rfl h rfl
theorem fp.c6{α:Type}{R:α->List Value->Prop}{ps:List α}{cs:List Value}{p:α}{va vb vc vd ve vf:Value}(hp:R p [va,vb,vc,vd,ve,vf])(h:fp R 6 ps cs):fp R 6 (p::ps) (va::vb::vc::vd::ve::vf::cs):=fp.front hp rfl h rfl
theorem fp.c7{α:Type}{R:α->List Value->Prop}{ps:List α}{cs:List Value}{p:α}{va vb vc vd ve vf vg:Value}(hp:R p [va,vb,vc,vd,ve,vf,vg])(h:fp R 7 ps cs):fp R 7 (p::ps) (va::vb::vc::vd::ve::vf::vg::cs):=fp.front hp rfl h rfl
theorem fp.c8{α:Type}{R:α->List Value->Prop}{ps:List α}{cs:List Value}{p:α}{va vb vc vd ve vf vg vh:Value}(hp:R p [va,vb,vc,vd,ve,vf,vg,vh])(h:fp R 8 ps cs):fp R 8 (p::ps) (va::vb::vc::vd::ve::vf::vg::vh::cs):=fp.front hp rfl h rfl
theorem fp.c9{α:Type}{R:α->List Value->Prop}{ps:List α}{cs:List Value}{p:α}{va vb vc vd ve vf vg vh vi:Value}(hp:R p [va,vb,vc,vd,ve,vf,vg,vh,vi])(h:fp R 9 ps cs):fp R 9 (p::ps) (va::vb::vc::vd::ve::vf::vg::vh::vi::cs):=fp.front hp rfl h rfl
theorem fp.c10{α:Type}{R:α->List Value->Prop}{ps:List α}{cs:List Value}{p:α}{va vb vc vd ve vf vg vh vi vj:Value}(hp:R p [va,vb,vc,vd,ve,vf,vg,vh,vi,vj])(h:fp R 10 ps cs):fp R 10 (p::ps) (va::vb::vc::vd::ve::vf::vg::vh::vi::vj::cs):=fp.front hp rfl h rfl
end Go.Proofs.YtmfhaliclnnbaaaGreatW.PrintWords
namespace Go.Proofs.YtmfhaliclnnbaaaGreatW.PrintLast
def up(b:Nat->Bool)(i:Nat):Nat->Bool:=fun j=>if j=i then true else b j
section
variable{P:Program}{ops:Array Oper}{Q:Exit->Act->World->Prop}{md:Region.Mode}{T:Bool×List (List Nat×List Nat)}{B:List Nat}{O:List Nat}{b:Nat->Bool}{i j n:Nat}
end
end Go.Proofs.YtmfhaliclnnbaaaGreatW.PrintLast
namespace Go.Proofs.YtmfhaliclnnbaaaGreatW.PrintWords
open Go.RowKit
end Go.Proofs.YtmfhaliclnnbaaaGreatW.PrintWords
namespace Go.Proofs.YtmfhaliclnnbaaaGreatW.PrintLast
section
variable{ops:Array Oper}{a:Act}{o og:Oper}{g:Nat}{t:Tmp}{u:Bool}
end
end Go.Proofs.YtmfhaliclnnbaaaGreatW.PrintLast
namespace Go.Proofs.YtmfhaliclnnbaaaGreatW.PrintWords
open Go.RowKit
section
variable{P:Program}{ops:Array Oper}{rest:List Oper}{o:Oper}{a:Act}{Q:Exit->Act->World->Prop}{W:World}
theorem il(hw:Region.wanted o (yielded ops a.tmps)=true)(h:wpList P ops Q ({o with guard:=none}::rest) a W):wpList P ops Q (o::rest) a W:=by
  have h1:Region.wanted {o with guard:=none} (yielded ops a.tmps)=true:=rfl;unfold wpList at h ⊢;rw[if_pos h1]at h;rw[if_pos hw];exact h
end
namespace Kd
section
variable{α:Type}{d:Kd α}{e base n cap g:Nat}{ok ok' okp:Nat->Prop}{w w1 W:World}{v v1:Value}{xs ys:List α}
end
section
variable{P:Program}{ops:Array Oper}{rest:List Oper}{o:Oper}{a:Act}{Q:Exit->Act->World->Prop}{Kc:Act->World->Prop}{α:Type}
end
end Kd
end Go.Proofs.YtmfhaliclnnbaaaGreatW.PrintWords
namespace Go.Proofs.YtmfhaliclnnbaaaGreatW.PrintMore
open Go.RowKit Go.Proofs.YtmfhaliclnnbaaaGreatW.PrintWords
namespace Kd
open Go.Proofs.YtmfhaliclnnbaaaGreatW.PrintWords.Kd
end Kd
namespace Kd
open Go.Proofs.YtmfhaliclnnbaaaGreatW.PrintWords.Kd
section
variable{α:Type}{d:Kd α}{e base g N:Nat}{ok:Nat->Prop}{W w1:World}{u v:Value}{xs:List α}
end
end Kd
theorem uf(k k':IntKind)(x y:Int):Builtin.max2 (.int k x) (.int k' y)=pure (.int k (if x<y then y else x)):=by simp only[Builtin.max2,gt_iff_lt]
theorem uh(k k':IntKind)(x y:Int):Builtin.min2 (.int k x) (.int k' y)=pure (.int k (if y<x then y else x)):=by simp only[Builtin.min2]
theorem xn(ats:Array TypeId)(ty:TypeId)(a b:Value):Builtin.max_ ats ty #[a,b]=(Builtin.max2 a b>>= fun s=>pure s):=by simp only[Builtin.max_,List.foldlM_cons,List.foldlM_nil]
theorem xp(ats:Array TypeId)(ty:TypeId)(a b:Value):Builtin.min_ ats ty #[a,b]=(Builtin.min2 a b>>= fun s=>pure s):=by simp only[Builtin.min_,List.foldlM_cons,List.foldlM_nil]
theorem ry(ats:Array TypeId)(ty:TypeId)(a b c:Value):Builtin.max_ ats ty #[a,b,c]=(Builtin.max2 a b>>= fun s=>Builtin.max2 s c>>= fun s=>pure s):=by simp only[Builtin.max_,List.foldlM_cons,List.foldlM_nil]
theorem r9(ats:Array TypeId)(ty:TypeId)(a b c:Value):Builtin.min_ ats ty #[a,b,c]=(Builtin.min2 a b>>= fun s=>Builtin.min2 s c>>= fun s=>pure s):=by simp only[Builtin.min_,List.foldlM_cons,List.foldlM_nil]
theorem ug(ats:Array TypeId)(ty:TypeId)(a b c d:Value):Builtin.max_ ats ty #[a,b,c,d]=(Builtin.max2 a b>>= fun s=>Builtin.max2 s c>>= fun s=>Builtin.max2 s d>>= fun s=>pure s):=by simp only[Builtin.max_,List.foldlM_cons,List.foldlM_nil]
theorem ui(ats:Array TypeId)(ty:TypeId)(a b c d:Value):Builtin.min_ ats ty #[a,b,c,d]=(Builtin.min2 a b>>= fun s=>Builtin.min2 s c>>= fun s=>Builtin.min2 s d>>= fun s=>pure s):=by simp only[Builtin.min_,List.foldlM_cons,List.foldlM_nil]
end Go.Proofs.YtmfhaliclnnbaaaGreatW.PrintMore
namespace Go.Proofs.YtmfhaliclnnbaaaGreatW.PrintWords
open Go.RowKit
section
variable{P:Program}{ops:Array Oper}{rest:List Oper}{o:Oper}{a:Act}{Q:Exit->Act->World->Prop}{W:World}
theorem ay{f:FuncId}{ar9:Array Operand}{ts:Array TypeId}(_ho:o.op=.call {callee:=.value (.func f),args:=ar9,argTypes:=ts})(h:wpList P ops Q (o::rest) a W):wpList P ops Q (o::rest) a W:=h
theorem di{b:Builtin}{xs:Array Operand}{ts:Array TypeId}(_ho:o.op=.call {callee:=.builtin b,args:=xs,argTypes:=ts})(h:wpList P ops Q (o::rest) a W):wpList P ops Q (o::rest) a W:=h
end
def mx(a b:Int):Int:=if a<b then b else a
def shl(k:IntKind)(x y:Int):Int:=k.wrap (x*2 ^ min y.toNat k.bits)
def shr(k:IntKind)(x y:Int):Int:=x / 2 ^ min y.toNat k.bits
theorem yc{k:IntKind}{x y j:Int}(h:shl k x y=j)(hy:y<=k.bits):k.wrap (x*2 ^ y.toNat)=j:=by rw[<-h];unfold shl;rw[Nat.min_eq_left (by omega)]
theorem ql9{k:IntKind}{x y j:Int}(h:shr k x y=j)(hy:y<=k.bits):x / 2 ^ y.toNat=j:=by rw[<-h];unfold shr;rw[Nat.min_eq_left (by omega)]
theorem qcx(w:World)(n:Nat):w.drewN n=w.drewN n:=rfl
namespace Kd
section
variable{α:Type}{d:Kd α}{e base:Nat}{ok:Nat->Prop}{W w1:World}{v:Value}{xs:List α}
end
section
variable{α:Type}{d:Kd α}{e base g n cap:Nat}{ok oki okp:Nat->Prop}{W:World}{xs:List α}{i:Int}{c:List Value}
end
section
variable{α:Type}{d:Kd α}{e base b b' g N:Nat}{ok ok1:Nat->Prop}{W W2 w1:World}{u v:Value}{xs ys:List α}{S:Nat->Prop}
end
end Kd
end Go.Proofs.YtmfhaliclnnbaaaGreatW.PrintWords
namespace Go.Proofs.YtmfhaliclnnbaaaGreatW.PrintWords
open Go.RowKit
namespace Kd
def V{α:Type}(d:Kd α)(_e:Nat)(W:World)(_base:Nat)(ok:Nat->Prop)(v:Value)(xs:List α):Prop:=∃ A c,v=.slice A xs.length c/\xs.length<=c/\F d W ok A xs.length xs
section
variable{α β:Type}{d:Kd α}{e base base' n m c g N' lo hi:Nat}{ok ok' S:Nat->Prop}{w W w1:World}{A:Option Addr}{ad:Addr}{u v v1:Value}{xs:List α}
theorem V_nil(d:Kd α)(e:Nat)(W:World)(base:Nat)(ok:Nat->Prop):V d e W base ok (.slice none 0 0) []:=⟨none,0,rfl,Nat.le_refl _,qry d W ok⟩
end
end Kd
end Go.Proofs.YtmfhaliclnnbaaaGreatW.PrintWords
namespace Go.Proofs.YtmfhaliclnnbaaaGreat.XTopWhole
open Go.RowKit Go.Proofs.YtmfhaliclnnbaaaGreatW.PrintWords Go.Proofs.YtmfhaliclnnbaaaGreatW.PrintLast Go.Proofs.YtmfhaliclnnbaaaGreatW.PrintMore
attribute [local go_sem] uf uh xn xp ry r9 ug ui
set_option linter.unusedVariables false
set_option linter.unusedSimpArgs false
set_option maxRecDepth 100000
set_option maxHeartbeats 8000000
def qr5:Option Int->Value
  |none=>.nilIface
  |some c=>.iface 0 (.int .i64 c)
theorem e8:qr5 none=.nilIface:=rfl
theorem e9(c:Int):qr5 (some c)=.iface 0 (.int .i64 c):=rfl
theorem qbj:(Tryz.prog.info? 3).map (fun i=>(i.zero,i.size,i.bytes))=some (some (.int .i64 0),1,8):=by kernel_rfl
theorem qr8:(Tryz.prog.info? 5).map (fun i=>(i.zero,i.size,i.bytes))=some (some (.int .u8 0),1,1):=by kernel_rfl
theorem wi:(Tryz.prog.info? 25).map (fun i=>(i.zero,i.size,i.bytes))=some (some (.int .u64 0),1,8):=by kernel_rfl
theorem mh:(Tryz.prog.info? 116).map (fun i=>(i.zero,i.size,i.bytes))=some (some (.agg #[(.int .i64 0),(.int .i64 0),(.bool false)]),3,24):=by kernel_rfl
theorem qf5:(Tryz.prog.info? 160).map (fun i=>(i.zero,i.size,i.bytes))=some (some (.agg #[(.int .i64 0),(.int .u64 0)]),2,16):=by kernel_rfl
structure S116 where
  f0:Int
  f1:Int
  f2:Bool
def qsm:S116:=⟨(0:Int),(0:Int),false⟩
def e6:Kd S116:=Kd.iso (Kd.pair (Kd.int .i64) (Kd.pair (Kd.int .i64) Kd.bool)) (fun x:S116=>(x.f0,x.f1,x.f2))
theorem qeu{w:World}{x:S116}{cs:List Value}(h:e6.K w x cs):cs=[.int .i64 x.f0, .int .i64 x.f1, .bool x.f2]:=by
  obtain⟨_,_,rfl,rfl,⟨_,_,rfl,rfl,rfl⟩⟩:=h;exact rfl
theorem qo6(w:World)(x:S116):e6.K w x [.int .i64 x.f0, .int .i64 x.f1, .bool x.f2]:=⟨[.int .i64 x.f0],[.int .i64 x.f1, .bool x.f2],rfl,rfl,⟨[.int .i64 x.f1],[.bool x.f2],rfl,rfl,rfl⟩⟩
theorem wj(w:World)(base:Nat)(ok:Nat->Prop)(x:S116):e6.M w base ok x [.int .i64 x.f0, .int .i64 x.f1, .bool x.f2]:=⟨[.int .i64 x.f0],[.int .i64 x.f1, .bool x.f2],rfl,rfl,⟨[.int .i64 x.f1],[.bool x.f2],rfl,rfl,rfl⟩⟩
def ab(xs:List S116)(i:Int):S116:=xs.getD i.toNat qsm
theorem fj{w:World}{A:Option Addr}{n:Nat}{xs:List S116}(h:Kd.C e6 w A n xs)(i:Int)(h0:0<=i)(h1:i<n):∃ ad,A=some ad/\w.cell? (ad.add (i.toNat*3))=some (.int .i64 (ab xs i).f0)/\w.cell? ⟨(ad.add (i.toNat*3)).block,(ad.add (i.toNat*3)).off+1,none⟩=some (.int .i64 (ab xs i).f1)/\w.cell? ⟨(ad.add (i.toNat*3)).block,(ad.add (i.toNat*3)).off+2,none⟩=some (.bool (ab xs i).f2):=by
  obtain⟨ad,c,e,_,hK,hc0⟩:=Kd.C_get h qsm i h0 h1;have hc:∀ j u,c[j]? =some u->w.cell? (ad.add (i.toNat*3+j))=some u:=hc0;obtain rfl:=qeu hK;exact⟨ad,e,hc 0 _ rfl,by rw[<-o5 _ _ 1 (by omega)];exact hc 1 _ rfl,by rw[<-o5 _ _ 2 (by omega)];exact hc 2 _ rfl⟩
structure S160 where
  f0:Int
  f1:Int
def vt:S160:=⟨(0:Int),(0:Int)⟩
def jp:Kd S160:=Kd.iso (Kd.pair (Kd.int .i64) (Kd.int .u64)) (fun x:S160=>(x.f0,x.f1))
theorem qev{w:World}{x:S160}{cs:List Value}(h:jp.K w x cs):cs=[.int .i64 x.f0, .int .u64 x.f1]:=by
  obtain⟨_,_,rfl,rfl,rfl⟩:=h;exact rfl
theorem n4{w:World}{base:Nat}{ok:Nat->Prop}{x:S160}{cs:List Value}(h:jp.M w base ok x cs):cs=[.int .i64 x.f0, .int .u64 x.f1]:=by
  obtain⟨_,_,rfl,rfl,rfl⟩:=h;exact rfl
theorem qo(w:World)(base:Nat)(ok:Nat->Prop)(x:S160):jp.M w base ok x [.int .i64 x.f0, .int .u64 x.f1]:=⟨[.int .i64 x.f0],[.int .u64 x.f1],rfl,rfl,rfl⟩
def bw(xs:List S160)(i:Int):S160:=xs.getD i.toNat vt
theorem qfr{w:World}{A:Option Addr}{n:Nat}{xs:List S160}(h:Kd.C jp w A n xs)(i:Int)(h0:0<=i)(h1:i<n):∃ ad,A=some ad/\w.cell? (ad.add (i.toNat*2))=some (.int .i64 (bw xs i).f0)/\w.cell? ⟨(ad.add (i.toNat*2)).block,(ad.add (i.toNat*2)).off+1,none⟩=some (.int .u64 (bw xs i).f1):=by
  obtain⟨ad,c,e,_,hK,hc0⟩:=Kd.C_get h vt i h0 h1;have hc:∀ j u,c[j]? =some u->w.cell? (ad.add (i.toNat*2+j))=some u:=hc0;obtain rfl:=qev hK;exact⟨ad,e,hc 0 _ rfl,by rw[<-o5 _ _ 1 (by omega)];exact hc 1 _ rfl⟩
structure S39 where
  f0:Int
  f1:Int
  f2:Int
  f3:Int
  f4:(List Int)
def z39:S39:=⟨(0:Int),(0:Int),(0:Int),(0:Int),([]:List Int)⟩
def k39:Kd S39:=Kd.iso (Kd.pair (Kd.int .i64) (Kd.pair (Kd.int .i64) (Kd.pair (Kd.int .i64) (Kd.pair (Kd.int .i64) (Kd.slice 5 (Kd.int .u8)))))) (fun x:S39=>(x.f0,x.f1,x.f2,x.f3,x.f4))
theorem qm9{w:World}{x:S39}{cs:List Value}(h:k39.K w x cs):∃ A4 c4,cs=[.int .i64 x.f0, .int .i64 x.f1, .int .i64 x.f2, .int .i64 x.f3, .slice A4 x.f4.length c4]/\x.f4.length<=c4/\(Kd.int .u8).C w A4 x.f4.length x.f4:=by
  obtain⟨_,_,rfl,rfl,⟨_,_,rfl,rfl,⟨_,_,rfl,rfl,⟨_,_,rfl,rfl,⟨A4,c4,rfl,l4,g4⟩⟩⟩⟩⟩:=h;exact⟨A4,c4,rfl,l4,g4⟩
def jg(xs:List S39)(i:Int):S39:=xs.getD i.toNat z39
theorem qfs{w:World}{A:Option Addr}{n:Nat}{xs:List S39}(h:Kd.C k39 w A n xs)(i:Int)(h0:0<=i)(h1:i<n):∃ ad A4 c4,A=some ad/\w.cell? (ad.add (i.toNat*5))=some (.int .i64 (jg xs i).f0)/\w.cell? ⟨(ad.add (i.toNat*5)).block,(ad.add (i.toNat*5)).off+1,none⟩=some (.int .i64 (jg xs i).f1)/\w.cell? ⟨(ad.add (i.toNat*5)).block,(ad.add (i.toNat*5)).off+2,none⟩=some (.int .i64 (jg xs i).f2)/\w.cell? ⟨(ad.add (i.toNat*5)).block,(ad.add (i.toNat*5)).off+3,none⟩=some (.int .i64 (jg xs i).f3)/\w.cell? ⟨(ad.add (i.toNat*5)).block,(ad.add (i.toNat*5)).off+4,none⟩=some (.slice A4 (jg xs i).f4.length c4)/\(jg xs i).f4.length<=c4/\(Kd.int .u8).C w A4 (jg xs i).f4.length (jg xs i).f4:=by
  obtain⟨ad,c,e,_,hK,hc0⟩:=Kd.C_get h z39 i h0 h1;have hc:∀ j u,c[j]? =some u->w.cell? (ad.add (i.toNat*5+j))=some u:=hc0;obtain⟨A4,c4,rfl,l4,g4⟩:=qm9 hK;exact⟨ad,A4,c4,e,hc 0 _ rfl,by rw[<-o5 _ _ 1 (by omega)];exact hc 1 _ rfl,by rw[<-o5 _ _ 2 (by omega)];exact hc 2 _ rfl,by rw[<-o5 _ _ 3 (by omega)];exact hc 3 _ rfl,by rw[<-o5 _ _ 4 (by omega)];exact hc 4 _ rfl,l4,g4⟩
def onA(n k:Nat):Array Bool:=((List.range n).map (fun i=>decide (i<k))).toArray
abbrev tt_:Bool:=true
abbrev ff_:Bool:=false
set_option linter.defProp false
def qa:=@Kd.R_alloc
def qb:=@Kd.R_drewN
def qc:=@Kd.R_drew
def qd:=@ca
def qe:=@bq
def qf:=@bg
def qg:=@List.setIfInBounds_toArray
def qh:=@List.set_cons_zero
def qi:=@List.set_cons_succ
def qj:=@List.map_toArray
def qk:=@List.map_cons
def ql:=@List.map_nil
def qm:=@List.length_drop
def qn:=@List.length_take
def qp:=@World.block_lt_of_cell?
def qs:=@Kd.C_drewN
def qu:=@of_decide_eq_true
def qv:=@Kd.R_below
def qw:=@aa
theorem pu{P:Program}{ops:Array Oper}{Q:Exit->Act->World->Prop}{md:Region.Mode}{S:World->Prop}{ds:List Nat}{T:Bool×List (List Nat×List Nat)}{oi:Oper}{v:Value}{fuel:Nat}{l:Array Bool}{a a':Act}{w:World}(i:Nat)(N:Option Tmp)(l':Array Bool)(hT:Aside0 (qy md ops=T))
    (hi:ops[i]? =some oi:=by exact rfl) (hN:oi.dst=N:=by exact rfl) (hc:qon T l.toList l'.toList i=true:=by kernel_rfl) (hQ:∀ c a w,Q (.panic c) (a.put oi.dst v) w->Q (.panic c) a w:=by exact fun _ _ _ h=>h) (hw:Region.wanted oi (yielded ops a.tmps)=true:=by rfl)
    (hy:∀ w,(execOp a.eval oi).run P w=.ok (.value v) w:=by(intro w';go_simp;with_reducible rfl)) (ha:a.put N v=a':=by(simp only[Act.put,List.setIfInBounds_toArray,List.set_cons_zero,List.set_cons_succ,bu,iu];rfl)) (h:bf P md ops Q S ds fuel l' a' w):bf P md ops Q S ds (fuel+1) l a w:=
  ja l' hi hN (qmk hT.out hc) hQ (Or.inl ⟨hw,hy⟩) ha h
theorem pn{P:Program}{ops:Array Oper}{Q:Exit->Act->World->Prop}{md:Region.Mode}{S:World->Prop}{ds:List Nat}{T:Bool×List (List Nat×List Nat)}{oi:Oper}{fuel:Nat}{l:Array Bool}{a a':Act}{w:World}(i:Nat)(N:Option Tmp)(l':Array Bool)(hT:Aside0 (qy md ops=T))
    (hi:ops[i]? =some oi:=by exact rfl) (hN:oi.dst=N:=by exact rfl) (hc:qon T l.toList l'.toList i=true:=by kernel_rfl) (hQ:∀ c a w,Q (.panic c) (a.put oi.dst undef) w->Q (.panic c) a w:=by exact fun _ _ _ h=>h) (hw:Region.wanted oi (yielded ops a.tmps)=false:=by rfl)
    (ha:a.put N undef=a':=by(simp only[Act.put,List.setIfInBounds_toArray,List.set_cons_zero,List.set_cons_succ,bu,iu];rfl)) (h:bf P md ops Q S ds fuel l' a' w):bf P md ops Q S ds (fuel+1) l a w:=
  ja l' hi hN (qmk hT.out hc) hQ (Or.inr ⟨hw,rfl⟩) ha h
theorem zw{v w0 w1:World}{p:Addr}{x:Value}(hB:Aside0 (Below v.heap.size v w0))(h:v.cell? p=some x)(hs:Below w0.heap.size w0 w1:=by repeat (first|(with_reducible first|exact Below.refl _ _|apply ca|apply bq|apply bg)|exact Below.refl _ _)):w1.cell? p=some x:=((aa hB.out hs).cell (World.block_lt_of_cell? v _ h)).trans h
theorem zu{p:Prop}[Decidable p](h:decide p=true:=by first|(with_reducible assumption)|assumption):p:=of_decide_eq_true h
theorem zB{v w0 w1:World}(h:Aside0 (Below v.heap.size v w0))(hs:Below w0.heap.size w0 w1:=by repeat (first|(with_reducible first|exact Below.refl _ _|apply ca|apply bq|apply bg)|exact Below.refl _ _)):Below v.heap.size v w1:=aa h.out hs
theorem zb{v w0 w1 w2:World}(h:Aside0 (Below v.heap.size v w0))(hb:Below w1.heap.size w1 w2)(hs:Below w0.heap.size w0 w1:=by repeat (first|(with_reducible first|exact Below.refl _ _|apply ca|apply bq|apply bg)|exact Below.refl _ _)):Aside0 (Below v.heap.size v w2):=⟨aa (aa h.out hs) hb⟩
theorem zr{α:Type}{d:Kd α}{e base:Nat}{ok:Nat->Prop}{v:Value}{xs:List α}{w0 w1:World}(h:Aside0 (d.R e w0 base ok v xs))(hs:Below w0.heap.size w0 w1:=by repeat (first|(with_reducible first|exact Below.refl _ _|apply ca|apply bq|apply bg)|exact Below.refl _ _)):d.R e w1 base ok v xs:=Kd.R_below h.out hs
theorem za{α:Type}{d:Kd α}{e base:Nat}{ok:Nat->Prop}{v:Value}{xs:List α}{w0 w1 w2:World}(h:Aside0 (d.R e w0 base ok v xs))(hb:Below w1.heap.size w1 w2)(hs:Below w0.heap.size w0 w1:=by repeat (first|(with_reducible first|exact Below.refl _ _|apply ca|apply bq|apply bg)|exact Below.refl _ _)):Aside0 (d.R e w2 base ok v xs):=⟨Kd.R_below (Kd.R_below h.out hs) hb⟩
theorem zc{α:Type}{d:Kd α}{xs:List α}{A:Option Addr}{n:Nat}{w0 w1:World}(h:d.C w0 A n xs)(hs:Below w0.heap.size w0 w1:=by repeat (first|(with_reducible first|exact Below.refl _ _|apply ca|apply bq|apply bg)|exact Below.refl _ _)):d.C w1 A n xs:=Kd.C_below h hs
theorem zs{p:Prop}(h:p:=by first|rfl|(simp;done)|(simp[*];done)):p:=h
theorem ze{p:Prop}(h:p:=by first|rfl|(simp[e8,e9] <;> rfl)|(simp[*,e8,e9] <;> rfl)):p:=h
theorem zd{w w':World}(h:Drawn0 w w':=by repeat (first|exact Drawn0.refl _|apply Drawn0.step)):Drawn0 w w':=h
theorem zg{v w0 w1:World}{g:Nat}(hB:Aside0 (Below v.heap.size v w0))(hg:g=w1.heap.size)(hs:Below w0.heap.size w0 w1:=by repeat (first|(with_reducible first|exact Below.refl _ _|apply ca|apply bq|apply bg)|exact Below.refl _ _)):Aside0 (v.heap.size<=g):=⟨by rw[hg];exact bk (aa hB.out hs)⟩
theorem zk{w:World}{g:Nat}{t:TypeId}{cs:Array Value}(h:Aside0 (w.heap[g]? =some (.cells cs t (0,0))))(i:Nat)(v:Value)(hv:cs[i]? =some v:=by exact rfl):w.cell? ⟨g,i,none⟩=some v:=(aj h.out i).trans hv
theorem zq{w0 w1 w2:World}{g:Nat}{o:Obj}(h:Aside0 (w0.heap[g]? =some o))(hb:Below w1.heap.size w1 w2)(hs:Below w0.heap.size w0 w1:=by repeat (first|(with_reducible first|exact Below.refl _ _|apply ca|apply bq|apply bg)|exact Below.refl _ _)):Aside0 (w2.heap[g]? =some o):=⟨ap (ap h.out hs) hb⟩
theorem pz{P:Program}{ops:Array Oper}{Q:Exit->Act->World->Prop}{md:Region.Mode}{S:World->Prop}{ds:List Nat}{oi:Oper}{v:Value}{fuel:Nat}{l:Array Bool}{a a':Act}{w:World}(i:Nat)(N:Option Tmp)(l':Array Bool)(hi:ops[i]? =some oi:=by exact rfl)(hN:oi.dst=N:=by exact rfl)(hc:qg7 md ops l l' i=true:=by kernel_rfl)(hQ:∀ c a w,Q (.panic c) (a.put oi.dst v) w->Q (.panic c) a w:=by exact fun _ _ _ h=>h)(hw:Region.wanted oi (yielded ops a.tmps)=true:=by rfl)(hy:∀ w,(execOp a.eval oi).run P w=.ok (.value v) w:=by(intro w';go_simp;with_reducible rfl))(ha:a.put N v=a':=by(simp only[Act.put,List.setIfInBounds_toArray,List.set_cons_zero,List.set_cons_succ,bu,iu];rfl))(h:bf P md ops Q S ds fuel l' a' w):bf P md ops Q S ds (fuel+1) l a w:=ja l' hi hN hc hQ (Or.inl ⟨hw,hy⟩) ha h
theorem pt{P:Program}{ops:Array Oper}{Q:Exit->Act->World->Prop}{md:Region.Mode}{S:World->Prop}{ds:List Nat}{oi:Oper}{v:Value}{fuel:Nat}{l:Array Bool}{a a':Act}{w:World}(i:Nat)(N:Option Tmp)(l':Array Bool)(hi:ops[i]? =some oi)(hS:S w)(hy:∀ w,S w->(execOp a.eval oi).run P w=.ok (.value v) w)(h:bf P md ops Q S ds fuel l' a' w)(hN:oi.dst=N:=by exact rfl)(hc:yr md ops ds l l' i=true:=by kernel_rfl)(hQ:∀ c a w,Q (.panic c) (a.put oi.dst v) w->Q (.panic c) a w:=by exact fun _ _ _ h=>h)(hw:Region.wanted oi (yielded ops a.tmps)=true:=by rfl)(ha:a.put N v=a':=by(simp only[Act.put,List.setIfInBounds_toArray,List.set_cons_zero,List.set_cons_succ,bu,iu];rfl)):bf P md ops Q S ds (fuel+1) l a w:=take_ l' hi hN hc hQ (Or.inl ⟨hw,hy⟩) hS ha h
theorem nm{P:Program}{ops:Array Oper}{Q:Exit->Act->World->Prop}{md:Region.Mode}{S:World->Prop}{ds:List Nat}{fuel:Nat}{l:Array Bool}{a a':Act}{w:World}(h:bf P md ops Q S ds fuel l a' w)(ha:a=a':=by(simp only[Act.put,List.setIfInBounds_toArray,List.set_cons_zero,List.set_cons_succ,bu,iu];rfl)):bf P md ops Q S ds fuel l a w:=mq ha h
theorem zl{P:Program}{ops:Array Oper}{Q:Exit->Act->World->Prop}{rest:List Oper}{oi:Oper}{a:Act}{w:World}(N:Option Tmp){f:FuncId}{fn:Func}{ar:Array Operand}{ts:Array TypeId}(hf:P.funcs[f]? =some fn)(args:Array Value)
  (h:Calls P f args w fun e w'=>∃ v,e=.returned v/\wpList P ops Q rest (a.put N v) w') (hop:oi.op=.call {callee:=.value (.func f),args:=ar,argTypes:=ts}:=by exact rfl) (hd:oi.dst=N:=by exact rfl) (hg:oi.guard=none:=by exact rfl) (hname:(fn.name=="runtime.NumGoroutine")=false:=by kernel_rfl) (hb:fn.body.isSome=true:=by exact rfl)
  (hargs:ar.map a.eval=args:=by((try simp only[qj,qk,ql]);first|done|rfl|(simp only[qm,qn];rfl))):wpList P ops Q (oi::rest) a w:=qq2 N hd hg hf hname hb args hop hargs h
theorem k4{w:World}{g:Nat}{a b c d:Value}(h:w.heap[g]? =some (.cells #[a,b,c,d] 23 (0,0))):w.cell? ⟨g,0,none⟩=some a/\w.cell? ⟨g,1,none⟩=some b/\w.cell? ⟨g,2,none⟩=some c/\w.cell? ⟨g,3,none⟩=some d:=⟨(aj h 0).trans rfl,(aj h 1).trans rfl,(aj h 2).trans rfl,(aj h 3).trans rfl⟩
theorem am{p:Prop}(h:p):Aside0 p:=⟨h⟩
def bA(n k:Nat):Array Bool:=((List.range n).map k.testBit).toArray
theorem af{p:Prop}[Decidable p](h:p):decide p=true:=decide_eq_true h
theorem ah{p:Prop}[Decidable p](h:¬p):decide p=false:=decide_eq_false h
theorem ax{α:Type _}{l:List α}{i:Nat}{a:α}:l.getD i a=l[i]?.getD a:=List.getD_eq_getElem?_getD
theorem bx{α:Type _}{l:List α}{i:Nat}(h:i<l.length):l[i]? =some l[i]:=List.getElem?_eq_getElem h
theorem az{α:Type _}{a b:α}(h:some a=some b):a=b:=Option.some.inj h
theorem ai(B:Nat)(w:World):Below B w w:=Below.refl B w
theorem an(n:Nat):n<=n:=Nat.le_refl n
end Go.Proofs.YtmfhaliclnnbaaaGreat.XTopWhole
