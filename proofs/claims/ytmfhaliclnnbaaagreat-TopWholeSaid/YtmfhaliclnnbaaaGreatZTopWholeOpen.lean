import Derived.Test.YtmfhaliclnnbaaaGreatZTopWholeM0
import Derived.ChangeSlices
import Derived.ChangeSame
import Derived.Deep.Slices
import Derived.OpenShut
import Derived.SizedLaws
namespace Go.Proofs.YtmfhaliclnnbaaaGreat.Open
open Go.ChangeShapes Go.WideShapes Go.RowKit Go.Proofs.YtmfhaliclnnbaaaGreatW.PrintWords
def Opens(P:Program)(t:TypeId){α:Type}(d:Kd α)(wf:α->Prop):Prop:=
 ∀ (H:Type) (enc:TypeId×Value->H) (w:World) (base:Nat) (spare:Nat->Bool) (held:Bool) (fuel:Nat) (cs:List Value) (x:DataW H×List MemPlace),
  DataW.trod enc P w base spare held fuel t cs=some x→∃ a,d.K w a cs/\wf a
section
variable{P:Program}{t e:TypeId}{α β γ δ ε ζ:Type}
theorem opens_int{k:IntKind}(ht:P.underlying t=some (.int k)):Opens P t (Kd.int k) (fun n=>(Lit.int k n).wf=true):=by
 intro H enc w base spare held fuel cs x h;obtain⟨n,rfl,_,hw⟩:=DataW.trod_int ht h;exact⟨n,rfl,hw⟩
theorem qhc{p:Nat->α->Prop}:∀ n:Nat,(∀ i,i<n→∃ a,p i a)→∃ l:List α,l.length=n∧∀ i a,l[i]? =some a->p i a:=by
 intro n
 induction n with
 |zero=>exact fun _=>⟨[],rfl,fun i a h=>by simp at h⟩
 |succ n ih=>
  intro h;obtain⟨l,hl,hp⟩:=ih (fun i hi=>h i (by omega));obtain⟨a,ha⟩:=h n (by omega);refine⟨l++[a],by simp[hl],fun i b hb=>?_⟩;by_cases c:i<l.length
  ·rw[List.getElem?_append_left c]at hb;exact hp i b hb
  ·rw[List.getElem?_append_right (by omega)]at hb;have hi:i-l.length=0:=by
    by_cases c2:i-l.length=0
    ·exact c2
    ·rw[List.getElem?_eq_none (by simp;omega)]at hb;cases hb
   rw[hi]at hb;have hb2:b=a:=by simpa using hb.symm
   have hin:i=n:=by omega
   subst hin;subst hb2;exact ha
theorem opens_slice{d:Kd α}{wf:α->Prop}(ht:P.underlying t=some (.slice e))(hs:P.cellsOf e=d.sz)(O:Opens P e d wf):Opens P t (Kd.slice e d) (fun l=>l.length<=maxLen∧∀ x∈l,wf x):=by
 intro H enc w base spare held fuel cs x h;rcases DataW.trod_slice ht h with⟨rfl,_⟩|⟨a,len,cap,elems,rest,n,_,rfl,_,_,hlc,hcm,hel,hat,_,_⟩
 ·exact⟨[],⟨none,0,rfl,Nat.le_refl _,rfl,by simp,fun h=>absurd h (by simp)⟩,by simp,fun x h=>absurd h (by simp)⟩
 ·obtain⟨l,hl,hp⟩:=qhc (p:=fun i y=>∃ c,w.cells? base (a.add (i*d.sz)) d.sz=some c/\d.K w y c/\wf y) len (fun i hi=>by
   have h1:=hat i hi;rw[hs,List.getElem?_eq_getElem (by omega)]at h1;obtain⟨c,hc,ht2⟩:=Option.bind_eq_some_iff.1 h1;obtain⟨y,hy,hw⟩:=O H enc w base spare held n c _ ht2;exact⟨y,c,hc,hy,hw⟩)
  subst hl;refine⟨l,⟨some a,cap,rfl,hlc,rfl,by unfold maxLen at hcm;omega,fun _=>⟨a,rfl,fun j p hj=>?_⟩⟩,by omega,fun y hy=>?_⟩
  ·obtain⟨c,hc,hk,_⟩:=hp j p hj;obtain⟨_,hcl,hcat⟩:=World.cells?_some hc;refine⟨c,hcl,hk,fun i u hu=>?_⟩;have hi:i<d.sz:=by have:=(List.getElem?_eq_some_iff.1 hu).1;omega
   rw[<-Go.Deep.add_add,hcat i hi,hu]
  ·obtain⟨i,hi,he⟩:=List.getElem_of_mem hy;obtain⟨_,_,_,hw⟩:=hp i y (by rw[List.getElem?_eq_getElem hi,he]);exact hw
def s6(P:Program)(o:Nat)(fs:List Field){α:Type}(d:Kd α)(wf:α->Prop):Prop:=
 ∀ (H:Type) (enc:TypeId×Value->H) (w:World) (base:Nat) (spare:Nat->Bool) (held:Bool) (fuel:Nat) (cs:List Value),cs.length=o+d.sz→
  (∀ f∈fs,∃ x,DataW.trod enc P w base spare held fuel f.type ((cs.drop f.offset).take (P.cellsOf f.type))=some x)→∃ a,d.K w a (cs.drop o)/\wf a
theorem fields_one{f:Field}{o:Nat}{d:Kd α}{wf:α->Prop}(h0:f.offset=o)(hs:P.cellsOf f.type=d.sz)(O:Opens P f.type d wf):s6 P o [f] d wf:=by
 subst h0;intro H enc w base spare held fuel cs hl h;obtain⟨x,hx⟩:=h f (by simp);rw[hs,List.take_of_length_le (by simp;omega)]at hx;exact O H enc w base spare held fuel _ x hx
theorem fields_cons{f:Field}{fs:List Field}{d:Kd α}{d2:Kd β}{wf:α->Prop}{wf2:β->Prop}{o o2:Nat}(h0:f.offset=o)(ho:o2=o+d.sz)(hs:P.cellsOf f.type=d.sz)(O:Opens P f.type d wf)(O2:s6 P o2 fs d2 wf2):s6 P o (f::fs) (Kd.pair d d2) (fun x=>wf x.1/\wf2 x.2):=by
 subst h0;intro H enc w base spare held fuel cs hl h;obtain⟨x,hx⟩:=h f (by simp);rw[hs]at hx;obtain⟨a,ha,hwa⟩:=O H enc w base spare held fuel _ x hx;have hsz:(Kd.pair d d2).sz=d.sz+d2.sz:=rfl;obtain⟨b,hb,hwb⟩:=O2 H enc w base spare held fuel cs (by omega) (fun g hg=>h g (by simp[hg]));refine⟨(a,b),⟨_,_,?_,ha,hb⟩,hwa,hwb⟩;rw[ho,←List.drop_drop];exact(List.take_append_drop _ _).symm
theorem opens_struct{fs:Array Field}{l:List Field}{d:Kd α}{wf:α->Prop}(ht:P.underlying t=some (.struct fs))(hl:fs.toList=l)(hs:P.cellsOf t=d.sz)(O:s6 P 0 l d wf):Opens P t d wf:=by
 subst hl;intro H enc w base spare held fuel cs x h;obtain⟨xs,n,_,_,hl,hxl,hf⟩:=DataW.trod_struct ht h;obtain⟨a,ha,hw⟩:=O H enc w base spare held n cs (by omega) (fun f hm=>by
  obtain⟨i,hi,he⟩:=List.getElem_of_mem hm;have h1:=hf i f (by rw[<-Array.getElem?_toList,List.getElem?_eq_getElem hi,he]);rw[List.getElem?_eq_getElem (by simp at hi;omega)]at h1;exact⟨_,h1⟩)
 exact⟨a,ha,hw⟩
theorem opens_iso{d:Kd α}{wf:α->Prop}{f:β->α}(g:α->β)(hg:∀ a,f (g a)=a)(O:Opens P t d wf):Opens P t (Kd.iso d f) (fun b=>wf (f b)):=by
 intro H enc w base spare held fuel cs x h;obtain⟨a,ha,hw⟩:=O H enc w base spare held fuel cs x h;exact⟨g a,by show d.K w (f (g a)) cs;rw[hg];exact ha,by show wf (f (g a));rw[hg];exact hw⟩
theorem sized_len{H:Type}{enc:TypeId×Value->H}{w:World}{base:Nat}{spare:Nat->Bool}{held:Bool}{a:Option Addr}{len cap:Nat}{dt:DataW H}{ps:List MemPlace}{ts:List TypeId}{ds:List (DataW H)}{j:Nat}(hsz:(DataW.weightsEach P ts ds).all (·≤reachBytes)=true)(ht:ts[j]? =some t)(hd:ds[j]? =some dt)(hu:P.underlying t=some (.slice e)){B:Nat}(hB:P.bytesOf e=B)(h:DataW.Trod enc P w base spare held t (.slice a len cap) dt ps):len*B<=140737488351232:=by
 obtain⟨fuel,hf⟩:=h;rcases DataW.trod_slice hu hf with⟨hc,_⟩|⟨a2,len2,cap2,elems,rest,n,_,hc,hx,_,_,_,hel,_,_,_⟩
 ·simp[Value.cells]at hc;obtain⟨rfl,rfl,rfl⟩:=hc;simp
 ·simp[Value.cells]at hc;obtain⟨rfl,rfl,rfl⟩:=hc;obtain⟨hx,_⟩:=Prod.mk.inj hx;subst hx;have z:=sized_slice hsz ht hd hu;rw[hB]at z;simp only[List.length_map]at z;have h1:len*B<=(elems.length+rest.length)*B:=Nat.mul_le_mul_right _ (by omega);exact Nat.le_trans h1 z
theorem slice_arg{H:Type}{enc:TypeId×Value->H}{w:World}{base:Nat}{spare:Nat->Bool}{held:Bool}{a:Option Addr}{len cap:Nat}{dt:DataW H}{ps:List MemPlace}{d:Kd α}{wf:α->Prop}(O:Opens P t (Kd.slice e d) (fun l=>l.length<=maxLen∧∀ x∈l,wf x))(h:DataW.Trod enc P w base spare held t (.slice a len cap) dt ps):∃ l:List α,len=l.length/\l.length<=cap/\d.C w a l.length l/\l.length<=maxLen∧∀ x∈l,wf x:=by
 obtain⟨fuel,hf⟩:=h;obtain⟨l,⟨A,c,hc,hl,hC⟩,hm,hw⟩:=O H enc w base spare held fuel _ _ hf;have hc2:Value.slice a len cap=Value.slice A l.length c:=by have:([Value.slice a len cap]:List Value)=[Value.slice A l.length c]:=hc;injection this
 injection hc2 with e1 e2 e3;subst e1 e2 e3;exact⟨l,rfl,hl,hC,hm,hw⟩
theorem struct_arg{H:Type}{enc:TypeId×Value->H}{w:World}{base:Nat}{spare:Nat->Bool}{held:Bool}{vs:Array Value}{dt:DataW H}{ps:List MemPlace}{d:Kd α}{wf:α->Prop}(O:Opens P t d wf)(h:DataW.Trod enc P w base spare held t (.agg vs) dt ps):∃ a:α,d.K w a vs.toList/\wf a:=by
 obtain⟨fuel,hf⟩:=h;exact O H enc w base spare held fuel _ _ hf
end
end Go.Proofs.YtmfhaliclnnbaaaGreat.Open
