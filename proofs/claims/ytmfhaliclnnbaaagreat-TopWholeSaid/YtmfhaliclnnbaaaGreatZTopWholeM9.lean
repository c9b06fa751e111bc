import Derived.Test.YtmfhaliclnnbaaaGreatZTopWholeM8
import Derived.Shelf.Sort.Plain
import Derived.Shelf.Slices.CompactI
import Derived.Shelf.SlicesE.Clone
namespace Go.Proofs.YtmfhaliclnnbaaaGreat.Sys
open Go.RowKit Go.Proofs.YtmfhaliclnnbaaaGreatW.PrintWords Go.Proofs.YtmfhaliclnnbaaaGreatW.PrintLast Go.Proofs.YtmfhaliclnnbaaaGreatW.PrintMore
open Go.Proofs.YtmfhaliclnnbaaaGreat.XTopWhole Go.Proofs.YtmfhaliclnnbaaaGreat.Pl Go.Maps
set_option linter.unusedVariables false
set_option linter.unusedSimpArgs false
set_option maxRecDepth 100000
set_option maxHeartbeats 8000000
namespace Lg
def get(s:Shape)(m:Mem)(line:Int):List Int×Int:=
 if line<16\/line>=s.n then(zL,1)
 else if m.down then(zL,2)
 else if mayH s.n (homes s m).1 then(match (homes s m).1.find? (fun h=>h.1==line)with|some h=>(h.2,0)|none=>Trn.get s m line)
 else Trn.get s m line
end Lg
theorem qf0{h:List jw}{line:Int}{k:Nat}(hk:k<h.length)(h0:∀ j,j<k->(h.getD j zH).1≠line)(h1:(h.getD k zH).1=line):h.find? (fun h=>h.1==line)=some (h.getD k zH):=by
 rw[List.find?_eq_some_iff_getElem];have e:∀ j (hj:j<h.length),h.getD j zH=h[j]:=fun j hj=>by rw[ax,bx hj];rfl
 refine⟨by simpa using h1,k,hk,(e k hk).symm,fun j hj=>?_⟩;have:=h0 j hj;rw[e j (by omega)]at this;simpa using this
theorem qo0{h:List jw}{line:Int}(h0:∀ j,j<h.length->(h.getD j zH).1≠line):h.find? (fun h=>h.1==line)=none:=by
 rw[List.find?_eq_none];intro x hx;obtain⟨j,hj,rfl⟩:=List.getElem_of_mem hx;have:=h0 j hj;rw[ax,bx hj]at this;simpa using this
theorem wg{s:Shape}{m:Mem}(hn:17<=s.n)(hrd:Lg.Rd s m)(k:Nat)(hk:k<=14):∀ x∈Lg.homesTo s m k,-1<=x.1/\x.1<s.n:=by
 intro x hx;unfold Lg.homesTo at hx;obtain⟨i,hi,rfl⟩:=List.mem_map.1 hx;have hi2:i<k:=by simpa using hi
 unfold Lg.homeAt;have h1:=(hrd ((i:Int) / 8) (by omega) (by omega)).2;generalize (Trn.get s m ((i:Int) / 8)).1=l at h1;have:0<=l.getD (i % 8) 0:=by
  rw[ax];cases e:l[i % 8]? with
  |none=>simp
  |some v=>exact(h1 v (List.mem_of_getElem? e)).1
 dsimp only;split <;> constructor <;> omega
section
variable{w:World}{M C L T G:Nat}{s:Shape}{m:Mem}{puts:Int}
theorem qas(l:List Int):(br l).toArray.all (·.oneCell')=true:=by simp[br,Value.oneCell']
theorem i9{ops:Array Oper}{rest:List Oper}{o:Oper}{a:Act}{w w0:World}{base:Nat}{Q:Exit->Act->World->Prop}(hgd:o.guard=none)(x y:Operand)(ho:o.op=.store 73 x y)(g:Nat)(vs:List Int)(hx:a.eval x=.pointer (some ⟨g,0,none⟩))(hy:a.eval y=.agg (br vs).toArray)(old:Array Value)(hg:w.heap[g]? =some (.cells old 73 (0,0)))(h8:old.size=8)(hl:vs.length=8)(hb:Below base w0 w)(hge:base<=g)(h:∀ wz,Aside0 (wz.heap[g]? =some (.cells (br vs).toArray 73 (0,0)))->Aside0 (Below base w0 wz)->wpList Tryz.prog ops Q rest (a.put o.dst undef) wz):wpList Tryz.prog ops Q (o::rest) a w:=by
 refine wpList_store_row hgd 73 x y ho g (br vs).toArray hx hy 73 old hg ?_ ?_ (qas _) (h _ ⟨setRow_heap _ _ _ _ _ _ hg⟩ ⟨gc hb hge _⟩)
 ·rw[List.size_toArray,au,hl];exact ez
 ·simp[au,hl,h8]
theorem m7{ops:Array Oper}{rest:List Oper}{o:Oper}{a:Act}{w:World}{Q:Exit->Act->World->Prop}(hgd:o.guard=none)(x y:Operand)(ho:o.op=.store 151 x y)(h:jw)(hx:a.eval x=.pointer (some ⟨w.heap.size,0,none⟩))(hy:a.eval y=.agg (eq h).toArray)(h8:h.2.length=8)(hh:∀ wz,Aside0 (wz.heap[w.heap.size]? =some (.cells (eq h).toArray 151 (0,0)))->Aside0 (Below w.heap.size w wz)->wpList Tryz.prog ops Q rest (a.put o.dst undef) wz):wpList Tryz.prog ops Q (o::rest) a (w.alloc (.cells jj 151)):=by
 refine wpList_store_row hgd 151 x y ho w.heap.size (eq h).toArray hx hy 151 _ (heap_alloc_new w _) ?_ ?_ (o7 _) (hh _ ⟨l7 w jj (eq h).toArray 151⟩ ⟨jv w jj (eq h).toArray 151⟩)
 ·rw[List.size_toArray,dn h8];exact ke
 ·simp[dn h8]
theorem zL8:zL.length=8:=rfl
theorem mt (h : TurnAt w M C L T s m puts) (hG : j7 w G M T) (hn : 17 ≤ s.n) (hrd : m.down = false → Lg.Rd s m) (hc : Lg.count m ≤ 14) (line : Int) : Calls Tryz.prog 61 #[.pointer (some ⟨G, 0, none⟩), .int .i64 line] w fun e w' => e = .returned (.tuple #[iw (Lg.get s m line).1, .int .i64 (Lg.get s m line).2]) ∧ Below w.heap.size w w' := by
 have BX:=am (heap_alloc_new w (.cells ct 73));have H:=am (h.alloc (.cells ct 73));have HG:=am (hG.below ((ai w.heap.size w).alloc (an _) (.cells ct 73)));have HB:Aside0 (Below w.heap.size w (w.alloc (.cells ct 73))):=⟨(ai _ _).alloc (an _) _⟩;have HS:Aside0 (w.heap.size<(w.alloc (.cells ct 73)).heap.size):=⟨d7 BX.out⟩;have g1:=HG.out.g1;have hn2:=h.ok.n2;have HRd:=am hrd;have HC:=am hc;clear h hG hrd hc;by_cases lo:line<16
 ·have E:=am (show Lg.get s m line=(zL,1)by unfold Lg.get;rw[if_pos (.inl lo)]);have d0:decide (line<16)=true:=af lo;rw[E.out];go_enter Tryz.func61,Tryz.ntmps61;go_wp2_with (first|(((with_reducible refine bp (t:=73) (p:=4) rfl ?_);refine i9 rfl (.tmp 4) (.tmp 25) rfl w.heap.size zL rfl rfl _ BX.out rfl zL8 HB.out (an _) ?_;intro wz RX RB)))
  exact ig rfl w.heap.size 73 (br zL) _ rfl RX.out Tryz.underlying73 rfl (by rw[au,zL8];exact ez) rfl ⟨rfl,RB.out⟩
 ·have d0 : decide (line < 16) = false := ah lo;by_cases hi : line ≥ s.n
  ·have E:=am (show Lg.get s m line=(zL,1)by unfold Lg.get;rw[if_pos (.inr hi)]);have d1:decide (line>=s.n)=true:=af hi;rw[E.out];go_enter Tryz.func61,Tryz.ntmps61;go_wp2_with (first
    |(go_at_call 90;(with_reducible refine(gn H.out).mono ?_);rintro e w7 ⟨rfl,rfl⟩)
    |(((with_reducible refine bp (t:=73) (p:=4) rfl ?_);refine i9 rfl (.tmp 4) (.tmp 25) rfl w.heap.size zL rfl rfl _ BX.out rfl zL8 HB.out (an _) ?_;intro wz RX RB)))
   exact ig rfl w.heap.size 73 (br zL) _ rfl RX.out Tryz.underlying73 rfl (by rw[au,zL8];exact ez) rfl ⟨rfl,RB.out⟩
  ·have d1 : decide (line ≥ s.n) = false := ah hi;have HHm := am (qbi H.out HG.out hn HRd.out HC.out);cases hd : m.down
   ·have E2 := am (show Lg.homes s m = (Lg.homesTo s m (Lg.count m).toNat, 0) by unfold Lg.homes; rw [hd]; rfl);have HBd := am (wg hn (HRd.out hd) (Lg.count m).toNat (by have := HC.out; omega));have HLen := am (sh s m (Lg.count m).toNat);have hN14 : (Lg.count m).toNat ≤ 14 := by have := HC.out; omega
    have EG:=am (show Lg.get s m line=if Lg.mayH s.n (Lg.homes s m).1 then(match (Lg.homes s m).1.find? (fun h=>h.1==line)with|some h=>(h.2,0)|none=>Trn.get s m line)else Trn.get s m line by unfold Lg.get;rw[if_neg (by omega),hd];rfl);generalize Lg.homesTo s m (Lg.count m).toNat=hs at HBd HLen E2;generalize (Lg.count m).toNat=n at HLen hN14;generalize hgt:Trn.get s m line=gt at EG;have HGT:=am hgt;have hgt8:=ol H.out line;rw[hgt]at hgt8;have HG8:=am hgt8;clear hgt hgt8 hd HRd HC;obtain⟨gl,ge⟩:=gt;have tail0:∀ {Rr:Prop},Rr->Rr:=fun h=>h;cases hm:Lg.mayH s.n hs
    ·have E:=am (show Lg.get s m line=(gl,ge)by rw[EG.out,E2.out,if_neg (by rw[hm];decide)]);have HMy:=am hm;rw[E.out];clear hm EG;go_enter Tryz.func61,Tryz.ntmps61;go_wp2_with (first
      |(go_at_call 90;(with_reducible refine(gn H.out).mono ?_);rintro e w7 ⟨rfl,rfl⟩)
      |(go_at_call 91;(with_reducible refine HHm.out.mono ?_);rintro e w2 ⟨v,rfl,hr,hb⟩;rw[E2.out]at hr;rw[E2.out];obtain⟨A,c,rfl⟩:=Kd.R_slice hr;have HR:=am hr;clear hr;(replace BX:=am (ap BX.out hb);replace HB:=am (aa HB.out hb);replace H:=am (H.out.below hb);replace HG:=am (HG.out.below hb);clear hb g1;have g1:=HG.out.g1))
      |(go_at_call 92;(with_reducible refine(ox _ s.n _ _ A c hs HR.out (by rw[HLen.out];omega) (fun x hx=>by have:=HBd.out x hx;omega)).mono ?_);rintro e w3 ⟨rfl,hb⟩;rw[HMy.out];have HR1:=am (Kd.R_below HR.out hb);clear HR;have HR:=HR1;clear HR1;(replace BX:=am (ap BX.out hb);replace HB:=am (aa HB.out hb);replace H:=am (H.out.below hb);replace HG:=am (HG.out.below hb);clear hb g1;have g1:=HG.out.g1))
      |(go_at_call 39;(with_reducible refine(nu H.out (line:=line) (by omega) (by omega)).mono ?_);rintro e w4 ⟨rfl,hb⟩;rw[HGT.out];(replace BX:=am (ap BX.out hb);replace HB:=am (aa HB.out hb);replace H:=am (H.out.below hb);replace HG:=am (HG.out.below hb);clear hb g1;have g1:=HG.out.g1))
      |(((with_reducible refine bp (t:=73) (p:=4) rfl ?_);refine i9 rfl (.tmp 4) (.tmp 61) rfl w.heap.size gl rfl rfl _ BX.out rfl HG8.out HB.out (an _) ?_;intro wz RX RB)))
     exact ig rfl w.heap.size 73 (br gl) _ rfl RX.out Tryz.underlying73 rfl (by rw[au,HG8.out];exact ez) rfl ⟨rfl,RB.out⟩
    ·have HMy:=am hm;have EM:=am (show Lg.get s m line=(match hs.find? (fun h=>h.1==line)with|some h=>(h.2,0)|none=>(gl,ge))by rw[EG.out,E2.out,if_pos hm]);clear hm EG;go_enter Tryz.func61,Tryz.ntmps61;go_wp2_with (first
      |(go_at_call 90;(with_reducible refine(gn H.out).mono ?_);rintro e w7 ⟨rfl,rfl⟩)
      |(go_at_call 91;(with_reducible refine HHm.out.mono ?_);rintro e w2 ⟨v,rfl,hr,hb⟩;rw[E2.out]at hr;rw[E2.out];obtain⟨A,c,rfl⟩:=Kd.R_slice hr;have HR:=am hr;clear hr;(replace BX:=am (ap BX.out hb);replace HB:=am (aa HB.out hb);replace H:=am (H.out.below hb);replace HG:=am (HG.out.below hb);clear hb g1;have g1:=HG.out.g1))
      |(go_at_call 92;(with_reducible refine(ox _ s.n _ _ A c hs HR.out (by rw[HLen.out];omega) (fun x hx=>by have:=HBd.out x hx;omega)).mono ?_);rintro e w3 ⟨rfl,hb⟩;rw[HMy.out];have HR1:=am (Kd.R_below HR.out hb);clear HR;have HR:=HR1;clear HR1;(replace BX:=am (ap BX.out hb);replace HB:=am (aa HB.out hb);replace H:=am (H.out.below hb);replace HG:=am (HG.out.below hb);clear hb g1;have g1:=HG.out.g1)))
     have hl14:hs.length<=14:=by rw[HLen.out];exact hN14
     go_loopw [44] (fun i wr=>∃ k:Nat,i=.int .i64 k/\k<=hs.length/\Aside0 (Below w3.heap.size w3 wr)/\Aside0 (∀ j,j<k->(hs.getD j zH).1≠line)) (fun i _=>hs.length-(intOf i).toNat)
     case atStart=>exact⟨0,rfl,by omega,⟨ai _ _⟩,⟨fun j hj=>by omega⟩⟩
     case round=>
      obtain⟨k,rfl,hk,HBr,HNo⟩:=hrel;have hb:=HBr.out;have HR1:=am (Kd.R_below HR.out hb)
      (replace BX:=am (ap BX.out hb);replace HB:=am (aa HB.out hb);replace H:=am (H.out.below hb);replace HG:=am (HG.out.below hb);clear hb g1;have g1:=HG.out.g1)
      by_cases hlt:k<hs.length
      ·have d3:decide ((k:Int)<hs.length)=true:=af (by omega);obtain⟨g,ea,h8,hx⟩:=homeAt HR1.out rfl k hlt;subst ea;have HX:=am hx;have H8:=am h8;have HXB:=am (HBd.out (hs.getD k zH) (by rw[ax,bx hlt];exact List.getElem_mem _));clear hx h8;generalize hxx:hs.getD k zH=x at HX H8 HXB;have HXX:=am hxx;clear hxx;by_cases he:x.1=line
       ·have d4:decide (x.1=line)=true:=af he;have E:=am (show Lg.get s m line=(x.2,0)by rw[EM.out,qf0 hlt HNo.out (by rw[HXX.out];exact he),HXX.out]);go_wp2_with (first
         |((with_reducible refine fz (.load 151 (.tmp 46)) rfl ?_);refine bc rfl 151 (.tmp 46) rfl g (k*9) rfl (eq x) _ HX.out Tryz.underlying151 rfl (by rw[dn H8.out];exact ke) ?_)
         |((with_reducible refine fz (.load 73 (.tmp 52)) rfl ?_);refine bc rfl 73 (.tmp 52) rfl wr.heap.size 1 rfl (br x.2) _ (fun j v hv=>by rw[Nat.add_comm 1 j];exact bt BZ.out (j+1) v (by simpa[eq]using hv)) Tryz.underlying73 rfl (by rw[au,H8.out];exact ez) ?_)
         |((with_reducible refine bp (t:=151) (p:=9) rfl ?_);refine m7 rfl (.tmp 9) (.tmp 47) rfl x rfl rfl H8.out ?_;intro w5 BZ HZ;have hz0:w5.cell? ⟨wr.heap.size,0,none⟩=some (.int .i64 x.1):=(aj BZ.out 0).trans rfl;have hb:=HZ.out;(replace BX:=am (ap BX.out hb);replace HB:=am (aa HB.out hb);replace H:=am (H.out.below hb);replace HG:=am (HG.out.below hb);clear hb g1;have g1:=HG.out.g1))
         |(((with_reducible refine bp (t:=73) (p:=4) rfl ?_);refine i9 rfl (.tmp 4) (.tmp 53) rfl w.heap.size x.2 rfl rfl _ BX.out rfl H8.out HB.out (an _) ?_;intro wz RX RB)))
        rw[E.out];exact ig rfl w.heap.size 73 (br x.2) _ rfl RX.out Tryz.underlying73 rfl (by rw[au,H8.out];exact ez) rfl ⟨rfl,RB.out⟩
       ·have d4:decide (x.1=line)=false:=ah he;go_wp2_with (first
         |((with_reducible refine fz (.load 151 (.tmp 46)) rfl ?_);refine bc rfl 151 (.tmp 46) rfl g (k*9) rfl (eq x) _ HX.out Tryz.underlying151 rfl (by rw[dn H8.out];exact ke) ?_)
         |((with_reducible refine bp (t:=151) (p:=9) rfl ?_);refine m7 rfl (.tmp 9) (.tmp 47) rfl x rfl rfl H8.out ?_;intro w5 BZ HZ;have hz0:w5.cell? ⟨wr.heap.size,0,none⟩=some (.int .i64 x.1):=(aj BZ.out 0).trans rfl;have hb:=HZ.out;(replace BX:=am (ap BX.out hb);replace HB:=am (aa HB.out hb);replace H:=am (H.out.below hb);replace HG:=am (HG.out.below hb);clear hb g1;have g1:=HG.out.g1)))
        go_roundw
        case rel=>exact⟨k+1,by go_num,by omega,⟨aa HBr.out HZ.out⟩,⟨fun j hj=>by
         by_cases e:j=k
         ·subst e;rw[HXX.out];exact he
         ·exact HNo.out j (by omega)⟩⟩
        case measure=>simp[intOf];omega
      ·have d3:decide ((k:Int)<hs.length)=false:=ah (by omega);have hkk:k=hs.length:=by omega
       subst hkk;have E:=am (show Lg.get s m line=(gl,ge)by rw[EM.out,qo0 HNo.out]);go_wp2_with (first
        |(go_at_call 39;(with_reducible refine(nu H.out (line:=line) (by omega) (by omega)).mono ?_);rintro e w4 ⟨rfl,hb⟩;rw[HGT.out];(replace BX:=am (ap BX.out hb);replace HB:=am (aa HB.out hb);replace H:=am (H.out.below hb);replace HG:=am (HG.out.below hb);clear hb g1;have g1:=HG.out.g1))
        |(((with_reducible refine bp (t:=73) (p:=4) rfl ?_);refine i9 rfl (.tmp 4) (.tmp 61) rfl w.heap.size gl rfl rfl _ BX.out rfl HG8.out HB.out (an _) ?_;intro wz RX RB)))
       rw[E.out];exact ig rfl w.heap.size 73 (br gl) _ rfl RX.out Tryz.underlying73 rfl (by rw[au,HG8.out];exact ez) rfl ⟨rfl,RB.out⟩
   ·have E:=am (show Lg.get s m line=(zL,2)by unfold Lg.get;rw[if_neg (by omega),hd];rfl);have E2:=am (show Lg.homes s m=([],2)by unfold Lg.homes;rw[hd];rfl);rw[E.out];go_enter Tryz.func61,Tryz.ntmps61;go_wp2_with (first
     |(go_at_call 90;(with_reducible refine(gn H.out).mono ?_);rintro e w7 ⟨rfl,rfl⟩)
     |(go_at_call 91;(with_reducible refine HHm.out.mono ?_);rintro e w2 ⟨v,rfl,_,hb⟩;rw[E2.out];have BX1:=am (ap BX.out hb);have HB1:=am (aa HB.out hb);clear BX HB hb;have BX:=BX1;have HB:=HB1;clear BX1 HB1)
     |(((with_reducible refine bp (t:=73) (p:=4) rfl ?_);refine i9 rfl (.tmp 4) (.tmp 33) rfl w.heap.size zL rfl rfl _ BX.out rfl zL8 HB.out (an _) ?_;intro wz RX RB)))
    exact ig rfl w.heap.size 73 (br zL) _ rfl RX.out Tryz.underlying73 rfl (by rw[au,zL8];exact ez) rfl ⟨rfl,RB.out⟩
end
section
variable{w:World}{M C L T G:Nat}{s:Shape}{m:Mem}{puts:Int}
theorem qll(h:s.Ok)(hr:gf m)(hv:m.regs.getD 0 0<=4611686018427387905):pq s.n (Trn.moves m):=by
 have:=h.n1;have:=h.n2;have:=hr.get 0;unfold pq Trn.moves;omega
theorem qpi(h:TurnAt w M C L T s m puts):gf (Trn.move s m).2:=by
 have hb:=qf8 h.mayG;have n1:=h.ok.n1;have n2:=h.ok.n2;have h0:=(h.regs.get 0).1;have hv:=h.mv;unfold Trn.move;split
 ·have hl:=(rx h.regs (s.n+1) s.spares (Trn.moveS s.n (Trn.moves m)).2 (Lns.get m (s.n+1) s.spares (Trn.moveS s.n (Trn.moves m)).1).1 (by omega) (by omega) (by omega) (by omega)).1;split
  ·exact s9 hl 0 (by unfold Trn.moves;omega) (by unfold Trn.moves;omega)
  ·exact hl
 ·exact h.regs
theorem qdd(h:TurnAt w M C L T s m puts):(Trn.move s m).2.regs.getD 0 0<=m.regs.getD 0 0+1:=by
 have hb:=qf8 h.mayG;have n1:=h.ok.n1;have n2:=h.ok.n2;unfold Trn.move;split
 ·have hl:=(rx h.regs (s.n+1) s.spares (Trn.moveS s.n (Trn.moves m)).2 (Lns.get m (s.n+1) s.spares (Trn.moveS s.n (Trn.moves m)).1).1 (by omega) (by omega) (by omega) (by omega)).2 0 (by omega);split
  ·rcases xt (Lns.put m (s.n+1) s.spares (Trn.moveS s.n (Trn.moves m)).2 (Lns.get m (s.n+1) s.spares (Trn.moveS s.n (Trn.moves m)).1).1).2 0 (Trn.moves m+1)with e|e
   ·rw[e,hl];omega
   ·rw[e];simp only[ax,Int.toNat_zero,List.getElem?_set]at hl ⊢;split
    ·split
     ·exact Int.le_refl _
     ·simp;have:=(h.regs.get 0).1;unfold Trn.moves at *;simp only[ax]at this;omega
    ·omega
  ·rw[hl];omega
 ·show m.regs.getD 0 0<=m.regs.getD 0 0+1;omega
theorem qdu(h:TurnAt w M C L T s m puts){line:Int}(h0:0<=line)(h1:line<s.n)(d:List Int):(Trn.put s m puts line d).2.1.regs.getD 0 0<=m.regs.getD 0 0+1:=by
 have n1:=h.ok.n1;have n2:=h.ok.n2;have at_:∀ m2:Mem,gf m2->m2.regs.getD 0 0<=m.regs.getD 0 0+1->(Trn.putAt s m2 line d).2.regs.getD 0 0<=m.regs.getD 0 0+1:=fun m2 hr h2=>by have hs:=qcg (n:=s.n) (m:=Trn.moves m2) (l:=line) (qll h.ok hr (by have:=h.mv;omega)) h0 h1;have hl:=(rx hr (s.n+1) s.spares (jb s.n (Trn.moves m2) line) d (by omega) (by omega) (by omega) (by omega)).2 0 (by omega);unfold Trn.putAt;rw[hl];exact h2
 unfold Trn.put;split
 ·show m.regs.getD 0 0<=m.regs.getD 0 0+1;omega
 ·split
  ·split
   ·exact at_ _ (qpi h) (qdd h)
   ·exact qdd h
  ·exact at_ m h.regs (by omega)
namespace Lg
def finish(s:Shape):List jw->Mem->Int->Int×Mem×Int
 |[],m,puts=>((Nvm.set m 1 0).1,(Nvm.set m 1 0).2,puts)
 |x::h,m,puts=>
  if(Trn.put s m puts x.1 x.2).1=0 then finish s h (Trn.put s m puts x.1 x.2).2.1 (Trn.put s m puts x.1 x.2).2.2
  else if(Trn.put s m puts x.1 x.2).1=3 then(0,(Trn.put s m puts x.1 x.2).2.1,(Trn.put s m puts x.1 x.2).2.2)
  else Trn.put s m puts x.1 x.2
end Lg
theorem qoz{h:List jw}{k:Nat}(hk:k<h.length):h.drop k=h.getD k zH::h.drop (k+1):=by
 rw[List.drop_eq_getElem_cons hk,ax,bx hk];rfl
theorem z8(h:TurnAt w M C L T s m puts)(hG:j7 w G M T)(hng:¬ MCT M C T G)(hs:List jw)(hv:m.regs.getD 0 0+hs.length+2<=4611686018427387904)(hl14:hs.length<=1000)(base:Nat)(ok:Nat->Prop)(A:Option Addr)(c:Nat)(hr:Kd.R ym 151 w base ok (.slice A hs.length c) hs)(hbase:∀ j,base<=j→¬ MCT M C T j)(hbd:∀ x∈hs,0<=x.1/\x.1<s.n):Calls Tryz.prog 93 #[.pointer (some ⟨G,0,none⟩), .slice A hs.length c] w fun e w'=>e=.returned (.int .i64 (Lg.finish s hs m puts).1)/\TurnAt w' M C L T s (Lg.finish s hs m puts).2.1 (Lg.finish s hs m puts).2.2/\aq (MCT M C T) w w':=by
 have H:=am h;have HG:=am hG;have HNG:=am hng;have HR:=am hr;have HBs:=am hbase;have HBd:=am hbd;clear h hG hng hr hbase hbd;generalize hR:Lg.finish s hs m puts=RR;have HRR:=am hR;clear hR;have K0:Aside0 (aq (MCT M C T) w w):=⟨aq.refl _ _⟩;go_enter Tryz.func93,Tryz.ntmps93;go_wp2;go_loopw [10] (fun i wr=>∃ (k:Nat) (mm:Mem) (pp:Int),i=.int .i64 k/\k<=hs.length/\Aside0 (TurnAt wr M C L T s mm pp)/\Aside0 (aq (MCT M C T) w wr)/\Aside0 (mm.regs.getD 0 0<=m.regs.getD 0 0+k)/\Aside0 (Lg.finish s (hs.drop k) mm pp=RR)) (fun i _=>hs.length-(intOf i).toNat)
 case atStart=>exact⟨0,m,puts,rfl,by omega,H,K0,⟨by omega⟩,HRR⟩
 case round=>
  clear K0;obtain⟨k,mm,pp,rfl,hk,H1,K1,HV1,HE⟩:=hrel;by_cases hlt:k<hs.length
  ·have d3:decide ((k:Int)<hs.length)=true:=af (by omega);have HR1:=am (oq HR.out K1.out HBs.out);have HG1:=am (HG.out.kept K1.out HNG.out);obtain⟨g,ea,h8,hx⟩:=homeAt HR1.out rfl k hlt;subst ea;have HX:=am hx;have H8:=am h8;have HXB:=am (HBd.out (hs.getD k zH) (by rw[ax,bx hlt];exact List.getElem_mem _));clear hx h8;have HDr:=am (qoz hlt);generalize hs.getD k zH=x at HX H8 HXB HDr;go_wp2_with (first
    |((with_reducible refine fz (.load 151 (.tmp 12)) rfl ?_);refine bc rfl 151 (.tmp 12) rfl g (k*9) rfl (eq x) _ HX.out Tryz.underlying151 rfl (by rw[dn H8.out];exact ke) ?_)
    |((with_reducible refine bp (t:=151) (p:=6) rfl ?_);refine m7 rfl (.tmp 6) (.tmp 13) rfl x rfl rfl H8.out ?_;intro w5 BZ HZ))
   have H5:=am (H1.out.below HZ.out);have HG5:=am (HG1.out.below HZ.out);refine dj (n:=10) (S:=fun w'=>w'.cell? ⟨G,1,none⟩=some (.pointer (some ⟨T,0,none⟩))/\w'.heap[wr.heap.size]? =some (.cells (eq x).toArray 151 (0,0))) (ds:=[8]) (onA 10 0) (by kernel_rfl) rfl rfl ⟨HG5.out.g1,BZ.out⟩ (fun hHeld=>?_);refine pu 0 (some 14) (bA 10 1) (h:=?_);refine pu 1 (some 15) (bA 10 3) (h:=?_);refine pu 2 (some 16) (bA 10 7) (h:=?_);refine pu 4 (some 18) (bA 10 23) (h:=?_);refine pu 6 (some 20) (bA 10 87) (h:=?_);refine tv 3 (some 17) (bA 10 95) rfl hHeld (fun w' hs=>aw 79 (.tmp 16) rfl G 1 _ rfl hs.1 _ Tryz.underlying79 rfl) (h:=?_);refine tv 5 (some 19) (bA 10 127) rfl hHeld (fun w' hs=>aw 3 (.tmp 18) rfl wr.heap.size 0 (.int .i64 x.1) rfl ((aj hs.2 0).trans rfl) _ Tryz.underlying3 rfl) (h:=?_);refine tv 7 (some 21) (bA 10 255) rfl hHeld (fun w' hs=>dh 73 (.tmp 20) rfl wr.heap.size 1 rfl (br x.2) _ (fun j v hv=>by rw[Nat.add_comm 1 j];exact bt hs.2 (j+1) v (by simpa[eq]using hv)) Tryz.underlying73 rfl (by rw[au,H8.out];exact ez)) (h:=?_);refine ko (i:=8) (N:=some 22) (bA 10 511) rfl rfl (by kernel_rfl) (by decide) (fun K hK=>?_);refine fv Tryz.func42 (by kernel_rfl) rfl #[.pointer (some ⟨T,0,none⟩), .int .i64 x.1,iw x.2] (by rfl) rfl rfl (by simp only[List.map_toArray,List.map_cons,List.map_nil];rfl) ?_;refine(yy H5.out.drew (by have:=HV1.out;omega) HXB.out.1 HXB.out.2 x.2 H8.out).mono ?_;rintro e w6 ⟨rfl,h6_,k6_⟩;refine⟨_,rfl,?_⟩;refine hK.out _ _ ?_;clear hK K hHeld;have HVx:=am (qdu H1.out HXB.out.1 HXB.out.2 x.2);generalize hpt:Trn.put s mm pp x.1 x.2=pt at h6_ HVx ⊢;have HPT:=am hpt;clear hpt;have H6:=am h6_;have K6:Aside0 (aq (MCT M C T) w w6):=⟨(K1.out.step (aq.of_below HZ.out)).step ((aq.refl (MCT M C T) w5).drew.step k6_)⟩;clear h6_ k6_;refine pu 9 (some 7) (bA 10 1023) (h:=?_);refine fa (by kernel_rfl) ?_;clear H5 HG5 BZ HZ HX HR1 H1 K1;obtain⟨pe,m2,p2⟩:=pt;by_cases c0:pe=0
   ·subst c0;have E1:Aside0 (Lg.finish s (hs.drop (k+1)) m2 p2=RR):=⟨by rw[<-HE.out,HDr.out,Lg.finish,HPT.out];rfl⟩;go_wp2;go_roundw
    case rel=>exact⟨k+1,m2,p2,by go_num,by omega,H6,K6,⟨by have:=HV1.out;have:=HVx.out;dsimp only at this;omega⟩,E1⟩
    case measure=>simp[intOf];omega
   ·have b0:(pe==0)=false:=beq_eq_false_iff_ne.2 c0;by_cases c3:pe=3
    ·subst c3;have E1:Aside0 (RR=(0,m2,p2)):=⟨by rw[<-HE.out,HDr.out,Lg.finish,HPT.out];rfl⟩;go_wp2;go_ret;rw[E1.out];exact⟨rfl,H6.out,K6.out⟩
    ·have b3:(pe==3)=false:=beq_eq_false_iff_ne.2 c3;have E1:Aside0 (RR=(pe,m2,p2)):=⟨by rw[<-HE.out,HDr.out,Lg.finish,HPT.out,if_neg c0,if_neg c3]⟩;go_wp2;go_ret;rw[E1.out];exact⟨rfl,H6.out,K6.out⟩
  ·have d3:decide ((k:Int)<hs.length)=false:=ah (by omega);have hkk:k=hs.length:=by omega
   subst hkk;have E1:Aside0 (RR=((Nvm.set mm 1 0).1,(Nvm.set mm 1 0).2,pp)):=⟨by rw[<-HE.out,List.drop_length];rfl⟩;have HG1:=am (HG.out.kept K1.out HNG.out);have g0:=HG1.out.g0;go_wp2_with (first|(go_at_call 107;(with_reducible refine(ob H1.out.mem 1 0).mono ?_);rintro e w6 ⟨rfl,h6_,k6_⟩))
   go_ret;rw[E1.out];exact⟨rfl,H1.out.step h6_ k6_ (s9 H1.out.regs 1 (by omega) (by omega)) (by rw[pc _ _ _ _ (by decide)];exact H1.out.mv),K1.out.step k6_.MCT⟩
end
namespace Lg
def recover(s:Shape)(m:Mem)(puts:Int):Int×Mem×Int:=
 if(homes s m).2=0 then
  if(homes s m).1.length=0 then(0,m,puts)
  else if mayH s.n (homes s m).1 then finish s (homes s m).1 m puts
  else(6,m,puts)
 else((homes s m).2,m,puts)
end Lg
section
variable{w:World}{M C L T G:Nat}{s:Shape}{m:Mem}{puts:Int}
theorem TurnAt.lt(h:TurnAt w M C L T s m puts):∀ j,w.heap.size<=j→¬ MCT M C T j:=fun j hj=>by
 have:=h.mem.lt;have:=d7 h.tur;exact s8 (by omega) (by omega) (by omega)
theorem pb{lines:Int}{h:List jw}(hm:Lg.mayH lines h=true):∀ x∈h,16<=x.1/\x.1<lines:=fun x hx=>by
 unfold Lg.mayH at hm;simp only[Bool.and_eq_true,List.all_eq_true,decide_eq_true_eq]at hm;exact hm.1.1 x hx
theorem qad{lines:Int}{h:List jw}(hm:Lg.mayH lines h=true):1<=h.length/\h.length<=14:=by
 unfold Lg.mayH at hm;simp only[Bool.and_eq_true,List.all_eq_true,decide_eq_true_eq]at hm;omega
theorem qd6(h:TurnAt w M C L T s m puts)(hG:j7 w G M T)(hng:¬ MCT M C T G)(hn:17<=s.n)(hrd:m.down=false->Lg.Rd s m)(hc:Lg.count m<=14)(hv:m.regs.getD 0 0+16<=4611686018427387904):Calls Tryz.prog 44 #[.pointer (some ⟨G,0,none⟩)] w fun e w'=>e=.returned (.int .i64 (Lg.recover s m puts).1)/\TurnAt w' M C L T s (Lg.recover s m puts).2.1 (Lg.recover s m puts).2.2/\aq (MCT M C T) w w':=by
 have H:=am h;have HG:=am hG;have HHm:=am (qbi h hG hn hrd hc);have g1:=hG.g1;have HLt:=am h.lt;have hn2:=h.ok.n2;have HBd:Aside0 (∀ x∈(Lg.homes s m).1,-1<=x.1/\x.1<s.n):=⟨by
  unfold Lg.homes;cases hd:m.down
  ·exact wg hn (hrd hd) _ (by omega)
  ·exact fun x hx=>by simp at hx⟩
 have hle:(Lg.homes s m).1.length<=14:=by
  unfold Lg.homes;split
  ·simp
  ·simp only[sh];omega
 have HNG:=am hng;clear hG hng hrd hc h;have ER:=am (show Lg.recover s m puts=if(Lg.homes s m).2=0 then
  if(Lg.homes s m).1.length=0 then(0,m,puts)
  else if Lg.mayH s.n (Lg.homes s m).1 then Lg.finish s (Lg.homes s m).1 m puts
  else(6,m,puts)
 else((Lg.homes s m).2,m,puts)from rfl)
 generalize Lg.recover s m puts=RR at ER;generalize Lg.homes s m=q at HHm HBd hle ER;obtain⟨hs,he⟩:=q;dsimp only at HBd hle ER;have bl:=fun b:World=>True;by_cases c0:he=0
 ·subst c0;by_cases c1:hs.length=0
  ·have E1:Aside0 (RR=(0,m,puts)):=⟨by rw[ER.out,if_pos rfl,if_pos c1]⟩;have b1:((hs.length:Int)==0)=true:=beq_iff_eq.2 (by omega);go_enter Tryz.func44,Tryz.ntmps44;go_wp2_with (first
    |(go_at_call 91;(with_reducible refine HHm.out.mono ?_);rintro e w2 ⟨v,rfl,hr,hb⟩;obtain⟨A,c,rfl⟩:=Kd.R_slice hr;have HB:=am hb;clear hr hb))
   go_ret;rw[E1.out];exact⟨rfl,H.out.below HB.out,aq.of_below HB.out⟩
  ·have b1:((hs.length:Int)==0)=false:=beq_eq_false_iff_ne.2 (by omega);cases hm:Lg.mayH s.n hs
   ·have E1:Aside0 (RR=(6,m,puts)):=⟨by rw[ER.out,if_pos rfl,if_neg c1,if_neg (by rw[hm];decide)]⟩;have HMy:=am hm;clear hm;go_enter Tryz.func44,Tryz.ntmps44;go_wp2_with (first
     |(go_at_call 91;(with_reducible refine HHm.out.mono ?_);rintro e w2 ⟨v,rfl,hr,hb⟩;obtain⟨A,c,rfl⟩:=Kd.R_slice hr;have HR:=am hr;have HB:=am hb;have H2:=am (H.out.below hb);have G2:=am (HG.out.below hb);clear hr hb g1;have g1:=G2.out.g1)
     |(go_at_call 90;(with_reducible refine(gn H2.out).mono ?_);rintro e w7 ⟨rfl,rfl⟩)
     |(go_at_call 92;(with_reducible refine(ox _ s.n _ _ A c hs HR.out (by omega) (fun x hx=>by have:=HBd.out x hx;omega)).mono ?_);rintro e w3 ⟨rfl,hb⟩;rw[HMy.out];have HB3:=am (aa HB.out hb);clear hb))
    go_ret;rw[E1.out];exact⟨rfl,H.out.below HB3.out,aq.of_below HB3.out⟩
   ·have E1:Aside0 (RR=Lg.finish s hs m puts):=⟨by rw[ER.out,if_pos rfl,if_neg c1,if_pos hm]⟩;have HMy:=am hm;clear hm;go_enter Tryz.func44,Tryz.ntmps44;go_wp2_with (first
     |(go_at_call 91;(with_reducible refine HHm.out.mono ?_);rintro e w2 ⟨v,rfl,hr,hb⟩;obtain⟨A,c,rfl⟩:=Kd.R_slice hr;have HR:=am hr;have HB:=am hb;have H2:=am (H.out.below hb);have G2:=am (HG.out.below hb);clear hr hb g1;have g1:=G2.out.g1)
     |(go_at_call 90;(with_reducible refine(gn H2.out).mono ?_);rintro e w7 ⟨rfl,rfl⟩)
     |(go_at_call 92;(with_reducible refine(ox _ s.n _ _ A c hs HR.out (by omega) (fun x hx=>by have:=HBd.out x hx;omega)).mono ?_);rintro e w3 ⟨rfl,hb⟩;rw[HMy.out];have HB3:=am (aa HB.out hb);have HR3:=am (Kd.R_below HR.out hb);clear hb)
     |(go_at_call 93;(with_reducible refine(z8 (H.out.below HB3.out) (HG.out.below HB3.out) HNG.out hs (by omega) (by omega) _ _ A c HR3.out HLt.out (fun x hx=>by have:=pb HMy.out x hx;omega)).mono ?_);rintro e w4 ⟨rfl,h4_,k4_⟩))
    go_ret;rw[E1.out];exact⟨rfl,h4_,(aq.of_below HB3.out).step k4_⟩
 ·have E1:Aside0 (RR=(he,m,puts)):=⟨by rw[ER.out,if_neg c0]⟩;have b0:(he != 0)=true:=bne_iff_ne.2 c0;go_enter Tryz.func44,Tryz.ntmps44;go_wp2_with (first
   |(go_at_call 91;(with_reducible refine HHm.out.mono ?_);rintro e w2 ⟨v,rfl,hr,hb⟩;obtain⟨A,c,rfl⟩:=Kd.R_slice hr;have HB:=am hb;clear hr hb))
  go_ret;rw[E1.out];exact⟨rfl,H.out.below HB.out,aq.of_below HB.out⟩
end
def wk:Kd (List Int) where
 sz:=8
 E:=[]
 K:=fun _ x cs=>cs=br x/\x.length=8
 M:=fun _ _ _ x cs=>cs=br x/\x.length=8
 K_len:=fun h=>by rw[h.1];simp[au,h.2]
 K_one:=fun h u hu=>by
  rw[h.1]at hu
  have:=qas (by assumption)
  unfold br at hu
  obtain⟨z,_,rfl⟩:=List.mem_map.1 hu
  rfl
 K_below:=fun _ h=>h
 K_of_M:=fun h=>h
 M_mono:=fun _ h=>h
 M_bound:=fun h=>h
 M_move:=fun _ h=>h
 M_lower:=fun _ h=>h
theorem lineAt{w:World}{base:Nat}{ok:Nat->Prop}{A:Option Addr}{c n:Nat}{xs:List (List Int)}(h:Kd.R wk 73 w base ok (.slice A n c) xs)(hn:xs.length=n)(i:Nat)(hi:i<n):∃ g,A=some ⟨g,0,none⟩/\(xs.getD i zL).length=8∧∀ j u,(br (xs.getD i zL))[j]? =some u->w.cell? ⟨g,i*8+j,none⟩=some u:=by
 obtain⟨g,cap,e,_⟩:=Kd.R_form h (by omega);obtain⟨ad,cs,e2,_,hK,hc⟩:=Kd.C_get (Kd.R_reads' h).2.2 zL (i:Int) (by omega) (by omega);rw[Int.toNat_natCast]at hK hc;obtain⟨rfl,h8⟩:=hK;injection e with e3;subst e3;injection e2 with e4;subst e4;exact⟨g,rfl,h8,fun j u hu=>by have:=hc j u hu;rw[ou,Nat.zero_add]at this;exact this⟩
section
variable{ops:Array Oper}{rest:List Oper}{o:Oper}{a:Act}{w w0:World}{Q:Exit->Act->World->Prop}
theorem qaq(hgd:o.guard=none)(x y:Operand)(ho:o.op=.makeSlice 197 x y)(n:Nat)(hx:a.eval x=.int .i64 n)(hy:a.eval y=.int .i64 16)(h1:n<=16)(base:Nat)(HB:Below base w0 w)(hbase:base<=w.heap.size)(h:∀ w1,Kd.R wk 73 w1 base (fun _=>True) (.slice (some ⟨w.heap.size,0,none⟩) n 16) (List.replicate n zL)->Below base w0 w1->Below w.heap.size w w1->wpList Tryz.prog ops Q rest (a.put o.dst (.slice (some ⟨w.heap.size,0,none⟩) n 16)) w1):wpList Tryz.prog ops Q (o::rest) a w:=by
 obtain⟨i0,hi,hz0,hz1,hz2⟩:=info_parts qjd;have hr:=run_make (P:=Tryz.prog) w 197 73 i0 _ Tryz.underlying197 hi hz0 .i64 .i64 (n:Int) 16 (by omega) (by omega) (by rw[hz2];decide) (by decide);simp only[Int.toNat_natCast,show(16:Int).toNat=16 from rfl]at hr;rw[hz1]at hr;have hrun:(execOp a.eval o).run Tryz.prog w=.ok (.value (.slice (some ⟨w.heap.size,0,none⟩) n 16)) (w.alloc (.cells (madeCells (Value.agg ct).cells (16*8)) 73)):=by simp[execOp,ho,hx,hy,hr,Result.andThen]
 refine Kd.event_run hgd hrun (h _ ?_ (HB.alloc hbase _) ((ai _ _).alloc (an _) _));have hrep:fp (wk.M w base (fun _=>True)) 8 (List.replicate 16 zL) (madeCells (Value.agg ct).cells (16*8)).toList:=Kd.reps_made rfl (by decide) ⟨rfl,rfl⟩ 16;have h16:Kd.R wk 73 (w.alloc (.cells (madeCells (Value.agg ct).cells (16*8)) 73)) base (fun _=>True) (.slice (some ⟨w.heap.size,0,none⟩) 16 16) (List.replicate 16 zL):=
  ⟨fun _ _=>trivial,_,World.ownsRow_lit (base:=base) (e:=73) (size:=8) w _ 16 hbase (by decide) (by simp[size_madeCells]),hrep.imp_ (fun p c hp=>hp)⟩
 have:=Kd.R_take h16 (m:=n) (by simp;omega)
 rwa[List.take_replicate,Nat.min_eq_left h1]at this
end
theorem qjh{w:World}{base g n cap:Nat}{ok:Nat->Prop}{xs:List (List Int)}(h:Kd.R wk 73 w base ok (.slice (some ⟨g,0,none⟩) n cap) xs)(i j:Nat)(hi:i<n)(hj:j<8)(v:Int):Kd.R wk 73 (w.setCell ⟨g,i*8+j,none⟩ (.int .u64 v)) base ok (.slice (some ⟨g,0,none⟩) n cap) (xs.set i ((xs.getD i zL).set j v)):=by
 obtain⟨c,hc8,⟨rfl,h8⟩,hcc,_⟩:=Kd.R_elem h zL (i:Int) (by omega) (by omega);rw[Int.toNat_natCast]at hc8 hcc;rw[Int.toNat_natCast]at h8;have:=(Kd.R_seg h (i:Int) (by omega) (by omega) (c:=br (xs.getD i zL)) (seg:=[.int .u64 v]) (j:=j) hc8 (fun q u hu=>by have:=hcc q u hu;exact this) (by simp[wk];omega) (x':=(xs.getD i zL).set j v) (okp:=fun k=>ok k/\k≠g) ⟨by
  unfold br;apply List.ext_getElem?;intro q;generalize xs.getD i zL=l at h8;obtain⟨a0,a1,a2,a3,a4,a5,a6,a7,rfl⟩:=qhr h8;have:j=0\/j=1\/j=2\/j=3\/j=4\/j=5\/j=6\/j=7:=by omega
  rcases this with rfl|rfl|rfl|rfl|rfl|rfl|rfl|rfl <;> rfl,by simpa using h8⟩ (fun _ hk=>hk)).1
 rw[Int.toNat_natCast]at this;exact this
theorem ub{o:Oper}{a:Act}{w:World}(ty:TypeId)(x i:Operand)(ho:o.op=.indexAddr ty x i)(g n c k:Nat)(hx:a.eval x=.slice (some ⟨g,0,none⟩) n c)(hi:a.eval i=.int .i64 k)(e sz:Nat)(hu:Tryz.prog.underlying ty=some (.slice e))(hs:(Tryz.prog.info? e).map (·.size)=some sz)(hk:k<n):(execOp a.eval o).run Tryz.prog w=.ok (.value (.pointer (some ⟨g,k*sz,none⟩))) w:=by
 obtain⟨i0,h1,h2⟩:=Option.map_eq_some_iff.1 hs;simp[execOp,ho,hx,hi,Instr.indexAt,run_underlying hu,asIntOf,Result.andThen,sizeOf,typeInfo,h1,h2,hk,ou]
theorem qav{o:Oper}{a:Act}{w:World}(ty:TypeId)(x i:Operand)(ho:o.op=.indexAddr ty x i)(g off k:Nat)(hx:a.eval x=.pointer (some ⟨g,off,none⟩))(hi:a.eval i=.int .i64 k)(e n sz:Nat)(hu:Tryz.prog.underlying ty=some (.array n e))(hs:(Tryz.prog.info? e).map (·.size)=some sz)(hk:k<n):(execOp a.eval o).run Tryz.prog w=.ok (.value (.pointer (some ⟨g,off+k*sz,none⟩))) w:=by
 obtain⟨i0,h1,h2⟩:=Option.map_eq_some_iff.1 hs;simp[execOp,ho,hx,hi,Instr.indexAt,run_underlying hu,Instr.sureAddr,asIntOf,Result.andThen,sizeOf,typeInfo,h1,h2,hk,ou]
theorem qc0{o:Oper}{a:Act}{w:World}(ty:TypeId)(x i:Operand)(ho:o.op=.indexAddr ty x i)(g off k:Nat)(hx:a.eval x=.pointer (some ⟨g,off,none⟩))(hi:a.eval i=.int .i64 k)(e n:Nat)(hu:Tryz.prog.underlying ty=some (.array n e))(hs:(Tryz.prog.info? e).map (·.size)=some 1)(hk:k<n):(execOp a.eval o).run Tryz.prog w=.ok (.value (.pointer (some ⟨g,off+k,none⟩))) w:=by
 have e:=qav (w:=w) ty x i ho g off k hx hi e n 1 hu hs hk
 rwa[Nat.mul_one]at e
theorem mi{o:Oper}{a:Act}{w:World}(ty:TypeId)(x y:Operand)(ho:o.op=.store ty x y)(g off:Nat)(v:Value)(hx:a.eval x=.pointer (some ⟨g,off,none⟩))(hy:a.eval y=v)(hv:v.cells.toList=[v])(ho1:v.oneCell'=true)(hc:(w.cell? ⟨g,off,none⟩).isSome=true)(hf:w.frozen? ⟨g,off,none⟩=false)(hs:(Tryz.prog.info? ty).map (·.size)=some 1):(execOp a.eval o).run Tryz.prog w=.ok .skip (w.setCell ⟨g,off,none⟩ v):=by
 obtain⟨i,hi,hsz⟩:=Option.map_eq_some_iff.1 hs;have hcz:v.cells.size=i.size:=by rw[hsz,←Array.length_toList,hv];rfl
 have hst:=run_storeCells_cells (P:=Tryz.prog) g off [v] 0 w (fun j hj=>by rw[show off+0+j=off by simp at hj;omega];exact hc) (fun j hj=>by rw[show off+0+j=off by simp at hj;omega];exact hf) (fun q hq=>by rw[List.mem_singleton.1 hq];exact ho1);simp only[Nat.add_zero]at hst;have h:(Instr.storeAt ty (.pointer (some ⟨g,off,none⟩)) v).run Tryz.prog w=.ok () (w.setCells g off [v]):=by simp[Instr.storeAt,Instr.sureAddr,storeVar,sizeOf,typeInfo,hi,hcz,hv,hst]
 unfold execOp;simp only[ho,hx,hy,Sem.run_bind,Sem.run_pure,h,Result.andThen_ok];rfl
theorem qex{w:World}{base g n cap:Nat}{ok:Nat->Prop}{xs:List (List Int)}(h:Kd.R wk 73 w base ok (.slice (some ⟨g,0,none⟩) n cap) xs)(i j:Nat)(hi:i<n)(hj:j<8):(w.cell? ⟨g,i*8+j,none⟩).isSome=true/\w.frozen? ⟨g,i*8+j,none⟩=false:=by
 obtain⟨c,hc8,_,hcc,hf⟩:=Kd.R_elem h zL (i:Int) (by omega) (by omega);rw[Int.toNat_natCast]at hcc hf;have hj2:j<c.length:=by rw[hc8];exact hj
 refine⟨?_,hf j⟩;have e:=hcc j _ (bx hj2);rw[show(⟨g,i*8+j,none⟩:Addr)=⟨g,i*wk.sz+j,none⟩from rfl,e];rfl
theorem o3{ops:Array Oper}{rest:List Oper}{o:Oper}{a:Act}{w:World}{Q:Exit->Act->World->Prop}(hgd:o.guard=none)(x y:Operand)(ho:o.op=.store 73 x y)(d:List Int)(hx:a.eval x=.pointer (some ⟨w.heap.size,0,none⟩))(hy:a.eval y=.agg (br d).toArray)(h8:d.length=8)(hh:∀ wz,Aside0 (wz.heap[w.heap.size]? =some (.cells (br d).toArray 73 (0,0)))->Aside0 (Below w.heap.size w wz)->wpList Tryz.prog ops Q rest (a.put o.dst undef) wz):wpList Tryz.prog ops Q (o::rest) a (w.alloc (.cells ct 73)):=by
 refine wpList_store_row hgd 73 x y ho w.heap.size (br d).toArray hx hy 73 _ (heap_alloc_new w _) ?_ ?_ (qas _) (hh _ ⟨l7 w ct (br d).toArray 73⟩ ⟨jv w ct (br d).toArray 73⟩)
 ·rw[List.size_toArray,au,h8];exact ez
 ·simp[au,h8]
theorem qla{r:List (List Int)}{k:Nat}(hk:k<r.length):r.drop k=r.getD k zL::r.drop (k+1):=by
 rw[List.drop_eq_getElem_cons hk,ax,bx hk];rfl
namespace Lg
def rowsTo(h:List jw):Nat->List (List Int)
 |0=>List.replicate (idx h.length).toNat zL
 |k+1=>(rowsTo h k).set (k / 8) (((rowsTo h k).getD (k / 8) zL).set (k % 8) (h.getD k zH).1)++[(h.getD k zH).2]
def putRows(s:Shape):List (List Int)->Nat->Mem->Int->Int×Mem×Int
 |[],_,m,puts=>(0,m,puts)
 |d::r,i,m,puts=>
  if(Trn.put s m puts i d).1=0 then putRows s r (i+1) (Trn.put s m puts i d).2.1 (Trn.put s m puts i d).2.2 else Trn.put s m puts i d
def sealed(s:Shape)(h:List jw)(m:Mem)(puts:Int):Int×Mem×Int:=
 if(Nvm.set m 1 h.length).1=0 then finish s h (Nvm.set m 1 h.length).2 puts else((Nvm.set m 1 h.length).1,(Nvm.set m 1 h.length).2,puts)
def commit(s:Shape)(h:List jw)(m:Mem)(puts:Int):Int×Mem×Int:=
 if !mayH s.n h then(1,m,puts)
 else if m.down then(2,m,puts)
 else if(Nvm.reg m 1).1≠0 then(5,m,puts)
 else if(putRows s (rowsTo h h.length) 0 m puts).1=0 then sealed s h (putRows s (rowsTo h h.length) 0 m puts).2.1 (putRows s (rowsTo h h.length) 0 m puts).2.2
 else putRows s (rowsTo h h.length) 0 m puts
theorem rowsTo_length(h:List jw):∀ k,(rowsTo h k).length=(idx h.length).toNat+k
 |0=>by simp[rowsTo]
 |k+1=>by simp[rowsTo,rowsTo_length h k];omega
end Lg
section
variable{w:World}{M C L T G:Nat}{s:Shape}{m:Mem}{puts:Int}
theorem qgj:(Tryz.prog.info? 25).map (·.size)=some 1:=by kernel_rfl
theorem qfh (h : TurnAt w M C L T s m puts) (hG : j7 w G M T) (hng : ¬ MCT M C T G) (hn : 17 ≤ s.n) (hs : List jw) (hl : hs.length ≤ 1000000) (hb : ∀ x ∈ hs, -1 ≤ x.1 ∧ x.1 ≤ 1000000) (hv : m.regs.getD 0 0 + 40 ≤ 4611686018427387904) (base : Nat) (ok : Nat → Prop) (A : Option Addr) (c : Nat) (hr : Kd.R ym 151 w base ok (.slice A hs.length c) hs) (hbase : ∀ j, base ≤ j → ¬ MCT M C T j) : Calls Tryz.prog 143 #[.pointer (some ⟨G, 0, none⟩), .slice A hs.length c] w fun e w' => e = .returned (.int .i64 (Lg.commit s hs m puts).1) ∧ TurnAt w' M C L T s (Lg.commit s hs m puts).2.1 (Lg.commit s hs m puts).2.2 ∧ aq (MCT M C T) w w' := by
 have H:=am h;have HG:=am hG;have HNG:=am hng;have HR:=am hr;have HBs:=am hbase;have HLt:=am h.lt;have HBb:=am hb;have hn2:=h.ok.n2;have g1:=hG.g1;have g0:=hG.g0;have HMay:=am (ox w s.n base ok A c hs hr hl hb);clear h hG hng hr hbase hb;cases hm:Lg.mayH s.n hs
 ·have E:=am (show Lg.commit s hs m puts=(1,m,puts)by unfold Lg.commit;rw[hm];rfl);rw[hm]at HMay;clear hm;rw[E.out];go_enter Tryz.func143,Tryz.ntmps143;go_wp2_with (first
   |(go_at_call 90;(with_reducible refine(gn H.out).mono ?_);rintro e w7 ⟨rfl,rfl⟩)
   |(go_at_call 92;(with_reducible refine HMay.out.mono ?_);rintro e w3 ⟨rfl,hb⟩;have HB3:=am hb;clear hb))
  go_ret;exact⟨rfl,H.out.below HB3.out,aq.of_below HB3.out⟩
 ·have HLines := am (pb hm);have hlen := qad hm;have HM := am hm;rw [hm] at HMay;clear hm;cases hd : m.down;rotate_left
  ·have E:=am (show Lg.commit s hs m puts=(2,m,puts)by unfold Lg.commit;rw[HM.out,hd];rfl);have HD:=am hd;clear hd;rw[E.out];go_enter Tryz.func143,Tryz.ntmps143;go_wp2_with (first
    |(go_at_call 90;(with_reducible refine(gn H.out).mono ?_);rintro e w7 ⟨rfl,rfl⟩)
    |(go_at_call 92;(with_reducible refine HMay.out.mono ?_);rintro e w3 ⟨rfl,hb⟩;have HB3:=am hb;have H3:=am (H.out.below hb);have G3:=am (HG.out.below hb);clear hb g0 g1;have g0:=G3.out.g0;have g1:=G3.out.g1)
    |(go_at_call 30;(with_reducible refine(ll H3.out.mem).mono ?_);rintro e w4 ⟨rfl,rfl⟩;rw[HD.out]))
   go_ret;exact⟨rfl,H.out.below HB3.out,aq.of_below HB3.out⟩
  ·have HD := am hd;by_cases hp : (Nvm.reg m 1).1 = 0;rotate_left
   ·have E:=am (show Lg.commit s hs m puts=(5,m,puts)by unfold Lg.commit;rw[HM.out,hd,if_neg (by decide),if_neg (by decide),if_pos hp]);have HP:=am (show((Nvm.reg m 1).1 != 0)=true from bne_iff_ne.2 hp);clear hd hp;rw[E.out];go_enter Tryz.func143,Tryz.ntmps143;go_wp2_with (first
     |(go_at_call 90;(with_reducible refine(gn H.out).mono ?_);rintro e w7 ⟨rfl,rfl⟩)
     |(go_at_call 92;(with_reducible refine HMay.out.mono ?_);rintro e w3 ⟨rfl,hb⟩;have HB3:=am hb;have H3:=am (H.out.below hb);have G3:=am (HG.out.below hb);clear hb g0 g1;have g0:=G3.out.g0;have g1:=G3.out.g1)
     |(go_at_call 30;(with_reducible refine(ll H3.out.mem).mono ?_);rintro e w4 ⟨rfl,rfl⟩;rw[HD.out])
     |(go_at_call 60;(with_reducible refine(th H3.out.mem G3.out).mono ?_);rintro e w4 ⟨rfl,rfl⟩;rw[HP.out]))
    go_ret;exact⟨rfl,H.out.below HB3.out,aq.of_below HB3.out⟩
   ·have E := am (show Lg.commit s hs m puts = if (Lg.putRows s (Lg.rowsTo hs hs.length) 0 m puts).1 = 0 then Lg.sealed s hs (Lg.putRows s (Lg.rowsTo hs hs.length) 0 m puts).2.1 (Lg.putRows s (Lg.rowsTo hs hs.length) 0 m puts).2.2 else Lg.putRows s (Lg.rowsTo hs hs.length) 0 m puts by unfold Lg.commit; rw [HM.out, hd, if_neg (by decide), if_neg (by decide), if_neg (by omega)]);have HP := am (show ((Nvm.reg m 1).1 != 0) = false from by rw [hp]; rfl);clear hd hp;generalize Lg.commit s hs m puts = RR at E ⊢;have HIdx := am (qho (n := hs.length) (by omega) (by omega));have hix : 0 ≤ Lg.idx hs.length ∧ Lg.idx hs.length ≤ 2 := by unfold Lg.idx; omega
    go_enter Tryz.func143,Tryz.ntmps143;go_wp2_with (first
     |(go_at_call 90;(with_reducible refine(gn H.out).mono ?_);rintro e w7 ⟨rfl,rfl⟩)
     |(go_at_call 92;(with_reducible refine HMay.out.mono ?_);rintro e w3 ⟨rfl,hb⟩;have HB3:=am hb;have H3:=am (H.out.below hb);have G3:=am (HG.out.below hb);clear hb g0 g1;have g0:=G3.out.g0;have g1:=G3.out.g1)
     |(go_at_call 30;(with_reducible refine(ll H3.out.mem).mono ?_);rintro e w4 ⟨rfl,rfl⟩;rw[HD.out])
     |(go_at_call 60;(with_reducible refine(th H3.out.mem G3.out).mono ?_);rintro e w4 ⟨rfl,rfl⟩;rw[HP.out])
     |(go_at_call 135;(with_reducible refine(pa.calls (hs.length:Int) (Lg.idx hs.length) _ HIdx.out).mono ?_);rintro e w4 ⟨rfl,⟨nd,rfl⟩⟩;have HB4:=am (bq HB3.out nd))
     |((with_reducible refine b9 (N:=37) rfl ?_);refine qaq rfl (.tmp 36) (.const (.int .i64 16)) rfl (Lg.idx hs.length).toNat ?hx rfl (by omega) w.heap.size HB4.out HB4.out.size ?_;(case hx=>rw[show(((Lg.idx hs.length).toNat:Nat):Int)=Lg.idx hs.length by omega];rfl);intro w5 ho hb hb2;have HO:=am ho;have HB5:=am hb;clear ho hb hb2))
    clear g0 g1;have hrl:=Lg.rowsTo_length hs;have HRL:=am hrl;clear hrl;go_loopw [5,40] (fun v i wr=>∃ k:Nat,i=.int .i64 k/\k<=hs.length/\Aside0 (Kd.R wk 73 wr w.heap.size (fun _=>True) v (Lg.rowsTo hs k))/\Aside0 (Below w.heap.size w wr)) (fun _ i _=>hs.length-(intOf i).toNat)
    case atStart=>exact⟨0,rfl,by omega,HO,HB5⟩
    case round =>
     clear HO HB5;obtain⟨k,rfl,hk,HO,HB⟩:=hrel;by_cases hlt:k<hs.length
     ·have d3:decide ((k:Int)<hs.length)=true:=af (by omega);obtain⟨g,ea,h8,hx⟩:=homeAt (Kd.R_below HR.out HB.out) rfl k hlt;subst ea;have HX:=am hx;have H8:=am h8;have HXB:=am (HLines.out (hs.getD k zH) (by rw[ax,bx hlt];exact List.getElem_mem _));have HSu:Aside0 (Lg.rowsTo hs (k+1)=(Lg.rowsTo hs k).set (k / 8) (((Lg.rowsTo hs k).getD (k / 8) zL).set (k % 8) (hs.getD k zH).1)++[(hs.getD k zH).2]):=⟨rfl⟩;clear hx h8;generalize hs.getD k zH=x at HX H8 HXB HSu;have hlk:=HRL.out k;have hk14:k / 8<(Lg.idx hs.length).toNat:=by unfold Lg.idx;omega
      obtain⟨gr,cap,ev,hgr,_,_⟩:=Kd.R_form HO.out (by rw[hlk];omega);subst ev;have HLk:=am hlk;have HNn:Aside0 (k / 8<(Lg.rowsTo hs k).length):=⟨by omega⟩;clear hlk;generalize hrw:Lg.rowsTo hs k=rw_ at HO HLk HSu HNn;generalize hnn:rw_.length=nn at HO HLk HNn;have HNN:=am hnn;clear hrw hnn;go_wp2_with (first
       |((with_reducible refine fz (.load 151 (.tmp 43)) rfl ?_);refine bc rfl 151 (.tmp 43) rfl g (k*9) rfl (eq x) _ HX.out Tryz.underlying151 rfl (by rw[dn H8.out];exact ke) ?_)
       |((with_reducible refine bp (t:=151) (p:=7) rfl ?_);refine m7 rfl (.tmp 7) (.tmp 44) rfl x rfl rfl H8.out ?_;intro w6 BZ HZ))
      refine dj (n:=11) (S:=fun w'=>w'.heap[wr.heap.size]? =some (.cells (eq x).toArray 151 (0,0))) (ds:=[10]) (onA 11 0) (by kernel_rfl) rfl rfl BZ.out (fun hHeld=>?_);refine pu 0 (some 45) (bA 11 1) (h:=?_);refine pu 1 (some 46) (bA 11 3) (h:=?_);refine pu (v:=.int .i64 ((k / 8:Nat):Int)) 2 (some 47) (bA 11 7) (hy:=by intro w';go_simp;rw[IntKind.wrap_i64];omega) (h:=?_);refine pu 3 (some 48) (bA 11 15) (h:=?_);refine pu (v:=.int .i64 ((k % 8:Nat):Int)) 4 (some 49) (bA 11 31) (hy:=by intro w';go_simp;exact Int.tmod_eq_emod_of_nonneg (by omega)) (h:=?_);refine pu 5 (some 50) (bA 11 63) (h:=?_);refine pu 8 (some 53) (bA 11 319) (hy:=fun w'=>ub 197 (.tmp 45) (.tmp 47) rfl gr nn cap (k / 8) rfl rfl 73 8 Tryz.underlying197 ez HNn.out) (h:=?_);refine tv 6 (some 51) (bA 11 383) rfl hHeld (fun w' hs=>aw 3 (.tmp 50) rfl wr.heap.size 0 (.int .i64 x.1) rfl ((aj hs 0).trans rfl) _ Tryz.underlying3 rfl) (h:=?_);refine pu (v:=.int .u64 x.1) 7 (some 52) (bA 11 511) (hy:=by intro w';go_simp;rw[IntKind.wrap_u64];have:=HXB.out;omega) (h:=?_);refine pu 9 (some 54) (bA 11 1023) (hy:=fun w'=>qc0 73 (.tmp 53) (.tmp 49) rfl gr (k / 8*8) (k % 8) rfl rfl 25 8 Tryz.underlying73 qgj (by omega)) (h:=?_);refine ko (i:=10) (N:=none) (bA 11 2047) rfl rfl (by kernel_rfl) (by decide) (fun K hK=>?_);have HO6:=am (Kd.R_drew (Kd.R_below HO.out HZ.out));have HB6:=am (bg (aa HB.out HZ.out));have BZ6:=am (dp BZ.out);have hgl:gr<wr.heap.size:=Kd.R_lt HO.out gr (by simp[Value.ownBlock]);refine su (by rfl) rfl (mi 25 (.tmp 54) (.tmp 52) rfl gr (k / 8*8+k % 8) (.int .u64 x.1) rfl rfl rfl rfl (qex HO6.out (k / 8) (k % 8) HNn.out (by omega)).1 (qex HO6.out (k / 8) (k % 8) HNn.out (by omega)).2 qgj) ?_;refine hK.out _ _ ?_;clear hK K hHeld;refine fa (by kernel_rfl) ?_;have HO7:=am (qjh HO6.out (k / 8) (k % 8) HNn.out (by omega) x.1);have HB7:=am (bj (j:=k / 8*8+k % 8) (v:=.int .u64 x.1) HB6.out hgr);have BZ7:Aside0 ((w6.drew.setCell ⟨gr,k / 8*8+k % 8,none⟩ (.int .u64 x.1)).heap[wr.heap.size]? =some (.cells (eq x).toArray 151 (0,0))):=⟨by rw[Below.heap_setCell _ _ _ _ (by show wr.heap.size≠gr;omega)];exact BZ6.out⟩;clear HO6 HB6 BZ6 BZ HZ HO HB HX;generalize w6.drew.setCell ⟨gr,k / 8*8+k % 8,none⟩ (.int .u64 x.1)=w7 at HO7 HB7 BZ7 ⊢;generalize hq:rw_.set (k / 8) ((rw_.getD (k / 8) zL).set (k % 8) x.1)=q_ at HO7 HSu;have HQ:Aside0 (q_.length=nn):=⟨by rw[<-hq,List.length_set];exact HNN.out⟩;clear hq;go_wp2_with (first
       |((with_reducible refine fz (.load 73 (.tmp 56)) rfl ?_);refine bc rfl 73 (.tmp 56) rfl wr.heap.size 1 rfl (br x.2) _ (fun j v hv=>by rw[Nat.add_comm 1 j];exact bt BZ7.out (j+1) v (by simpa[eq]using hv)) Tryz.underlying73 rfl (by rw[au,H8.out];exact ez) ?_)
       |((with_reducible refine b9 (N:=58) rfl ?_);refine qb3 rfl (.tmp 57) rfl x.2 H8.out rfl ?_)
       |((with_reducible refine di (b:=.append) (xs:=#[.tmp 55, .tmp 58]) rfl ?_);at_builtin;refine Kd.R_append wk (w0:=w) w.heap.size rfl (.tmp 55) (.tmp 58) 197 73 (.agg ct) 64 rfl Tryz.underlying197 qjd rfl (by decide) (by omega) _ q_ x.2 (br x.2) (fun _=>True) (fun _=>False) rfl rfl ?aP (fun _ hk=>hk.elim) ?aF HO7.out HB7.out (bk HB7.out) ?aL ?_;(case aP=>exact⟨rfl,H8.out⟩);(case aF=>exact(fun _ _=>trivial));(case aL=>(have:=HQ.out;have:=HLk.out;omega));intro v1 w8 ho hb hg hat;have HO8:=am ho;have HB8:=am hb;clear ho hb hg hat))
      go_roundw
      case rel=>exact⟨k+1,by go_num,by omega,⟨by rw[HSu.out];exact HO8.out⟩,HB8⟩
      case measure=>simp[intOf];omega
     ·have hkk:k=hs.length:=by omega
      subst hkk;have d3:decide ((hs.length:Int)<hs.length)=false:=ah (by omega);have hlk:=HRL.out hs.length;obtain⟨Ar,cr,er⟩:=Kd.R_slice HO.out;subst er;have HRows:=am (show Lg.rowsTo hs hs.length=Lg.rowsTo hs hs.length from rfl);generalize Lg.rowsTo hs hs.length=rows at HO E hlk;generalize hPP:Lg.putRows s rows 0 m puts=PP at E;have HPP:=am hPP;clear hPP HRows;have H1:=am (H.out.below HB.out);have G1:=am (HG.out.below HB.out);have KW:Aside0 (aq (MCT M C T) w wr):=⟨aq.of_below HB.out⟩;have hrl:rows.length<=16:=by rw[hlk];unfold Lg.idx;omega
      clear hlk;go_wp2;obtain⟨wo,hwo⟩:∃ z,z=wr:=⟨_,rfl⟩;subst hwo;go_loopw [63] (fun i wr2=>∃ (k:Nat) (mm:Mem) (pp:Int),i=.int .i64 k/\k<=rows.length/\Aside0 (TurnAt wr2 M C L T s mm pp)/\Aside0 (aq (MCT M C T) wo wr2)/\Aside0 (mm.regs.getD 0 0<=m.regs.getD 0 0+k)/\Aside0 (Lg.putRows s (rows.drop k) k mm pp=PP)) (fun i _=>rows.length-(intOf i).toNat)
      case atStart=>exact⟨0,m,puts,rfl,by omega,H1,⟨aq.refl _ _⟩,⟨by omega⟩,HPP⟩
      case round=>
       clear H1;obtain⟨k,mm,pp,rfl,hk,H1,K1,HV1,HE⟩:=hrel;by_cases hlt:k<rows.length
       ·have d4:decide ((k:Int)<rows.length)=true:=af (by omega);have HRow:=am (oq HO.out K1.out HLt.out);have G2:=am (G1.out.kept K1.out HNG.out);obtain⟨g,ea,h8,hx⟩:=lineAt HRow.out rfl k hlt;subst ea;have HX:=am hx;have H8:=am h8;clear hx h8;have HDr:=am (qla hlt);generalize rows.getD k zL=d at HX H8 HDr;go_wp2_with (first
         |((with_reducible refine fz (.load 73 (.tmp 66)) rfl ?_);refine bc rfl 73 (.tmp 66) rfl g (k*8) rfl (br d) _ HX.out Tryz.underlying73 rfl (by rw[au,H8.out];exact ez) ?_)
         |((with_reducible refine bp (t:=73) (p:=9) rfl ?_);refine o3 rfl (.tmp 9) (.tmp 67) rfl d rfl rfl H8.out ?_;intro w6 BZ HZ))
        have H5:=am (H1.out.below HZ.out);have G5:=am (G2.out.below HZ.out);refine dj (n:=8) (S:=fun w'=>w'.cell? ⟨G,1,none⟩=some (.pointer (some ⟨T,0,none⟩))/\w'.heap[wr.heap.size]? =some (.cells (br d).toArray 73 (0,0))) (ds:=[6]) (onA 8 0) (by kernel_rfl) rfl rfl ⟨G5.out.g1,BZ.out⟩ (fun hHeld=>?_);refine pu 0 (some 68) (bA 8 1) (h:=?_);refine pu 1 (some 69) (bA 8 3) (h:=?_);refine pu 2 (some 70) (bA 8 7) (h:=?_);refine pu 4 (some 72) (bA 8 23) (h:=?_);refine tv 3 (some 71) (bA 8 31) rfl hHeld (fun w' hs=>aw 79 (.tmp 70) rfl G 1 _ rfl hs.1 _ Tryz.underlying79 rfl) (h:=?_);refine tv 5 (some 73) (bA 8 63) rfl hHeld (fun w' hs=>dh 73 (.tmp 9) rfl wr.heap.size 0 rfl (br d) _ (fun j v hv=>by rw[Nat.zero_add];exact bt hs.2 j v hv) Tryz.underlying73 rfl (by rw[au,H8.out];exact ez)) (h:=?_);refine ko (i:=6) (N:=some 74) (bA 8 127) rfl rfl (by kernel_rfl) (by decide) (fun K hK=>?_);refine fv Tryz.func42 (by kernel_rfl) rfl #[.pointer (some ⟨T,0,none⟩), .int .i64 k,iw d] (by rfl) rfl rfl (by simp only[List.map_toArray,List.map_cons,List.map_nil];rfl) ?_;refine(yy H5.out.drew (by have:=HV1.out;omega) (line:=(k:Int)) (by omega) (by omega) d H8.out).mono ?_;rintro e w9 ⟨rfl,h6_,k6_⟩;refine⟨_,rfl,?_⟩;refine hK.out _ _ ?_;clear hK K hHeld;have HVx:=am (qdu H1.out (line:=(k:Int)) (by omega) (by omega) d);have K9:Aside0 (aq (MCT M C T) wo w9):=⟨(K1.out.step (aq.of_below HZ.out)).step ((aq.refl (MCT M C T) w6).drew.step k6_)⟩;generalize hpt:Trn.put s mm pp (k:Int) d=pt at h6_ HVx ⊢;have HPT:=am hpt;clear hpt;have H9:=am h6_;clear h6_ k6_;refine pu 7 (some 10) (bA 8 255) (h:=?_);refine fa (by kernel_rfl) ?_;clear H5 G5 BZ HZ HX HRow H1 K1 G2;obtain⟨pe,m2,p2⟩:=pt;by_cases c0:pe=0
        ·subst c0;have E1:Aside0 (Lg.putRows s (rows.drop (k+1)) (k+1) m2 p2=PP):=⟨by rw[<-HE.out,HDr.out,Lg.putRows,HPT.out];rfl⟩;go_wp2;go_roundw
         case rel=>exact⟨k+1,m2,p2,by go_num,by omega,H9,K9,⟨by have:=HV1.out;have:=HVx.out;dsimp only at this;omega⟩,E1⟩
         case measure=>simp[intOf];omega
        ·have b0:(pe != 0)=true:=bne_iff_ne.2 c0;have E1:Aside0 (RR=(pe,m2,p2)):=⟨by
          have e:PP=(pe,m2,p2):=by rw[<-HE.out,HDr.out,Lg.putRows,HPT.out,if_neg c0]
          rw[E.out,e,if_neg c0]⟩
         go_wp2;go_ret;rw[E1.out];exact⟨rfl,H9.out,KW.out.step K9.out⟩
       ·have hkk:k=rows.length:=by omega
        subst hkk;have d4:decide ((rows.length:Int)<rows.length)=false:=ah (by omega);have G2:=am (G1.out.kept K1.out HNG.out);have g0:=G2.out.g0;have E1:Aside0 (RR=Lg.sealed s hs mm pp):=⟨by
         have e:PP=(0,mm,pp):=by rw[<-HE.out,List.drop_length];rfl
         rw[E.out,e,if_pos rfl]⟩
        have hw:IntKind.u64.wrap (hs.length:Int)=hs.length:=by rw[IntKind.wrap_u64];omega
        have KA:Aside0 (aq (MCT M C T) w wr):=⟨KW.out.step K1.out⟩;have HRe:=am (oq HR.out KA.out HBs.out);generalize hst:Nvm.set mm 1 hs.length=st;have HST:=am hst;clear hst;have HRk:Aside0 (gf st.2):=⟨by rw[<-HST.out];exact s9 H1.out.regs 1 (by omega) (by omega)⟩;have HV0:Aside0 (st.2.regs.getD 0 0=mm.regs.getD 0 0):=⟨by rw[<-HST.out];exact pc _ _ _ _ (by decide)⟩;obtain⟨se,m3⟩:=st;dsimp only at HRk HV0;by_cases c0:se=0
        ·subst c0;have E2:Aside0 (RR=Lg.finish s hs m3 pp):=⟨by rw[E1.out,Lg.sealed,HST.out];rfl⟩;go_wp2_with (first
          |(go_at_call 107;(with_reducible refine(ob H1.out.mem 1 (hs.length:Int)).mono ?_);rintro e w8 ⟨rfl,h8_,k8_⟩;rw[HST.out]at h8_ ⊢;dsimp only at h8_ ⊢;have H8:=am (H1.out.step h8_ k8_ HRk.out (by have:=HV0.out;have:=H1.out.mv;omega));have K8:Aside0 (aq (MCT M C T) w w8):=⟨KA.out.step k8_.MCT⟩;clear h8_ k8_)
          |(go_at_call 93;(with_reducible refine(z8 H8.out (HG.out.kept K8.out HNG.out) HNG.out hs (by have:=HV0.out;have:=HV1.out;omega) (by omega) base ok _ c (oq HR.out K8.out HBs.out) HBs.out (fun x hx=>by have:=HLines.out x hx;omega)).mono ?_);rintro e w9 ⟨rfl,h9_,k9_⟩))
         go_ret;rw[E2.out];exact⟨rfl,h9_,K8.out.step k9_⟩
        ·have b0:(se != 0)=true:=bne_iff_ne.2 c0;have E2:Aside0 (RR=(se,m3,pp)):=⟨by rw[E1.out,Lg.sealed,HST.out,if_neg c0]⟩;go_wp2_with (first
          |(go_at_call 107;(with_reducible refine(ob H1.out.mem 1 (hs.length:Int)).mono ?_);rintro e w8 ⟨rfl,h8_,k8_⟩;rw[HST.out]at h8_ ⊢;dsimp only at h8_ ⊢;have H8:=am (H1.out.step h8_ k8_ HRk.out (by have:=HV0.out;have:=H1.out.mv;omega));have K8:Aside0 (aq (MCT M C T) w w8):=⟨KA.out.step k8_.MCT⟩;clear h8_ k8_))
         go_ret;rw[E2.out];exact⟨rfl,H8.out,K8.out⟩
end
structure CBlk where
 K:Nat
 NB:Nat
 KB:Nat
 c1:Nat
 c2:Nat
def CBlk.At(q:CBlk)(k:Nat):Prop:=k=q.K\/k=q.NB\/k=q.KB
structure CntAt (w:World) (q:CBlk) (b:Int) (now kept:List Int):Prop where
 box:w.heap[q.K]? =some (.cells #[.int .i64 b, .slice (some ⟨q.NB,0,none⟩) now.length q.c1, .slice (some ⟨q.KB,0,none⟩) kept.length q.c2] 141 (0,0))
 nr:Kd.R (Kd.int .i64) 3 w 0 (fun k=>k=q.NB) (.slice (some ⟨q.NB,0,none⟩) now.length q.c1) now
 kr:Kd.R (Kd.int .i64) 3 w 0 (fun k=>k=q.KB) (.slice (some ⟨q.KB,0,none⟩) kept.length q.c2) kept
 n1:q.K≠q.NB
 n2:q.K≠q.KB
 n3:q.NB≠q.KB
 len:kept.length=now.length
section
variable{w:World}{q:CBlk}{b:Int}{now kept:List Int}
theorem CntAt.step(h:CntAt w q b now kept){w':World}{S:Nat->Prop}(k:aq S w w')(hS:∀ j,q.At j→¬ S j):CntAt w' q b now kept:=
 ⟨k.of h.box (hS _ (.inl rfl)),Kd.R_step h.nr (fun j hj hlt=>k.block j hlt (by subst hj;exact hS _ (.inr (.inl rfl)))),Kd.R_step h.kr (fun j hj hlt=>k.block j hlt (by subst hj;exact hS _ (.inr (.inr rfl)))),h.n1,h.n2,h.n3,h.len⟩
theorem CntAt.below(h:CntAt w q b now kept){w':World}(hb:Below w.heap.size w w'):CntAt w' q b now kept:=h.step (S:=fun _=>False) (aq.of_below hb) (fun _ _=>id)
theorem CntAt.k0(h:CntAt w q b now kept):w.cell? ⟨q.K,0,none⟩=some (.int .i64 b):=(aj h.box 0).trans rfl
theorem CntAt.k1(h:CntAt w q b now kept):w.cell? ⟨q.K,1,none⟩=some (.slice (some ⟨q.NB,0,none⟩) now.length q.c1):=(aj h.box 1).trans rfl
theorem CntAt.k2(h:CntAt w q b now kept):w.cell? ⟨q.K,2,none⟩=some (.slice (some ⟨q.KB,0,none⟩) kept.length q.c2):=(aj h.box 2).trans rfl
theorem i8{w:World}{base g n cap:Nat}{ok:Nat->Prop}{xs:List Int}(h:Kd.R (Kd.int .i64) 3 w base ok (.slice (some ⟨g,0,none⟩) n cap) xs)(p:Nat)(hp:p<n):w.cell? ⟨g,p,none⟩=some (.int .i64 (xs.getD p 0))/\w.frozen? ⟨g,p,none⟩=false:=by
 obtain⟨c,hc8,hM,hcc,hf⟩:=Kd.R_elem h 0 (p:Int) (by omega) (by omega);rw[Int.toNat_natCast]at hcc hf hM;have e:c=[Value.int .i64 (xs.getD p 0)]:=hM;subst e;have h1:=hcc 0 _ rfl;have h2:=hf 0;have e1:p*(Kd.int .i64).sz+0=p:=by show p*1+0=p;omega
 rw[e1]at h1 h2;exact⟨h1,h2⟩
theorem CntAt.setNow(h:CntAt w q b now kept)(p:Nat)(hp:p<now.length)(v:Int):CntAt (w.setCell ⟨q.NB,p,none⟩ (.int .i64 v)) q b (now.set p v) kept:=by
 have e:=Kd.R_put h.nr (p:Int) v;rw[Int.toNat_natCast]at e;refine⟨?_,by rw[List.length_set];exact e.1,?_,h.n1,h.n2,h.n3,by rw[List.length_set];exact h.len⟩
 ·rw[Below.heap_setCell _ _ _ _ (fun e=>h.n1 e),List.length_set];exact h.box
 ·exact Kd.R_step h.kr (fun j hj _=>Below.heap_setCell _ _ _ _ (fun e=>h.n3 (by rw[<-hj];exact e.symm)))
theorem CntAt.setKept(h:CntAt w q b now kept)(p:Nat)(hp:p<kept.length)(v:Int):CntAt (w.setCell ⟨q.KB,p,none⟩ (.int .i64 v)) q b now (kept.set p v):=by
 have e:=Kd.R_put h.kr (p:Int) v;rw[Int.toNat_natCast]at e;refine⟨?_,?_,by rw[List.length_set];exact e.1,h.n1,h.n2,h.n3,by rw[List.length_set];exact h.len⟩
 ·rw[Below.heap_setCell _ _ _ _ (fun e=>h.n2 e),List.length_set];exact h.box
 ·exact Kd.R_step h.nr (fun j hj _=>Below.heap_setCell _ _ _ _ (fun e=>h.n3 (by rw[<-hj];exact e)))
end
theorem qqp:(Tryz.prog.info? 3).map (·.size)=some 1:=by kernel_rfl
theorem ow{o:Oper}{a:Act}{w:World}(ty:TypeId)(x i:Operand)(ho:o.op=.indexAddr ty x i)(g n c k:Nat)(hx:a.eval x=.slice (some ⟨g,0,none⟩) n c)(hi:a.eval i=.int .i64 k)(hu:Tryz.prog.underlying ty=some (.slice 3))(hk:k<n):(execOp a.eval o).run Tryz.prog w=.ok (.value (.pointer (some ⟨g,k,none⟩))) w:=by
 have e:=ub (w:=w) ty x i ho g n c k hx hi 3 1 hu qqp hk
 rwa[Nat.mul_one]at e
namespace Cnt
def lag(now kept:List Int)(p:Nat):Int:=wrap64 (now.getD p 0-kept.getD p 0)
def note(b:Int)(now kept:List Int)(p:Nat):Int×Bool×List Int×List Int:=
 (wrap64 (now.getD p 0+1),decide (b<=lag (now.set p (wrap64 (now.getD p 0+1))) kept p),now.set p (wrap64 (now.getD p 0+1)),
  if b<=lag (now.set p (wrap64 (now.getD p 0+1))) kept p then kept.set p (wrap64 (now.getD p 0+1))else kept)
end Cnt
section
variable{w:World}{q:CBlk}{b:Int}{now kept:List Int}
theorem z7(h:CntAt w q b now kept)(p:Nat):Calls Tryz.prog 167 #[.pointer (some ⟨q.K,0,none⟩), .int .i64 p] w fun e w'=>e=.returned (.bool (decide (p<now.length)))/\w=w':=by
 have k1:=h.k1;clear h;have d0:decide ((p:Int)>=0)=true:=af (by omega);go_enter Tryz.func167,Tryz.ntmps167;go_wp2;go_ret;exact⟨by simp,rfl⟩
theorem qkt(h:CntAt w q b now kept)(p:Nat)(hp:p<now.length):Calls Tryz.prog 168 #[.pointer (some ⟨q.K,0,none⟩), .int .i64 p] w fun e w'=>e=.returned (.int .i64 (Cnt.lag now kept p))/\Below w.heap.size w w':=by
 have H:=am h;have HN:=am (i8 h.nr p hp).1;have HK:=am (i8 h.kr p (by rw[h.len];exact hp)).1;have d0:decide (p<now.length)=true:=af hp;have hp2:=h.len;have HL:=am hp2;have HLag:=am (show Cnt.lag now kept p=wrap64 (now.getD p 0-kept.getD p 0)from rfl);generalize now.getD p 0=nv at HN HLag;generalize kept.getD p 0=kv at HK HLag;clear h hp2;go_enter Tryz.func168,Tryz.ntmps168;go_wp2_with (first|(go_at_call 167;(with_reducible refine(z7 H.out p).mono ?_);rintro e w1 ⟨rfl,rfl⟩;rw[d0]))
 refine dj (n:=16) (S:=fun w'=>w'.cell? ⟨q.K,1,none⟩=some (.slice (some ⟨q.NB,0,none⟩) now.length q.c1)/\w'.cell? ⟨q.K,2,none⟩=some (.slice (some ⟨q.KB,0,none⟩) kept.length q.c2)/\w'.cell? ⟨q.NB,p,none⟩=some (.int .i64 nv)/\w'.cell? ⟨q.KB,p,none⟩=some (.int .i64 kv)) (ds:=[]) (onA 16 0) (by kernel_rfl) rfl rfl ⟨H.out.k1,H.out.k2,HN.out,HK.out⟩ (fun hHeld=>?_);refine pu 0 (some 9) (bA 16 1) (h:=?_);refine pu 1 (some 10) (bA 16 3) (h:=?_);refine pu 2 (some 11) (bA 16 7) (h:=?_);refine pu 4 (some 13) (bA 16 23) (h:=?_);refine pu 7 (some 16) (bA 16 151) (h:=?_);refine pu 8 (some 17) (bA 16 407) (h:=?_);refine pu 9 (some 18) (bA 16 919) (h:=?_);refine pu 11 (some 20) (bA 16 2967) (h:=?_);refine tv 3 (some 12) (bA 16 2975) rfl hHeld (fun w' hs=>aw 44 (.tmp 11) rfl q.K 1 _ rfl hs.1 _ Tryz.underlying44 rfl) (h:=?_);refine pu 5 (some 14) (bA 16 3007) (hy:=fun w'=>ow 44 (.tmp 12) (.tmp 13) rfl q.NB _ _ p rfl rfl Tryz.underlying44 hp) (h:=?_);refine tv 6 (some 15) (bA 16 3071) rfl hHeld (fun w' hs=>aw 3 (.tmp 14) rfl q.NB p _ rfl hs.2.2.1 _ Tryz.underlying3 rfl) (h:=?_);refine tv 10 (some 19) (bA 16 4095) rfl hHeld (fun w' hs=>aw 44 (.tmp 18) rfl q.K 2 _ rfl hs.2.1 _ Tryz.underlying44 rfl) (h:=?_);refine pu 12 (some 21) (bA 16 8191) (hy:=fun w'=>ow 44 (.tmp 19) (.tmp 20) rfl q.KB _ _ p rfl rfl Tryz.underlying44 (by rw[HL.out];exact hp)) (h:=?_);refine tv 13 (some 22) (bA 16 16383) rfl hHeld (fun w' hs=>aw 3 (.tmp 21) rfl q.KB p _ rfl hs.2.2.2 _ Tryz.underlying3 rfl) (h:=?_);refine pu 14 (some 23) (bA 16 32767) (h:=?_);refine pu 15 (some 4) (bA 16 65535) (h:=?_);refine fa (by kernel_rfl) ?_;go_wp2;go_ret;rw[HLag.out];exact⟨rfl,us (ai _ _)⟩
theorem qcm(h:CntAt w q b now kept)(p:Nat)(hp:p<now.length):Calls Tryz.prog 144 #[.pointer (some ⟨q.K,0,none⟩), .int .i64 p] w fun e w'=>e=.returned (.tuple #[.int .i64 (Cnt.note b now kept p).1, .bool (Cnt.note b now kept p).2.1])/\CntAt w' q b (Cnt.note b now kept p).2.2.1 (Cnt.note b now kept p).2.2.2/\aq q.At w w':=by
 have H:=am h;have hcN:=(i8 h.nr p hp).1;have hfN:=(i8 h.nr p hp).2;have d0:decide (p<now.length)=true:=af hp;have k1:=h.k1;have HS:=am (fun v=>h.setNow p hp v);have HL:=am h.len;have HNt:=am (show Cnt.note b now kept p=(wrap64 (now.getD p 0+1),decide (b<=Cnt.lag (now.set p (wrap64 (now.getD p 0+1))) kept p),now.set p (wrap64 (now.getD p 0+1)),
  if b<=Cnt.lag (now.set p (wrap64 (now.getD p 0+1))) kept p then kept.set p (wrap64 (now.getD p 0+1))else kept)from rfl)
 have HGet:Aside0 (∀ v,(now.set p v).getD p 0=v):=⟨fun v=>by simp[hp]⟩;clear h;generalize now.getD p 0=nv at hcN HNt;go_enter Tryz.func144,Tryz.ntmps144;go_wp2_with (first|(go_at_call 167;(with_reducible refine(z7 H.out p).mono ?_);rintro e w1 ⟨rfl,rfl⟩;rw[d0]))
 have H1:=am (HS.out (wrap64 (nv+1)));have K1:Aside0 (aq q.At w (w.setCell ⟨q.NB,p,none⟩ (.int .i64 (wrap64 (nv+1))))):=⟨(aq.refl _ _).set (p:=⟨q.NB,p,none⟩) (.inl (.inr (.inl rfl))) _⟩;have HG1:=am (HGet.out (wrap64 (nv+1)));have HLn:Aside0 ((now.set p (wrap64 (nv+1))).length=now.length):=⟨List.length_set⟩;clear hcN hfN k1 H HS HGet;generalize w.setCell ⟨q.NB,p,none⟩ (.int .i64 (wrap64 (nv+1)))=w1 at H1 K1 ⊢;generalize wrap64 (nv+1)=wn at *;generalize now.set p wn=now1 at H1 HG1 HLn HNt;refine dj (n:=9) (S:=fun w'=>w'.cell? ⟨q.K,0,none⟩=some (.int .i64 b)) (ds:=[]) (onA 9 0) (by kernel_rfl) rfl rfl H1.out.k0 (fun hHeld=>?_);refine pu 0 (some 20) (bA 9 1) (h:=?_);refine pu 1 (some 21) (bA 9 3) (h:=?_);refine pu 3 (some 23) (bA 9 11) (h:=?_);refine pu 4 (some 24) (bA 9 27) (h:=?_);refine pu 5 (some 25) (bA 9 59) (h:=?_);refine tv 6 (some 26) (bA 9 123) rfl hHeld (fun w' hs=>aw 3 (.tmp 25) rfl q.K 0 _ rfl hs _ Tryz.underlying3 rfl) (h:=?_);refine ip (i:=2) (N:=some 22) (bA 9 127) rfl rfl (by kernel_rfl) (by decide) (fun K hK=>?_);refine fv Tryz.func168 (by kernel_rfl) rfl #[.pointer (some ⟨q.K,0,none⟩), .int .i64 p] (by rfl) rfl rfl (by simp only[List.map_toArray,List.map_cons,List.map_nil];rfl) ?_;have H1d:=am (H1.out.below (bg (ai _ _)));refine(qkt H1d.out p (by rw[HLn.out];exact hp)).mono ?_;rintro e w2 ⟨rfl,hb⟩;refine⟨_,rfl,?_⟩;have H2:=am (H1d.out.below hb);have K2:Aside0 (aq q.At w w2):=⟨K1.out.drew.step (aq.of_below hb)⟩;refine hK.out _ _ H2.out.k0 (fun hHeld=>?_);clear hK K hHeld H1 H1d K1 hb;refine pu 7 (some 27) (bA 9 255) (h:=?_);refine pu 8 (some 6) (bA 9 511) (h:=?_);refine fa (by kernel_rfl) ?_;generalize Cnt.lag now1 kept p=lg at HNt;have hcN:=(i8 H2.out.nr p (by rw[HLn.out];exact hp)).1;rw[HG1.out]at hcN;have k1:=H2.out.k1;have hlt1:p<now1.length:=by rw[HLn.out];exact hp
 by_cases c:b<=lg
 ·have d1:decide (b<=lg)=true:=af c;have E:Aside0 (Cnt.note b now kept p=(wn,decide (b<=lg),now1,kept.set p wn)):=⟨by rw[HNt.out,if_pos c]⟩;clear HNt;go_wp2;refine dj (n:=14) (S:=fun w'=>w'.cell? ⟨q.K,1,none⟩=some (.slice (some ⟨q.NB,0,none⟩) now1.length q.c1)/\w'.cell? ⟨q.K,2,none⟩=some (.slice (some ⟨q.KB,0,none⟩) kept.length q.c2)/\w'.cell? ⟨q.NB,p,none⟩=some (.int .i64 wn)) (ds:=[13]) (onA 14 0) (by kernel_rfl) rfl rfl ⟨H2.out.k1,H2.out.k2,hcN⟩ (fun hHeld=>?_);refine pu 0 (some 29) (bA 14 1) (h:=?_);refine pu 1 (some 30) (bA 14 3) (h:=?_);refine pu 2 (some 31) (bA 14 7) (h:=?_);refine pu 4 (some 33) (bA 14 23) (h:=?_);refine pu 5 (some 34) (bA 14 55) (h:=?_);refine pu 6 (some 35) (bA 14 119) (h:=?_);refine pu 7 (some 36) (bA 14 247) (h:=?_);refine pu 9 (some 38) (bA 14 759) (h:=?_);refine tv 3 (some 32) (bA 14 767) rfl hHeld (fun w' hs=>aw 44 (.tmp 31) rfl q.K 2 _ rfl hs.2.1 _ Tryz.underlying44 rfl) (h:=?_);refine tv 8 (some 37) (bA 14 1023) rfl hHeld (fun w' hs=>aw 44 (.tmp 36) rfl q.K 1 _ rfl hs.1 _ Tryz.underlying44 rfl) (h:=?_);refine pu 10 (some 39) (bA 14 2047) (hy:=fun w'=>ow 44 (.tmp 37) (.tmp 38) rfl q.NB _ _ p rfl rfl Tryz.underlying44 hlt1) (h:=?_);refine tv 11 (some 40) (bA 14 4095) rfl hHeld (fun w' hs=>aw 3 (.tmp 39) rfl q.NB p _ rfl hs.2.2 _ Tryz.underlying3 rfl) (h:=?_);refine pu 12 (some 41) (bA 14 8191) (hy:=fun w'=>ow 44 (.tmp 32) (.tmp 33) rfl q.KB _ _ p rfl rfl Tryz.underlying44 (by rw[HL.out];exact hp)) (h:=?_);refine ko (i:=13) (N:=none) (bA 14 16383) rfl rfl (by kernel_rfl) (by decide) (fun K hK=>?_);have H3:=am (H2.out.below (bg (ai _ _)));refine su (by rfl) rfl (mi 3 (.tmp 41) (.tmp 40) rfl q.KB p (.int .i64 wn) rfl rfl rfl rfl (by rw[(i8 H3.out.kr p (by rw[HL.out];exact hp)).1];rfl) (i8 H3.out.kr p (by rw[HL.out];exact hp)).2 qqp) ?_;refine hK.out _ _ ?_;clear hK K hHeld k1 hcN;refine fa (by kernel_rfl) ?_;have H4:=am (H3.out.setKept p (by rw[HL.out];exact hp) wn);have K4:Aside0 (aq q.At w (w2.drew.setCell ⟨q.KB,p,none⟩ (.int .i64 wn))):=⟨K2.out.drew.set (p:=⟨q.KB,p,none⟩) (.inl (.inr (.inr rfl))) _⟩;clear H3 H2 K2;generalize w2.drew.setCell ⟨q.KB,p,none⟩ (.int .i64 wn)=w3 at H4 K4 ⊢;have k1:=H4.out.k1;have hcN:=(i8 H4.out.nr p hlt1).1;rw[HG1.out]at hcN;go_wp2;go_ret2;rw[E.out];exact⟨rfl,H4.out,K4.out⟩
 ·have d1:decide (b<=lg)=false:=ah c;have E:Aside0 (Cnt.note b now kept p=(wn,false,now1,kept)):=⟨by rw[HNt.out,d1,if_neg c]⟩;clear HNt;go_wp2;go_ret2;rw[E.out];exact⟨rfl,H2.out,K2.out⟩
end
end Go.Proofs.YtmfhaliclnnbaaaGreat.Sys
namespace Go.Proofs.YtmfhaliclnnbaaaGreat.Sys
open Go.Shelf Go.Lib Go.Proofs
def qhq:Go.Shelf.Ren:=⟨fun|189=>165|125=>177|257=>176|128=>189|129=>190|294=>180|295=>181|296=>182|297=>183|298=>184|299=>185|216=>186|300=>187|301=>188|328=>191|329=>192|330=>193|331=>194|332=>195|215=>196|343=>197|n=>n,fun|28=>44|3=>3|46=>163|0=>0|51=>214|53=>25|4=>4|183=>208|182=>207|131=>176|5=>5|9=>9|218=>216|222=>220|228=>222|229=>168|n=>n,fun|n=>n⟩
theorem qo8:Lays.n189 Tryz.prog qhq:={
 mixed:=by kernel_rfl
 f125:=Tryz.func177.trans (congrArg some (by kernel_rfl))
 f128:=Tryz.func189.trans (congrArg some (by kernel_rfl))
 f129:=Tryz.func190.trans (congrArg some (by kernel_rfl))
 f189:=Tryz.func165.trans (congrArg some (by kernel_rfl))
 f215:=Tryz.func196.trans (congrArg some (by kernel_rfl))
 f216:=Tryz.func186.trans (congrArg some (by kernel_rfl))
 f257:=Tryz.func176.trans (congrArg some (by kernel_rfl))
 f294:=Tryz.func180.trans (congrArg some (by kernel_rfl))
 f295:=Tryz.func181.trans (congrArg some (by kernel_rfl))
 f296:=Tryz.func182.trans (congrArg some (by kernel_rfl))
 f297:=Tryz.func183.trans (congrArg some (by kernel_rfl))
 f298:=Tryz.func184.trans (congrArg some (by kernel_rfl))
 f299:=Tryz.func185.trans (congrArg some (by kernel_rfl))
 f300:=Tryz.func187.trans (congrArg some (by kernel_rfl))
 f301:=Tryz.func188.trans (congrArg some (by kernel_rfl))
 f328:=Tryz.func191.trans (congrArg some (by kernel_rfl))
 f329:=Tryz.func192.trans (congrArg some (by kernel_rfl))
 f330:=Tryz.func193.trans (congrArg some (by kernel_rfl))
 f331:=Tryz.func194.trans (congrArg some (by kernel_rfl))
 f332:=Tryz.func195.trans (congrArg some (by kernel_rfl))
 f343:=Tryz.func197.trans (congrArg some (by kernel_rfl))
 t0:=Tryz.underlying0
 a0:=Tryz.isAgg0
 z0:=Tryz.sizeOf0
 v0:=Tryz.zeroValue0
 t3:=Tryz.underlying3
 a3:=Tryz.isAgg3
 z3:=Tryz.sizeOf3
 v3:=Tryz.zeroValue3
 t4:=Tryz.underlying4
 a4:=Tryz.isAgg4
 z4:=Tryz.sizeOf4
 v4:=Tryz.zeroValue4
 t5:=Tryz.underlying5
 a5:=Tryz.isAgg5
 z5:=Tryz.sizeOf5
 v5:=Tryz.zeroValue5
 t9:=Tryz.underlying9
 a9:=Tryz.isAgg9
 z9:=Tryz.sizeOf9
 v9:=Tryz.zeroValue9
 t28:=Tryz.underlying44
 a28:=Tryz.isAgg44
 z28:=Tryz.sizeOf44
 v28:=Tryz.zeroValue44
 t46:=Tryz.underlying163
 a46:=Tryz.isAgg163
 z46:=Tryz.sizeOf163
 v46:=Tryz.zeroValue163
 t51:=Tryz.underlying214
 a51:=Tryz.isAgg214
 z51:=Tryz.sizeOf214
 v51:=Tryz.zeroValue214
 t53:=Tryz.underlying25
 a53:=Tryz.isAgg25
 z53:=Tryz.sizeOf25
 v53:=Tryz.zeroValue25
 t131:=Tryz.underlying176
 a131:=Tryz.isAgg176
 z131:=Tryz.sizeOf176
 v131:=Tryz.zeroValue176
 t182:=Tryz.underlying207
 a182:=Tryz.isAgg207
 z182:=Tryz.sizeOf207
 v182:=Tryz.zeroValue207
 t183:=Tryz.underlying208
 a183:=Tryz.isAgg208
 z183:=Tryz.sizeOf208
 v183:=Tryz.zeroValue208
 t218:=Tryz.underlying216
 a218:=Tryz.isAgg216
 z218:=Tryz.sizeOf216
 v218:=Tryz.zeroValue216
 t222:=Tryz.underlying220
 a222:=Tryz.isAgg220
 z222:=Tryz.sizeOf220
 v222:=Tryz.zeroValue220
 t228:=Tryz.underlying222
 a228:=Tryz.isAgg222
 z228:=Tryz.sizeOf222
 v228:=Tryz.zeroValue222
 t229:=Tryz.underlying168
 a229:=Tryz.isAgg168
 z229:=Tryz.sizeOf168
 v229:=Tryz.zeroValue168}
def qjf:Go.Shelf.Ren:=⟨fun|20=>166|n=>n,fun|22=>44|3=>3|4=>4|0=>0|n=>n,fun|n=>n⟩
theorem qq7:Lays2.n20 Tryz.prog qjf:={
 mixed:=by kernel_rfl
 f20:=Tryz.func166.trans (congrArg some (by kernel_rfl))
 t0:=Tryz.underlying0
 a0:=Tryz.isAgg0
 z0:=Tryz.sizeOf0
 v0:=Tryz.zeroValue0
 t3:=Tryz.underlying3
 a3:=Tryz.isAgg3
 z3:=Tryz.sizeOf3
 v3:=Tryz.zeroValue3
 t4:=Tryz.underlying4
 a4:=Tryz.isAgg4
 z4:=Tryz.sizeOf4
 v4:=Tryz.zeroValue4
 t22:=Tryz.underlying44
 a22:=Tryz.isAgg44
 z22:=Tryz.sizeOf44
 v22:=Tryz.zeroValue44
 i3:=by kernel_rfl}
def qrm:Go.Shelf.Ren:=⟨fun|41=>122|n=>n,fun|22=>44|23=>3|n=>n,fun|n=>n⟩
theorem qq5:SlLaysE0.n41 Tryz.prog qrm:={mixed:=by kernel_rfl,f41:=⟨Tryz.f122.name,by decide,Tryz.func122.trans (congrArg some (by kernel_rfl))⟩,t4:=Tryz.underlying4,a4:=Tryz.isAgg4,z4:=Tryz.sizeOf4,v4:=Tryz.zeroValue4,t22:=Tryz.underlying44,a22:=Tryz.isAgg44,z22:=Tryz.sizeOf44,v22:=Tryz.zeroValue44}
def qrn:Go.Shelf.Ren:=⟨fun|41=>164|n=>n,fun|22=>51|23=>25|n=>n,fun|n=>n⟩
theorem qq6:SlLaysE0.n41 Tryz.prog qrn:={mixed:=by kernel_rfl,f41:=⟨Tryz.f164.name,by decide,Tryz.func164.trans (congrArg some (by kernel_rfl))⟩,t4:=Tryz.underlying4,a4:=Tryz.isAgg4,z4:=Tryz.sizeOf4,v4:=Tryz.zeroValue4,t22:=Tryz.underlying51,a22:=Tryz.isAgg51,z22:=Tryz.sizeOf51,v22:=Tryz.zeroValue51}
open Go.RowKit Go.Proofs.YtmfhaliclnnbaaaGreatW.PrintWords Go.Proofs.YtmfhaliclnnbaaaGreatW.PrintLast Go.Proofs.YtmfhaliclnnbaaaGreatW.PrintMore
theorem qbj:(Tryz.prog.info? 3).map (fun i=>(i.zero,i.size,i.bytes))=some (some (.int .i64 0),1,8):=by kernel_rfl
theorem wi:(Tryz.prog.info? 25).map (fun i=>(i.zero,i.size,i.bytes))=some (some (.int .u64 0),1,8):=by kernel_rfl
set_option maxRecDepth 100000 in
theorem qgu(w:World)(base:Nat)(ok:Nat->Prop)(A:Option Addr)(c:Nat)(xs:List Int)(hr:Kd.R (Kd.int .i64) 3 w base ok (.slice A xs.length c) xs)(h0:0<xs.length)(hl:xs.length<=1000000):Calls Tryz.prog 122 #[.slice A xs.length c] w fun e w'=>∃ v,e=.returned v/\Kd.R (Kd.int .i64) 3 w' w.heap.size (fun _=>True) v xs/\Below w.heap.size w w':=by
 obtain⟨i0,hi,hz0,hz1,hz2⟩:=info_parts qbj;obtain⟨g,cap,ev,_⟩:=Kd.R_form hr h0;injection ev with e1 _ e2;subst e1;subst e2;have h:=AnyE.slices_Clone qq5 i0 (.int .i64 0) 1 8 hi hz0 hz1 hz2 rfl (by omega) Tryz.sizeOf3 g 0 xs.length c (xs.map (Value.int .i64)) w (by simp) (by unfold maxLen;omega) (by omega) (fun j u hu=>by
  rw[List.getElem?_map,Option.map_eq_some_iff]at hu;obtain⟨x,hx,rfl⟩:=hu;have hj:=(List.getElem?_eq_some_iff.1 hx).1;have e:=(Kd.R_cell (0:Int) hr (j:Int) (by omega) (by omega)).1;rw[Int.toNat_natCast]at e;rw[Nat.zero_add,e];unfold qjv;rw[Int.toNat_natCast,List.getD_eq_getElem?_getD,hx];rfl) (fun u hu=>by obtain⟨x,_,rfl⟩:=List.mem_map.1 hu;rfl)
 refine h.mono ?_;rintro e w' ⟨v',rfl,ho,_,hb⟩;exact⟨v',rfl,Kd.R_of_own ho (fun _ _=>trivial),hb⟩
set_option maxRecDepth 100000 in
theorem qd0(w:World)(base:Nat)(ok:Nat->Prop)(A:Option Addr)(c:Nat)(xs:List Int)(hr:Kd.R (Kd.int .u64) 25 w base ok (.slice A xs.length c) xs)(h0:0<xs.length)(hl:xs.length<=1000000):Calls Tryz.prog 164 #[.slice A xs.length c] w fun e w'=>∃ v,e=.returned v/\Kd.R (Kd.int .u64) 25 w' w.heap.size (fun _=>True) v xs/\Below w.heap.size w w':=by
 obtain⟨i0,hi,hz0,hz1,hz2⟩:=info_parts wi;obtain⟨g,cap,ev,_⟩:=Kd.R_form hr h0;injection ev with e1 _ e2;subst e1;subst e2;have h:=AnyE.slices_Clone qq6 i0 (.int .u64 0) 1 8 hi hz0 hz1 hz2 rfl (by omega) Tryz.sizeOf25 g 0 xs.length c (xs.map (Value.int .u64)) w (by simp) (by unfold maxLen;omega) (by omega) (fun j u hu=>by
  rw[List.getElem?_map,Option.map_eq_some_iff]at hu;obtain⟨x,hx,rfl⟩:=hu;have hj:=(List.getElem?_eq_some_iff.1 hx).1;have e:=(Kd.R_cell (0:Int) hr (j:Int) (by omega) (by omega)).1;rw[Int.toNat_natCast]at e;rw[Nat.zero_add,e];unfold qjv;rw[Int.toNat_natCast,List.getD_eq_getElem?_getD,hx];rfl) (fun u hu=>by obtain⟨x,_,rfl⟩:=List.mem_map.1 hu;rfl)
 refine h.mono ?_;rintro e w' ⟨v',rfl,ho,_,hb⟩;exact⟨v',rfl,Kd.R_of_own ho (fun _ _=>trivial),hb⟩
theorem qh3(w:World)(g:Nat)(ys:Array Int)(cur:Array Value)(t:TypeId)(fr:Nat×Nat)(hg:w.heap[g]? =some (.cells cur t fr)):(Sort.putRow (Value.int .i64) w g 0 ys).heap[g]? =some (.cells (Sort.putCells (Value.int .i64) 0 ys cur) t fr):=by
 unfold Sort.putRow Sort.mapBlock;rw[Array.getElem?_modify,if_pos rfl,hg];rfl
theorem qju(w:World)(g k:Nat)(ys:Array Int)(h:k≠g):(Sort.putRow (Value.int .i64) w g 0 ys).heap[k]? =w.heap[k]? :=by
 unfold Sort.putRow Sort.mapBlock;rw[Array.getElem?_modify,if_neg (fun e=>h e.symm)]
theorem qbm(w:World)(g:Nat)(ys:Array Int):(Sort.putRow (Value.int .i64) w g 0 ys).heap.size=w.heap.size:=by
 unfold Sort.putRow Sort.mapBlock;simp
theorem qg3{w:World}{base g n cap q:Nat}{ok:Nat->Prop}{xs:List Int}{os:Array Obj}(hr:Kd.R (Kd.int .i64) 3 w base ok (.slice (some ⟨g,0,none⟩) n cap) xs)(ys:List Int)(hl:ys.length=xs.length):Kd.R (Kd.int .i64) 3 (Sort.grow (Sort.putRow (Value.int .i64) (Sort.ahead w q) g 0 ys.toArray) os) base ok (.slice (some ⟨g,0,none⟩) n cap) ys/\w.grownBy (Sort.grow (Sort.putRow (Value.int .i64) (Sort.ahead w q) g 0 ys.toArray) os) (some g):=by
 have hn:=(Kd.R_reads' hr).1;obtain⟨ho1,ho2⟩:=Kd.own_of_R hr;rcases ho2 with⟨hv,_⟩|⟨g',cap',cur,hv,hb,hh,hnc,hcm,hcs,ht⟩
 ·cases hv
 injection hv with ha _ hc;injection ha with ha;injection ha with hg;subst hg;subst hc;have hlt:g<w.heap.size:=d7 hh;have hgr:∀ k,k<w.heap.size->(Sort.grow (Sort.putRow (Value.int .i64) (Sort.ahead w q) g 0 ys.toArray) os).heap[k]? =(Sort.putRow (Value.int .i64) (Sort.ahead w q) g 0 ys.toArray).heap[k]? :=fun k hk=>by unfold Sort.grow;rw[Array.getElem?_append_left];rw[qbm];exact hk
 refine⟨Kd.R_of_own ⟨by simp[rh], .inr ⟨g,cap,Sort.putCells (Value.int .i64) 0 ys.toArray cur,?_,hb,?_,by rw[hl];exact hnc,hcm,?_,?_⟩⟩ hr.1,rfl,rfl,rfl,?_,fun k hk hne=>?_⟩
 ·rw[hl,hn]
 ·rw[hgr g hlt];exact qh3 (Sort.ahead w q) g ys.toArray cur 3 (0,0) hh
 ·rw[<-hcs];simp[Sort.putCells]
 ·apply List.ext_getElem?;intro i;have hsz:n<=cur.size:=by rw[hcs];omega
  simp only[List.getElem?_take,Sort.putCells,Array.getElem?_toList,Array.getElem?_mapIdx,rh,List.getElem?_map];split
  ·rename_i hi
   have hi2:i<ys.length:=by omega
   have hi3:i<cur.size:=by omega
   simp[hi3,hi2]
  ·rename_i hi
   rw[List.getElem?_eq_none (by omega)];rfl
 ·show w.heap.size<=_;unfold Sort.grow;simp only[Array.size_append,qbm];show w.heap.size<=w.heap.size+_;omega
 ·rw[hgr k hk];exact qju (Sort.ahead w q) g k ys.toArray (fun e=>hne (by rw[e]))
theorem qc8{w:World}{base g n cap:Nat}{ok:Nat->Prop}{xs:List Int}(hr:Kd.R (Kd.int .i64) 3 w base ok (.slice (some ⟨g,0,none⟩) n cap) xs):Sort.Holds (Value.int .i64) w g 0 xs.toArray:=fun j hj=>by
 have hn:=(Kd.R_reads' hr).1;have hj2:j<xs.length:=by simpa using hj
 have e:=i8 hr j (by omega);rw[Nat.zero_add,e.1];refine⟨?_,e.2⟩;rw[getElem!_pos _ j hj,List.getD_eq_getElem?_getD,List.getElem?_eq_getElem hj2];simp
theorem qin(w:World)(base:Nat)(ok:Nat->Prop)(A:Option Addr)(c:Nat)(xs:List Int)(hr:Kd.R (Kd.int .i64) 3 w base ok (.slice A xs.length c) xs)(h0:0<xs.length)(hl:xs.length<=1000000):Calls Tryz.prog 165 #[.slice A xs.length c] w fun e w'=>e=.returned (.tuple #[])∧∃ g,A=some ⟨g,0,none⟩/\base<=g/\Kd.R (Kd.int .i64) 3 w' base ok (.slice A xs.length c) (xs.mergeSort fun x y=>decide (x<=y))/\w.grownBy w' (some g):=by
 obtain⟨g,cap,ev,hbg,hgl,_⟩:=Kd.R_form hr h0;injection ev with e1 _ e2;subst e1;subst e2;refine(Any.slices_Sort_int qo8 g 0 c xs w (qc8 hr) hgl (by omega)).mono ?_;rintro e w' ⟨rfl,q,os,rfl⟩;have:=qg3 (q:=q) (os:=os) hr (xs.mergeSort fun x y=>decide (x<=y)) (List.length_mergeSort _);exact⟨rfl,g,rfl,hbg,this.1,this.2⟩
theorem qd1(w:World)(base:Nat)(ok:Nat->Prop)(A:Option Addr)(c:Nat)(xs:List Int)(hr:Kd.R (Kd.int .i64) 3 w base ok (.slice A xs.length c) xs)(h0:0<xs.length)(hl:xs.length<=1000000):Calls Tryz.prog 166 #[.slice A xs.length c] w fun e w'=>e=.returned (.slice A (compact xs).length c)∧∃ g,A=some ⟨g,0,none⟩/\base<=g/\Kd.R (Kd.int .i64) 3 w' base ok (.slice A (compact xs).length c) (compact xs)/\w.grownBy w' (some g):=by
 obtain⟨g,cap,ev,hbg,hgl,_⟩:=Kd.R_form hr h0;injection ev with e1 _ e2;subst e1;subst e2;have hc:=(Kd.R_reads' hr).2.1;refine(Any.slices_Compact_int qq7 g 0 c xs w (qc8 hr) (by omega) hc).mono ?_;rintro e w' ⟨rfl,q,rfl⟩;have hle:(compact xs).length<=xs.length:=by unfold compact compactUpTo;simp only[List.length_map];exact Nat.le_trans (List.length_filter_le _ _) (by simp)
 have:=qg3 (q:=q) (os:=#[]) hr (compact xs++List.replicate (xs.length-(compact xs).length) 0) (by simp;omega);rw[Sort.grow_empty]at this;have e:=Kd.R_take this.1 (m:=(compact xs).length) (by simp);rw[List.take_left]at e;exact⟨rfl,g,rfl,hbg,e,this.2⟩
end Go.Proofs.YtmfhaliclnnbaaaGreat.Sys
namespace Go.Proofs.YtmfhaliclnnbaaaGreat.Sys
open Go.RowKit Go.Proofs.YtmfhaliclnnbaaaGreatW.PrintWords Go.Proofs.YtmfhaliclnnbaaaGreatW.PrintLast Go.Proofs.YtmfhaliclnnbaaaGreatW.PrintMore
open Go.Proofs.YtmfhaliclnnbaaaGreat.XTopWhole Go.Proofs.YtmfhaliclnnbaaaGreat.Pl Go.Maps
set_option linter.unusedVariables false
set_option linter.unusedSimpArgs false
set_option maxRecDepth 100000
set_option maxHeartbeats 8000000
def py(x:S160):List Value:=[.int .i64 x.f0, .int .u64 x.f1]
theorem ky:(Tryz.prog.info? 160).map (·.size)=some 2:=by kernel_rfl
theorem qi4{w:World}{base:Nat}{ok:Nat->Prop}{A:Option Addr}{c n:Nat}{xs:List S160}(h:Kd.R jp 160 w base ok (.slice A n c) xs)(hn:xs.length=n)(i:Nat)(hi:i<n):∃ g,A=some ⟨g,0,none⟩∧∀ j u,(py (xs.getD i vt))[j]? =some u->w.cell? ⟨g,i*2+j,none⟩=some u:=by
 obtain⟨g,cap,e,_⟩:=Kd.R_form h (by omega);obtain⟨ad,cs,e2,_,hK,hc⟩:=Kd.C_get (Kd.R_reads' h).2.2 vt (i:Int) (by omega) (by omega);rw[Int.toNat_natCast]at hK hc;obtain rfl:=qev hK;injection e with e3;subst e3;injection e2 with e2;subst e2;exact⟨g,rfl,fun j u hu=>by have:=hc j u hu;rw[ou,Nat.zero_add]at this;exact this⟩
theorem dx{ops:Array Oper}{rest:List Oper}{o:Oper}{a:Act}{w:World}{Q:Exit->Act->World->Prop}(hgd:o.guard=none)(ty:TypeId)(x y:Operand)(ho:o.op=.store ty x y)(z:Array Value)
  (cs:List Value) (hx:a.eval x=.pointer (some ⟨w.heap.size,0,none⟩)) (hy:a.eval y=.agg cs.toArray) (hi:(Tryz.prog.info? ty).map (·.size)=some cs.length) (hz:z.size=cs.length) (h1:cs.all (·.oneCell')=true)
  (hh:∀ wz,Aside0 (wz.heap[w.heap.size]? =some (.cells cs.toArray ty (0,0)))->Aside0 (Below w.heap.size w wz)->wpList Tryz.prog ops Q rest (a.put o.dst undef) wz):wpList Tryz.prog ops Q (o::rest) a (w.alloc (.cells z ty)):=
 wpList_store_row hgd ty x y ho w.heap.size cs.toArray hx hy ty _ (heap_alloc_new w _) (by rw[List.size_toArray];exact hi) (by simp[hz]) (by simpa using h1) (hh _ ⟨l7 w z cs.toArray ty⟩ ⟨jv w z cs.toArray ty⟩)
namespace Sp
def apply1(ws:List Int)(e:S160):List Int:=if 0<=e.f0/\e.f0<ws.length then ws.set e.f0.toNat e.f1 else ws
def apply(ws:List Int)(es:List S160):List Int:=es.foldl apply1 ws
theorem qea(ws:List Int)(e:S160):(apply1 ws e).length=ws.length:=by unfold apply1;split <;> simp
theorem apply_length(es:List S160):∀ ws:List Int,(apply ws es).length=ws.length:=by
 induction es with
 |nil=>intro ws;rfl
 |cons e es ih=>intro ws;show(apply (apply1 ws e) es).length=_;rw[ih,qea]
theorem apply_take{es:List S160}{k:Nat}(ws:List Int)(hk:k<es.length):apply ws (es.take (k+1))=apply1 (apply ws (es.take k)) (es.getD k vt):=by
 unfold apply;rw[List.take_succ_eq_append_getElem hk,ax,bx hk,List.foldl_append];rfl
def linesTo(es:List S160):List Int:=(es.filter fun e=>decide (0<=e.f0)).map fun e=>e.f0 / 8
def lines(es:List S160):List Int:=Go.Lib.compact ((linesTo es).mergeSort fun x y=>decide (x<=y))
theorem linesTo_take{es:List S160}{k:Nat}(hk:k<es.length):linesTo (es.take (k+1))=linesTo (es.take k)++(if 0<=(es.getD k vt).f0 then[(es.getD k vt).f0 / 8]else[]):=by
 rw[List.take_succ_eq_append_getElem hk,ax,bx hk];unfold linesTo;simp only[List.filter_append,List.map_append,Option.getD_some];congr 1;by_cases h:0<=es[k].f0 <;> simp[h]
end Sp
theorem qfb{w:World}{base g n cap:Nat}{ok:Nat->Prop}{xs:List Int}(h:Kd.R (Kd.int .u64) 25 w base ok (.slice (some ⟨g,0,none⟩) n cap) xs)(i:Nat)(hi:i<n)(v:Int):Kd.R (Kd.int .u64) 25 (w.setCell ⟨g,i,none⟩ (.int .u64 v)) base ok (.slice (some ⟨g,0,none⟩) n cap) (xs.set i v):=by
 have hn:=(Kd.R_reads' h).1;subst hn;have e:=(Kd.R_put h (i:Int) v).1;rw[Int.toNat_natCast]at e;exact e
theorem xa{w:World}{base g n cap:Nat}{ok:Nat->Prop}{xs:List Int}(h:Kd.R (Kd.int .u64) 25 w base ok (.slice (some ⟨g,0,none⟩) n cap) xs)(i:Nat)(hi:i<n):w.cell? ⟨g,i,none⟩=some (.int .u64 (xs.getD i 0))/\w.frozen? ⟨g,i,none⟩=false:=by
 have hn:=(Kd.R_reads' h).1;subst hn;have e:=Kd.R_cell (0:Int) h (i:Int) (by omega) (by omega);rw[Int.toNat_natCast]at e;unfold qjv at e;rw[Int.toNat_natCast]at e;exact e
theorem qgt(w:World)(base:Nat)(ok:Nat->Prop)(A:Option Addr)(c:Nat)(ws:List Int)(hr:Kd.R (Kd.int .u64) 25 w base ok (.slice A ws.length c) ws)(h0:0<ws.length)(hl:ws.length<=1000000)(base':Nat)(ok':Nat->Prop)(A':Option Addr)(c':Nat)(es:List S160)(he:Kd.R jp 160 w base' ok' (.slice A' es.length c') es)(hel:es.length<=1000000):Calls Tryz.prog 141 #[.slice A ws.length c, .slice A' es.length c'] w fun e w'=>∃ v,e=.returned v/\Kd.R (Kd.int .u64) 25 w' w.heap.size (fun _=>True) v (Sp.apply ws es)/\Below w.heap.size w w':=by
 have HR:=am hr;have HE:=am he;clear hr he;go_enter Tryz.func141,Tryz.ntmps141;go_wp2_with (first
  |(go_at_call 164;(with_reducible refine(qd0 w base ok A c ws HR.out h0 hl).mono ?_);rintro e w1 ⟨v,rfl,ho,hb⟩;have HO:=am ho;have HB:=am hb;clear ho hb))
 obtain⟨gr,cap,ev,hgr,hgl,_⟩:=Kd.R_form HO.out h0;subst ev;go_loopw [12] (fun i wr=>∃ k:Nat,i=.int .i64 k/\k<=es.length/\Aside0 (Kd.R (Kd.int .u64) 25 wr w.heap.size (fun _=>True) (.slice (some ⟨gr,0,none⟩) ws.length cap) (Sp.apply ws (es.take k)))/\Aside0 (Below w.heap.size w wr)/\Aside0 (gr<wr.heap.size)) (fun i _=>es.length-(intOf i).toNat)
 case atStart=>exact⟨0,rfl,by omega,HO,HB,⟨hgl⟩⟩
 case round =>
  clear HO HB;obtain⟨k,rfl,hk,HO,HB,HGL⟩:=hrel;by_cases hlt:k<es.length
  ·have d3:decide ((k:Int)<es.length)=true:=af (by omega);obtain⟨g,ea,hx⟩:=qi4 (Kd.R_below HE.out HB.out) rfl k hlt;subst ea;have HX:=am hx;have HT:=am (Sp.apply_take ws hlt);have hwl:=Sp.apply_length (es.take k) ws;clear hx;generalize es.getD k vt=x at HX HT;have HNN:=am hwl;clear hwl;generalize Sp.apply ws (es.take k)=cu at HO HT HNN;by_cases c0:0<=x.f0
   ·have b0:decide (x.f0>=0)=true:=af c0;obtain⟨p,hp⟩:∃ p:Nat,x.f0=p:=⟨x.f0.toNat,by omega⟩;by_cases c1:x.f0<ws.length
    ·have b1:decide (x.f0<ws.length)=true:=af c1;have E1:Aside0 (Sp.apply ws (es.take (k+1))=cu.set p x.f1):=⟨by rw[HT.out,Sp.apply1,if_pos ⟨c0,by rw[HNN.out];exact c1⟩,hp,Int.toNat_natCast]⟩;have hpn:p<ws.length:=by omega
     go_wp2_with (first
      |((with_reducible refine fz (.load 160 (.tmp 14)) rfl ?_);refine bc rfl 160 (.tmp 14) rfl g (k*2) rfl (py x) _ HX.out Tryz.underlying160 rfl ky ?_)
      |((with_reducible refine bp (t:=160) (p:=7) rfl ?_);refine dx rfl 160 (.tmp 7) (.tmp 15) rfl _ (py x) rfl rfl ky rfl rfl ?_;intro w5 BZ HZ;have hz0:w5.cell? ⟨wr.heap.size,0,none⟩=some (.int .i64 x.f0):=(aj BZ.out 0).trans rfl;have hz1:w5.cell? ⟨wr.heap.size,1,none⟩=some (.int .u64 x.f1):=(aj BZ.out 1).trans rfl;have HO5:=am (Kd.R_below HO.out HZ.out);have hcp:=(xa HO5.out p hpn).1;have hfp:=(xa HO5.out p hpn).2;rw[hp]at hz0))
     go_roundw
     case rel=>exact⟨k+1,by go_num,by omega,⟨by rw[E1.out];exact qfb HO5.out p hpn x.f1⟩,⟨bj (aa HB.out HZ.out) hgr⟩,⟨by have:=HGL.out;have:=HZ.out.size;simp[World.setCell];omega⟩⟩
     case measure=>simp[intOf];omega
    ·have b1:decide (x.f0<ws.length)=false:=ah c1;have E1:Aside0 (Sp.apply ws (es.take (k+1))=cu):=⟨by rw[HT.out,Sp.apply1,if_neg (fun h=>c1 (by rw[HNN.out]at h;exact h.2))]⟩;go_wp2_with (first
      |((with_reducible refine fz (.load 160 (.tmp 14)) rfl ?_);refine bc rfl 160 (.tmp 14) rfl g (k*2) rfl (py x) _ HX.out Tryz.underlying160 rfl ky ?_)
      |((with_reducible refine bp (t:=160) (p:=7) rfl ?_);refine dx rfl 160 (.tmp 7) (.tmp 15) rfl _ (py x) rfl rfl ky rfl rfl ?_;intro w5 BZ HZ;have hz0:w5.cell? ⟨wr.heap.size,0,none⟩=some (.int .i64 x.f0):=(aj BZ.out 0).trans rfl;have hz1:w5.cell? ⟨wr.heap.size,1,none⟩=some (.int .u64 x.f1):=(aj BZ.out 1).trans rfl;have HO5:=am (Kd.R_below HO.out HZ.out)))
     go_roundw
     case rel=>exact⟨k+1,by go_num,by omega,⟨by rw[E1.out];exact HO5.out⟩,⟨aa HB.out HZ.out⟩,⟨by have:=HGL.out;have:=HZ.out.size;omega⟩⟩
     case measure=>simp[intOf];omega
   ·have b0:decide (x.f0>=0)=false:=ah c0;have E1:Aside0 (Sp.apply ws (es.take (k+1))=cu):=⟨by rw[HT.out,Sp.apply1,if_neg (fun h=>c0 h.1)]⟩;go_wp2_with (first
     |((with_reducible refine fz (.load 160 (.tmp 14)) rfl ?_);refine bc rfl 160 (.tmp 14) rfl g (k*2) rfl (py x) _ HX.out Tryz.underlying160 rfl ky ?_)
     |((with_reducible refine bp (t:=160) (p:=7) rfl ?_);refine dx rfl 160 (.tmp 7) (.tmp 15) rfl _ (py x) rfl rfl ky rfl rfl ?_;intro w5 BZ HZ;have hz0:w5.cell? ⟨wr.heap.size,0,none⟩=some (.int .i64 x.f0):=(aj BZ.out 0).trans rfl;have hz1:w5.cell? ⟨wr.heap.size,1,none⟩=some (.int .u64 x.f1):=(aj BZ.out 1).trans rfl;have HO5:=am (Kd.R_below HO.out HZ.out)))
    go_roundw
    case rel=>exact⟨k+1,by go_num,by omega,⟨by rw[E1.out];exact HO5.out⟩,⟨aa HB.out HZ.out⟩,⟨by have:=HGL.out;have:=HZ.out.size;omega⟩⟩
    case measure=>simp[intOf];omega
  ·have d3:decide ((k:Int)<es.length)=false:=ah (by omega);have hkk:k=es.length:=by omega
   subst hkk;rw[List.take_length]at HO;go_wp2;go_ret;exact⟨_,rfl,HO.out,HB.out⟩
theorem mr{ops:Array Oper}{rest:List Oper}{o:Oper}{a:Act}{w:World}{Q:Exit->Act->World->Prop}(hg:o.guard=none)(x:Operand)(ho:o.op=.buildSlice 44 1 #[(0,x)])(v:Int)(hx:a.eval x=.int .i64 v)(h:wpList Tryz.prog ops Q rest (a.put o.dst (.slice (some ⟨w.heap.size,0,none⟩) 1 1)) (w.alloc (.cells [Value.int .i64 v].toArray 3))):wpList Tryz.prog ops Q (o::rest) a w:=by
 obtain⟨i0,hi,hz0,hz1,hz2⟩:=info_parts qbj;refine wpList_buildSlice hg 44 3 1 #[(0,x)] ho #[.int .i64 v] i0 _ Tryz.underlying44 hi hz0 (by rw[hz1];decide) (by rw[hz1];decide) ?_ h;rw[hz1,show(#[(0,x)].map fun(i,x)=>(i,a.eval x)).toList=[(0,a.eval x)]by simp,hx]
 kernel_rfl
theorem qd7(w:World)(base':Nat)(ok':Nat->Prop)(A':Option Addr)(c':Nat)(es:List S160)(he:Kd.R jp 160 w base' ok' (.slice A' es.length c') es)(hel:es.length<=1000000)(hne:0<(Sp.linesTo es).length)(hbd:∀ e∈es,e.f0<=1000000):Calls Tryz.prog 142 #[.slice A' es.length c'] w fun e w'=>∃ v,e=.returned v/\Kd.R (Kd.int .i64) 3 w' w.heap.size (fun _=>True) v (Sp.lines es)/\Below w.heap.size w w':=by
 have HE:=am he;have HBd:=am hbd;have HNe:=am hne;have HO:Aside0 (Kd.R (Kd.int .i64) 3 w w.heap.size (fun _=>True) (.slice none 0 0) []):=⟨Kd.R_nil _ _ _ _ _⟩;have HB:Aside0 (Below w.heap.size w w):=⟨ai _ _⟩;have hlen:∀ k,(Sp.linesTo (es.take k)).length<=es.length:=fun k=>by unfold Sp.linesTo;rw[List.length_map];exact Nat.le_trans (List.length_filter_le _ _) (by simp;omega)
 have HLen:=am hlen;clear he hbd hne hlen;go_enter Tryz.func142,Tryz.ntmps142;go_wp2;go_loopw [3,8] (fun v i wr=>∃ k:Nat,i=.int .i64 k/\k<=es.length/\Aside0 (Kd.R (Kd.int .i64) 3 wr w.heap.size (fun _=>True) v (Sp.linesTo (es.take k)))/\Aside0 (Below w.heap.size w wr)) (fun _ i _=>es.length-(intOf i).toNat)
 case atStart=>exact⟨0,rfl,by omega,HO,HB⟩
 case round=>
  clear HO HB;obtain⟨k,rfl,hk,HO,HB⟩:=hrel;by_cases hlt:k<es.length
  ·have d3:decide ((k:Int)<es.length)=true:=af (by omega);obtain⟨g,ea,hx⟩:=qi4 (Kd.R_below HE.out HB.out) rfl k hlt;subst ea;have HX:=am hx;have HT:=am (Sp.linesTo_take hlt);have hbx:=HBd.out (es.getD k vt) (by rw[ax,bx hlt];exact List.getElem_mem _);have hlk:=HLen.out k;clear hx;generalize es.getD k vt=x at HX HT hbx;generalize Sp.linesTo (es.take k)=cu at HO HT hlk;by_cases c0:0<=x.f0
   ·have b0:decide (x.f0>=0)=true:=af c0;have E1:Aside0 (Sp.linesTo (es.take (k+1))=cu++[x.f0 / 8]):=⟨by rw[HT.out,if_pos c0]⟩;obtain⟨p,hp⟩:∃ p:Nat,x.f0=p:=⟨x.f0.toNat,by omega⟩;rw[hp]at E1;go_wp2_with (first
     |((with_reducible refine fz (.load 160 (.tmp 10)) rfl ?_);refine bc rfl 160 (.tmp 10) rfl g (k*2) rfl (py x) _ HX.out Tryz.underlying160 rfl ky ?_)
     |((with_reducible refine bp (t:=160) (p:=5) rfl ?_);refine dx rfl 160 (.tmp 5) (.tmp 11) rfl _ (py x) rfl rfl ky rfl rfl ?_;intro w5 BZ HZ;have hz0:w5.cell? ⟨wr.heap.size,0,none⟩=some (.int .i64 x.f0):=(aj BZ.out 0).trans rfl;have HO5:=am (Kd.R_below HO.out HZ.out);have HB5:=am (aa HB.out HZ.out);rw[hp]at hz0)
     |((with_reducible refine b9 (N:=19) rfl ?_);refine mr rfl (.tmp 18) rfl ((p:Int) / 8) ?lv ?_;(case lv=>(show Value.int _ _=_;congr 1;rw[IntKind.wrap_i64];omega)))
     |((with_reducible refine di (b:=.append) (xs:=#[.tmp 15, .tmp 19]) rfl ?_);at_builtin;refine Kd.R_append (Kd.int .i64) (w0:=w) w.heap.size rfl (.tmp 15) (.tmp 19) 44 3 (.int .i64 0) 8 rfl Tryz.underlying44 qbj rfl (by decide) (by omega) _ cu ((p:Int) / 8) [.int .i64 ((p:Int) / 8)] (fun _=>True) (fun _=>False) rfl rfl ?aP (fun _ hk=>hk.elim) ?aF HO5.out HB5.out (bk HB5.out) ?aL ?_;(case aP=>rfl);(case aF=>exact(fun _ _=>trivial));(case aL=>omega);intro v1 w8 ho hb hg hat;have HO8:=am ho;have HB8:=am hb;clear ho hb hg hat))
    go_roundw
    case rel=>exact⟨k+1,by go_num,by omega,⟨by rw[E1.out];exact HO8.out⟩,HB8⟩
    case measure=>simp[intOf];omega
   ·have b0:decide (x.f0>=0)=false:=ah c0;have E1:Aside0 (Sp.linesTo (es.take (k+1))=cu):=⟨by rw[HT.out,if_neg c0,List.append_nil]⟩;go_wp2_with (first
     |((with_reducible refine fz (.load 160 (.tmp 10)) rfl ?_);refine bc rfl 160 (.tmp 10) rfl g (k*2) rfl (py x) _ HX.out Tryz.underlying160 rfl ky ?_)
     |((with_reducible refine bp (t:=160) (p:=5) rfl ?_);refine dx rfl 160 (.tmp 5) (.tmp 11) rfl _ (py x) rfl rfl ky rfl rfl ?_;intro w5 BZ HZ;have hz0:w5.cell? ⟨wr.heap.size,0,none⟩=some (.int .i64 x.f0):=(aj BZ.out 0).trans rfl;have HO5:=am (Kd.R_below HO.out HZ.out);have HB5:=am (aa HB.out HZ.out)))
    go_roundw
    case rel=>exact⟨k+1,by go_num,by omega,⟨by rw[E1.out];exact HO5.out⟩,HB5⟩
    case measure=>simp[intOf];omega
  ·have d3:decide ((k:Int)<es.length)=false:=ah (by omega);have hkk:k=es.length:=by omega
   subst hkk;rw[List.take_length]at HO;have hll:=HLen.out es.length;rw[List.take_length]at hll;have HLn:Aside0 (Sp.lines es=Go.Lib.compact ((Sp.linesTo es).mergeSort fun x y=>decide (x<=y))):=⟨rfl⟩;have HN:=HNe.out;generalize Sp.linesTo es=ls at HO HLn hll HN;obtain⟨A,c,ev⟩:=Kd.R_slice HO.out;subst ev;have hsl:(ls.mergeSort fun x y=>decide (x<=y)).length=ls.length:=List.length_mergeSort _;have HSL:=am hsl;have HS:=am (qin wr w.heap.size (fun _=>True) A c ls HO.out HN (by omega));clear hsl;generalize (ls.mergeSort fun x y=>decide (x<=y))=so at HLn HSL HS;go_wp2_with (first
    |(go_at_call 165;(with_reducible refine HS.out.mono ?_);rintro e w6 ⟨rfl,g,rfl,hbg,ho,hg⟩;have HO6:=am ho;have HB6:Aside0 (Below w.heap.size w w6):=⟨HB.out.grown hg (bk HB.out) (fun z hz=>by injection hz with hz;omega)⟩;clear ho hg)
    |(go_at_call 166;have hC:=qd1 w6 w.heap.size (fun _=>True) (some ⟨g,0,none⟩) c so (by rw[HSL.out];exact HO6.out) (by rw[HSL.out];exact HN) (by rw[HSL.out];omega);rw[HSL.out]at hC;(with_reducible refine hC.mono ?_);rintro e w7 ⟨rfl,g',eg,hbg',ho,hg⟩;injection eg with eg;injection eg with eg;subst eg;have HO7:=am ho;have HB7:Aside0 (Below w.heap.size w w7):=⟨HB6.out.grown hg (bk HB6.out) (fun z hz=>by injection hz with hz;omega)⟩;clear ho hg hC))
   go_ret;rw[HLn.out];exact⟨_,rfl,HO7.out,HB7.out⟩
end Go.Proofs.YtmfhaliclnnbaaaGreat.Sys
