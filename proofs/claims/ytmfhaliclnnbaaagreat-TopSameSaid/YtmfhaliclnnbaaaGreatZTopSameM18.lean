import Derived.Test.YtmfhaliclnnbaaaGreatZTopSameM17
namespace Go.Proofs.YtmfhaliclnnbaaaGreat.Sys
open Go.RowKit Go.Proofs.YtmfhaliclnnbaaaGreatW.PrintWords Go.Proofs.YtmfhaliclnnbaaaGreatW.PrintLast Go.Proofs.YtmfhaliclnnbaaaGreatW.PrintMore
open Go.Proofs.YtmfhaliclnnbaaaGreat.XTopWhole Go.Proofs.YtmfhaliclnnbaaaGreat.Pl Go.Maps
set_option linter.unusedVariables false
set_option linter.unusedSimpArgs false
set_option maxRecDepth 100000
set_option maxHeartbeats 8000000
def qqk(a b c d:Int):List Value:=[.int .i64 a, .int .i64 b, .int .i64 c, .int .i64 d]
theorem qne(p:Pn):∀ v∈[Value.int .i64 p.lines, .int .i64 p.spare, .int .i64 p.period, .int .i64 p.batch],v.oneCell'=true:=by
 intro v hv;simp only[List.mem_cons,List.not_mem_nil,or_false]at hv;rcases hv with rfl|rfl|rfl|rfl <;> rfl
theorem qk6{p:Pn}(h:p.Ok):kf.f (p.lines*8)=some (Hp.firstW p):=qh2 h
theorem qoo{p:Pn}(h:p.Ok):dr.f (p.lines*8)=some true:=by
 rw[qg2,uf];have:=h.l1;have:=h.l2;exact congrArg some (af (by omega))
theorem qd5{ops:List S39}{k:Nat}(h:k<ops.length):gc ops (k:Int)∈ops:=by
 unfold gc;rw[Int.toNat_natCast,aw,bw h];exact List.getElem_mem h
abbrev qq3(op:S39)(A:Option Addr)(c:Nat):Array Value:=[Value.int .i64 op.f0, .int .i64 op.f1, .int .i64 op.f2, .int .i64 op.f3, .slice A op.f4.length c].toArray
def OpB(w:World)(g:Nat)(op:S39)(A:Option Addr)(c:Nat):Prop:=w.heap[g]? =some (.cells (qq3 op A c) 39 (0,0))/\Kd.C (Kd.int .u8) w A op.f4.length op.f4/\op.f4.length<=c
theorem OpB.on{w w':World}{g:Nat}{op:S39}{A:Option Addr}{c:Nat}(h:OpB w g op A c)(hb:Below w.heap.size w w'):OpB w' g op A c:=⟨ap h.1 hb,Kd.C_below h.2.1 hb,h.2.2⟩
theorem qok{w:World}{A:Option Addr}{ops:List S39}(h:Kd.C k39 w A ops.length ops){k:Nat}(hk:k<ops.length):∃ ad A4 c4,A=some ad/\(gc ops (k:Int)).f4.length<=c4∧∀ w',Below w.heap.size w w'→w'.cell? (ad.add (k*5))=some (.int .i64 (gc ops (k:Int)).f0)/\w'.cell? ⟨(ad.add (k*5)).block,(ad.add (k*5)).off+1,none⟩=some (.int .i64 (gc ops (k:Int)).f1)/\w'.cell? ⟨(ad.add (k*5)).block,(ad.add (k*5)).off+2,none⟩=some (.int .i64 (gc ops (k:Int)).f2)/\w'.cell? ⟨(ad.add (k*5)).block,(ad.add (k*5)).off+3,none⟩=some (.int .i64 (gc ops (k:Int)).f3)/\w'.cell? ⟨(ad.add (k*5)).block,(ad.add (k*5)).off+4,none⟩=some (.slice A4 (gc ops (k:Int)).f4.length c4)/\Kd.C (Kd.int .u8) w' A4 (gc ops (k:Int)).f4.length (gc ops (k:Int)).f4:=by
 obtain⟨ad,A4,c4,ea,hx0,hx1,hx2,hx3,hx4,hl4,hi4⟩:=qc3 h (k:Int) (by omega) (by omega);rw[Int.toNat_natCast]at hx0 hx1 hx2 hx3 hx4;exact⟨ad,A4,c4,ea,hl4,fun w' hb=>⟨l7 hx0 hb,l7 hx1 hb,l7 hx2 hb,l7 hx3 hb,l7 hx4 hb,Kd.C_below hi4 hb⟩⟩
theorem qsf{A:Option Addr}{c:Nat}{l:List S39}(k:Nat)(h:k<=l.length)(hc:l.length<=c):∀ W:World,(Instr.slice 45 (.slice A l.length c) none (some (.int .i64 (k:Int))) none).run Tryz.prog W=.ok (.slice A (l.take k).length c) W:=by
 obtain⟨i,hi,hsz⟩:=Option.map_eq_some_iff.1 wu;have:=qnq (P:=Tryz.prog) 45 39 .i64 Tryz.underlying45 hi A l.length c (k:Int) (by omega) (by omega) hc
 rwa[show(k:Int).toNat=(l.take k).length by rw[List.length_take];omega]at this
theorem qrl{A:Option Addr}{c:Nat}{l:List S39}(k:Nat)(h:k<=l.length):∀ W:World,(Instr.slice 45 (.slice A l.length c) (some (.int .i64 (k:Int))) none none).run Tryz.prog W=.ok (.slice (if c=k then A else A.map (·.add (k*5))) (l.drop k).length (c-k)) W:=by
 obtain⟨i,hi,hsz⟩:=Option.map_eq_some_iff.1 wu;have:=qg9 (P:=Tryz.prog) 45 39 .i64 Tryz.underlying45 hi 5 hsz A l.length c (k:Int) (by omega) (by omega)
 rwa[Int.toNat_natCast,←List.length_drop]at this
theorem MdO.below{W0 w:World}{M:Nat}{v:List Int}{r:Int}(h:MdO W0 w M v r):Below W0.heap.size W0 w:=by
 obtain⟨_,_,_,_,_,_,h⟩:=h;exact h
structure SmQ (w wr:World) (W M C:Nat) (p:Pn) (j:Int) (st:St) (F:Nat->Prop) (Mm:Nat) (l:List S116) (vm:List Int) (r:Int):Prop where
 s:Stands w wr W M C p (.on st) F
 q:Quiet st
 mv:Trn.moves st.m<=1000+40*j
 d:Duo p st l vm r
 m:MB wr F Mm vm r
theorem SmQ.on{w wr w':World}{W M C:Nat}{p:Pn}{j:Int}{st:St}{F:Nat->Prop}{Mm:Nat}{l:List S116}{vm:List Int}{r:Int}(h:SmQ w wr W M C p j st F Mm l vm r)(hb:Below wr.heap.size wr w'):SmQ w w' W M C p j st F Mm l vm r:=⟨h.s.on hb,h.q,h.mv,h.d,h.m.on hb⟩
theorem qka{p:Pn}{st:St}{l:List S116}{vm:List Int}{r j:Int}(hd:Duo p st l vm r)(q:Quiet st)(hp:p.Ok)(mv:Trn.moves st.m<=1000+40*j)(hj:j<=1000)(op:S39)(hB:Bys op.f4)(k7:op.f0≠7)(k8:op.f0≠8):∃ e off bs st',TwR p (.on st) op e off bs (.on st')/\Quiet st'∧e≠2/\e≠3/\Trn.moves st'.m<=1000+40*(j+1)/\(e≠0->Duo p st' l vm r)/\(e=0→∀ l' vm' r',HV l' vm' (p.lines*8)->qaj l vm r op off l' vm' r'→Duo p st' l' vm' r'):=by
 obtain⟨v,hi,ha⟩:=hd.2;obtain⟨e,off,bs,st',hdo,hD⟩:=qqv (op:=op) hi hp (by omega) hB;have hu':st'.m.down=false:=by
  by_cases c:st'.m.down=true
  ·have:=hD.cutd q.up c;have:=q.cut;omega
  ·exact qb0 c
 have hn2:e≠2:=fun h=>by rw[hD.two.1 h]at hu';cases hu'
 refine⟨e,off,bs,st', .inr (.inr (.inr ⟨k7,k8,st,st',rfl,rfl,hi.stOk (by omega),hdo⟩)),hD.kp.quiet q hu',hn2,fun h=>?_,by have:=hD.kp.mv;omega,fun h0=>?_,fun h0 l' vm' r' hV' hn=>?_⟩
 ·rcases hD.three h with a|⟨i,a⟩
  ·rw[q.fr]at a;cases a
  ·have:=q.lim i;omega
 ·rcases hD.eff with⟨a,_⟩|⟨a,_⟩|⟨_,a⟩|⟨a,_⟩
  ·exact absurd a h0
  ·exact absurd a h0
  ·exact⟨hd.1,v,a,ha⟩
  ·exact absurd a hn2
 ·rcases hD.eff with⟨_,hid,rfl⟩|⟨_,l1,v1,r1,hnr,hi1⟩|⟨a,_⟩|⟨a,_⟩
  ·obtain⟨rfl,rfl,rfl⟩:=hn.2 hid;exact hd
  ·obtain⟨vm1,hm1,ha1⟩:=qd4 hi.hv hd.1 ha hB hnr;obtain⟨rfl,rfl,rfl⟩:=hn.1 _ _ _ _ _ hm1 (fun _=>rfl);exact⟨hV',v1,hi1,ha1⟩
  ·exact absurd h0 a
  ·exact absurd a hn2
theorem Duo.moved{p:Pn}{st st2:St}{l:List S116}{vm:List Int}{r:Int}(h:Duo p st l vm r)(hm:∀ l' v' r',HInv p st l' v' r'→HInv p st2 l' v' r'):Duo p st2 l vm r:=by
 obtain⟨a,v,b,c⟩:=h;exact⟨a,v,hm _ _ _ b,c⟩
theorem qrf{p:Pn}{st:St}{l:List S116}{v vm:List Int}{r:Int}(hd:Duo p st l vm r)(hi:HInv p st l v r)(ha:wh l v vm)(q:Quiet st)(hp:p.Ok)(mv:Trn.moves st.m<=5000)(op:S39)(hB:Bys op.f4)(k7:op.f0≠7)(k8:op.f0≠8)(nc mask:Int):∃ e off bs st1 st' st2,TwR p (.on st) ⟨7,0,nc,mask,[]⟩ 0 0 [] (.on st1)/\TwR p (.on st1) op e off bs (.on st')/\TwR p (.on st') ⟨8,0,0,0,[]⟩ 0 0 [] (.on st2)/\Quiet st2/\Trn.moves st2.m<=6000∧∀ off2,(∀ ch,dn op.f2≠0->wy l st.now (dn op.f2) ch->off2=((ab l ch).f0+1)*8)→∀ l' vm' r',HV l' vm' (p.lines*8)->qaj l vm r op off2 l' vm' r'→(e=0->Duo p st2 l' vm' r')/\(Duo p st2 l vm r\/Duo p st2 l' vm' r'):=by
 have hc:HInv p {st with m:=Nvm.cutAt st.m nc mask} l v r:=(MInv.re (m':=Nvm.cutAt st.m nc mask) hi.mem rfl rfl).heap hi.now;have hmc:Trn.moves (Nvm.cutAt st.m nc mask)=Trn.moves st.m:=rfl;have hlc:∀ j,gg (Nvm.cutAt st.m nc mask) j=gg st.m j:=fun j=>rfl;obtain⟨e,off,bs,st',hdo,hD⟩:=qqv (op:=op) hc hp (by dsimp only;omega) hB;have hmv:=hD.kp.mv;dsimp only at hmv;have hx:∃ l1 v1 r1,HInv p st' l1 v1 r1:=by
  rcases hD.eff with⟨_,_,rfl⟩|⟨_,l1,v1,r1,_,h⟩|⟨_,h⟩|⟨_,_,l1,v1,r1,_,h⟩
  ·exact⟨_,_,_,hc⟩
  ·exact⟨_,_,_,h⟩
  ·exact⟨_,_,_,h⟩
  ·exact⟨_,_,_,h⟩
 obtain⟨l1,v1,r1,hx⟩:=hx;obtain⟨st2,hs,hsI,hsu,hsc,hsl,hsf,hsm⟩:=qnx (op:=⟨8,0,0,0,[]⟩) hx hp (by omega) rfl;have hl2:∀ j,gg st2.m j<0:=fun j=>by rw[hsl,hD.kp.lim];dsimp only;rw[hlc];exact q.lim j
 refine⟨e,off,bs,_,st',st2, .inl ⟨rfl,rfl,rfl,rfl,rfl⟩, .inr (.inr (.inr ⟨k7,k8,_,_,rfl,rfl,hc.stOk (by dsimp only;omega),hdo⟩)),hs,⟨hsu,hsc,hl2,?_⟩,by omega,fun off2 hoff l' vm' r' hV' hn=>?_⟩
 ·rcases hsf with a|⟨j,a⟩
  ·exact a
  ·rw[hD.kp.lim]at a;dsimp only at a;rw[hlc]at a;have:=q.lim j;omega
 ·have hdc:Duo p {st with m:=Nvm.cutAt st.m nc mask} l vm r:=⟨hd.1,v,hc,ha⟩;obtain⟨d1,d2,d3⟩:=qn2 hdc hB hc ha hD (off2:=off2) (fun k o l1 v1 r1 hnr _=>by
   rcases hnr with⟨_,_,ch,_,hz,hbst,ho,_⟩|⟨a,_⟩|⟨a,_⟩|⟨a,_⟩
   ·rw[ho];exact hoff ch hz hbst
   all_goals omega) hV' hn
  refine⟨fun h=>(d1 h).moved hsI,?_⟩;by_cases e0:e=0
  ·exact .inr ((d1 e0).moved hsI)
  ·by_cases e2:e=2
   ·exact(d3 e2).imp (fun h=>h.moved hsI) (fun h=>h.moved hsI)
   ·exact .inl ((d2 e0 e2).moved hsI)
theorem TopSame_walk (w : World) (a b c d : Int) (A1 : Option Addr) (c1 : Nat) (ops : List S39) (at_ mask k : Int) (hr1 : Kd.C k39 w A1 ops.length ops) (hc1 : ops.length ≤ c1) (hB : ∀ op ∈ ops, Bys op.f4) (hl : ops.length ≤ 4611686018427387904) : Calls Tryz.prog 5 #[.agg (qqk a b c d).toArray, .slice A1 ops.length c1, .int .i64 at_, .int .i64 mask, .int .i64 k] w fun e w' => e = .returned (.bool true) ∧ Below w.heap.size w w' := by
 obtain⟨hv,hvE,hv2⟩:=qmx ops [] hl;obtain⟨k0,hk0⟩:=hvE;have hH:=hk0 k0 (an _);obtain⟨p,hp,hp24,hp30,hsm⟩:=qon a b c d;have HR1:=am hr1;have HC1:=am hc1;have HBy:=am hB;have HHv:=am hH;have HSm:=am hsm;unfold qqk at *;have BX:Aside0 ((w.alloc (.cells [.int .i64 a, .int .i64 b, .int .i64 c, .int .i64 d].toArray 23)).heap[w.heap.size]? =some (.cells [.int .i64 a, .int .i64 b, .int .i64 c, .int .i64 d].toArray 23 (0,0))):=⟨heap_alloc_new w _⟩;have HB0:Aside0 (Below w.heap.size w (w.alloc (.cells [.int .i64 a, .int .i64 b, .int .i64 c, .int .i64 d].toArray 23))):=⟨(ai _ _).alloc (an _) _⟩;clear hr1 hc1 hB hH hsm hk0 hl;by_cases h0:0<hv
 ·have b0:decide (0<hv)=true:=af h0;clear h0 hv2;go_enter Tryz.func5,Tryz.ntmps5;go_wp2_with (first
   |(go_at_call 16;(refine(cf.calls k0 A1 c1 ops none 0 [] hv _ (Kd.C_below HR1.out HB0.out) HC1.out (qg8 _) (an 0) HHv.out).mono ?_);rintro e w1 ⟨rfl,hb⟩;have HB1:=am (aa HB0.out hb);clear hb)
   |(go_at_call 15;(with_reducible refine(pv _).mono ?_);rintro e w2 ⟨rfl,hb⟩;have HB2:=am (aa HB1.out hb);clear hb))
  go_ret;exact⟨rfl,HB2.out⟩
 have hv0:hv=0/\ops.length<=80:=by rcases hv2 with e|e <;> omega
 obtain⟨rfl,hlen⟩:=hv0;have HLn:=am hlen;clear h0 hv2 hlen;rcases Nat.eq_zero_or_pos ops.length with hz|hz
 ·have b1:((ops.length:Int)==0)=true:=beq_iff_eq.mpr (by omega);have b2:(ops.length==0)=true:=beq_iff_eq.mpr hz;have b3:decide (ops.length=0)=true:=af hz;clear hz;go_enter Tryz.func5,Tryz.ntmps5;go_wp2_with (first
   |(go_at_call 16;(refine(cf.calls k0 A1 c1 ops none 0 [] 0 _ (Kd.C_below HR1.out HB0.out) HC1.out (qg8 _) (an 0) HHv.out).mono ?_);rintro e w1 ⟨rfl,hb⟩;have HB1:=am (aa HB0.out hb);clear hb)
   |(go_at_call 15;(with_reducible refine(pv _).mono ?_);rintro e w2 ⟨rfl,hb⟩;have HB2:=am (aa HB1.out hb);clear hb))
  go_ret;exact⟨rfl,HB2.out⟩
 have b1:((ops.length:Int)==0)=false:=beq_eq_false_iff_ne.mpr (by omega);have b2:(ops.length==0)=false:=beq_eq_false_iff_ne.mpr (by omega);obtain⟨pB,hpB⟩:∃ q:Pn,q=⟨p.lines,p.spare,p.period,1⟩:=⟨_,rfl⟩;have hq:pB.Ok:=by rw[hpB];exact⟨hp.l1,hp.l2,hp.s1,hp.s2,hp.p1,hp.p2,(by show(1:Int)<=1;decide),(by show(1:Int)<=100;decide)⟩
 have HP:=am hq;have HQl:Aside0 (p.lines=pB.lines/\p.spare=pB.spare/\p.period=pB.period/\(1:Int)=pB.batch):=⟨by rw[hpB];exact⟨rfl,rfl,rfl,rfl⟩⟩;have HZ:=am hz;clear hp hpB hq hz;go_enter Tryz.func5,Tryz.ntmps5;go_wp2_with (first
  |(go_at_call 16;(refine(cf.calls k0 A1 c1 ops none 0 [] 0 _ (Kd.C_below HR1.out HB0.out) HC1.out (qg8 _) (an 0) HHv.out).mono ?_);rintro e w1 ⟨rfl,hb⟩;have HB1:=am (aa HB0.out hb);have BX1:=am (ap BX.out hb);clear hb)
  |((with_reducible refine fz (.load 23 (.tmp 5)) rfl ?_);refine az rfl 23 (.tmp 5) rfl w.heap.size 0 rfl [.int .i64 a, .int .i64 b, .int .i64 c, .int .i64 d] _ (fun j v hv=>by rw[Nat.zero_add];exact bq BX1.out j v hv) Tryz.underlying23 rfl je ?_)
  |(go_at_call 7;(with_reducible refine(kz.calls a b c d p.lines p.spare p.period p.batch _ HSm.out).mono ?_);rintro e w2 ⟨rfl,hb⟩;have HB2:=am (aa HB1.out hb);have BX2:=am (ap BX1.out hb);clear hb BX1)
  |((with_reducible refine bk (t:=23) (p:=5) rfl ?_);refine fe rfl 23 (.tmp 5) (.tmp 42) rfl w.heap.size 0 [.int .i64 p.lines, .int .i64 p.spare, .int .i64 p.period, .int .i64 p.batch] rfl rfl 23 [.int .i64 a, .int .i64 b, .int .i64 c, .int .i64 d] BX2.out je (an _) (qne p) ?_;rw[kd [Value.int .i64 p.lines, .int .i64 p.spare, .int .i64 p.period, .int .i64 p.batch] [.int .i64 a, .int .i64 b, .int .i64 c, .int .i64 d] rfl];have BX3:Aside0 ((w2.setRow w.heap.size [Value.int .i64 p.lines, .int .i64 p.spare, .int .i64 p.period, .int .i64 p.batch].toArray).heap[w.heap.size]? =some (.cells [.int .i64 p.lines, .int .i64 p.spare, .int .i64 p.period, .int .i64 p.batch].toArray 23 (0,0))):=⟨setRow_heap _ _ _ _ _ _ BX2.out⟩;have HB3:=am (gf HB2.out (an _) [Value.int .i64 p.lines, .int .i64 p.spare, .int .i64 p.period, .int .i64 p.batch].toArray);generalize w2.setRow w.heap.size _=w3 at BX3 HB3 ⊢;clear BX2 HB2 HSm;have s3:w3.cell? ⟨w.heap.size,3,none⟩=some (.int .i64 p.batch):=(aj BX3.out 3).trans rfl;have f3:w3.frozen? ⟨w.heap.size,3,none⟩=false:=ak BX3.out 3))
 have BX4:Aside0 ((w3.setCell ⟨w.heap.size,3,none⟩ (.int .i64 1)).heap[w.heap.size]? =some (.cells [.int .i64 pB.lines, .int .i64 pB.spare, .int .i64 pB.period, .int .i64 pB.batch].toArray 23 (0,0))):=⟨by
  rw[heap_setCell_same _ _ _ _ _ _ BX3.out,←HQl.out.1,←HQl.out.2.1,←HQl.out.2.2.1,←HQl.out.2.2.2];rfl⟩
 have HB4:Aside0 (Below w.heap.size w (w3.setCell ⟨w.heap.size,3,none⟩ (.int .i64 1))):=⟨bj HB3.out (an _)⟩;generalize w3.setCell ⟨w.heap.size,3,none⟩ (.int .i64 1)=w4 at BX4 HB4 ⊢;clear BX3 HB3 s3 f3 HQl hp24 hp30 BX HB0 HB1 b1 b2;go_loopw [46] (fun i wr=>∃ j:Nat,i=.int .i64 j/\j<=ops.length/\Aside0 (∀ m:Nat,m<j->(gc ops (m:Int)).f0≠7/\(gc ops (m:Int)).f0≠8)/\Aside0 (Below w4.heap.size w4 wr)) (fun i _=>ops.length-(intOf i).toNat)
 case atStart=>exact⟨0,rfl,by omega,⟨fun m h=>absurd h (by omega)⟩,⟨ai _ _⟩⟩
 case round =>
  obtain⟨j,rfl,hj,HNo,HB⟩:=hrel;by_cases hlt:j<ops.length
  ·have d3:decide ((j:Int)<ops.length)=true:=af (by omega);have p416:0<=(j:Int):=by omega
   have q416:(j:Int)<(ops.length:Int):=by omega
   obtain⟨ad,A4,c4,ea,hx0,hx1,hx2,hx3,hx4,hl4,hi4⟩:=qc3 (Kd.C_below HR1.out (aa HB4.out HB.out)) (j:Int) p416 q416;cases ea;rw[Int.toNat_natCast]at hx0 hx1 hx2 hx3 hx4;have HNx:Aside0 ((gc ops (j:Int)).f0≠7->(gc ops (j:Int)).f0≠8→∀ m:Nat,m<j+1->(gc ops (m:Int)).f0≠7/\(gc ops (m:Int)).f0≠8):=⟨fun h1 h2 m hm=>by
    by_cases e:m=j
    ·subst e;exact⟨h1,h2⟩
    ·exact HNo.out m (by omega)⟩
   generalize gc ops (j:Int)=op at *;have HWk:=am (wk1 j (by have:=HLn.out;omega));have HMs:=am (wk2 hlt (by have:=HLn.out;omega));have HLt:=am hlt;replace p416:=eq_true p416;replace q416:=eq_true q416;clear hi4 hl4 hlt hj;by_cases e7:op.f0=7
   ·have b7:(op.f0==(7:Int))=true:=beq_iff_eq.mpr e7;clear e7;go_wp2_with (first
     |(go_at_call 15;(with_reducible refine(pv _).mono ?_);rintro e w5 ⟨rfl,hb⟩;have HB5:=am (aa (aa HB4.out (bz HB)) hb);clear hb))
    go_ret;exact⟨rfl,HB5.out⟩
   ·have b7:(op.f0==(7:Int))=false:=beq_eq_false_iff_ne.mpr e7;by_cases e8:op.f0=8
    ·have b8:(op.f0==(8:Int))=true:=beq_iff_eq.mpr e8;clear e7 e8;go_wp2_with (first
      |(go_at_call 15;(with_reducible refine(pv _).mono ?_);rintro e w5 ⟨rfl,hb⟩;have HB5:=am (aa (aa HB4.out (bz HB)) hb);clear hb))
     go_ret;exact⟨rfl,HB5.out⟩
    ·have b8:(op.f0==(8:Int))=false:=beq_eq_false_iff_ne.mpr e8;have HN1:=am (HNx.out e7 e8);clear e7 e8;go_wp2;exact⟨⟨j+1,HWk.out,HLt.out,HN1,⟨bz HB⟩⟩,HMs.out⟩
  ·have hjj : j = ops.length := by omega
   subst hjj;have d3:decide ((ops.length:Int)<ops.length)=false:=ah (by omega);have HBw:=am (aa HB4.out HB.out);have BXr:=am (ap BX4.out HB.out);clear hlt hj HB BX4 HB4;have uw:IntKind.u64.wrap (ops.length:Int)=ops.length:=by have:=HLn.out;rw[Pl.u64w];omega
   obtain⟨kn,hkn,hkl⟩:∃ kn:Nat,wrap64 (Int.tmod (IntKind.u64.wrap k) (ops.length:Int))=kn/\kn<ops.length:=by have h1:=qm3 k ops.length (by have:=HZ.out;omega) (by have:=HLn.out;omega);have h2:=Int.emod_nonneg (k % 18446744073709551616) (b:=(ops.length:Int)) (by have:=HZ.out;omega);have h3:=Int.emod_lt_of_pos (k % 18446744073709551616) (b:=(ops.length:Int)) (by have:=HZ.out;omega);exact⟨((k % 18446744073709551616) % (ops.length:Int)).toNat,by rw[h1];omega,by omega⟩
   have z1:((ops.length:Int)=0)=False:=eq_false (by have:=HZ.out;omega);have z2:((ops.length:Int)==0)=false:=beq_eq_false_iff_ne.mpr (by have:=HZ.out;omega);have z3:(ops.length=0)=False:=eq_false (by have:=HZ.out;omega);have z4:(ops=[])=False:=eq_false (fun e=>by have:=HZ.out;rw[e]at this;simp at this);have z5:decide ((ops.length:Int)=0)=false:=ah (by have:=HZ.out;omega);have HKl:=am hkl;clear hkl;go_upto_region 12 with (fail);have HNew:Aside0 (∀ w',Calls Tryz.prog 17 #[nl pB, .slice none 0 0] w' fun e w''=>∃ W M C F st,e=.returned (.tuple #[.pointer (some ⟨W,0,none⟩), .int .i64 0])/\Below w'.heap.size w' w''∧ko w'' W M C pB (.on st) 0 F/\(∀ j,F j->w'.heap.size<=j)/\NewS pB [] st):=⟨fun w'=>by
    refine(qkm HP.out none 0 (qg8 w') (an 0)).mono ?_;rintro e w'' ⟨hb,⟨W,M,C,F,st,rfl,ht,hF,hs⟩|⟨n,hn,rfl,hn2⟩⟩
    ·exact⟨W,M,C,F,st,rfl,hb,ht,hF,hs⟩
    ·exact absurd rfl hn2⟩
   unfold nl at HNew;have HMod:Aside0 (∀ w',Calls Tryz.prog 24 #[.int .i64 (pB.lines*8)] w' fun e w''=>∃ M,e=.returned (.pointer (some ⟨M,0,none⟩))/\MdO w' w'' M (Hp.firstW pB) 0):=⟨fun w'=>by
    refine(qdm (qoo HP.out) (qk6 HP.out) (by rw[pi];have:=HP.out.l1;omega)).mono ?_;rintro e w'' ⟨M,g,c,rfl,a,b1,b2,b3,b4,b5⟩;exact⟨M,rfl,g,c,a,b1,b2,b4,b5⟩⟩
   have m8:wrap64 (pB.lines*8)=pB.lines*8:=w64 (by have:=HP.out.l1;have:=HP.out.l2;omega);clear uw z1 z2 z3 z4 z5;have hct:=qsf (A:=A1) (c:=c1) kn (by have:=HKl.out;omega) HC1.out;obtain⟨T,hT⟩:∃ T,T=ops.take kn:=⟨_,rfl⟩;rw[<-hT]at hct;have HTc:Aside0 (Kd.C k39 w A1 T.length T):=⟨by rw[hT];exact Kd.C_take HR1.out (by have:=HKl.out;omega)⟩;have HTm:Aside0 (∀ x∈T,x∈ops/\x.f0≠7/\x.f0≠8):=⟨fun x hx=>by
    rw[hT]at hx;have hm:=List.mem_of_mem_take hx;obtain⟨i,hi,e⟩:=List.mem_iff_getElem.1 hm;have h:=HNo.out i hi;unfold gc at h;rw[Int.toNat_natCast,aw,bw hi]at h;rw[<-e];exact⟨List.getElem_mem hi,h⟩⟩
   have HTl:Aside0 (T.length<=80):=⟨by rw[hT,List.length_take];have:=HLn.out;omega⟩;clear hT;go_wp2_with (first
    |((with_reducible refine fz (.load 23 (.tmp 5)) rfl ?_);refine az rfl 23 (.tmp 5) rfl w.heap.size 0 rfl [.int .i64 pB.lines, .int .i64 pB.spare, .int .i64 pB.period, .int .i64 pB.batch] _ (fun j v hv=>by rw[Nat.zero_add];exact bq BXr.out j v hv) Tryz.underlying23 rfl je ?_)
    |(go_at_call 17;refine(HNew.out _).mono ?_;rintro e w5 ⟨W,M,C,F,st0,rfl,hb,ht,hF,hs⟩;have S5:=am (Stands.mk (w0:=w) ⟨_,ht⟩ (fun j hj=>Nat.le_trans HBw.out.size (hF j hj)) (aa HBw.out hb));have BX5:=am (ap BXr.out hb);have HS:=am hs;have s0:w5.cell? ⟨w.heap.size,0,none⟩=some (.int .i64 pB.lines):=(aj BX5.out 0).trans rfl;clear hb ht hF hs HNew BXr)
    |(go_at_call 24;refine(HMod.out _).mono ?_;rintro e w6 ⟨M0,rfl,hm⟩;have Q6:=am (SmQ.mk (j:=0) (S5.out.on hm.below) HS.out.quiet (by have:=HS.out.mv;omega) ⟨HS.out.inv.hv,_,HS.out.inv,wh.refl _ _⟩ (MB.new S5.out hm));clear hm S5 BX5 HS HMod s0))
   go_loopw [15,86] (fun mp i wr=>∃ (j:Nat) (st:St) (F:Nat->Prop) (Mm:Nat) (l:List S116) (vm:List Int) (r:Int),mp=.pointer (some ⟨Mm,0,none⟩)/\i=.int .i64 j/\j<=T.length/\Aside0 (SmQ w wr W M C pB j st F Mm l vm r)) (fun _ i _=>T.length-(intOf i).toNat)
   case atStart=>exact⟨0,_,_,_,_,_,_,rfl,rfl,by omega,Q6⟩
   case round =>
    clear Q6 hct;obtain⟨j,st,F,Mm,l,vm,r,rfl,rfl,hj,Q⟩:=hrel;by_cases hlt:j<T.length
    ·have d3:decide ((j:Int)<T.length)=true:=af (by omega);obtain⟨ad,A4,c4,ea,hl4,hop⟩:=qok HTc.out hlt;subst ea;have p0:(0<=(j:Int))=True:=eq_true (by omega);have p1:((j:Int)<T.length)=True:=eq_true (by omega);have HWk:=am (wk1 j (by have:=HTl.out;omega));have HMs:=am (wk2 hlt (by have:=HTl.out;omega));have hm:=HTm.out _ (qd5 hlt);have HLt:=am hlt;generalize gc T (j:Int)=op at *;obtain⟨hx0,hx1,hx2,hx3,hx4,hi4⟩:=hop _ Q.out.s.below;have HOp:=am hop;have HL4:=am hl4;obtain⟨e,off,bs,st',hTw,hq,n2,n3,hmv,hne,heq⟩:=qka Q.out.d Q.out.q HP.out Q.out.mv (by have:=HTl.out;omega) op (HBy.out _ hm.1) hm.2.1 hm.2.2;have HTw:=am (qdn HP.out hTw);have HDo:=am (And.intro hq (And.intro hmv (And.intro hne heq)));have HV:=am Q.out.d.1;have HBo:=am (HBy.out _ hm.1);obtain⟨w5,hw5⟩:∃ x,x=wr.alloc (.cells #[.int .i64 op.f0, .int .i64 op.f1, .int .i64 op.f2, .int .i64 op.f3, .slice A4 op.f4.length c4] 39):=⟨_,rfl⟩;have Q5:Aside0 (SmQ w w5 W M C pB j st F Mm l vm r):=⟨Q.out.on (by rw[hw5];exact(ai _ _).alloc (an _) _)⟩;have BZ:Aside0 (w5.heap[wr.heap.size]? =some (.cells (qq3 op A4 c4) 39 (0,0))):=⟨by rw[hw5];exact heap_alloc_new wr _⟩;have HFl:Aside0 (∀ j,F j->j<wr.heap.size):=⟨by obtain⟨cc,hh⟩:=Q.out.s.tw;exact hh.lt⟩;have HW5:=am hw5;clear hop hl4 hTw hq n2 n3 hmv hne heq hm hi4 hlt hj hw5 Q;by_cases e0:e=0
     case' pos=>have be:(e==0)=true:=beq_iff_eq.mpr e0;have HE:=am e0
     case' neg=>have be:(e==0)=false:=beq_eq_false_iff_ne.mpr e0;have HE:=am e0
     all_goals clear e0
     all_goals go_wp2_with (first
      |((with_reducible refine fz (.load 39 (.tmp 17)) rfl ?_);first|rw[<-HW5.out]|skip;first|refine az rfl 39 (.tmp 17) rfl wr.heap.size 0 rfl [.int .i64 op.f0, .int .i64 op.f1, .int .i64 op.f2, .int .i64 op.f3, .slice A4 op.f4.length c4] _ (fun j v hv=>by rw[Nat.zero_add];exact bq BZ.out j v hv) Tryz.underlying39 rfl wu ?_ |refine az rfl 39 (.tmp 17) rfl wr.heap.size 0 rfl [.int .i64 op.f0, .int .i64 op.f1, .int .i64 op.f2, .int .i64 op.f3, .slice A4 op.f4.length c4] _ (fun j v hv=>by rw[Nat.zero_add];exact bq B7.out j v hv) Tryz.underlying39 rfl wu ?_)
      |(go_at_call 21;(with_reducible refine(HTw.out _ _ _ _ _ _ _ _ Q5.out.s (HOp.out _ Q5.out.s.below).2.2.2.2.2 HL4.out).mono ?_);rintro x w6 ⟨A6,c6,F6,rfl,hs,hk,hf⟩;have S6:=am hs;have M6:=am (Q5.out.m.step hk hf);have B6:=am (hk.of BZ.out (fun e=>by have:=HFl.out _ e;omega));clear hs hk hf Q5 BZ HTw)
      |((with_reducible refine bk (t:=36) (p:=18) rfl ?_);refine db rfl 36 (.tmp 18) (.tmp 92) rfl _ (fk e off (.slice A6 bs.length c6)) rfl rfl fx rfl rfl ?_;intro w7 BN HN;have S7:=am (S6.out.on HN.out);have M7:=am (M6.out.on HN.out);have B7:=am (ap B6.out HN.out);obtain⟨z0,z1,z2⟩:=qh9 BN.out;clear S6 M6 B6 HN)
      |(go_at_call 25;obtain⟨gm,cm,hma,_,_,_⟩:=M7.out;refine(zh hma HV.out op A4 c4 HBo.out (HOp.out _ S7.out.below).2.2.2.2.2 HL4.out off).mono ?_;rintro x w8 ⟨M8,l8,v8,r8,rfl,hm,hh,hn⟩;have Q8:Aside0 (SmQ w w8 W M C pB ((j+1:Nat):Int) st' F6 M8 l8 v8 r8):=⟨⟨S7.out.on hm.below,HDo.out.1,by have:=HDo.out.2.1;omega,HDo.out.2.2.2 HE.out _ _ _ hh hn,MB.new S7.out hm⟩⟩;clear hm hh hn hma))
     ·exact⟨⟨j+1,st',F6,Mm,l,vm,r,rfl,HWk.out,HLt.out,⟨⟨S7.out,HDo.out.1,by have:=HDo.out.2.1;omega,HDo.out.2.2.1 HE.out,M7.out⟩⟩⟩,HMs.out⟩
     ·exact⟨⟨j+1,st',F6,M8,l8,v8,r8,rfl,HWk.out,HLt.out,Q8⟩,HMs.out⟩
    ·have d3 : decide ((j : Int) < T.length) = false := ah (by omega);have HMv : Aside0 (Trn.moves st.m ≤ 5000) := ⟨by have := Q.out.mv; have := HTl.out; omega⟩;obtain rfl : j = T.length := by omega
     clear hlt hj HTc HTm HTl;obtain⟨v,hi,ha⟩:=Q.out.d.2;obtain⟨H,h18,h20,h27,_⟩:=Q.out.s.asks hi HP.out (by have:=HMv.out;omega);have H18:=am h18;have H20:=am (h20 Q.out.q.up);have HI:=am hi;have HA:=am ha;clear h18 h20 h27 hi ha;go_wp2_with (first
      |(go_at_call 18;(with_reducible refine H18.out.mono ?_);rintro x w6 ⟨rfl,rfl⟩)
      |(go_at_call 20;(with_reducible refine H20.out.mono ?_);rintro x w6 ⟨Aw,cw,rfl,ho,hb⟩;have Q6:=am (Q.out.on hb);have HO6:=am (Kd.R_reads' ho);clear ho hb H18 H20 Q))
     obtain⟨ad,A4,c4,ea,hl4,hop⟩:=qok HR1.out HKl.out;subst ea;have p0:(0<=(kn:Int))=True:=eq_true (by omega);have p1:((kn:Int)<ops.length)=True:=eq_true (by have:=HKl.out;omega);have hkk:=HNo.out kn HKl.out;have hbk:=HBy.out _ (qd5 HKl.out);generalize gc ops (kn:Int)=op at *;have HOp:=am hop;have HL4:=am hl4;have HBo:=am hbk;have HV:=am Q6.out.d.1;clear hop hl4;obtain⟨e,off,bs,st1,st',st2,t1,t2,t3,hq2,hm2,hfin⟩:=qrf Q6.out.d HI.out HA.out Q6.out.q HP.out HMv.out op hbk hkk.1 hkk.2 (wrap64 (Int.tmod (IntKind.u64.wrap at_) 60)) mask;have T1:=am (qdn HP.out t1);have T2:=am (qdn HP.out t2);have T3:=am (qdn HP.out t3);have HQ2:=am (And.intro hq2 hm2);have HFin:=am hfin;clear t1 t2 t3 hq2 hm2 hfin hkk hbk;refine dd (n:=17) (S:=fun w'=>Below w6.heap.size w6 w') (ds:=[]) (onA 17 0) (by kernel_rfl) rfl rfl (bf (ai _ _)) (fun hHeld=>?_);refine ps 0 109 ?_;refine ps 1 110 ?_;refine ps 2 111 ?_;refine ps 3 112 ?_;refine ps 4 113 ?_;refine ps 6 115 ?_;refine vg 5 114 rfl hHeld (by intro w' hb;obtain⟨a0,a1,a2,a3,a4,a5⟩:=HOp.out w' (aa Q6.out.s.below hb);go_simp;with_reducible rfl) ?_;obtain⟨H,h18,_,h27,_⟩:=(Q6.out.s.on hHeld).asks HI.out HP.out (by have:=HMv.out;omega);refine os 7 116 Tryz.func18 #[.pointer (some ⟨W,0,none⟩)] ?_;refine h18.mono ?_;rintro x w7 ⟨rfl,rfl⟩;refine⟨_,rfl,hHeld,fun hHeld=>nz ?_⟩;refine os 8 117 Tryz.func27 #[.pointer (some ⟨H,0,none⟩)] ?_;refine(h27 _ (ai _ _)).mono ?_;rintro x w8 ⟨A8,c8,rfl,ho,hb⟩;have HO8:=am (Kd.R_reads' ho);refine⟨_,rfl,aa hHeld hb,fun hHeld=>nz ?_⟩;clear ho hb h18 h27;refine os 9 118 Tryz.func26 #[.slice Aw v.length cw, .int .i64 op.f2, .slice A8 st.now.length c8] ?_;refine(qec HI.out.hv (Kd.C_below HO6.out.2.2 hHeld) HO6.out.2.1 HO8.out.2.2 HO8.out.2.1).mono ?_;rintro x w9 ⟨u,off2,err,rfl,hof,hb⟩;have HOf:=am hof;refine⟨_,rfl,aa hHeld hb,fun hHeld=>nz ?_⟩;clear hof hb HO6 HO8;have Q9:=am (Q6.out.on hHeld);clear hHeld Q6;refine ps 10 108 ?_;refine ps 11 119 ?_;refine ps 12 120 ?_;refine ps 13 121 ?_;refine ps 14 21 ?_;refine ps 15 22 ?_;refine ps 16 23 ?_;refine e6 (by kernel_rfl) ?_;go_upto_region 26 with (first
      |(go_at_call 21;(refine(T1.out _ _ _ _ _ _ none 0 Q9.out.s (qog _) (an 0)).mono ?_);rintro x w10 ⟨A10,c10,F10,rfl,hs,hk,hf⟩;have S10:=am hs;have M10:=am (Q9.out.m.step hk hf);clear hs hk hf T1 Q9))
     obtain⟨hx0,hx1,hx2,hx3,hx4,hi4⟩:=HOp.out _ S10.out.below;have HI10:=am hi4;clear hi4;go_wp2_with (first
      |(go_at_call 21;(refine(T2.out _ _ _ _ _ _ _ _ S10.out HI10.out HL4.out).mono ?_);rintro x w11 ⟨A11,c11,F11,rfl,hs,hk,hf⟩;have S11:=am hs;have M11:=am (M10.out.step hk hf);clear hs hk hf T2 S10 M10 hx0 hx1 hx2 hx3 hx4 HI10)
      |((with_reducible refine bk (t:=36) (p:=24) rfl ?_);refine db rfl 36 (.tmp 24) (.tmp 135) rfl _ (fk e off (.slice A11 bs.length c11)) rfl rfl fx rfl rfl ?_;intro w12 BN HN;have S12:=am (S11.out.on HN.out);have M12:=am (M11.out.on HN.out);have B12:=BN;have HF12:Aside0 (¬ F11 w11.heap.size):=⟨fun h=>by obtain⟨cc,hh⟩:=S11.out.tw;have:=hh.lt _ h;omega⟩;clear S11 M11 HN BN;generalize w11.heap.size=g24 at B12 HF12 ⊢)
      |(go_at_call 21;(refine(T3.out _ _ _ _ _ _ none 0 S12.out (qog _) (an 0)).mono ?_);rintro x w13 ⟨A13,c13,F13,rfl,hs,hk,hf⟩;have S13:=am hs;have M13:=am (M12.out.step hk hf);have B13:=am (hk.of B12.out HF12.out);have HF13:Aside0 (¬ F13 g24):=⟨fun h=>(hf _ h).elim HF12.out (fun e=>by have:=ec B12.out;omega)⟩;clear hs hk hf T3 S12 M12 B12)
      |((with_reducible refine bk (t:=36) (p:=25) rfl ?_);refine db rfl 36 (.tmp 25) (.tmp 138) rfl _ (fk 0 0 (.slice A13 ([]:List Int).length c13)) rfl rfl fx rfl rfl ?_;intro w14 BN HN;have S14:=am (S13.out.on HN.out);have M14:=am (M13.out.on HN.out);have B14:=am (ap B13.out HN.out);obtain⟨y0,y1,y2⟩:=qh9 BN.out;obtain⟨hx0,hx1,hx2,hx3,hx4,hi4⟩:=HOp.out _ S14.out.below;have HI14:=am hi4;clear S13 M13 B13 HN BN hi4)
      |(go_at_call 25;obtain⟨gm,cm,hma,hmb,_,_⟩:=M14.out;refine(zh hma HV.out op A4 c4 HBo.out HI14.out HL4.out off2).mono ?_;rintro x w15 ⟨M8,l8,v8,r8,rfl,hm,hh,hn⟩;have S15:=am (S14.out.on hm.below);have M15:=am (M14.out.on hm.below);have N15:=am (MB.new S14.out hm);have B15:=am (ap B14.out hm.below);have HH:=am hh;have HD:=am (HFin.out off2 HOf.out _ _ _ hh hn);clear hm hh hn hma hmb S14 M14 B14 HI14 hx0 hx1 hx2 hx3 hx4 y0 y1 y2))
     have hx:∃ l2 v2 r2,HInv pB st2 l2 v2 r2:=by
      rcases HD.out.2 with⟨_,x,h,_⟩|⟨_,x,h,_⟩
      ·exact⟨_,_,_,h⟩
      ·exact⟨_,_,_,h⟩
     obtain⟨l2,v2,r2,hi2⟩:=hx;have HI2:=am hi2;have D1:=am (qhi (r:=r) hi2 HV.out);have D2:=am (qhi (r:=r8) hi2 HH.out);obtain⟨H2,h18,_,_,h28⟩:=S15.out.asks hi2 HP.out (by have:=HQ2.out.2;omega);have H18a:=am h18;have H28a:=am (h28 HQ2.out.1.up _ _ _ _ M15.out HV.out);clear h18 h28 hi2;go_upto_region 32 with (first
      |(go_at_call 18;(with_reducible refine H18a.out.mono ?_);rintro x w16 ⟨rfl,rfl⟩;clear H18a)
      |(go_at_call 28;refine H28a.out.mono ?_;rintro x w17 ⟨n1,rfl,h1,hs,hk⟩;have S17:=am hs;have M17:=am (M15.out.step hk (fun j h=>.inl h));have N17:=am (N15.out.step hk (fun j h=>.inl h));have B17:=am (hk.of B15.out HF13.out);have HN1:=am h1;clear hs hk h1 H28a S15 M15 N15 B15;obtain⟨H3,h18,_,_,h28⟩:=S17.out.asks HI2.out HP.out (by have:=HQ2.out.2;omega);have H18b:=am h18;have H28b:=am (h28 HQ2.out.1.up _ _ _ _ N17.out HH.out);clear h18 h28)
      |(go_at_call 18;(with_reducible refine H18b.out.mono ?_);rintro x w16 ⟨rfl,rfl⟩;clear H18b)
      |(go_at_call 28;refine H28b.out.mono ?_;rintro x w18 ⟨n2,rfl,h1,hs,hk⟩;have S18:=am hs;have M18:=am (M17.out.step hk (fun j h=>.inl h));have N18:=am (N17.out.step hk (fun j h=>.inl h));have B18:=am (hk.of B17.out HF13.out);have HN2:=am h1;clear hs hk h1 H28b S17 M17 N17 B17;obtain⟨y0,y1,y2⟩:=qh9 B18.out))
     have hb:∃ b1 b2:Bool,(n1==0)=b1/\(n2==0)=b2/\(e=0->b2=true)/\(b1=true\/b2=true)/\(b2=true->Duo pB st2 l8 v8 r8)/\(b2=false->Duo pB st2 l vm r):=by
      refine⟨_,_,rfl,rfl,fun h=>?_,?_,fun h=>?_,fun h=>?_⟩
      ·exact beq_iff_eq.mpr (HN2.out.2 (D2.out.1 (HD.out.1 h)))
      ·rcases HD.out.2 with h|h
       ·exact .inl (beq_iff_eq.mpr (HN1.out.2 (D1.out.1 h)))
       ·exact .inr (beq_iff_eq.mpr (HN2.out.2 (D2.out.1 h)))
      ·exact D2.out.2 (HN2.out.1 (beq_iff_eq.mp h))
      ·rcases HD.out.2 with h'|h'
       ·exact h'
       ·exact absurd (HN2.out.2 (D2.out.1 h')) (beq_eq_false_iff_ne.mp h)
     obtain⟨b1,b2,e1,e2,hb1,hb2,hb3,hb4⟩:=hb;have HBb:=am (And.intro hb1 (And.intro hb2 (And.intro hb3 hb4)));rw[e1,e2];clear e1 e2 hb1 hb2 hb3 hb4 HN1 HN2 HD D1 D2 HFin HOf;go_cut [173] (fun v173 wc=>v173=.bool false/\Aside0 (Below w18.heap.size w18 wc))
     case first=>
      by_cases e0:e=0
      ·have be:(e==0)=true:=beq_iff_eq.mpr e0;have h2:b2=true:=HBb.out.1 e0;subst h2;clear e0;cases b1
       all_goals go_wp2
       all_goals go_meet
       all_goals (case rel=>exact⟨rfl,⟨ai _ _⟩⟩)
      ·have be:(e==0)=false:=beq_eq_false_iff_ne.mpr e0;clear e0;cases b1
       ·have h2:b2=true:=HBb.out.2.1.resolve_left (by decide);subst h2;go_wp2;go_meet
        case rel=>exact⟨rfl,⟨ai _ _⟩⟩
       ·cases b2
        all_goals go_wp2
        all_goals go_meet
        all_goals (case rel=>exact⟨rfl,⟨ai _ _⟩⟩)
     case rest =>
      obtain⟨rfl,HB⟩:=hcut;have S19:=am (S18.out.on HB.out);have M19:=am (M18.out.on HB.out);have N19:=am (N18.out.on HB.out);clear S18 M18 N18 B18 y0 y1 y2 HB;go_upto_if 174 with (fail);go_cut [15] (fun v15 wc=>∃ (Mn:Nat) (ln:List S116) (vn:List Int) (rn:Int),v15=.pointer (some ⟨Mn,0,none⟩)/\Aside0 (SmQ w wc W M C pB (200:Int) st2 F13 Mn ln vn rn))
      case first=>
       cases b2
       ·go_wp2;go_meet
        case rel=>exact⟨Mm,l,vm,r,rfl,⟨⟨S19.out,HQ2.out.1,by have:=HQ2.out.2;omega,HBb.out.2.2.2 trivial,M19.out⟩⟩⟩
       ·go_wp2;go_meet
        case rel=>exact⟨M8,l8,v8,r8,rfl,⟨⟨S19.out,HQ2.out.1,by have:=HQ2.out.2;omega,HBb.out.2.2.1 trivial,N19.out⟩⟩⟩
      case rest=>
       clear S19 M19 N19 HBb HV HH HI HA HMv HF12 HF13;obtain⟨Mn,ln,vn,rn,rfl,Q20⟩:=hcut;have hcd:=qrl (A:=some ad) (c:=c1) (l:=ops) (kn+1) (by have:=HKl.out;omega);have hwn:wrap64 ((kn:Int)+1)=((kn+1:Nat):Int):=by have:=HKl.out;have:=HLn.out;rw[w64 (by omega)];omega
       rw[<-hwn]at hcd;obtain⟨D,hD⟩:∃ D,D=ops.drop (kn+1):=⟨_,rfl⟩;rw[<-hD]at hcd;obtain⟨A2,hA2⟩:∃ A2,A2=(if c1=kn+1 then some ad else(some ad).map (·.add ((kn+1)*5))):=⟨_,rfl⟩;rw[<-hA2]at hcd;have HTc:Aside0 (Kd.C k39 w A2 D.length D):=⟨by rw[hD,hA2];exact Kd.C_drop HR1.out (by have:=HKl.out;omega) HC1.out⟩;have HTm:Aside0 (∀ x∈D,x∈ops/\x.f0≠7/\x.f0≠8):=⟨fun x hx=>by
        rw[hD]at hx;have hm:=List.mem_of_mem_drop hx;obtain⟨i,hi,e⟩:=List.mem_iff_getElem.1 hm;have h:=HNo.out i hi;unfold gc at h;rw[Int.toNat_natCast,aw,bw hi]at h;rw[<-e];exact⟨List.getElem_mem hi,h⟩⟩
       have HTl:Aside0 (D.length<=80):=⟨by rw[hD,List.length_drop];have:=HLn.out;omega⟩;clear hD hA2 hwn;go_wp2;go_loopw [15,181] (fun mp i wr=>∃ (j:Nat) (st:St) (F:Nat->Prop) (Mm:Nat) (l:List S116) (vm:List Int) (r:Int),mp=.pointer (some ⟨Mm,0,none⟩)/\i=.int .i64 j/\j<=D.length/\Aside0 (SmQ w wr W M C pB ((200+j:Nat):Int) st F Mm l vm r)) (fun _ i _=>D.length-(intOf i).toNat)
       case atStart=>exact⟨0,_,_,_,_,_,_,rfl,rfl,by omega,Q20⟩
       case round=>
        clear Q20 hcd;obtain⟨j,st,F,Mm,l,vm,r,rfl,rfl,hj,Q⟩:=hrel;by_cases hlt:j<D.length
        ·have d3:decide ((j:Int)<D.length)=true:=af (by omega);obtain⟨ad,A4,c4,ea,hl4,hop⟩:=qok HTc.out hlt;subst ea;have p0:(0<=(j:Int))=True:=eq_true (by omega);have p1:((j:Int)<D.length)=True:=eq_true (by omega);have HWk:=am (wk1 j (by have:=HTl.out;omega));have HMs:=am (wk2 hlt (by have:=HTl.out;omega));have hm:=HTm.out _ (qd5 hlt);have HLt:=am hlt;generalize gc D (j:Int)=op at *;obtain⟨hx0,hx1,hx2,hx3,hx4,hi4⟩:=hop _ Q.out.s.below;have HOp:=am hop;have HL4:=am hl4;obtain⟨e,off,bs,st',hTw,hq,n2,n3,hmv,hne,heq⟩:=qka Q.out.d Q.out.q HP.out Q.out.mv (by have:=HTl.out;omega) op (HBy.out _ hm.1) hm.2.1 hm.2.2;have HTw:=am (qdn HP.out hTw);have HDo:=am (And.intro hq (And.intro hmv (And.intro hne heq)));have HV:=am Q.out.d.1;have HBo:=am (HBy.out _ hm.1);obtain⟨w5,hw5⟩:∃ x,x=wr.alloc (.cells #[.int .i64 op.f0, .int .i64 op.f1, .int .i64 op.f2, .int .i64 op.f3, .slice A4 op.f4.length c4] 39):=⟨_,rfl⟩;have Q5:Aside0 (SmQ w w5 W M C pB ((200+j:Nat):Int) st F Mm l vm r):=⟨Q.out.on (by rw[hw5];exact(ai _ _).alloc (an _) _)⟩;have BZ:Aside0 (w5.heap[wr.heap.size]? =some (.cells (qq3 op A4 c4) 39 (0,0))):=⟨by rw[hw5];exact heap_alloc_new wr _⟩;have HFl:Aside0 (∀ j,F j->j<wr.heap.size):=⟨by obtain⟨cc,hh⟩:=Q.out.s.tw;exact hh.lt⟩;have HW5:=am hw5;have HNn:=am (And.intro n2 n3);clear hop hl4 hTw hq n2 n3 hmv hne heq hm hi4 hlt hj hw5 Q;by_cases e0:e=0
         case' pos=>have be:(e==0)=true:=beq_iff_eq.mpr e0;have HE:=am e0
         case' neg=>have be:(e==0)=false:=beq_eq_false_iff_ne.mpr e0;have be2:(e==2)=false:=beq_eq_false_iff_ne.mpr HNn.out.1;have be3:(e==3)=false:=beq_eq_false_iff_ne.mpr HNn.out.2;have HE:=am e0
         all_goals clear e0
         all_goals go_wp2_with (first
          |((with_reducible refine fz (.load 39 (.tmp 30)) rfl ?_);first|rw[<-HW5.out]|skip;first|refine az rfl 39 (.tmp 30) rfl wr.heap.size 0 rfl [.int .i64 op.f0, .int .i64 op.f1, .int .i64 op.f2, .int .i64 op.f3, .slice A4 op.f4.length c4] _ (fun j v hv=>by rw[Nat.zero_add];exact bq BZ.out j v hv) Tryz.underlying39 rfl wu ?_ |refine az rfl 39 (.tmp 30) rfl wr.heap.size 0 rfl [.int .i64 op.f0, .int .i64 op.f1, .int .i64 op.f2, .int .i64 op.f3, .slice A4 op.f4.length c4] _ (fun j v hv=>by rw[Nat.zero_add];exact bq B7.out j v hv) Tryz.underlying39 rfl wu ?_)
          |(go_at_call 21;(with_reducible refine(HTw.out _ _ _ _ _ _ _ _ Q5.out.s (HOp.out _ Q5.out.s.below).2.2.2.2.2 HL4.out).mono ?_);rintro x w6 ⟨A6,c6,F6,rfl,hs,hk,hf⟩;have S6:=am hs;have M6:=am (Q5.out.m.step hk hf);have B6:=am (hk.of BZ.out (fun e=>by have:=HFl.out _ e;omega));clear hs hk hf Q5 BZ HTw)
          |((with_reducible refine bk (t:=36) (p:=31) rfl ?_);refine db rfl 36 (.tmp 31) (.tmp 187) rfl _ (fk e off (.slice A6 bs.length c6)) rfl rfl fx rfl rfl ?_;intro w7 BN HN;have S7:=am (S6.out.on HN.out);have M7:=am (M6.out.on HN.out);have B7:=am (ap B6.out HN.out);obtain⟨z0,z1,z2⟩:=qh9 BN.out;clear S6 M6 B6 HN)
          |(go_at_call 25;obtain⟨gm,cm,hma,_,_,_⟩:=M7.out;refine(zh hma HV.out op A4 c4 HBo.out (HOp.out _ S7.out.below).2.2.2.2.2 HL4.out off).mono ?_;rintro x w8 ⟨M8,l8,v8,r8,rfl,hm,hh,hn⟩;have Q8:Aside0 (SmQ w w8 W M C pB ((200+(j+1):Nat):Int) st' F6 M8 l8 v8 r8):=⟨⟨S7.out.on hm.below,HDo.out.1,by have:=HDo.out.2.1;omega,HDo.out.2.2.2 HE.out _ _ _ hh hn,MB.new S7.out hm⟩⟩;clear hm hh hn hma))
         ·exact⟨⟨j+1,st',F6,Mm,l,vm,r,rfl,HWk.out,HLt.out,⟨⟨S7.out,HDo.out.1,by have:=HDo.out.2.1;omega,HDo.out.2.2.1 HE.out,M7.out⟩⟩⟩,HMs.out⟩
         ·exact⟨⟨j+1,st',F6,M8,l8,v8,r8,rfl,HWk.out,HLt.out,Q8⟩,HMs.out⟩
        ·have d3:decide ((j:Int)<D.length)=false:=ah (by omega);obtain rfl:j=D.length:=by omega
         have HMv:Aside0 (Trn.moves st.m<=50000):=⟨by have:=Q.out.mv;have:=HTl.out;omega⟩;clear hlt hj HTc HTm HTl;obtain⟨v3,hi,ha⟩:=Q.out.d.2;obtain⟨H,h18,_,_,h28⟩:=Q.out.s.asks hi HP.out (by have:=HMv.out;omega);have H18:=am h18;have H28:=am (h28 Q.out.q.up _ _ _ _ Q.out.m Q.out.d.1);have HAl:=am ha;clear h18 h28 hi ha;go_wp2_with (first
          |(go_at_call 18;(with_reducible refine H18.out.mono ?_);rintro x w6 ⟨rfl,rfl⟩)
          |(go_at_call 28;refine H28.out.mono ?_;rintro x w7 ⟨n,rfl,h1,hs,hk⟩;obtain rfl:n=0:=h1.2 ⟨trivial,trivial,HAl.out⟩;have HB7:=am hs.below;clear hs hk h1)
          |(go_at_call 15;(with_reducible refine(pv _).mono ?_);rintro x w8 ⟨rfl,hb⟩;have HB8:=am (aa HB7.out hb);clear hb))
         go_ret;exact⟨rfl,HB8.out⟩
end Go.Proofs.YtmfhaliclnnbaaaGreat.Sys
