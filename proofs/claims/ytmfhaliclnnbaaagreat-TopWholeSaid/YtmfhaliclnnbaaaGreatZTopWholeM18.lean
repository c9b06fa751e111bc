import Derived.Test.YtmfhaliclnnbaaaGreatZTopWholeM17
namespace Go.Proofs.YtmfhaliclnnbaaaGreat.Sys
open Go.RowKit Go.Proofs.YtmfhaliclnnbaaaGreatW.PrintWords Go.Proofs.YtmfhaliclnnbaaaGreatW.PrintLast Go.Proofs.YtmfhaliclnnbaaaGreatW.PrintMore
open Go.Proofs.YtmfhaliclnnbaaaGreat.XTopWhole Go.Proofs.YtmfhaliclnnbaaaGreat.Pl Go.Maps
set_option linter.unusedVariables false
set_option linter.unusedSimpArgs false
set_option maxRecDepth 100000
set_option maxHeartbeats 8000000
structure Mo where
 M:Nat
 l:List S116
 v:List Int
 r:Int
def Mo.ptr(x:Mo):Value:=.pointer (some ⟨x.M,0,none⟩)
structure WhI (w wr:World) (W M C:Nat) (p:Pn) (j:Int) (st:St) (F:Nat->Prop) (m:Mo) (g:Nat) (cs:List Mo):Prop where
 s:Stands w wr W M C p (.on st) F
 mv:Trn.moves st.m<=100+60*j
 h:∃ l v r,HInv p st l v r
 mm:MB wr F m.M m.v m.r/\HV m.l m.v (p.lines*8)
 c:wr.heap[g]? =some (.cells (cs.map Mo.ptr).toArray 56 (0,0))∧¬ F g
 a:∀ x∈cs,MB wr F x.M x.v x.r/\HV x.l x.v (p.lines*8)
 d:∃ x∈cs,Duo p st x.l x.v x.r
 u:st.m.down=false->m∈cs/\Duo p st m.l m.v m.r
section
variable{w wr w':World}{W M C:Nat}{p:Pn}{j:Int}{st st':St}{F F':Nat->Prop}{m:Mo}{g:Nat}{cs:List Mo}
theorem WhI.on(h:WhI w wr W M C p j st F m g cs)(hb:Below wr.heap.size wr w'):WhI w w' W M C p j st F m g cs:=
 ⟨h.s.on hb,h.mv,h.h,⟨h.mm.1.on hb,h.mm.2⟩,⟨ap h.c.1 hb,h.c.2⟩,fun x hx=>⟨(h.a x hx).1.on hb,(h.a x hx).2⟩,h.d,h.u⟩
structure WhK (w w':World) (W M C:Nat) (p:Pn) (st':St) (F':Nat->Prop) (m:Mo) (g:Nat) (cs:List Mo):Prop where
 s:Stands w w' W M C p (.on st') F'
 mm:MB w' F' m.M m.v m.r/\HV m.l m.v (p.lines*8)
 c:w'.heap[g]? =some (.cells (cs.map Mo.ptr).toArray 56 (0,0))∧¬ F' g
 a:∀ x∈cs,MB w' F' x.M x.v x.r/\HV x.l x.v (p.lines*8)
theorem WhI.did(h:WhI w wr W M C p j st F m g cs)(hs:Stands w w' W M C p (.on st') F')(kk:aq F wr w')(hf:∀ j,F' j->F j\/wr.heap.size<=j):WhK w w' W M C p st' F' m g cs:=
 ⟨hs,⟨h.mm.1.step kk hf,h.mm.2⟩,⟨kk.of h.c.1 h.c.2,fun e=>(hf g e).elim h.c.2 (fun e=>by have:=d7 h.c.1;omega)⟩,fun x hx=>⟨(h.a x hx).1.step kk hf,(h.a x hx).2⟩⟩
theorem WhK.on{w'':World}(h:WhK w w' W M C p st' F' m g cs)(hb:Below w'.heap.size w' w''):WhK w w'' W M C p st' F' m g cs:=
 ⟨h.s.on hb,⟨h.mm.1.on hb,h.mm.2⟩,⟨ap h.c.1 hb,h.c.2⟩,fun x hx=>⟨(h.a x hx).1.on hb,(h.a x hx).2⟩⟩
theorem WhK.did{w'':World}(h:WhK w w' W M C p st' F' m g cs)(hs:Stands w w'' W M C p (.on st') F')(kk:aq F' w' w''):WhK w w'' W M C p st' F' m g cs:=
 ⟨hs,⟨h.mm.1.step kk (fun _ h=>.inl h),h.mm.2⟩,⟨kk.of h.c.1 h.c.2,h.c.2⟩,fun x hx=>⟨(h.a x hx).1.step kk (fun _ h=>.inl h),(h.a x hx).2⟩⟩
end
theorem Stands.down{w0 w:World}{W M C:Nat}{p:Pn}{F:Nat->Prop}{st:St}(h:Stands w0 w W M C p (.on st) F):Calls Tryz.prog 29 #[.pointer (some ⟨W,0,none⟩)] w (fun e w'=>e=.returned (.pointer (some ⟨M,0,none⟩))/\w=w')/\Calls Tryz.prog 30 #[.pointer (some ⟨M,0,none⟩)] w (fun e w'=>e=.returned (.bool st.m.down)/\w=w'):=h.mem
theorem qru{p:Pn}{st:St}{l:List S116}{v vm:List Int}{r:Int}(hd:Duo p st l vm r)(hi:HInv p st l v r)(ha:tt l v vm)(hu:st.m.down=false)(hp:p.Ok)(mv:Trn.moves st.m<=100000)(op:S39)(hB:Bys op.f4)(k7:op.f0≠7)(k8:op.f0≠8):∃ e off bs st',TwR p (.on st) op e off bs (.on st')/\(∃ l v r,HInv p st' l v r)/\Trn.moves st'.m<=Trn.moves st.m+40/\(e=2<->st'.m.down=true)∧∀ off2,(op.f0=1->e=2→∀ ch,df op.f2≠0->ul l st.now (df op.f2) ch->off2=((ab l ch).f0+1)*8)->(e=0->off2=off)→∀ l' vm' r',HV l' vm' (p.lines*8)->zt l vm r op off2 l' vm' r'→(e=0->Duo p st' l' vm' r')/\(e≠0->e≠2->Duo p st' l vm r)/\(e=2->Duo p st' l vm r\/Duo p st' l' vm' r'):=by
 obtain⟨e,off,bs,st',hdo,hD⟩:=qr4 (op:=op) hi hp (by omega) hB;have hx:∃ l1 v1 r1,HInv p st' l1 v1 r1:=by
  rcases hD.eff with⟨_,_,rfl⟩|⟨_,l1,v1,r1,_,h⟩|⟨_,h⟩|⟨_,_,l1,v1,r1,_,h⟩
  ·exact⟨_,_,_,hi⟩
  ·exact⟨_,_,_,h⟩
  ·exact⟨_,_,_,h⟩
  ·exact⟨_,_,_,h⟩
 refine⟨e,off,bs,st', .inr (.inr (.inr ⟨k7,k8,_,_,rfl,rfl,hi.stOk (by omega),hdo⟩)),hx,by have:=hD.kp.mv;omega,⟨hD.two.1,hD.two.2 hu⟩,fun off2 h1 h2 l' vm' r' hV' hn=>?_⟩;refine qms hd hB hi ha hD (off2:=off2) (fun k o l1 v1 r1 hnr ho=>?_) hV' hn;rcases ho with⟨e0,ho⟩|e2
 ·rw[h2 e0,ho]
 ·rcases hnr with⟨_,_,ch,_,hz,hbst,ho,_⟩|⟨a,_⟩|⟨a,_⟩|⟨a,_⟩
  ·rw[ho];exact h1 k e2 ch hz hbst
  all_goals omega
theorem qp9{p:Pn}{st:St}{m:Mo}{l:List S116}{v:List Int}{r:Int}(hi:HInv p st l v r)(hm:HV m.l m.v (p.lines*8))(hup:st.m.down=false->m.l=l/\m.r=r/\tt l v m.v)(hp:p.Ok)(mv:Trn.moves st.m<=5000)(op:S39)(hB:Bys op.f4):∃ e off bs st',TwR p (.on st) op e off bs (.on st')/\Trn.moves st'.m<=Trn.moves st.m+40/\(∃ l v r,HInv p st' l v r)/\((op.f0=7/\e=0/\st'.m.down=st.m.down∧∀ l' v' r',HInv p st l' v' r'→HInv p st' l' v' r')\/(op.f0=8/\e=0/\st'.m.down=false∧∀ l' v' r',HInv p st l' v' r'→HInv p st' l' v' r')\/(op.f0≠7/\op.f0≠8/\st.m.down=true/\st'=st)\/(op.f0≠7/\op.f0≠8/\st.m.down=false/\(e=2<->st'.m.down=true)∧∀ off2,(op.f0=1->e=2→∀ ch,df op.f2≠0->ul l st.now (df op.f2) ch->off2=((ab l ch).f0+1)*8)->(e=0->off2=off)→∀ l' vm' r',HV l' vm' (p.lines*8)->zt m.l m.v m.r op off2 l' vm' r'→(e=0->Duo p st' l' vm' r')/\(e≠0->e≠2->Duo p st' m.l m.v m.r)/\(e=2->Duo p st' m.l m.v m.r\/Duo p st' l' vm' r'))):=by
 by_cases k7:op.f0=7
 ·have hc:∀ l' v' r',HInv p st l' v' r'→HInv p {st with m:=Nvm.cutAt st.m op.f2 op.f3} l' v' r':=fun l' v' r' h=>(MInv.re (m':=Nvm.cutAt st.m op.f2 op.f3) h.mem rfl rfl).heap h.now;exact⟨0,0,[],_, .inl ⟨k7,rfl,rfl,rfl,rfl⟩,(by show Trn.moves (Nvm.cutAt st.m op.f2 op.f3)<=_;have:Trn.moves (Nvm.cutAt st.m op.f2 op.f3)=Trn.moves st.m:=rfl;omega),⟨_,_,_,hc _ _ _ hi⟩, .inl ⟨k7,rfl,rfl,hc⟩⟩
 by_cases k8:op.f0=8
 ·obtain⟨st2,hs,hsI,hsu,_,_,_,hsm⟩:=qn9 (op:=op) hi hp (by omega) k8;exact⟨0,0,[],st2,hs,hsm,⟨_,_,_,hsI _ _ _ hi⟩, .inr (.inl ⟨k8,rfl,hsu,hsI⟩)⟩
 by_cases hd:st.m.down=true
 ·obtain⟨e,h⟩:=qox hi hd op;exact⟨e,0,[],st, .inr (.inr (.inr ⟨k7,k8,st,st,rfl,rfl,hi.stOk (by omega),h⟩)),by omega,⟨_,_,_,hi⟩, .inr (.inr (.inl ⟨k7,k8,hd,rfl⟩))⟩
 ·have hu:=y6 hd;obtain⟨el,er,ha⟩:=hup hu;subst el er;obtain⟨e,off,bs,st',h1,h2,h3,h4,h5⟩:=qru (vm:=m.v) ⟨hm,v,hi,ha⟩ hi ha hu hp (by omega) op hB k7 k8;exact⟨e,off,bs,st',h1,h3,h2, .inr (.inr (.inr ⟨k7,k8,hu,h4,h5⟩))⟩
theorem WhK.full{w wr:World}{W M C:Nat}{p:Pn}{j:Int}{st:St}{F:Nat->Prop}{m:Mo}{g:Nat}{cs:List Mo}(h:WhK w wr W M C p st F m g cs)(mv:Trn.moves st.m<=100+60*j)(hh:∃ l v r,HInv p st l v r)(d:∃ x∈cs,Duo p st x.l x.v x.r)(u:st.m.down=false->m∈cs/\Duo p st m.l m.v m.r):WhI w wr W M C p j st F m g cs:=⟨h.s,mv,hh,h.mm,h.c,h.a,d,u⟩
theorem TopWhole_walk (w : World) (a b c d : Int) (A0 : Option Addr) (c0 : Nat) (limits : List Int) (A1 : Option Addr) (c1 : Nat) (ops : List S39) (hr0 : Kd.C (Kd.int .i64) w A0 limits.length limits) (hc0 : limits.length ≤ c0) (hr1 : Kd.C k39 w A1 ops.length ops) (hc1 : ops.length ≤ c1) (hB : ∀ op ∈ ops, Bys op.f4) (hl : ops.length ≤ 4611686018427387904) : Calls Tryz.prog 6 #[.agg (qqm a b c d).toArray, .slice A0 limits.length c0, .slice A1 ops.length c1] w fun e w' => e = .returned (.bool true) ∧ Below w.heap.size w w' := by
 obtain⟨hv,hvE,hv2⟩:=qm2 ops limits hl;obtain⟨k0,hk0⟩:=hvE;have hH:=hk0 k0 (an _);obtain⟨p,hp,hp24,hp30,hsm⟩:=qn7 a b c d;have HR0:=am hr0;have HR1:=am hr1;have HC0:=am hc0;have HC1:=am hc1;have HBy:=am hB;have HHv:=am hH;have HSm:=am hsm;have HP:=am hp;unfold qqm at *;have BX:Aside0 ((w.alloc (.cells [.int .i64 a, .int .i64 b, .int .i64 c, .int .i64 d].toArray 23)).heap[w.heap.size]? =some (.cells [.int .i64 a, .int .i64 b, .int .i64 c, .int .i64 d].toArray 23 (0,0))):=⟨heap_alloc_new w _⟩;have HB0:Aside0 (Below w.heap.size w (w.alloc (.cells [.int .i64 a, .int .i64 b, .int .i64 c, .int .i64 d].toArray 23))):=⟨(ai _ _).alloc (an _) _⟩;clear hr0 hr1 hc0 hc1 hB hH hsm hp hk0 hl hp24 hp30;by_cases h0:0<hv
 ·have b0:decide (0<hv)=true:=af h0;clear h0 hv2;go_enter Tryz.func6,Tryz.ntmps6;go_wp2_with (first
   |(go_at_call 16;(refine(cx.calls k0 A1 c1 ops A0 c0 limits hv _ (Kd.C_below HR1.out HB0.out) HC1.out (Kd.C_below HR0.out HB0.out) HC0.out HHv.out).mono ?_);rintro e w1 ⟨rfl,hb⟩;have HB1:=am (aa HB0.out hb);clear hb)
   |(go_at_call 15;(with_reducible refine(vu _).mono ?_);rintro e w2 ⟨rfl,hb⟩;have HB2:=am (aa HB1.out hb);clear hb))
  go_ret;exact⟨rfl,HB2.out⟩
 have hv0:hv=0/\ops.length<=80:=by rcases hv2 with e|e <;> omega
 obtain⟨rfl,hlen⟩:=hv0;have HLn:=am hlen;have m8:wrap64 (p.lines*8)=p.lines*8:=w64 (by have:=HP.out.l1;have:=HP.out.l2;omega);have HMod:Aside0 (∀ w',Calls Tryz.prog 24 #[.int .i64 (p.lines*8)] w' fun e w''=>∃ M,e=.returned (.pointer (some ⟨M,0,none⟩))/\MdO w' w'' M (Hp.firstW p) 0):=⟨fun w'=>by
  refine(qck (qn2 HP.out) (ql5 HP.out) (by rw[po];have:=HP.out.l1;omega)).mono ?_;rintro e w'' ⟨M,g,c,rfl,a,b1,b2,b3,b4,b5⟩;exact⟨M,rfl,g,c,a,b1,b2,b4,b5⟩⟩
 clear h0 hv2 hlen;go_enter Tryz.func6,Tryz.ntmps6;go_wp2_with (first
  |(go_at_call 16;(refine(cx.calls k0 A1 c1 ops A0 c0 limits 0 _ (Kd.C_below HR1.out HB0.out) HC1.out (Kd.C_below HR0.out HB0.out) HC0.out HHv.out).mono ?_);rintro e w1 ⟨rfl,hb⟩;have HB1:=am (aa HB0.out hb);have BX1:=am (ap BX.out hb);clear hb)
  |((with_reducible refine fz (.load 23 (.tmp 3)) rfl ?_);refine bc rfl 23 (.tmp 3) rfl w.heap.size 0 rfl [.int .i64 a, .int .i64 b, .int .i64 c, .int .i64 d] _ (fun j v hv=>by rw[Nat.zero_add];exact bt BX1.out j v hv) Tryz.underlying23 rfl jh ?_)
  |(go_at_call 7;(with_reducible refine(lc.calls a b c d p.lines p.spare p.period p.batch _ HSm.out).mono ?_);rintro e w2 ⟨rfl,hb⟩;have HB2:=am (aa HB1.out hb);have BX2:=am (ap BX1.out hb);clear hb BX1)
  |((with_reducible refine bp (t:=23) (p:=3) rfl ?_);refine ff rfl 23 (.tmp 3) (.tmp 28) rfl w.heap.size 0 [.int .i64 p.lines, .int .i64 p.spare, .int .i64 p.period, .int .i64 p.batch] rfl rfl 23 [.int .i64 a, .int .i64 b, .int .i64 c, .int .i64 d] BX2.out jh (an _) (qnj p) ?_;rw[kf [Value.int .i64 p.lines, .int .i64 p.spare, .int .i64 p.period, .int .i64 p.batch] [.int .i64 a, .int .i64 b, .int .i64 c, .int .i64 d] rfl];have BX3:Aside0 ((w2.setRow w.heap.size [Value.int .i64 p.lines, .int .i64 p.spare, .int .i64 p.period, .int .i64 p.batch].toArray).heap[w.heap.size]? =some (.cells [.int .i64 p.lines, .int .i64 p.spare, .int .i64 p.period, .int .i64 p.batch].toArray 23 (0,0))):=⟨setRow_heap _ _ _ _ _ _ BX2.out⟩;have HB3:=am (gc HB2.out (an _) [Value.int .i64 p.lines, .int .i64 p.spare, .int .i64 p.period, .int .i64 p.batch].toArray);generalize w2.setRow w.heap.size _=w3 at BX3 HB3 ⊢;clear BX2 HB2 HSm)
  |((with_reducible refine fz (.load 23 (.tmp 3)) rfl ?_);refine bc rfl 23 (.tmp 3) rfl w.heap.size 0 rfl [.int .i64 p.lines, .int .i64 p.spare, .int .i64 p.period, .int .i64 p.batch] _ (fun j v hv=>by rw[Nat.zero_add];exact bt BX3.out j v hv) Tryz.underlying23 rfl jh ?_)
  |(go_at_call 17;(with_reducible refine(qj3 HP.out A0 c0 (Kd.C_below HR0.out HB3.out) HC0.out).mono ?_);rintro e w4 ⟨hb,⟨W,M,C,F,st0,rfl,ht,hF,hs⟩|⟨n,hn,rfl,hn2⟩⟩;rotate_left;have bn:(n != 0)=true:=bne_iff_ne.mpr hn;have hln:0<limits.length:=List.length_pos_iff.2 hn2;have bl:decide (0<limits.length)=true:=af hln;have bl2:decide (0<(limits.length:Int))=true:=af (by omega);have HB4:=am (aa HB3.out hb);clear hb hn hn2 hln;rotate_left;have S4:=am (Stands.mk (w0:=w) ⟨_,ht⟩ (fun j hj=>Nat.le_trans HB3.out.size (hF j hj)) (aa HB3.out hb));have HS:=am hs;have BX4:=am (ap BX3.out hb);have s0:w4.cell? ⟨w.heap.size,0,none⟩=some (.int .i64 p.lines):=(aj BX4.out 0).trans rfl;clear hb ht hF hs)
  |(go_at_call 24;refine(HMod.out _).mono ?_;rintro e w5 ⟨M0,rfl,hm⟩;have S5:=am (S4.out.on hm.below);have M5:=am (MB.new S4.out hm);clear hm S4 BX4 s0)
  |(go_at_call 15;(with_reducible refine(vu _).mono ?_);rintro e w5 ⟨rfl,hb⟩;have HB5:=am (aa HB4.out hb);clear hb))
 rotate_left
 ·go_ret;exact⟨rfl,HB5.out⟩
 have W6:Aside0 (WhI w (w5.alloc (.cells [Value.pointer (some ⟨M0,0,none⟩)].toArray 56)) W M C p ((0:Nat):Int) st0 F ⟨M0,[⟨0,p.lines*8,false⟩],Hp.firstW p,0⟩ w5.heap.size [⟨M0,[⟨0,p.lines*8,false⟩],Hp.firstW p,0⟩]):=⟨by
  have hb:Below w5.heap.size w5 (w5.alloc (.cells [Value.pointer (some ⟨M0,0,none⟩)].toArray 56)):=(ai _ _).alloc (an _) _;have hd:Duo p st0 [⟨0,p.lines*8,false⟩] (Hp.firstW p) 0:=⟨HS.out.inv.hv,_,HS.out.inv,tt.refl _ _⟩;refine⟨S5.out.on hb,by have:=HS.out.mv;omega,⟨_,_,_,HS.out.inv⟩,⟨M5.out.on hb,HS.out.inv.hv⟩,⟨heap_alloc_new w5 _,fun h=>?_⟩,fun x hx=>?_,⟨_,List.mem_singleton.2 rfl,hd⟩,fun _=>⟨List.mem_singleton.2 rfl,hd⟩⟩
  ·obtain⟨_,ht⟩:=S5.out.tw;have:=ht.lt _ h;omega
  ·rw[List.mem_singleton.1 hx];exact⟨M5.out.on hb,HS.out.inv.hv⟩⟩
 clear S5 M5 HS HMod m8 BX HB0 HB3 BX3;go_loopw [9,10,55] (fun mp u i wr=>∃ (k:Nat) (st:St) (F:Nat->Prop) (m:Mo) (g n:Nat) (cs:List Mo),mp=.pointer (some ⟨m.M,0,none⟩)/\u=.slice (some ⟨g,0,none⟩) n n/\i=.int .i64 k/\k<=ops.length/\Aside0 (cs.length=n/\n<=2)/\Aside0 (WhI w wr W M C p (k:Int) st F m g cs)) (fun _ _ i _=>ops.length-(intOf i).toNat)
 case atStart=>exact⟨0,_,_,⟨M0,_,_,_⟩,_,1,[_],rfl,rfl,rfl,by omega,⟨⟨rfl,by decide⟩⟩,W6⟩
 case round =>
  clear W6;obtain⟨k,st,F,m,g,n,cs,rfl,rfl,rfl,hk,HC,WH⟩:=hrel;by_cases hlt:k<ops.length
  ·have d3 : decide ((k : Int) < ops.length) = true := af (by omega);obtain ⟨ad, A4, c4, ea, hl4, hop⟩ := qsh HR1.out hlt;subst ea;have p0 : (0 ≤ (k : Int)) = True := eq_true (by omega);have p1 : ((k : Int) < ops.length) = True := eq_true (by omega);have HWk := am (wk1 k (by have := HLn.out; omega));have HMs := am (wk2 hlt (by have := HLn.out; omega));have hm := HBy.out _ (qny hlt);have HLt := am hlt;generalize jg ops (k : Int) = op at *;obtain ⟨hx0, hx1, hx2, hx3, hx4, hi4⟩ := hop _ WH.out.s.below;have HOp := am hop;have HL4 := am hl4;have HBo := am hm;obtain ⟨l, v, r, hi, hup⟩ : ∃ l v r, HInv p st l v r ∧ (st.m.down = false → m.l = l ∧ m.r = r ∧ tt l v m.v) := by
    by_cases hd:st.m.down=false
    ·obtain⟨_,v,hi,ha⟩:=(WH.out.u hd).2;exact⟨_,v,_,hi,fun _=>⟨rfl,rfl,ha⟩⟩
    ·obtain⟨l,v,r,hi⟩:=WH.out.h;exact⟨l,v,r,hi,fun h=>absurd h hd⟩
   have HMv:Aside0 (Trn.moves st.m<=5000):=⟨by have:=WH.out.mv;have:=HLn.out;omega⟩;have HI:=am hi;have HUp:=am hup;obtain⟨w5,hw5⟩:∃ x,x=wr.alloc (.cells #[.int .i64 op.f0, .int .i64 op.f1, .int .i64 op.f2, .int .i64 op.f3, .slice A4 op.f4.length c4] 39):=⟨_,rfl⟩;have W5:Aside0 (WhI w w5 W M C p (k:Int) st F m g cs):=⟨WH.out.on (by rw[hw5];exact(ai _ _).alloc (an _) _)⟩;have BZ:Aside0 (w5.heap[wr.heap.size]? =some (.cells (qsg op A4 c4) 39 (0,0))):=⟨by rw[hw5];exact heap_alloc_new wr _⟩;have HFl:Aside0 (¬ F wr.heap.size):=⟨fun e=>by obtain⟨cc,hh⟩:=WH.out.s.tw;have:=hh.lt _ e;omega⟩;have HW5:=am hw5;clear hop hl4 hm hi4 hlt hk hw5 WH hup hi;obtain⟨H,h18,h20,h27,_⟩:=W5.out.s.asks HI.out HP.out (by have:=HMv.out;omega);obtain⟨h29,h30⟩:=W5.out.s.down;rw[HW5.out]at h18 h29 h30;have H18:=am h18;have H20:=am h20;have H27:=am h27;have H29:=am h29;have H30:=am h30;clear h18 h20 h27 h29 h30;go_upto_if 68 with (first
    |(go_at_call 18;(refine H18.out.mono ?_);rintro x w6 ⟨rfl,rfl⟩)
    |(go_at_call 29;(refine H29.out.mono ?_);rintro x w6 ⟨rfl,rfl⟩)
    |(go_at_call 30;(refine H30.out.mono ?_);rintro x w6 ⟨rfl,rfl⟩))
   rw[<-HW5.out];clear H18 H29 H30 HW5;go_cut [13,14] (fun u13 u14 wc=>Aside0 (Below w5.heap.size w5 wc)/\((Aside0 (st.m.down=true)/\u13=.slice none 0 0)\/(Aside0 (st.m.down=false)∧∃ (Aw:Option Addr) (cw:Nat) (An:Option Addr) (cn:Nat),u13=.slice Aw v.length cw/\u14=.slice An st.now.length cn/\Aside0 (Kd.R (Kd.int .u64) 25 wc w5.heap.size (fun _=>True) (.slice Aw v.length cw) v/\Kd.R (Kd.int .i64) 3 wc w5.heap.size (fun _=>True) (.slice An st.now.length cn) st.now))))
   case first=>
    by_cases hd:st.m.down=true
    ·have HD:=am hd;rw[hd];clear hd;go_wp2;go_meet
     case rel=>exact⟨⟨ai _ _⟩, .inl ⟨HD,rfl⟩⟩
    ·have hd:=y6 hd;have HD:=am hd;have H20':=am (H20.out hd);rw[hd];clear hd;go_wp2_with (first
      |(go_at_call 20;refine H20'.out.mono ?_;rintro x w6 ⟨Aw,cw,rfl,ho,hb⟩;have HO6:=am ho;have HB6:=am hb;clear ho hb)
      |(go_at_call 27;refine(H27.out _ HB6.out).mono ?_;rintro x w7 ⟨An,cn,rfl,ho,hb⟩;have HN7:=am (Kd.R_lower ho HB6.out.size);have HO7:=am (Kd.R_below HO6.out hb);have HB7:=am (aa HB6.out hb);clear ho hb))
     go_meet
     case rel=>exact⟨HB7, .inr ⟨HD,Aw,cw,An,cn,rfl,rfl,⟨HO7.out,HN7.out⟩⟩⟩
   case rest =>
    clear H20 H27;obtain⟨HB,hud⟩:=hcut;have W7:=am (W5.out.on HB.out);have B7:=am (ap BZ.out HB.out);have HF7:Aside0 (wr.heap.size<wc.heap.size):=⟨Nat.lt_of_lt_of_le (d7 BZ.out) HB.out.size⟩;have HF5:Aside0 (∀ j,w5.heap.size<=j→¬ F j):=⟨fun j hj h=>by obtain⟨cc,hh⟩:=W5.out.s.tw;have:=hh.lt _ h;omega⟩;clear W5 BZ HB;generalize wr.heap.size=g12 at *;obtain⟨e,off,bs,st',hTw,hmv,hinv,hfx⟩:=qp9 HI.out W7.out.mm.2 HUp.out HP.out HMv.out op HBo.out;have HTw:=am (qrs HP.out hTw);have HMv':Aside0 (Trn.moves st'.m<=100+60*(((k+1:Nat):Int))):=⟨by have:=W7.out.mv;omega⟩;have HIn:=am hinv;have HFx:=am hfx;clear hTw hmv hinv hfx;go_upto_region 19 with (first
     |((with_reducible refine fz (.load 39 (.tmp 12)) rfl ?_);refine bc rfl 39 (.tmp 12) rfl g12 0 rfl [.int .i64 op.f0, .int .i64 op.f1, .int .i64 op.f2, .int .i64 op.f3, .slice A4 op.f4.length c4] _ (fun j v hv=>by rw[Nat.zero_add];exact bt B7.out j v hv) Tryz.underlying39 rfl qgk ?_)
     |(go_at_call 21;(with_reducible refine(HTw.out _ _ _ _ _ _ _ _ W7.out.s (HOp.out _ W7.out.s.below).2.2.2.2.2 HL4.out).mono ?_);rintro x w8 ⟨A8,c8,F8,rfl,hs,hk,hf⟩;have K8:=am (W7.out.did hs hk hf);have B8:=am (hk.of B7.out HFl.out);have HK8:=am hk;have HF8:Aside0 (¬ F8 g12):=⟨fun h=>(hf _ h).elim HFl.out (fun e=>by have:=HF7.out;omega)⟩;clear hs hk hf B7 HTw)
     |((with_reducible refine bp (t:=36) (p:=16) rfl ?_);refine dx rfl 36 (.tmp 16) (.tmp 78) rfl _ (fq e off (.slice A8 bs.length c8)) rfl rfl gj rfl rfl ?_;intro w9 BN HN;have K9:=am (K8.out.on HN.out);have B9:=am (ap B8.out HN.out);have HB9:=am HN.out;have BA9:=BN;have HF9:Aside0 (¬ F8 w8.heap.size):=⟨fun h=>by obtain⟨cc,hh⟩:=K8.out.s.tw;have:=hh.lt _ h;omega⟩;clear K8 B8 HN BN;generalize w8.heap.size=g16 at BA9 HF9 ⊢))
    obtain⟨x0,x1,x2,x3,x4⟩:w9.cell? ⟨g12,0,none⟩=some (.int .i64 op.f0)/\w9.cell? ⟨g12,1,none⟩=some (.int .i64 op.f1)/\w9.cell? ⟨g12,2,none⟩=some (.int .i64 op.f2)/\w9.cell? ⟨g12,3,none⟩=some (.int .i64 op.f3)/\w9.cell? ⟨g12,4,none⟩=some (.slice A4 op.f4.length c4):=⟨(aj B9.out 0).trans rfl,(aj B9.out 1).trans rfl,(aj B9.out 2).trans rfl,(aj B9.out 3).trans rfl,(aj B9.out 4).trans rfl⟩;obtain⟨y0,y1,y2⟩:=qmo BA9.out;clear hx0 hx1 hx2 hx3 hx4;rcases HFx.out with⟨k7,e0,hdn,hmo⟩|⟨k8,e0,hdn,hmo⟩|⟨n7,n8,hdn,est⟩|⟨n7,n8,hdn,he2,hwho⟩
    ·have b7:(op.f0==7)=true:=beq_iff_eq.mpr k7;have be:(e != 0)=false:=bne_eq_false_iff_eq.mpr e0;have W10:Aside0 (WhI w w9 W M C p ((k+1:Nat):Int) st' F8 m g cs):=⟨K9.out.full HMv'.out HIn.out (by obtain⟨x,hx,hd⟩:=W7.out.d;exact⟨x,hx,hd.moved hmo⟩) (fun h=>by obtain⟨a,b⟩:=W7.out.u (by rw[<-hdn];exact h);exact⟨a,b.moved hmo⟩)⟩;clear k7 e0 hdn hmo HFx W7;go_wp2;exact⟨⟨k+1,st',F8,m,g,n,cs,rfl,rfl,HWk.out,HLt.out,HC,W10⟩,HMs.out⟩
    ·have b7 : (op.f0 == 7) = false := beq_eq_false_iff_ne.mpr (by omega);have b8 : (op.f0 == 8) = true := beq_iff_eq.mpr k8;have be : (e != 0) = false := bne_eq_false_iff_eq.mpr e0;obtain ⟨h29, h30⟩ := K9.out.s.down;rw [hdn] at h30;have H29 := am h29;have H30 := am h30;have HDn := am hdn;have HDu : Aside0 (∃ x ∈ cs, Duo p st' x.l x.v x.r) := ⟨by obtain ⟨x, hx, hd⟩ := W7.out.d; exact ⟨x, hx, hd.moved hmo⟩⟩;obtain ⟨l', v', r', hi'⟩ := HIn.out;have HI' := am hi';clear k8 e0 hdn hmo HFx W7 h29 h30 hi';go_wp2_with (first
      |(go_at_call 29;(refine H29.out.mono ?_);rintro x w10 ⟨rfl,rfl⟩)
      |(go_at_call 30;(refine H30.out.mono ?_);rintro x w10 ⟨rfl,rfl⟩))
     obtain⟨wo,hwo⟩:∃ z,z=wr:=⟨_,rfl⟩;subst hwo;clear x0 x1 x2 x3 x4 y0 y1 y2;go_loopw [9,17,103] (fun mp f i wr=>∃ (q:Nat) (fb:Bool) (mx:Mo),mp=.pointer (some ⟨mx.M,0,none⟩)/\f=.bool fb/\i=.int .i64 q/\q<=n/\Aside0 (WhK w wr W M C p st' F8 mx g cs)/\Aside0 (fb=true->Duo p st' mx.l mx.v mx.r)/\Aside0 (fb=false→∀ x∈cs.take q,¬ Duo p st' x.l x.v x.r)) (fun _ _ i _=>n-(intOf i).toNat)
     case atStart=>exact⟨0,false,m,rfl,rfl,rfl,by omega,K9,⟨fun h=>by cases h⟩,⟨fun _ x hx=>by simp at hx⟩⟩
     case round =>
      clear K9;obtain⟨q,fb,mx,rfl,rfl,rfl,hq,KQ,HT,HF⟩:=hrel;by_cases hqn:q<n
      ·have d4:decide ((q:Int)<n)=true:=af (by omega);have hqc:q<cs.length:=by rw[HC.out.1];exact hqn
       have HWq:=am (wk1 q (by have:=HC.out;omega));have HMq:=am (wk2 hqn (by have:=HC.out;omega));have q0:(0<=(q:Int))=True:=eq_true (by omega);have q1:((q:Int)<n)=True:=eq_true (by omega);have hmx:cs[q]∈cs:=List.getElem_mem hqc;have htk:cs.take (q+1)=cs.take q++[cs[q]]:=List.take_succ_eq_append_getElem hqc;have k0:wr.cell? ⟨g,q,none⟩=some (cs[q]).ptr:=bt KQ.out.c.1 q _ (by rw[List.getElem?_map,bx hqc];rfl);have hsx:=KQ.out.a _ hmx;generalize cs[q]=x at *;unfold Mo.ptr at k0;have HTk:=am htk;have HLq:=am hqn;clear htk hqc hqn hq hmx;cases fb with
       |true=>
        go_wp2;exact⟨⟨q+1,true,mx,rfl,rfl,HWq.out,HLq.out,KQ,HT,⟨fun h=>by cases h⟩⟩,HMq.out⟩
       |false=>
        obtain⟨H2,h18,_,_,h28⟩:=KQ.out.s.asks HI'.out HP.out (by have:=HMv'.out;have:=HLn.out;have:=HLt.out;omega);have H18:=am h18;have H28:=am (h28 HDn.out _ _ _ _ hsx.1 hsx.2);have HDs:=am (qmt (r:=x.r) HI'.out hsx.2);have HSx:=am hsx;clear h18 h28 hsx;by_cases hdx:Duo p st' x.l x.v x.r
        case' pos=>have HDx:=am hdx
        case' neg=>have HDx:=am hdx
        all_goals clear hdx
        rotate_left
        ·go_wp2_with (first
          |(go_at_call 18;(refine H18.out.mono ?_);rintro z w11 ⟨rfl,rfl⟩)
          |(go_at_call 28;refine H28.out.mono ?_;rintro z w12 ⟨n1,rfl,h1,hs,hk⟩;obtain rfl:n1=0:=h1.2 (HDs.out.1 HDx.out);have K12:=am (KQ.out.did hs hk);have HM12:=am (HSx.out.1.step hk (fun j h=>.inl h));clear hs hk h1))
         exact⟨⟨q+1,true,x,rfl,rfl,HWq.out,HLq.out,⟨⟨K12.out.s,⟨HM12.out,HSx.out.2⟩,K12.out.c,K12.out.a⟩⟩,⟨fun _=>HDx.out⟩,⟨fun h=>by cases h⟩⟩,HMq.out⟩
        ·go_wp2_with (first
          |(go_at_call 18;(refine H18.out.mono ?_);rintro z w11 ⟨rfl,rfl⟩)
          |(go_at_call 28;refine H28.out.mono ?_;rintro z w12 ⟨n1,rfl,h1,hs,hk⟩;have bn1:(n1==0)=false:=beq_eq_false_iff_ne.mpr (fun h=>HDx.out (HDs.out.2 (h1.1 h)));have K12:=am (KQ.out.did hs hk);clear hs hk h1))
         exact⟨⟨q+1,false,mx,rfl,rfl,HWq.out,HLq.out,K12,⟨fun h=>by cases h⟩,⟨fun _ y hy=>by
          rw[HTk.out]at hy;rcases List.mem_append.1 hy with hy|hy
          ·exact HF.out trivial y hy
          ·rw[List.mem_singleton.1 hy];exact HDx.out⟩⟩,HMq.out⟩
      ·have hqq:q=n:=by omega
       subst hqq;have d4:decide ((q:Int)<q)=false:=ah (by omega);have hfb:fb=true:=by
        cases fb with
        |true=>rfl
        |false=>
         obtain⟨x,hx,hd⟩:=HDu.out;have:=HF.out rfl x (by rw[<-HC.out.1,List.take_length];exact hx);exact absurd hd this
       subst hfb;have HDm:=am (HT.out rfl);clear hqn hq HT HF;go_wp2;have hb:Below wr.heap.size wr (wr.alloc (.cells [Value.pointer (some ⟨mx.M,0,none⟩)].toArray 56)):=(ai _ _).alloc (an _) _;have K13:=KQ.out.on hb;refine⟨⟨k+1,st',F8,mx,_,1,[mx],rfl,rfl,HWk.out,HLt.out,⟨⟨rfl,by decide⟩⟩,⟨⟨K13.s,HMv'.out,HIn.out,K13.mm,⟨heap_alloc_new wr _,fun h=>?_⟩,fun x hx=>?_,⟨_,List.mem_singleton.2 rfl,HDm.out⟩,fun _=>⟨List.mem_singleton.2 rfl,HDm.out⟩⟩⟩⟩,HMs.out⟩
       ·obtain⟨_,ht⟩:=KQ.out.s.tw;have:=ht.lt _ h;omega
       ·rw[List.mem_singleton.1 hx];exact K13.mm
    ·have b7:(op.f0==7)=false:=beq_eq_false_iff_ne.mpr n7;have b8:(op.f0==8)=false:=beq_eq_false_iff_ne.mpr n8;subst est;have W10:Aside0 (WhI w w9 W M C p ((k+1:Nat):Int) st' F8 m g cs):=⟨K9.out.full HMv'.out HIn.out W7.out.d W7.out.u⟩;rcases hud with⟨HD,rfl⟩|⟨HD,_⟩
     ·clear n7 n8 hdn HFx W7;go_wp2;exact⟨⟨k+1,st',F8,m,g,n,cs,rfl,rfl,HWk.out,HLt.out,HC,W10⟩,HMs.out⟩
     ·have:=HD.out;rw[hdn]at this;cases this
    ·have b7 : (op.f0 == 7) = false := beq_eq_false_iff_ne.mpr n7;have b8 : (op.f0 == 8) = false := beq_eq_false_iff_ne.mpr n8;rcases hud with ⟨HD, _⟩ | ⟨HD, Aw, cw, An, cn, rfl, rfl, HWd⟩
     ·have:=HD.out;rw[hdn]at this;cases this
     have HRw:=am (Kd.R_reads' (Kd.R_below (oq HWd.out.1 HK8.out HF5.out) HB9.out));have HRn:=am (Kd.R_reads' (Kd.R_below (oq HWd.out.2 HK8.out HF5.out) HB9.out));have hvp:=wh HI.out.hv;have bl:((v.length:Int)==0)=false:=beq_eq_false_iff_ne.mpr (by omega);have bl2:(v.length==0)=false:=beq_eq_false_iff_ne.mpr (by omega);have HWho:=am hwho;have HE2:=am he2;have HMm:=am (And.intro (W7.out.u hdn).1 hdn);clear n7 n8 hdn hwho he2 hvp HWd HFx W7;go_upto_region 38 with (fail);clear bl bl2;go_cut [135] (fun v135 wc=>v135=.bool (decide (op.f0=1/\e=2))/\w9=wc)
     case first=>
      by_cases k1:op.f0=1
      ·have c1:(op.f0==1)=true:=beq_iff_eq.mpr k1;by_cases k2:e=2
       ·have c2:(e==2)=true:=beq_iff_eq.mpr k2;have HK:Aside0 (Value.bool true=.bool (decide (op.f0=1/\e=2))):=⟨by rw[af ⟨k1,k2⟩]⟩;clear k1 k2;go_wp2;go_meet
        case rel=>exact⟨HK.out,rfl⟩
       ·have c2:(e==2)=false:=beq_eq_false_iff_ne.mpr k2;have HK:Aside0 (Value.bool false=.bool (decide (op.f0=1/\e=2))):=⟨by rw[ah (fun h=>k2 h.2)]⟩;clear k1 k2;go_wp2;go_meet
        case rel=>exact⟨HK.out,rfl⟩
      ·have c1:(op.f0==1)=false:=beq_eq_false_iff_ne.mpr k1;have HK:Aside0 (Value.bool false=.bool (decide (op.f0=1/\e=2))):=⟨by rw[ah (fun h=>k1 h.1)]⟩;clear k1;go_wp2;go_meet
       case rel=>exact⟨HK.out,rfl⟩
     case rest =>
      obtain⟨rfl,rfl⟩:=hcut;go_upto_if 135 with (fail);go_cut [20] (fun v20 wc=>∃ off2:Int,v20=.int .i64 off2/\Aside0 (Below w9.heap.size w9 wc)/\Aside0 ((op.f0=1->e=2→∀ ch,df op.f2≠0->ul l st.now (df op.f2) ch->off2=((ab l ch).f0+1)*8)/\(e=0->off2=off)))
      case first=>
       by_cases hk:op.f0=1/\e=2
       ·have HK:=am hk;rw[af hk];clear hk;go_wp2_with (first
         |(go_at_call 26;refine(qd5 HI.out.hv HRw.out.2.2 HRw.out.2.1 HRn.out.2.2 HRn.out.2.1).mono ?_;rintro z w10 ⟨u,off2,err,rfl,hof,hb⟩;have HOf:=am hof;have HB10:=am hb;clear hof hb))
        go_meet
        case rel=>exact⟨off2,rfl,HB10,⟨fun _ _=>HOf.out,fun h=>by have:=HK.out.2;omega⟩⟩
       ·have HK:=am hk;rw[ah hk];clear hk;go_wp2;go_meet
        case rel=>exact⟨off,rfl,⟨ai _ _⟩,⟨fun h1 h2=>absurd ⟨h1,h2⟩ HK.out,fun _=>rfl⟩⟩
      case rest=>
       clear HRw HRn x0 x1 x2 x3 x4 y0 y1 y2 HK8;obtain⟨off2,rfl,HB,HOff⟩:=hcut;have K10:=am (K9.out.on HB.out);have B10:=am (ap B9.out HB.out);have BA10:=am (ap BA9.out HB.out);clear K9 B9 BA9 HB9 HB;obtain⟨x0,x1,x2,x3,x4⟩:wc.cell? ⟨g12,0,none⟩=some (.int .i64 op.f0)/\wc.cell? ⟨g12,1,none⟩=some (.int .i64 op.f1)/\wc.cell? ⟨g12,2,none⟩=some (.int .i64 op.f2)/\wc.cell? ⟨g12,3,none⟩=some (.int .i64 op.f3)/\wc.cell? ⟨g12,4,none⟩=some (.slice A4 op.f4.length c4):=⟨(aj B10.out 0).trans rfl,(aj B10.out 1).trans rfl,(aj B10.out 2).trans rfl,(aj B10.out 3).trans rfl,(aj B10.out 4).trans rfl⟩;go_upto_region 41 with (first
        |((with_reducible refine fz (.load 39 (.tmp 12)) rfl ?_);refine bc rfl 39 (.tmp 12) rfl g12 0 rfl [.int .i64 op.f0, .int .i64 op.f1, .int .i64 op.f2, .int .i64 op.f3, .slice A4 op.f4.length c4] _ (fun j v hv=>by rw[Nat.zero_add];exact bt B10.out j v hv) Tryz.underlying39 rfl qgk ?_)
        |(go_at_call 25;obtain⟨gm,cm,hma,_,_,_⟩:=K10.out.mm.1;refine(qih hma K10.out.mm.2 op A4 c4 HBo.out (HOp.out _ K10.out.s.below).2.2.2.2.2 HL4.out off2).mono ?_;rintro z w11 ⟨M8,l8,v8,r8,rfl,hm,hh,hn⟩;have K11:=am (K10.out.on hm.below);have BA11:=am (ap BA10.out hm.below);have N11:=am (And.intro (MB.new K10.out.s hm) hh);have HW3:=am (HWho.out off2 HOff.out.1 HOff.out.2 _ _ _ hh hn);clear hm hh hn hma K10 BA10 B10 HWho HOff))
       obtain⟨y0,y1,y2⟩:=qmo BA11.out;clear x0 x1 x2 x3 x4;have HFw:Aside0 (¬ F8 w11.heap.size):=⟨fun h=>by obtain⟨_,ht⟩:=K11.out.s.tw;have:=ht.lt _ h;omega⟩;by_cases e0:e=0
       ·have be:(e==0)=true:=beq_iff_eq.mpr e0;have hdn:st'.m.down=false:=by
         by_cases h:st'.m.down=true
         ·have:=HE2.out.2 h;omega
         ·exact y6 h
        have HD:=am (HW3.out.1 e0);obtain⟨w12,hw12⟩:∃ z,z=w11.alloc (.cells #[Value.pointer (some ⟨M8,0,none⟩)] 56):=⟨_,rfl⟩;have hb:Below w11.heap.size w11 w12:=by rw[hw12];exact(ai _ _).alloc (an _) _
        have K12:=am (K11.out.on hb);have N12:=am (And.intro (N11.out.1.on hb) N11.out.2);have BC12:Aside0 (w12.heap[w11.heap.size]? =some (.cells [Value.pointer (some ⟨M8,0,none⟩)].toArray 56 (0,0))):=⟨by rw[hw12];exact heap_alloc_new w11 _⟩;obtain⟨_,v',hi',ha'⟩:=HD.out;obtain⟨H2,h18,_,_,h28⟩:=K12.out.s.asks hi' HP.out (by have:=HMv'.out;have:=HLn.out;have:=HLt.out;omega);obtain⟨h29,h30⟩:=K12.out.s.down;have h28:=h28 hdn _ _ _ _ N12.out.1 N12.out.2;have HA:=am ha';rw[hdn]at h30;have H28:=am h28;rw[hw12]at h18 h29 h30;have H18:=am h18;have H29:=am h29;have H30:=am h30;have HW12:=am hw12;clear e0 hdn hb h18 h28 h29 h30 hi' ha' hw12 K11 N11 HW3;go_wp2_with (first
         |(go_at_call 29;(refine H29.out.mono ?_);rintro z w13 ⟨rfl,rfl⟩)
         |(go_at_call 30;(refine H30.out.mono ?_);rintro z w13 ⟨rfl,rfl⟩)
         |(go_at_call 18;(refine H18.out.mono ?_);rintro z w13 ⟨rfl,rfl⟩)
         |(go_at_call 28;rw[<-HW12.out];refine H28.out.mono ?_;rintro z w13 ⟨n1,rfl,h1,hs,hk⟩;obtain rfl:n1=0:=h1.2 (by first|exact⟨rfl,rfl,HA.out⟩|exact⟨trivial,trivial,HA.out⟩);have K13:=am (K12.out.did hs hk);have N13:=am (And.intro (N12.out.1.step hk (fun j h=>.inl h)) N12.out.2);have BC13:=am (hk.of BC12.out HFw.out);clear hs hk h1))
        refine⟨⟨k+1,st',F8,⟨M8,l8,v8,r8⟩,w11.heap.size,1,[⟨M8,l8,v8,r8⟩],rfl,rfl,HWk.out,HLt.out,⟨⟨rfl,by decide⟩⟩,⟨⟨K13.out.s,HMv'.out,HIn.out,N13.out,⟨BC13.out,HFw.out⟩,fun x hx=>?_,⟨_,List.mem_singleton.2 rfl,HD.out⟩,fun _=>⟨List.mem_singleton.2 rfl,HD.out⟩⟩⟩⟩,HMs.out⟩;rw[List.mem_singleton.1 hx];exact N13.out
       ·have be:(e==0)=false:=beq_eq_false_iff_ne.mpr e0;by_cases e2:e=2
        ·have be2:(e==2)=true:=beq_iff_eq.mpr e2;have hdn:st'.m.down=true:=HE2.out.1 e2;have HDn:=am hdn;have HD:=am (HW3.out.2.2 e2);obtain⟨w12,hw12⟩:∃ z,z=w11.alloc (.cells #[Value.pointer (some ⟨m.M,0,none⟩),Value.pointer (some ⟨M8,0,none⟩)] 56):=⟨_,rfl⟩;have hb:Below w11.heap.size w11 w12:=by rw[hw12];exact(ai _ _).alloc (an _) _
         have K12:=am (K11.out.on hb);have N12:=am (And.intro (N11.out.1.on hb) N11.out.2);have BC12:Aside0 (w12.heap[w11.heap.size]? =some (.cells [Value.pointer (some ⟨m.M,0,none⟩),Value.pointer (some ⟨M8,0,none⟩)].toArray 56 (0,0))):=⟨by rw[hw12];exact heap_alloc_new w11 _⟩;obtain⟨h29,h30⟩:=K12.out.s.down;rw[hdn]at h30;rw[hw12]at h29 h30;have H29:=am h29;have H30:=am h30;have HW12:=am hw12;clear e0 e2 hdn hb h29 h30 hw12 K11 N11 HW3;go_wp2_with (first
          |(go_at_call 29;(refine H29.out.mono ?_);rintro z w13 ⟨rfl,rfl⟩)
          |(go_at_call 30;(refine H30.out.mono ?_);rintro z w13 ⟨rfl,rfl⟩))
         rw[<-HW12.out];refine⟨⟨k+1,st',F8,m,w11.heap.size,2,[m,⟨M8,l8,v8,r8⟩],rfl,rfl,HWk.out,HLt.out,⟨⟨rfl,by decide⟩⟩,⟨⟨K12.out.s,HMv'.out,HIn.out,K12.out.mm,⟨BC12.out,HFw.out⟩,fun x hx=>?_,?_,fun h=>?_⟩⟩⟩,HMs.out⟩
         ·rcases List.mem_cons.1 hx with rfl|hx
          ·exact K12.out.mm
          ·rw[List.mem_singleton.1 hx];exact N12.out
         ·rcases HD.out with h|h
          ·exact⟨m,List.mem_cons_self,h⟩
          ·exact⟨⟨M8,l8,v8,r8⟩,List.mem_cons_of_mem _ (List.mem_singleton.2 rfl),h⟩
         ·rw[HDn.out]at h;cases h
        ·have be2:(e==2)=false:=beq_eq_false_iff_ne.mpr e2;have hdn:st'.m.down=false:=by
          by_cases h:st'.m.down=true
          ·exact absurd (HE2.out.2 h) e2
          ·exact y6 h
         have HD:=am (HW3.out.2.1 e0 e2);obtain⟨_,v',hi',ha'⟩:=HD.out;obtain⟨H2,h18,_,_,h28⟩:=K11.out.s.asks hi' HP.out (by have:=HMv'.out;have:=HLn.out;have:=HLt.out;omega);obtain⟨h29,h30⟩:=K11.out.s.down;have h28:=h28 hdn _ _ _ _ K11.out.mm.1 K11.out.mm.2;have HA:=am ha';rw[hdn]at h30;have H28:=am h28;have H18:=am h18;have H29:=am h29;have H30:=am h30;clear e0 e2 hdn h18 h28 h29 h30 hi' ha' N11 HW3;go_wp2_with (first
          |(go_at_call 29;(refine H29.out.mono ?_);rintro z w13 ⟨rfl,rfl⟩)
          |(go_at_call 30;(refine H30.out.mono ?_);rintro z w13 ⟨rfl,rfl⟩)
          |(go_at_call 18;(refine H18.out.mono ?_);rintro z w13 ⟨rfl,rfl⟩)
          |(go_at_call 28;refine H28.out.mono ?_;rintro z w13 ⟨n1,rfl,h1,hs,hk⟩;obtain rfl:n1=0:=h1.2 (by first|exact⟨rfl,rfl,HA.out⟩|exact⟨trivial,trivial,HA.out⟩);have K13:=am (K11.out.did hs hk);clear hs hk h1))
         exact⟨⟨k+1,st',F8,m,g,n,cs,rfl,rfl,HWk.out,HLt.out,HC,⟨K13.out.full HMv'.out HIn.out ⟨m,HMm.out.1,HD.out⟩ (fun _=>⟨HMm.out.1,HD.out⟩)⟩⟩,HMs.out⟩
  ·have hkk:k=ops.length:=by omega
   subst hkk;have d3:decide ((ops.length:Int)<ops.length)=false:=ah (by omega);have HBr:=am WH.out.s.below;clear hlt hk WH;go_wp2_with (first
    |(go_at_call 15;(with_reducible refine(vu _).mono ?_);rintro e w5 ⟨rfl,hb⟩;have HB5:=am (aa HBr.out hb);clear hb))
   go_ret;exact⟨rfl,HB5.out⟩
end Go.Proofs.YtmfhaliclnnbaaaGreat.Sys
