import Derived.Test.YtmfhaliclnnbaaaGreatZTopWholeM11
import Derived.Test.YtmfhaliclnnbaaaGreatZTopWholeM6
import Derived.Test.YtmfhaliclnnbaaaGreatZTopWholeM9
namespace Go.Proofs.YtmfhaliclnnbaaaGreat.Sys
open Go.RowKit Go.Proofs.YtmfhaliclnnbaaaGreatW.PrintWords Go.Proofs.YtmfhaliclnnbaaaGreatW.PrintLast Go.Proofs.YtmfhaliclnnbaaaGreatW.PrintMore
open Go.Proofs.YtmfhaliclnnbaaaGreat.XTopWhole Go.Proofs.YtmfhaliclnnbaaaGreat.Pl Go.Maps
set_option linter.unusedVariables false
set_option linter.unusedSimpArgs false
set_option maxRecDepth 100000
set_option maxHeartbeats 8000000
theorem qai(n:Int)(u:Bool):du.f n u=some (iz n u):=qch n u
theorem qqi{ops:Array Oper}{Q:Exit->Act->World->Prop}{md:Region.Mode}{ds:List Nat}{S:World->Prop}{fuel:Nat}{l:Array Bool}{a:Act}{w0 W:World}{o:Oper}(p:S160)(i N:Nat)(hi:ops[i]? =some o)(hN:o.dst=some N)(HB:Below w0.heap.size w0 W)(h:∀ v1 w1,Kd.R jp 160 w1 w0.heap.size (fun _=>True) v1 [p]->Below w0.heap.size w0 w1->S w1/\(S w1->bf Tryz.prog md ops Q S ds fuel (stp l i) (a.put (some N) v1) w1))(hrun:(execOp a.eval o).run Tryz.prog W=.ok (.value (.slice (some ⟨W.heap.size,0,none⟩) 1 1)) (W.alloc (.cells [Value.int .i64 p.f0, .int .u64 p.f1].toArray 160)):=by first|(go_simp;done)|(go_simp;rfl))(hc:n9 md ops l (stp l i) i=true:=by kernel_rfl)(hd:i ∉ ds:=by decide)(hw:Region.wanted o (yielded ops a.tmps)=true:=by rfl):bf Tryz.prog md ops Q S ds (fuel+1) l a W:=by
 refine ip (stp l i) hi hN hc hd (fun K hK=>?_);have:=Kd.R_lit_step (ops:=ops) (Q:=Q) (Kc:=K) jp (w0:=W) W.heap.size 160 hw hN (xs:=[p]) (inner:=[.int .i64 p.f0, .int .u64 p.f1]) (ok:=fun _=>True) (okp:=fun _=>True) hrun (fp.c2 (show Kd.M jp _ _ _ p [.int .i64 p.f0, .int .u64 p.f1]from qo _ _ _ p) (fp.none _ _)) (fun _ hk=>hk) trivial (ai _ _) (an _) (by simp) (fun v1 w1 h1 h2 _ _=>by
  have h3:=h v1 w1 (Kd.R_lower h1 (bk HB)) (aa HB h2);rw[hN];exact hK.out _ _ h3.1 h3.2)
 rw[hN]at this;exact this
section
variable{w:World}{l:List S116}{A:Option Addr}{c:Nat}
theorem zv{i need:Int}(hC:zp l i need)(hr:Kd.C e6 w A l.length l)(hc:l.length<=c):Calls Tryz.prog 74 #[.slice A l.length c, .int .i64 i, .int .i64 need] w fun e w'=>∃ v,e=.returned v/\Kd.R jp 160 w' w.heap.size (fun _=>True) v (eds (ab l i) need)/\Below w.heap.size w w':=by
 have HCv:=am (qd3 hC hr hc);obtain⟨hb,i0,i1,hf,ht⟩:=hC;have hbr:=si hb i0 i1;have htr:=qb1 ht hbr.2.1;obtain⟨n,rfl⟩:=Int.eq_ofNat_of_zero_le i0;obtain⟨ad,ea,hX⟩:=mg hr (i:=n) (by omega);cases ea;have HTk:Aside0 (∃ k,cj.f k (ab l (n:Int)).f1 need=some (tk (ab l (n:Int)).f1 need)):=⟨by obtain⟨k,hk⟩:=qe9 (n:=need) (s:=(ab l (n:Int)).f1) ⟨hbr.2.1,hbr.2.2.1⟩;exact⟨k,hk k (an k)⟩⟩;clear hr hb;generalize ab l (n:Int)=x at *;generalize hs:tk x.f1 need=s at *;obtain⟨kt,hkt⟩:=HTk.out;have HK:=am hkt;have HX:=am hX;have q0:(0<=(n:Int))=True:=eq_true (by omega);have q1:((n:Int)<l.length)=True:=eq_true i1;have HW1:Aside0 (du.f s true=some (iz s true)):=⟨qai _ _⟩;have HW2:Aside0 (du.f (wrap64 (x.f1-s)) false=some (iz (x.f1-s) false)):=⟨by rw[w64 (by omega)];exact qai _ _⟩;have HW3:Aside0 (wrap64 (x.f0+s)=x.f0+s):=⟨w64 (by omega)⟩;have HE1:Aside0 (∀ hd,iz s true=hd->s<x.f1→∀ k:Nat,(s-1).toNat=k->(((⟨x.f0,hd⟩:S160)::fl x.f0 1 k)++[⟨x.f0+s,iz (x.f1-s) false⟩])=eds x need):=⟨fun hd e h k hk=>by unfold eds;rw[hs,hk,if_pos h,e,List.cons_append]⟩;have HE2:Aside0 (∀ hd,iz s true=hd→¬ s<x.f1→∀ k:Nat,(s-1).toNat=k->((⟨x.f0,hd⟩:S160)::fl x.f0 1 k)=eds x need):=⟨fun hd e h k hk=>by unfold eds;rw[hs,hk,if_neg h,e,List.append_nil]⟩;generalize eds x need=ys at *;have HNum:Aside0 (0<=x.f0/\x.f0<=512/\2<=s/\s<=x.f1/\x.f1<=512):=⟨by omega⟩;clear hs hkt hX HTk ht htr hbr hf;go_enter Tryz.func74,Tryz.ntmps74;go_wp2_with (first
  |(go_at_call 120;(with_reducible refine HCv.out.mono ?_);rintro e w1 ⟨v,rfl,hb⟩;have HB1:=am hb;obtain⟨a0,a1,a2⟩:=HX.out.on HB1.out;clear hb HCv)
  |(go_at_call 121;(with_reducible refine(cj.calls kt x.f1 need s _ HK.out).mono ?_);rintro e w2 ⟨rfl,hd⟩;have HB2:=am (aa HB1.out hd.below);clear hd HB1 a0 a1 a2 HK))
 refine dj (n:=10) (S:=fun w'=>Below w.heap.size w w') (ds:=[]) (onA 10 0) (by kernel_rfl) rfl rfl (bg HB2.out) (fun hHeld=>?_);refine ps 0 28 ?_;refine ps 1 29 ?_;refine ps 2 30 ?_;refine ps 3 31 ?_;refine ps 5 33 ?_;refine vg 4 32 rfl hHeld (by intro w' hb;obtain⟨a0,a1,a2⟩:=HX.out.on hb;go_simp;with_reducible rfl) ?_;refine os 6 34 Tryz.func111 #[.int .i64 s, .bool true] ?_;refine(du.calls s true _ _ HW1.out).mono ?_;rintro e w3 ⟨rfl,hd⟩;refine⟨_,rfl,aa hHeld hd.below,fun hHeld=>nz ?_⟩;clear hd HW1 HB2;refine es 7 35 _ _ rfl (vy 160 _ rfl [(0, .int .i64 x.f0),(1, .int .u64 (iz s true))] (by simp;exact⟨rfl,rfl⟩) _ (xm x.f0 _)) hHeld (fun hHeld=>nz ?_);refine qqi ⟨x.f0,iz s true⟩ 8 36 rfl rfl hHeld (fun v1 w4 ho hb=>⟨hb,fun _=>nz ?_⟩);have HO4:=am ho;have HB4:=am hb;clear ho hb hHeld;refine ps 9 10 ?_;refine fa (by kernel_rfl) ?_;go_wp2;generalize hhd:iz s true=hd at *;have HHd:=am hhd;clear hhd;go_loopw [10,11] (fun o j wr=>∃ k:Nat,j=.int .i64 (1+(k:Int))/\(k:Int)<=s-1/\Aside0 (Kd.R jp 160 wr w.heap.size (fun _=>True) o (⟨x.f0,hd⟩::fl x.f0 1 k))/\Aside0 (Below w.heap.size w wr)) (fun _ j _=>600-(intOf j).toNat)
 case atStart=>exact⟨0,rfl,by have:=HNum.out;omega,HO4,HB4⟩
 case round=>
  clear HO4 HB4;obtain⟨k,rfl,hk,HO,HB⟩:=hrel;obtain⟨a0,a1,a2⟩:=HX.out.on HB.out;have HKs:=am hk;have HL:Aside0 (((⟨x.f0,hd⟩:S160)::fl x.f0 1 k).length<=600):=⟨by rw[List.length_cons,wt];have:=HNum.out;omega⟩;by_cases c1:1+(k:Int)<s
  ·have d1:decide (1+(k:Int)<s)=true:=af c1;have E2:Aside0 (((⟨x.f0,hd⟩:S160)::fl x.f0 1 k)++[(⟨wrap64 (x.f0+(1+(k:Int))),0⟩:S160)]=⟨x.f0,hd⟩::fl x.f0 1 (k+1)):=⟨by have:=HNum.out;rw[uw,w64 (by omega),List.cons_append]⟩;have HC1:=am c1;have HW:=am (w64 (n:=1+(k:Int)+1) (by have:=HNum.out;omega));clear c1 hk;go_wp2_with (first
    |((with_reducible refine di (b:=.append) (xs:=#[.tmp 42, .tmp 51]) rfl ?_);at_builtin;refine qmm ⟨wrap64 (x.f0+(1+(k:Int))),0⟩ rfl rfl rfl rfl HO.out HB.out (by have:=HL.out;omega) ?_;intro v5 w5 ho hb sp;rw[E2.out]at ho;have HO5:=am ho;have HB5:=am hb;clear ho hb sp))
   exact⟨⟨k+1,congrArg _ (HW.out.trans (by omega)),by have:=HC1.out;omega,HO5,HB5⟩,by show 600-(intOf (Value.int .i64 (wrap64 (1+(k:Int)+1)))).toNat<600-(intOf (Value.int .i64 (1+(k:Int)))).toNat;rw[HW.out];have:=HC1.out;have:=HNum.out;simp only[intOf];omega⟩
  ·have d1:decide (1+(k:Int)<s)=false:=ah c1;have hkn:(s-1).toNat=k:=by omega
   have HKn:=am hkn;clear hkn hk c1;by_cases c2:s<x.f1
   ·have r1:decide (s<x.f1)=true:=af c2;have HC2:=am c2;clear c2;go_wp2;clear a0 a1 a2;refine dj (n:=20) (S:=fun w'=>Below w.heap.size w w') (ds:=[]) (onA 20 0) (by kernel_rfl) rfl rfl (bg HB.out) (fun hHeld=>?_);refine ps 0 60 ?_;refine ps 1 61 ?_;refine ps 2 62 ?_;refine ps 3 63 ?_;refine ps 4 64 ?_;refine ps 6 66 ?_;refine ps 8 68 ?_;refine ps 9 69 ?_;refine ps 10 70 ?_;refine ps 11 71 ?_;refine ps 13 73 ?_;refine vg 5 65 rfl hHeld (by intro w' hb;obtain⟨a0,a1,a2⟩:=HX.out.on hb;go_simp;with_reducible rfl) ?_;refine ps 7 67 ?_;refine vg 12 72 rfl hHeld (by intro w' hb;obtain⟨a0,a1,a2⟩:=HX.out.on hb;go_simp;with_reducible rfl) ?_;refine ps 14 74 ?_;refine os 15 75 Tryz.func111 #[.int .i64 (wrap64 (x.f1-s)), .bool false] ?_;refine(du.calls _ false _ _ HW2.out).mono ?_;rintro e w5 ⟨rfl,hdd⟩;have HO5:=am (Kd.R_below (rz HO:Kd.R jp 160 wr.drew _ _ _ _) hdd.below);refine⟨_,rfl,aa hHeld hdd.below,fun hHeld=>nz ?_⟩;clear hdd HW2;refine es 16 76 _ _ rfl (vy 160 _ rfl [(0, .int .i64 (wrap64 (x.f0+s))),(1, .int .u64 (iz (x.f1-s) false))] (by simp;exact⟨rfl,rfl⟩) _ (xm _ _)) hHeld (fun hHeld=>nz ?_);refine es 17 77 (.slice (some ⟨w5.heap.size,0,none⟩) 1 1) (w5.alloc (.cells [.int .i64 (wrap64 (x.f0+s)), .int .u64 (iz (x.f1-s) false)].toArray 160)) rfl (by first|(go_simp;done)|(go_simp;rfl)) (ca hHeld _) (fun _=>nz ?_);refine qqa ⟨wrap64 (x.f0+s),iz (x.f1-s) false⟩ 18 78 rfl rfl rfl rfl rfl HO5.out hHeld (by have:=HL.out;omega) (fun v1 w6 ho hb sp=>⟨hb,fun _=>nz ?_⟩);have HO6:=am ho;have HB6:=am hb;clear ho hb sp hHeld;refine ps 19 10 ?_;refine fa (by kernel_rfl) ?_;go_wp2;go_ret;have ho:=HO6.out;rw[HW3.out]at ho;exact⟨_,rfl,by rw[<-HE1.out _ rfl HC2.out _ HKn.out];exact ho,HB6.out⟩
   ·have r1:decide (s<x.f1)=false:=ah c2;have HC2:=am c2;clear c2;go_wp2;go_ret;exact⟨_,rfl,by rw[<-HE2.out _ rfl HC2.out _ HKn.out];exact HO.out,HB.out⟩
end
theorem qdn(n:Int):fe.f n=some (df n):=by
 unfold fe.f df;by_cases h1:n<1
 ·rw[if_pos h1,if_pos (.inl h1)]
 ·rw[if_neg h1];by_cases h2:n>448
  ·rw[if_pos h2,if_pos (.inr h2)]
  ·rw[if_neg h2,if_neg (by omega),w64 (n:=n+7) (by omega),Int.tdiv_eq_ediv_of_nonneg (by omega),w64 (n:=(n+7) / 8) (by omega),w64 (by omega)];congr 1;omega
theorem qgf{a b:Int}{u:Bool}(h:0<=a/\a<=512):dz.f a b u=some ((a+1)*8):=by
 rw[qgg,ux (by omega)]
section
variable{w:World}{l:List S116}{v counts:List Int}{words n:Int}{A A2:Option Addr}{c c2:Nat}
theorem qd5(hV:HV l v words)(hr:Kd.C (Kd.int .u64) w A v.length v)(hc:v.length<=c)(hr2:Kd.C (Kd.int .i64) w A2 counts.length counts)(hc2:counts.length<=c2):Calls Tryz.prog 26 #[.slice A v.length c, .int .i64 n, .slice A2 counts.length c2] w fun e w'=>∃ u off err,e=.returned (.tuple #[u, .int .i64 off, .int .i64 err])/\(∀ ch,df n≠0->ul l counts (df n) ch->off=((ab l ch).f0+1)*8)/\Below w.heap.size w w':=by
 have HNd:=am (qdn n);generalize hnd:df n=nd at *;by_cases h:nd=0
 ·have n0:(nd==0)=true:=beq_iff_eq.mpr h;have n1:decide (nd=0)=true:=af h;have HZ:=am h;clear hr hr2 hV h;go_enter Tryz.func26,Tryz.ntmps26;go_wp2_with (first
   |(go_at_call 71;(with_reducible refine(fe.calls n _ _ HNd.out).mono ?_);rintro e w1 ⟨rfl,hd⟩;have HB:=am hd.below;clear hd))
  go_ret3;exact⟨_,_,_,rfl,fun _ h=>absurd HZ.out h,HB.out⟩
 ·have hn:2<=nd:=by have:=qa3 n;omega
  have hwf:=qj0 hV.1 (by have:=j6 hV.1;omega);have n0:(nd==0)=false:=beq_eq_false_iff_ne.mpr h;have n1:decide (nd=0)=false:=ah h;have HBl:=am (fun w' (h':Kd.C (Kd.int .u64) w' A v.length v)=>ki (c:=c) hV h' hc);have HCh:Aside0 (∀ w' A' c',Kd.C e6 w' A' l.length l->l.length<=c'→Kd.C (Kd.int .i64) w' A2 counts.length counts->Calls Tryz.prog 73 #[.slice A' l.length c', .int .i64 nd, .slice A2 counts.length c2] w' fun e w''=>∃ ch,e=.returned (.int .i64 ch)/\((ch= -1∧∀ j:Int,0<=j->j<l.length→¬ OkB l nd j)\/ul l counts nd ch)/\Below w'.heap.size w' w''):=⟨fun w' A' c' h1 h2 h3=>by
   refine(qd4 hwf hn h1 h2 h3 hc2).mono ?_;rintro e w'' ⟨ch,out,rfl,hf,hc,hb⟩;exact⟨ch,rfl,qj5 hf hc,hb⟩⟩
  have HR:=am hr;have HR2:=am hr2;have HVV:=am hV;have Hn:=am hn;have HNd0:=HNd;have HNd1:=HNd;clear hr hr2 hV h hwf hn hnd;go_enter Tryz.func26,Tryz.ntmps26;go_wp2_with (first
   |(go_at_call 71;(with_reducible refine(fe.calls n _ _ HNd0.out).mono ?_);rintro e w1 ⟨rfl,hd⟩;have HB1:=am hd.below;clear hd HNd0)
   |(go_at_call 72;(with_reducible refine(HBl.out _ (Kd.C_below HR.out HB1.out)).mono ?_);rintro e w2 ⟨Al,cl,rfl,ho,hb⟩;have HB2:=am (aa HB1.out hb);have HL:=am (Kd.R_reads' ho);clear ho hb HB1)
   |(go_at_call 71;(with_reducible refine(fe.calls n _ _ HNd1.out).mono ?_);rintro e w3 ⟨rfl,hd⟩;have HB3:=am (aa HB2.out hd.below);have HL3:=am (Kd.C_below HL.out.2.2 hd.below);clear hd HNd1 HB2)
   |(go_at_call 73;(with_reducible refine(HCh.out _ Al cl HL3.out HL.out.2.1 (Kd.C_below HR2.out HB3.out)).mono ?_);rintro e w4 ⟨ch,rfl,⟨rfl,hno⟩|hbst,hb⟩;rotate_left;have hb0:decide (ch<0)=false:=ah (by have:=hbst.1;omega);have HB4:=am (aa HB3.out hb);have HL4:=am (Kd.C_below HL3.out hb);have HBs:=am hbst;clear hb hbst))
  ·have hb0:=HBs.out;obtain⟨ci,rfl⟩:=Int.eq_ofNat_of_zero_le hb0.1;have can:=(qb7 HVV.out.1 hb0.1 hb0.2.1 Hn.out).2 hb0.2.2.1;have hcr:=si can.1 hb0.1 hb0.2.1;have q0:(0<=(ci:Int))=True:=eq_true (by omega);have q1:((ci:Int)<l.length)=True:=eq_true hb0.2.1;obtain⟨ad,ea,hX⟩:=mg HL4.out (i:=ci) (by have:=hb0.2.1;omega);cases ea;have HEd:Aside0 (∀ w',Kd.C e6 w' (some ad) l.length l->Calls Tryz.prog 74 #[.slice (some ad) l.length cl, .int .i64 ci, .int .i64 nd] w' fun e w''=>∃ v,e=.returned v/\Kd.R jp 160 w'' w'.heap.size (fun _=>True) v (eds (ab l (ci:Int)) nd)/\Below w'.heap.size w' w''):=⟨fun w' h'=>zv can h' HL.out.2.1⟩;have HFin:Aside0 (∀ ch,nd≠0->ul l counts nd ch->((ab l (ci:Int)).f0+1)*8=((ab l ch).f0+1)*8):=⟨fun ch _ h=>by rw[qcq HVV.out.1 HBs.out h]⟩;generalize hxx:ab l (ci:Int)=x at hX HEd hcr HFin;have HX:=am hX;have HOf:Aside0 (dz.f x.f0 x.f1 x.f2=some ((x.f0+1)*8)):=⟨qgf (by omega)⟩;clear hX hcr can hb0 hxx;refine dj (n:=13) (S:=fun w'=>Below w4.heap.size w4 w') (ds:=[]) (onA 13 0) (by kernel_rfl) rfl rfl (bg (ai _ _)) (fun hHeld=>?_);refine ps 0 29 ?_;refine ps 1 30 ?_;refine ps 2 31 ?_;refine ps 5 34 ?_;refine ps 6 35 ?_;refine ps 7 36 ?_;refine vg 8 37 rfl hHeld (by intro w' hb;obtain⟨a0,a1,a2⟩:=HX.out.on hb;go_simp;with_reducible rfl) ?_;refine os 3 32 Tryz.func71 #[.int .i64 n] ?_;refine(fe.calls n _ _ HNd.out).mono ?_;rintro e w5 ⟨rfl,hd⟩;refine⟨_,rfl,aa hHeld hd.below,fun hHeld=>nz ?_⟩;clear hd;refine os 4 33 Tryz.func74 #[.slice (some ad) l.length cl, .int .i64 ci, .int .i64 nd] ?_;refine(HEd.out _ (Kd.C_below HL4.out hHeld)).mono ?_;rintro e w6 ⟨u,rfl,ho,hb⟩;refine⟨_,rfl,aa hHeld hb,fun hHeld=>nz ?_⟩;clear ho hb;refine os 9 38 Tryz.func75 #[.agg #[.int .i64 x.f0, .int .i64 x.f1, .bool x.f2]] ?_;refine(dz.calls x.f0 x.f1 x.f2 _ _ HOf.out).mono ?_;rintro e w7 ⟨rfl,hd⟩;refine⟨_,rfl,aa hHeld hd,fun hHeld=>nz ?_⟩;have HB7:=am (aa HB4.out hHeld);refine ps 10 6 ?_;refine ps 11 7 ?_;refine ps 12 8 ?_;refine fa (by kernel_rfl) ?_;go_wp2;go_ret3;exact⟨_,_,_,rfl,HFin.out,HB7.out⟩
  ·have HB4:=am (aa HB3.out hb);have HNo:=am hno;clear hno hb;go_ret3;exact⟨_,_,_,rfl,fun ch _ h=>absurd h.2.2.1 (HNo.out ch h.1 h.2.1),HB4.out⟩
end
theorem qov{A:Option Addr}{c:Nat}{l:List S116}(a b:Nat)(h:a<=b)(h2:b<=l.length)(hc:l.length<=c):∀ W:World,(Instr.slice 93 (.slice A l.length c) (some (.int .i64 (a:Int))) (some (.int .i64 (b:Int))) none).run Tryz.prog W=.ok (.slice (if c=a then A else A.map (·.add (a*3))) ((l.take b).drop a).length (c-a)) W:=by
 obtain⟨i,hi,_,hsz,_⟩:=info_parts mh;have:=qj9 (P:=Tryz.prog) 93 116 .i64 .i64 Tryz.underlying93 hi 3 hsz A l.length c (a:Int) (b:Int) (by omega) (by omega) (by omega) hc
 rwa[Int.toNat_natCast,Int.toNat_natCast,show b-a=((l.take b).drop a).length by rw[List.length_drop,List.length_take];omega]at this
theorem qob:∀ (M:List S116),(∀ b∈M,2<=b.f1/\b.f1<=512)->0<=dq M/\dq M<=512*(M.length:Int)
 |[],_=>⟨Int.le_refl _,Int.le_refl _⟩
 |b::M,h=>by
  have h1:=qob M (fun x hx=>h x (List.mem_cons_of_mem _ hx))
  have h2:=h b List.mem_cons_self
  have e:dq (b::M)=b.f1+dq M:=rfl
  rw[e,List.length_cons]
  omega
section
variable{w:World}{l:List S116}{A:Option Addr}{c:Nat}
theorem qil{i words:Int}(hm:mb l words)(hi:i<0)(hr:Kd.C e6 w A l.length l)(hc:l.length<=c):Calls Tryz.prog 152 #[.slice A l.length c, .int .i64 i] w fun e w'=>∃ u,e=.returned (.tuple #[u, .int .i64 0, .bool false])/\Below w.heap.size w w':=by
 have HR:=am hr;have HWd:=am (uo (c:=c) (w:=w) hm hr);have HCm:Aside0 (∀ w',Kd.C e6 w' A l.length l->Calls Tryz.prog 118 #[.slice A l.length c, .int .i64 words] w' fun e w''=>e=.returned (.bool true)/\Below w'.heap.size w' w''):=⟨fun w' h=>un hm h hc⟩;have q2:decide (i<0)=true:=af hi;clear hr hm hi;go_enter Tryz.func152,Tryz.ntmps152;go_wp2_with (first
  |(go_at_call 155;(with_reducible refine HWd.out.mono ?_);rintro e w3 ⟨rfl,hb⟩;have HB3:=am hb;clear hb HWd)
  |(go_at_call 118;(with_reducible refine(HCm.out _ (Kd.C_below HR.out HB3.out)).mono ?_);rintro e w4 ⟨rfl,hb⟩;have HB4:=am (aa HB3.out hb);clear hb HCm))
 go_ret3;exact⟨_,rfl,HB4.out⟩
theorem qg1 {i : Int} (hC : Pl.Can l i) (hr : Kd.C e6 w A l.length l) (hc : l.length ≤ c) : Calls Tryz.prog 152 #[.slice A l.length c, .int .i64 i] w fun e w' => ∃ v, e = .returned (.tuple #[v, .int .i64 (cz l i), .bool true]) ∧ Kd.R e6 116 w' w.heap.size (fun _ => True) v (mrg l i) ∧ Below w.heap.size w w' := by
 obtain⟨hb,i0,i1,hf⟩:=hC;have hlen:=j6 hb;have hmg:=qkg hb ⟨i0,i1⟩;have hft:=mw (l:=l) (i:=i) ⟨i0,i1⟩;obtain⟨n,rfl⟩:=Int.eq_ofNat_of_zero_le i0;obtain⟨ad,ea,hX⟩:=mg hr (i:=n) (by omega);cases ea;have HR:=am hr;have HWd:=am (uo (c:=c) (w:=w) hb hr);have HCm:Aside0 (∀ w',Kd.C e6 w' (some ad) l.length l->Calls Tryz.prog 118 #[.slice (some ad) l.length c, .int .i64 (dq l)] w' fun e w''=>e=.returned (.bool true)/\Below w'.heap.size w' w''):=⟨fun w' h=>un hb h hc⟩;have HX:=am hX;have HN:Aside0 ((n:Int)<l.length/\l.length<=1000):=⟨i1,by omega⟩;have HFt:=am hft;have HMg:=am hmg;have HRow:Aside0 (∀ (j:Nat) (w':World),j<l.length->Below w.heap.size w w'→R3 w' ad j (ab l (j:Int))):=⟨fun j w' h hb'=>by
  obtain⟨ad2,ea,h2⟩:=mg (Kd.C_below hr hb') h;cases ea;exact h2⟩
 have q0:(0<=(n:Int))=True:=eq_true (by omega);have q1:((n:Int)<l.length)=True:=eq_true i1;have q2:decide ((n:Int)<0)=false:=ah (by omega);have q3:decide ((l.length:Int)<=(n:Int))=false:=ah (by omega);have HF:=am hf;have wn1:wrap64 ((n:Int)+1)=((n+1:Nat):Int):=by rw[w64 (by omega)];omega
 have HW1:=am wn1;clear hr hb hX hmg hft hlen hf wn1;go_enter Tryz.func152,Tryz.ntmps152;go_upto_region 4 with (first
  |(go_at_call 155;(with_reducible refine HWd.out.mono ?_);rintro e w3 ⟨rfl,hb⟩;have HB3:=am hb;clear hb HWd)
  |(go_at_call 118;(with_reducible refine(HCm.out _ (Kd.C_below HR.out HB3.out)).mono ?_);rintro e w4 ⟨rfl,hb⟩;have HB4:=am (aa HB3.out hb);obtain⟨a0,a1,a2⟩:=HX.out.on HB4.out;rw[HF.out]at a2;clear hb HCm))
 rw[HW1.out];go_cut [49] (fun v49 wc=>v49=.bool (decide (0<n/\(ab l ((n:Int)-1)).f2=false))/\Aside0 (Below w.heap.size w wc))
 case first=>
  clear a0 a1 a2;rcases Nat.eq_zero_or_pos n with hz|hz
  ·subst hz;have r0:decide ((0:Int)<((0:Nat):Int))=false:=rfl;go_wp2;go_meet
   case rel=>exact⟨rfl,HB4⟩
  ·obtain⟨m,rfl⟩:∃ m,n=m+1:=⟨n-1,by omega⟩;have r0:decide ((0:Int)<((m+1:Nat):Int))=true:=af (by omega);have r1:decide ((0:Int)<(m:Int)+1)=true:=af (by omega);have r2:decide (0<m+1)=true:=af (by omega);have r6:wrap64 (((m+1:Nat):Int)-1)=(m:Int):=by have:=HN.out;rw[w64 (by omega)];omega
   have r7:wrap64 ((m:Int)+1-1)=(m:Int):=by have:=HN.out;rw[w64 (by omega)];omega
   have r8:wrap64 (m:Int)=(m:Int):=by have:=HN.out;rw[w64 (by omega)]
   have q4:(0<=(m:Int))=True:=eq_true (by omega);have q5:((m:Int)<l.length)=True:=eq_true (by have:=HN.out;omega);obtain⟨b0,b1,b2⟩:=HRow.out m w4 (by have:=HN.out;omega) HB4.out;have HG:Aside0 (∀ y:Bool,(ab l (m:Int)).f2=y->Value.bool (!y)=.bool (decide (0<m+1/\(ab l (((m+1:Nat):Int)-1)).f2=false))):=⟨fun y hy=>by rw[show((m+1:Nat):Int)-1=(m:Int)by omega,hy];cases y <;> simp⟩;generalize hy:(ab l (m:Int)).f2=y at b2;have HG2:=am (HG.out y hy);clear hy HG hz;go_wp2;go_meet
   case rel=>exact⟨HG2.out,HB4⟩
 case rest =>
  clear HB4;obtain⟨rfl,HB⟩:=hcut;go_upto_if 49 with (fail);go_cut [7] (fun v7 wc=>v7=.int .i64 (cz l (n:Int))/\Aside0 (Below w.heap.size w wc))
  case first=>
   by_cases hg:0<n/\(ab l ((n:Int)-1)).f2=false
   ·have HE:Aside0 (wrap64 ((n:Int)-1)=cz l (n:Int)):=⟨by have:=HN.out;unfold cz;rw[if_pos ⟨by omega,hg.2⟩,w64 (by omega)]⟩;rw[af hg];clear hg;go_wp2;go_meet
    case rel=>exact⟨congrArg _ HE.out,HB⟩
   ·have HE:Aside0 ((n:Int)=cz l (n:Int)):=⟨by unfold cz;rw[if_neg (fun h=>hg ⟨by omega,h.2⟩)]⟩;rw[ah hg];clear hg;go_wp2;go_meet
    case rel=>exact⟨congrArg _ HE.out,HB⟩
  case rest =>
   clear HB;obtain⟨rfl,HB⟩:=hcut;obtain⟨fn,hfn⟩:∃ fn:Nat,cz l (n:Int)=fn:=⟨(cz l n).toNat,by have:=HFt.out;omega⟩;have HFn:=am hfn;rw[hfn];clear hfn;go_upto_region 6 with (fail);go_cut [63] (fun v63 wc=>v63=.bool (decide (n+1<l.length/\(ab l ((n:Int)+1)).f2=false))/\Aside0 (Below w.heap.size w wc))
   case first=>
    by_cases hz:n+1<l.length
    ·have r0:decide (((n+1:Nat):Int)<l.length)=true:=af (by omega);have r1:decide ((n:Int)+1<l.length)=true:=af (by omega);have r2:decide (n+1<l.length)=true:=af hz;have q4:(0<=((n+1:Nat):Int))=True:=eq_true (by omega);have q5:(((n+1:Nat):Int)<l.length)=True:=eq_true (by omega);have q6:(0<=(n:Int)+1)=True:=eq_true (by omega);have q7:((n:Int)+1<l.length)=True:=eq_true (by omega);have q8:((n:Int)+1).toNat=n+1:=by omega
     obtain⟨b0,b1,b2⟩:=HRow.out (n+1) wc hz HB.out;have HG:Aside0 (∀ y:Bool,(ab l ((n+1:Nat):Int)).f2=y->Value.bool (!y)=.bool (decide (n+1<l.length/\(ab l ((n:Int)+1)).f2=false))):=⟨fun y hy=>by rw[show((n:Int)+1)=((n+1:Nat):Int)by omega,hy];cases y <;> simp[hz]⟩;generalize hy:(ab l ((n+1:Nat):Int)).f2=y at b2;have HG2:=am (HG.out y hy);clear hy HG hz;go_wp2;go_meet
     case rel=>exact⟨HG2.out,HB⟩
    ·have r0:decide (((n+1:Nat):Int)<l.length)=false:=ah (by omega);have r1:decide ((n:Int)+1<l.length)=false:=ah (by omega);have r2:decide (n+1<l.length)=false:=ah hz;have HG:Aside0 (Value.bool false=.bool (decide (n+1<l.length/\(ab l ((n:Int)+1)).f2=false))):=⟨by rw[ah (fun h=>hz h.1)]⟩;clear hz;go_wp2;go_meet
     case rel=>exact⟨HG.out,HB⟩
   case rest =>
    clear HB;obtain⟨rfl,HB⟩:=hcut;go_upto_if 63 with (fail);go_cut [8] (fun v8 wc=>v8=.int .i64 (mTo l (n:Int))/\Aside0 (Below w.heap.size w wc))
    case first=>
     by_cases hg:n+1<l.length/\(ab l ((n:Int)+1)).f2=false
     ·have HE:Aside0 (wrap64 (((n+1:Nat):Int)+1)=mTo l (n:Int)):=⟨by have:=HN.out;unfold mTo;rw[if_pos ⟨by omega,hg.2⟩,w64 (by omega)];omega⟩;rw[af hg];clear hg;go_wp2;go_meet
      case rel=>exact⟨congrArg _ HE.out,HB⟩
     ·have HE:Aside0 (((n+1:Nat):Int)=mTo l (n:Int)):=⟨by unfold mTo;rw[if_neg (fun h=>hg ⟨by omega,h.2⟩)];omega⟩;rw[ah hg];clear hg;go_wp2;go_meet
      case rel=>exact⟨congrArg _ HE.out,HB⟩
    case rest=>
     clear HB;obtain⟨rfl,HB⟩:=hcut;obtain⟨tn,htn⟩:∃ tn:Nat,mTo l (n:Int)=tn:=⟨(mTo l n).toNat,by have:=HFt.out;omega⟩;have hb:=HFt.out;rw[HFn.out,htn]at hb;have HTn:=am htn;have hN:=HN.out;have hM:mM l (n:Int)=(l.take tn).drop fn:=by unfold mM;rw[htn,HFn.out,Int.toNat_natCast,Int.toNat_natCast]
     have hP:mrg l (n:Int)=l.take fn++[⟨(ab l (fn:Int)).f0,dq (mM l (n:Int)),false⟩]++l.drop tn:=by unfold mrg mP mQ;rw[htn,HFn.out,Int.toNat_natCast,Int.toNat_natCast]
     rw[htn];have hcm:=qov (A:=some ad) (c:=c) (l:=l) fn tn (by omega) (by omega) hc;have hct:=qmp (A:=some ad) (c:=c) (l:=l) fn (by omega) hc;have hcd:=qj8 (A:=some ad) (c:=c) (l:=l) tn (by omega);have HM0:Aside0 (∀ w',Kd.C e6 w' (some ad) l.length l->Kd.C e6 w' (if c=fn then some ad else(some ad).map (·.add (fn*3))) ((l.take tn).drop fn).length ((l.take tn).drop fn)):=⟨fun w' h=>Kd.C_drop (Kd.C_take (m:=tn) h (by omega)) (by rw[List.length_take];omega) (by rw[List.length_take];omega)⟩;have HT0:Aside0 (∀ w',Kd.C e6 w' (some ad) l.length l->Kd.C e6 w' (some ad) (l.take fn).length (l.take fn)):=⟨fun w' h=>Kd.C_take h (by omega)⟩;have HD0:Aside0 (∀ w',Kd.C e6 w' (some ad) l.length l->Kd.C e6 w' (if c=tn then some ad else(some ad).map (·.add (tn*3))) (l.drop tn).length (l.drop tn)):=⟨fun w' h=>Kd.C_drop h (by omega) hc⟩;have HTl:Aside0 ((l.take fn).length<=1000):=⟨by rw[List.length_take];omega⟩;have HDl:Aside0 ((l.drop tn).length<=1000):=⟨by rw[List.length_drop];omega⟩;have HMl:Aside0 (((l.take tn).drop fn).length<=1000):=⟨by rw[List.length_drop,List.length_take];omega⟩;have HF0:Aside0 (∀ w',Below w.heap.size w w'→R3 w' ad fn (ab l (fn:Int))):=⟨fun w' h=>HRow.out fn w' (by omega) h⟩;have q4:(0<=(fn:Int))=True:=eq_true (by omega);have q5:((fn:Int)<l.length)=True:=eq_true (by omega);have HSm:Aside0 (∀ b∈mM l (n:Int),2<=b.f1/\b.f1<=512):=⟨HMg.out.1⟩;have HP:=am hP;rw[hM]at HSm HP;clear hb hN hM hP htn HMg HTn HRow HFt HN HX HF q0 q1 q2 q3;generalize ab l (fn:Int)=f at *;generalize l.take fn=T at *;generalize l.drop tn=D at *;generalize (l.take tn).drop fn=M at *;generalize (if c=fn then some ad else(some ad).map (·.add (fn*3)))=A1 at *;generalize (if c=tn then some ad else(some ad).map (·.add (tn*3)))=A2 at *;go_wp2;obtain⟨wo,hwo⟩:∃ z,z=wc:=⟨_,rfl⟩;go_loopw [9,71] (fun s i wr=>∃ k:Nat,s=.int .i64 (dq (M.take k))/\i=.int .i64 k/\k<=M.length/\Aside0 (Below w.heap.size w wr)) (fun _ i _=>M.length-(intOf i).toNat)
     case atStart=>exact⟨0,rfl,rfl,by omega,HB⟩
     case round=>
      clear HB;obtain⟨k,rfl,rfl,hk,HB⟩:=hrel;by_cases hlt:k<M.length
      ·have d3:decide ((k:Int)<M.length)=true:=af (by omega);obtain⟨ad2,ea,hx0,hx1,hx2⟩:=fj (HM0.out _ (Kd.C_below HR.out HB.out)) (k:Int) (by omega) (by omega);subst ea;rw[Int.toNat_natCast]at hx0 hx1 hx2;have p0:(0<=(k:Int))=True:=eq_true (by omega);have p1:((k:Int)<M.length)=True:=eq_true (by omega);have HWk:=am (wk1 k (by have:=HMl.out;omega));have HMs:=am (wk2 hlt (by have:=HMl.out;omega));have h1:=qob (M.take (k+1)) (fun x hx=>HSm.out x (List.mem_of_mem_take hx));have h2:dq (M.take (k+1))=dq (M.take k)+(ab M (k:Int)).f1:=by rw[qdq hlt,uj];show _+((ab M (k:Int)).f1+0)=_;omega
       have h3:(M.take (k+1)).length<=1000:=by rw[List.length_take];have:=HMl.out;omega
       have HS1:Aside0 (wrap64 (dq (M.take k)+(ab M (k:Int)).f1)=dq (M.take (k+1))):=⟨by rw[h2,w64 (by omega)]⟩;generalize hn2:dq (M.take (k+1))=n2 at HS1;have HN2:=am hn2;clear hn2;generalize dq (M.take k)=n1 at HS1 ⊢;generalize ab M (k:Int)=x at hx0 hx1 hx2 HS1;have HLt:=am hlt;clear h1 h2 h3 hlt;go_wp2;exact⟨⟨k+1,by rw[HS1.out,HN2.out],HWk.out,HLt.out,⟨bz HB⟩⟩,HMs.out⟩
      ·have hkk:k=M.length:=by omega
       subst hkk;have d3:decide ((M.length:Int)<M.length)=false:=ah (by omega);rw[List.take_length];generalize dq M=sm at HP ⊢;clear hlt;go_wp2;refine dj (n:=14) (S:=fun w'=>Below w.heap.size w w') (ds:=[]) (onA 14 0) (by kernel_rfl) rfl rfl (bg HB.out) (fun hHeld=>?_);refine ps 0 80 ?_;refine ps 1 81 ?_;refine ps 2 82 ?_;refine ps 4 84 ?_;refine ps 5 85 ?_;refine ps 6 86 ?_;refine ps 7 87 ?_;refine ps 9 89 ?_;refine vg 8 88 rfl hHeld (by intro w' hb;obtain⟨a0,a1,a2⟩:=HF0.out _ hb;go_simp;with_reducible rfl) ?_;refine ps 10 90 ?_;refine qqr 3 11 12 83 91 92 (.tmp 82) ⟨f.f0,sm,false⟩ (HT0.out _ (Kd.C_below HR.out hHeld)) HTl.out (fun w' hb=>aa hHeld hb) (fun u v y w7 ho hb hs7=>nz ?_) rfl rfl rfl;have HO7:=am (Kd.R_lower ho hHeld.size);have HB7:=am hs7;clear ho hb hs7 hHeld HB;refine ps 13 12 ?_;refine fa (by kernel_rfl) ?_;go_wp2_with (first
        |((with_reducible refine di (b:=.append) (xs:=#[.tmp 93, .tmp 96]) rfl ?_);at_builtin;refine Kd.R_append_rows e6 (w0:=w) w.heap.size rfl (.tmp 93) (.tmp 96) 93 116 (.agg #[(.int .i64 0),(.int .i64 0),(.bool false)]) 24 rfl Tryz.underlying93 mh rfl (by decide) (by omega) _ _ D _ _ _ (fun _=>True) (fun _=>False) rfl rfl HO7.out (HD0.out _ (Kd.C_below HR.out HB7.out)) (fun _ _ h=>h) (fun _ h=>h.elim) (fun _ _=>trivial) HB7.out (bk HB7.out) (by have:=HTl.out;have:=HDl.out;simp;omega) ?_;intro v9 w9 ho hb _ _;have HO9:=am ho;have HB9:=am hb;clear ho hb))
       go_ret3;rw[HFn.out,HP.out];exact⟨_,rfl,HO9.out,HB9.out⟩
end
theorem qrk{l:List S116}{i:Int}(h:0<=i/\i<l.length):ab (mrg l i) (cz l i)=⟨(ab l (cz l i)).f0,dq (mM l i),false⟩/\cz l i<(mrg l i).length:=by
 have hf:=mw h;have e:((mP l i).length:Int)=cz l i:=by unfold mP;rw[List.length_take];omega
 constructor
 ·unfold mrg;rw[List.append_assoc];have:=rj (mP l i) (mQ l i) ⟨(ab l (cz l i)).f0,dq (mM l i),false⟩;rw[e]at this;exact this
 ·unfold mrg;rw[List.length_append,List.length_append,List.length_singleton];omega
section
variable{w:World}{l:List S116}{v:List Int}{words off:Int}{A:Option Addr}{c:Nat}
theorem qkw(hV:HV l v words)(hno:∀ b∈l,b.f2=true->oo b.f0≠off)(hr:Kd.C (Kd.int .u64) w A v.length v)(hc:v.length<=c):Calls Tryz.prog 114 #[.slice A v.length c, .int .i64 off] w fun e w'=>∃ u,e=.returned (.tuple #[u, .int .i64 1])/\Below w.heap.size w w':=by
 have HBl:=am (ki hV hr hc);have hlen:l.length<=1000:=by have:=j6 hV.1;omega
 have HIs:Aside0 (∀ w' A' c',Kd.C e6 w' A' l.length l->Calls Tryz.prog 116 #[.slice A' l.length c', .int .i64 off] w' fun e w''=>e=.returned (.int .i64 (-1))/\Below w'.heap.size w' w''):=⟨fun w' A' c' h=>by have:=xh (off:=off) (c:=c') hlen h;rwa[uc off l 0 hno]at this⟩;have HMg:Aside0 (∀ w' A' c',Kd.C e6 w' A' l.length l->l.length<=c'→Calls Tryz.prog 152 #[.slice A' l.length c', .int .i64 (-1)] w' fun e w''=>∃ u,e=.returned (.tuple #[u, .int .i64 0, .bool false])/\Below w'.heap.size w' w''):=⟨fun w' A' c' h hc=>qil hV.1 (by decide) h hc⟩;clear hr hV hno;go_enter Tryz.func114,Tryz.ntmps114;go_wp2_with (first
  |(go_at_call 72;refine HBl.out.mono ?_;rintro e w1 ⟨A',c',rfl,ho,hb⟩;have HO:=am ho;have HB1:=am hb;clear ho hb)
  |(go_at_call 116;refine(HIs.out _ _ _ (Kd.R_reads' HO.out).2.2).mono ?_;rintro e w2 ⟨rfl,hb⟩;have HB2:=am (aa HB1.out hb);have HO2:=am (Kd.R_reads' (Kd.R_below HO.out hb));clear hb HB1)
  |(go_at_call 152;refine(HMg.out _ _ _ HO2.out.2.2 HO2.out.2.1).mono ?_;rintro e w3 ⟨u,rfl,hb⟩;have HB3:=am (aa HB2.out hb);clear hb HB2))
 go_ret2;exact⟨_,rfl,HB3.out⟩
theorem qij{i:Int}(hV:HV l v words)(i0:0<=i)(i1:i<l.length)(hu:(ab l i).f2=true)(ho:off=((ab l i).f0+1)*8)(hr:Kd.C (Kd.int .u64) w A v.length v)(hc:v.length<=c):Calls Tryz.prog 114 #[.slice A v.length c, .int .i64 off] w fun e w'=>∃ u,e=.returned (.tuple #[u, .int .i64 0])/\Kd.R jp 160 w' w.heap.size (fun _=>True) u [⟨(ab l (cz l i)).f0,iz (dq (mM l i)) false⟩]/\Below w.heap.size w w':=by
 have HBl:=am (ki hV hr hc);have hlen:l.length<=1000:=by have:=j6 hV.1;omega
 have HIs:Aside0 (∀ w' A' c',Kd.C e6 w' A' l.length l->Calls Tryz.prog 116 #[.slice A' l.length c', .int .i64 off] w' fun e w''=>e=.returned (.int .i64 i)/\Below w'.heap.size w' w''):=⟨fun w' A' c' h=>by have:=xh (off:=off) (c:=c') hlen h;rwa[ud hV.1 i0 i1 hu ho]at this⟩;have hx:=qrk (l:=l) (i:=i) ⟨i0,i1⟩;have hf:=mw (l:=l) (i:=i) ⟨i0,i1⟩;obtain⟨fn,hfn⟩:∃ fn:Nat,cz l i=fn:=⟨(cz l i).toNat,by omega⟩;have HMg:Aside0 (∀ w' A' c',Kd.C e6 w' A' l.length l->l.length<=c'→Calls Tryz.prog 152 #[.slice A' l.length c', .int .i64 i] w' fun e w''=>∃ v,e=.returned (.tuple #[v, .int .i64 (fn:Int), .bool true])/\Kd.R e6 116 w'' w'.heap.size (fun _=>True) v (mrg l i)/\Below w'.heap.size w' w''):=⟨fun w' A' c' h hc=>by have:=qg1 (qcr hV.1 ⟨i0,i1⟩ hu) h hc;rwa[hfn]at this⟩;have HWd:Aside0 (du.f (dq (mM l i)) false=some (iz (dq (mM l i)) false)):=⟨qai _ _⟩;rw[hfn]at hx ⊢;have HXq:=am hx.1;have hx2:=hx.2;generalize (ab l (fn:Int)).f0=f0 at *;generalize dq (mM l i)=sm at *;generalize mrg l i=ms at *;have q0:(0<=(fn:Int))=True:=eq_true (by omega);have q1:((fn:Int)<ms.length)=True:=eq_true hx2;clear hr hV hu ho hx hf hfn i0 i1;go_enter Tryz.func114,Tryz.ntmps114;go_wp2_with (first
  |(go_at_call 72;refine HBl.out.mono ?_;rintro e w1 ⟨A',c',rfl,ho,hb⟩;have HO:=am ho;have HB1:=am hb;clear ho hb)
  |(go_at_call 116;refine(HIs.out _ _ _ (Kd.R_reads' HO.out).2.2).mono ?_;rintro e w2 ⟨rfl,hb⟩;have HB2:=am (aa HB1.out hb);have HO2:=am (Kd.R_reads' (Kd.R_below HO.out hb));clear hb HB1)
  |(go_at_call 152;refine(HMg.out _ _ _ HO2.out.2.2 HO2.out.2.1).mono ?_;rintro e w3 ⟨u,rfl,ho,hb⟩;obtain⟨A3,c3,rfl⟩:=Kd.R_slice ho;have HO3:=am (Kd.R_reads' ho);have HB3:=am (aa HB2.out hb);clear ho hb HB2))
 obtain⟨ad,ea,hX⟩:=mg HO3.out.2.2 (i:=fn) (by omega);cases ea;rw[HXq.out]at hX;have HX:=am hX;clear hX hx2;refine dj (n:=15) (S:=fun w'=>Below w3.heap.size w3 w') (ds:=[]) (onA 15 0) (by kernel_rfl) rfl rfl (bg (ai _ _)) (fun hHeld=>?_);refine ps 0 28 ?_;refine ps 1 29 ?_;refine ps 2 30 ?_;refine ps 3 31 ?_;refine ps 5 33 ?_;refine ps 6 34 ?_;refine ps 7 35 ?_;refine ps 8 36 ?_;refine vg 4 32 rfl hHeld (by intro w' hb;obtain⟨a0,a1,a2⟩:=HX.out.on hb;go_simp;with_reducible rfl) ?_;refine vg 9 37 rfl hHeld (by intro w' hb;obtain⟨a0,a1,a2⟩:=HX.out.on hb;go_simp;with_reducible rfl) ?_;refine os 10 38 Tryz.func111 #[.int .i64 sm, .bool false] ?_;refine(du.calls sm false _ _ HWd.out).mono ?_;rintro e w4 ⟨rfl,hd⟩;refine⟨_,rfl,aa hHeld hd.below,fun hHeld=>nz ?_⟩;clear hd HWd;refine es 11 39 _ _ rfl (vy 160 _ rfl [(0, .int .i64 f0),(1, .int .u64 (iz sm false))] (by simp;exact⟨rfl,rfl⟩) _ (xm _ _)) hHeld (fun hHeld=>nz ?_);refine qqi ⟨f0,iz sm false⟩ 12 40 rfl rfl hHeld (fun v1 w5 ho hb=>⟨hb,fun _=>nz ?_⟩);have HO5:=am (Kd.R_lower ho HB3.out.size);have HB5:=am (aa HB3.out hb);clear ho hb hHeld;refine ps 13 4 ?_;refine ps 14 5 ?_;refine fa (by kernel_rfl) ?_;go_wp2;go_ret2;exact⟨_,rfl,HO5.out,HB5.out⟩
end
theorem qjs{W:World}{base g cap:Nat}{xs:List S160}(h:Kd.R jp 160 W base (fun _=>True) (.slice (some ⟨g,0,none⟩) xs.length cap) xs)(m:Nat)(hm:m<xs.length):W.cell? ⟨g,m*2,none⟩=some (.int .i64 (bw xs (m:Int)).f0)/\W.cell? ⟨g,m*2+1,none⟩=some (.int .u64 (bw xs (m:Int)).f1)/\W.frozen? ⟨g,m*2+1,none⟩=false∧∀ nv,Kd.R jp 160 (W.setCell ⟨g,m*2+1,none⟩ (.int .u64 nv)) base (fun _=>True) (.slice (some ⟨g,0,none⟩) xs.length cap) (xs.set m ⟨(bw xs (m:Int)).f0,nv⟩):=by
 obtain⟨ce,hcl,hM,hcc,hfr⟩:=Kd.R_elem h vt (m:Int) (by omega) (by omega);obtain rfl:=n4 hM;refine⟨hcc 0 _ rfl,hcc 1 _ rfl,hfr 1,fun nv=>?_⟩;exact(Kd.R_seg h (m:Int) (by omega) (by omega) (seg:=[.int .u64 nv]) (j:=1) hcl hcc (show 2<=2 from by decide) (x':=(⟨(bw xs (m:Int)).f0,nv⟩:S160)) (qo _ _ _ (⟨(bw xs (m:Int)).f0,nv⟩:S160)) (fun _ hk=>hk)).1
section
variable{w:World}{v B:List Int}{A A2:Option Addr}{c c2:Nat}
theorem qd2{off:Int}(hV:Wds v)(hB:Bys B)(h0:0<=off)(hn:B.length<=448)(h2:off+B.length<=8*v.length)(hl:v.length<=1000)(hr:Kd.C (Kd.int .u64) w A v.length v)(hc:v.length<=c)(hr2:Kd.C (Kd.int .u8) w A2 B.length B)(hc2:B.length<=c2):Calls Tryz.prog 154 #[.slice A v.length c, .int .i64 off, .slice A2 B.length c2] w fun e w'=>∃ u es,e=.returned (.tuple #[u, .bool true])/\Kd.R jp 160 w' w.heap.size (fun _=>True) u es/\yf v B off es B.length/\Below w.heap.size w w':=by
 have HR:=am hr;have HR2:=am hr2;have HIn:Aside0 (gh.f v.length off B.length=some true):=⟨qet (by omega) h0 (by omega) (by omega)⟩;have HN:=am (And.intro h0 (And.intro hn (And.intro h2 hl)));have HVB:=am (And.intro hV hB);clear hr hr2 h0 hn h2 hl hV hB;go_enter Tryz.func154,Tryz.ntmps154;go_wp2_with (first
  |(go_at_call 173;(with_reducible refine(gh.calls v.length off B.length true _ HIn.out).mono ?_);rintro e w1 ⟨rfl,hd⟩;have HB:=am hd.below;clear hd))
 go_loopw [8,24] (fun u i wr=>∃ (k:Nat) (acc:List S160),i=.int .i64 k/\k<=B.length/\Aside0 (yf v B off acc k)/\Aside0 (Kd.R jp 160 wr w.heap.size (fun _=>True) u acc)/\Aside0 (Below w.heap.size w wr)) (fun _ i _=>B.length-(intOf i).toNat)
 case atStart=>exact⟨0,[],rfl,by omega,⟨⟨⟨rfl,by simp, .inl ⟨rfl,rfl⟩⟩,fun e he=>by cases he⟩⟩,⟨Kd.R_nil _ _ _ _ _⟩,HB⟩
 case round =>
  clear HB;obtain⟨k,acc,rfl,hk,HE,HO,HB⟩:=hrel;obtain⟨h0,hn,h2,hl⟩:=HN.out;by_cases hlt:k<B.length
  ·have d3:decide ((k:Int)<B.length)=true:=af (by omega);have HWk:=am (wk1 k (by omega));have HMs:=am (wk2 hlt (by omega));have HLt:=am hlt;obtain⟨s1,s2⟩:=qep HVB.out.1 HVB.out.2 h0 (i:=k) (by omega) HE.out;have hi0:0<=off+(k:Int):=by omega
   have hi1:off+(k:Int)<8*v.length:=by omega
   have hlast:=HE.out.1.2.2;have hal:=HE.out.1.2.1;generalize hI:off+(k:Int)=i at s1 s2 hi0 hi1 hlast;have w1:wrap64 (off+(k:Int))=i:=by rw[hI,w64 (by omega)]
   clear hI;have q1:wrap64 (Int.tdiv i 8)=i / 8:=by rw[Int.tdiv_eq_ediv_of_nonneg hi0,w64 (by omega)]
   have q2:IntKind.u64.wrap (wrap64 (Int.tmod i 8*8))=i % 8*8:=by rw[Int.tmod_eq_emod_of_nonneg hi0,w64 (by omega)];rw[Pl.u64w];omega
   obtain⟨ad,ea,hx⟩:=Kd.at_int (Kd.C_below HR.out HB.out) (i / 8) (by omega) (by omega);obtain⟨ad2,ea2,hy⟩:=Kd.at_int (Kd.C_below HR2.out HB.out) (k:Int) (by omega) (by omega);cases ea;cases ea2;simp only[Int.toNat_natCast]at hy;have p0:(0<=i / 8)=True:=eq_true (by omega);have p1:(i / 8<(v.length:Int))=True:=eq_true (by omega);have p2:(0<=i % 8*8)=True:=eq_true (by omega);have p3:(0<=(k:Int))=True:=eq_true (by omega);have p4:((k:Int)<(B.length:Int))=True:=eq_true (by omega);have hs8:i % 8*8<=56:=by omega
   generalize i / 8=q at *;generalize i % 8*8=s at *;obtain⟨Ao,co,eu⟩:=Kd.R_slice HO.out;subst eu;have hbs:∀ (y:List S160) (j:Nat),y.length=j+1->qeb y (rd B (k:Int)) s=y.set j ⟨(bw y (j:Int)).f0,Go.bits .or .u64 (Go.bits .andNot .u64 ((bw y (j:Int)).f1) (shl .u64 255 s)) (shl .u64 (IntKind.u64.wrap (rd B (k:Int))) s)⟩:=fun y j hy=>by unfold qeb;rw[show(y.length:Int)-1=(j:Int)by omega,Int.toNat_natCast]
   have HS64:Aside0 (s<=64/\0<=s):=⟨by omega,of_eq_true p2⟩;by_cases hb:acc=[]∨∃ pre x,acc=pre++[(⟨(i-1) / 8,x⟩:S160)]/\(i-1) / 8≠q
   ·have HE1:=am (s1 hb);obtain⟨acc1,hacc1⟩:∃ z,z=acc++[(⟨q,rd v q⟩:S160)]:=⟨_,rfl⟩;obtain⟨n1,hn1⟩:∃ n1,acc1.length=n1:=⟨_,rfl⟩;have hn2:n1=acc.length+1:=by rw[<-hn1,hacc1];simp
    rw[<-hacc1,hbs acc1 acc.length (by omega)]at HE1;have hcases:acc.length=0∨∃ m,acc.length=m+1/\((bw acc (m:Int)).f0 != q)=true:=by
     rcases hb with e|⟨pre,x,e,hne⟩
     ·exact .inl (by rw[e];rfl)
     ·refine .inr ⟨pre.length,by rw[e];simp,bne_iff_ne.mpr ?_⟩;rw[e,qce pre [] _];exact hne
    clear s1 s2 hb hlast hbs hi0 hi1 hs8 hlt h0 hn h2 hl hk;have HAc:=am hacc1;clear hacc1;have HN1:=am hn1;have HN2:=am hn2;have r7:wrap64 ((n1:Int)-1)=(acc.length:Int):=by have:=HLt.out;have:=HN.out;rw[w64 (by omega)];omega
    have p7:((acc.length:Int)<n1)=True:=eq_true (by omega);have p8:(0<=(acc.length:Int))=True:=eq_true (by omega);have HAl:=am hal;clear hn1 hn2 hal;rcases hcases with e0|⟨m,hm,hne⟩
    case' inl=>have d9:((acc.length:Int)==0)=true:=beq_iff_eq.mpr (by omega);have d9n:(acc.length==0)=true:=beq_iff_eq.mpr e0;clear e0
    case' inr=>
     obtain⟨g,cap,ev,hgr,hgl,_⟩:=Kd.R_form HO.out (by omega);cases ev;obtain⟨y0,y1,y2,hput⟩:=qjs HO.out m (by omega);generalize bw acc (m:Int)=x at y0 y1 hne;have d9:((acc.length:Int)==0)=false:=beq_eq_false_iff_ne.mpr (by omega);have d9n:(acc.length==0)=false:=beq_eq_false_iff_ne.mpr (by omega);have r6:wrap64 ((acc.length:Int)-1)=(m:Int):=by have:=HLt.out;have:=HN.out;have:=HAl.out;rw[w64 (by omega)];omega
     have p5:((m:Int)<acc.length)=True:=eq_true (by omega);have p6:(0<=(m:Int))=True:=eq_true (by omega);clear hm hgr hgl hput
    all_goals generalize hnn:acc.length=n at *
    all_goals go_wp2_with (first
     |((with_reducible refine di (b:=.append) (xs:=#[.tmp 53, .tmp 60]) rfl ?_);at_builtin;refine qmm ⟨q,rd v q⟩ rfl rfl rfl rfl HO.out HB.out (by have:=HAl.out;have:=HLt.out;have:=HN.out;omega) ?_;intro v5 w5 ho hb sp;rw[<-HAc.out]at ho;have HB5:=am hb;obtain⟨g5,cap5,e5,hgr5,_,_⟩:=Kd.R_form ho (by have:=HN1.out;have:=HN2.out;omega);subst e5;obtain⟨z0,z1,z2,hput5⟩:=qjs ho n (by have:=HN1.out;have:=HN2.out;omega);rw[HN1.out]at hput5 ⊢;have HPut5:=am hput5;have HGr5:=am hgr5;clear ho hb sp hput5 hgr5;generalize bw acc1 (n:Int)=x5 at z0 z1 HPut5 HE1))
    all_goals exact⟨⟨k+1,_,HWk.out,HLt.out,HE1,⟨HPut5.out _⟩,⟨bj HB5.out HGr5.out⟩⟩,HMs.out⟩
   ·have HE1:=am (s2 (by
     rcases hlast with⟨_,e⟩|⟨_,pre,x,e⟩
     ·exact absurd (.inl e) hb
     ·refine⟨pre,x,e,?_⟩;by_cases c:(i-1) / 8=q
      ·exact c
      ·exact absurd (.inr ⟨pre,x,e,c⟩) hb))
    obtain⟨m,hm,hq⟩:∃ m,acc.length=m+1/\(bw acc (m:Int)).f0=q:=by
     rcases hlast with⟨_,e⟩|⟨_,pre,x,e⟩
     ·exact absurd (.inl e) hb
     ·refine⟨pre.length,by rw[e];simp,?_⟩;rw[e,qce pre [] _];by_cases c:(i-1) / 8=q
      ·exact c
      ·exact absurd (.inr ⟨pre,x,e,c⟩) hb
    rw[hbs acc m hm]at HE1;obtain⟨g,cap,ev,hgr,hgl,_⟩:=Kd.R_form HO.out (by omega);cases ev;obtain⟨y0,y1,y2,hput⟩:=qjs HO.out m (by omega);generalize bw acc (m:Int)=x at *;rw[hq]at y0;have HPut:=am hput;have HQ:=am hq;have HM:=am hm;have HGr:=am hgr;have d9:((acc.length:Int)==0)=false:=beq_eq_false_iff_ne.mpr (by omega);have d9n:(acc.length==0)=false:=beq_eq_false_iff_ne.mpr (by omega);have d10:(q != q)=false:=bne_eq_false_iff_eq.mpr rfl;have r7:wrap64 ((acc.length:Int)-1)=(m:Int):=by have:=HLt.out;have:=HN.out;rw[w64 (by omega)];omega
    have p7:((m:Int)<acc.length)=True:=eq_true (by omega);have p8:(0<=(m:Int))=True:=eq_true (by omega);clear s1 s2 hb hlast hbs hi0 hi1 hs8 hlt h0 hn h2 hl hk hput hq hm hgr hgl hal;generalize acc.length=n at *;go_wp2;exact⟨⟨k+1,_,HWk.out,HLt.out,HE1,⟨HPut.out _⟩,⟨bj HB.out HGr.out⟩⟩,HMs.out⟩
  ·have hkk:k=B.length:=by omega
   subst hkk;have d3:decide ((B.length:Int)<B.length)=false:=ah (by omega);clear hlt h0 hn h2 hl;go_wp2;go_ret2;exact⟨_,_,rfl,HO.out,HE.out,HB.out⟩
section
variable{l:List S116}{words off:Int}
theorem qik(hV:HV l v words)(hg:∀ b∈l,0<=b.f0/\2<=b.f1/\b.f0+b.f1<=512)(hno:¬ ma l off B.length)(hr:Kd.C (Kd.int .u64) w A v.length v)(hc:v.length<=c):Calls Tryz.prog 115 #[.slice A v.length c, .int .i64 off, .slice A2 B.length c2] w fun e w'=>∃ u,e=.returned (.tuple #[u, .int .i64 1])/\Below w.heap.size w w':=by
 have HBl:=am (ki hV hr hc);have hlen:l.length<=1000:=by have:=j6 hV.1;omega
 have HW:Aside0 (∀ w' A' c',Kd.C e6 w' A' l.length l->Calls Tryz.prog 153 #[.slice A' l.length c', .int .i64 off, .int .i64 B.length] w' fun e w''=>e=.returned (.bool false)/\Below w'.heap.size w' w''):=
  ⟨fun w' A' c' h=>tj hg hlen ⟨fun h=>(by cases h),fun h=>absurd h hno⟩ h⟩
 clear hr hV hg hno hlen;go_enter Tryz.func115,Tryz.ntmps115;go_wp2_with (first
  |(go_at_call 72;refine HBl.out.mono ?_;rintro e w1 ⟨A',c',rfl,ho,hb⟩;have HO:=am ho;have HB1:=am hb;clear ho hb)
  |(go_at_call 153;refine(HW.out _ _ _ (Kd.R_reads' HO.out).2.2).mono ?_;rintro e w2 ⟨rfl,hb⟩;have HB2:=am (aa HB1.out hb);clear hb HB1))
 go_ret2;exact⟨_,rfl,HB2.out⟩
theorem qg0(hV:HV l v words)(hB:Bys B)(hg:∀ b∈l,0<=b.f0/\2<=b.f1/\b.f0+b.f1<=512)(hgv:∀ b∈l,b.f0+b.f1<=v.length)(hvl:v.length<=1000)(hin:ma l off B.length)(hr:Kd.C (Kd.int .u64) w A v.length v)(hc:v.length<=c)(hr2:Kd.C (Kd.int .u8) w A2 B.length B)(hc2:B.length<=c2):Calls Tryz.prog 115 #[.slice A v.length c, .int .i64 off, .slice A2 B.length c2] w fun e w'=>∃ u es,e=.returned (.tuple #[u, .int .i64 0])/\Kd.R jp 160 w' w.heap.size (fun _=>True) u es/\yf v B off es B.length/\Below w.heap.size w w':=by
 have HR:=am hr;have HR2:=am hr2;have HBl:=am (ki hV hr hc);have hlen:l.length<=1000:=by have:=j6 hV.1;omega
 have HW:Aside0 (∀ w' A' c',Kd.C e6 w' A' l.length l->Calls Tryz.prog 153 #[.slice A' l.length c', .int .i64 off, .int .i64 B.length] w' fun e w''=>e=.returned (.bool true)/\Below w'.heap.size w' w''):=
  ⟨fun w' A' c' h=>tj hg hlen ⟨fun _=>hin,fun _=>rfl⟩ h⟩
 have hb:0<=off/\off+B.length<=8*v.length/\B.length<=448:=by obtain⟨_,h0,b,hb,_,h1,h2⟩:=hin;have:=hg b hb;have:=hgv b hb;omega
 have HEd:Aside0 (∀ w',Kd.C (Kd.int .u64) w' A v.length v->Kd.C (Kd.int .u8) w' A2 B.length B->Calls Tryz.prog 154 #[.slice A v.length c, .int .i64 off, .slice A2 B.length c2] w' fun e w''=>∃ u es,e=.returned (.tuple #[u, .bool true])/\Kd.R jp 160 w'' w'.heap.size (fun _=>True) u es/\yf v B off es B.length/\Below w'.heap.size w' w''):=
  ⟨fun w' h1 h2=>qd2 hV.2.1 hB hb.1 hb.2.2 hb.2.1 hvl h1 hc h2 hc2⟩
 clear hr hr2 hV hg hgv hin hlen hvl hb hB;go_enter Tryz.func115,Tryz.ntmps115;go_wp2_with (first
  |(go_at_call 72;refine HBl.out.mono ?_;rintro e w1 ⟨A',c',rfl,ho,hb⟩;have HO:=am ho;have HB1:=am hb;clear ho hb)
  |(go_at_call 153;refine(HW.out _ _ _ (Kd.R_reads' HO.out).2.2).mono ?_;rintro e w2 ⟨rfl,hb⟩;have HB2:=am (aa HB1.out hb);clear hb HB1)
  |(go_at_call 154;refine(HEd.out _ (Kd.C_below HR.out HB2.out) (Kd.C_below HR2.out HB2.out)).mono ?_;rintro e w3 ⟨u,ys,rfl,ho,he,hb⟩;have HO3:=am (Kd.R_lower ho (bk HB2.out));have HE3:=am he;have HB3:=am (aa HB2.out hb);clear ho he hb HB2))
 go_ret2;exact⟨_,_,rfl,HO3.out,HE3.out,HB3.out⟩
end
end
end Go.Proofs.YtmfhaliclnnbaaaGreat.Sys
namespace Go.Proofs.YtmfhaliclnnbaaaGreat.Pl
open Go.RowKit Go.Proofs.YtmfhaliclnnbaaaGreatW.PrintWords Go.Proofs.YtmfhaliclnnbaaaGreatW.PrintLast Go.Proofs.YtmfhaliclnnbaaaGreatW.PrintMore Go.Proofs.YtmfhaliclnnbaaaGreat.XTopWhole
set_option linter.unusedVariables false
set_option linter.unusedSimpArgs false
set_option maxRecDepth 100000
set_option maxHeartbeats 8000000
theorem qqv{t:List Int}{s r:Int}(hm:qbv t s)(h0:0<=r)(hz:rd t r=0)(d:Nat):∀ j:Int,j=r+d->j<t.length->rd t j=0:=by
 induction d with
 |zero=>intro j h1 h2;rw[show j=r from by omega];exact hz
 |succ d ih=>
  intro j h1 h2;have h3:=ih (j-1) (by omega) (by omega);have h4:=(hm.2 j (by omega) h2).2 (by omega);by_cases h5:rd t j=0
  ·exact h5
  ·exact absurd h3 (h4 h5)
theorem qpb{t:List Int}{s r v:Int}(hm:qbv t s)(h0:0<=r)(h1:r<t.length)(_hz:rd t r=0)(hn:∀ j:Int,0<=j->j<r->rd t j≠0)(hv:0<v)(hv2:v<=s+1):qbv (t.set r.toNat v) s:=by
 refine⟨hm.1,fun j j0 j1=>?_⟩;rw[List.length_set]at j1;have hg:=hm.2 j j0 j1;constructor
 ·rw[mc _ _ (by omega)];by_cases c:j.toNat=r.toNat
  ·rw[if_pos c];exact hv2
  ·rw[if_neg c];exact hg.1
 ·intro hj;rw[mc _ _ (by omega),mc _ _ (by omega)];by_cases c2:(j-1).toNat=r.toNat
  ·rw[if_pos c2];intro _;omega
  ·rw[if_neg c2];by_cases c:j.toNat=r.toNat
   ·intro _;exact hn (j-1) (by omega) (by omega)
   ·rw[if_neg c];exact hg.2 hj
theorem qly{t:List Int}{s b q v:Int}{r:Nat}(hr:r<t.length)(hp:qt t s b q)(hv:v≠b+1)(hz:rd t r≠b+1):qt (t.set r v) s b q:=by
 have key:∀ j:Int,0<=j->(rd (t.set r v) j=b+1<->rd t j=b+1):=by
  intro j j0;rw[mc _ _ hr];by_cases c:j.toNat=r
  ·rw[if_pos c];have:j=(r:Int):=by omega
   rw[this];exact⟨fun h=>absurd h hv,fun h=>absurd h hz⟩
  ·rw[if_neg c]
 rcases hp with⟨i,i0,i1,i2,i3,i4⟩|⟨i0,i1⟩
 ·exact Or.inl ⟨i,i0,by rw[List.length_set];exact i1,(key i i0).2 i2,fun j j0 j1 h=>i3 j j0 (by rw[List.length_set]at j1;exact j1) ((key j (by omega)).1 h),i4⟩
 ·exact Or.inr ⟨fun j j0 j1 h=>i0 j j0 (by rw[List.length_set]at j1;exact j1) ((key j j0).1 h),i1⟩
theorem qey{n m l:Int}(h:pq n m)(h0:0<=l)(h1:l<n):qqg n m (jb n m l)=l:=by
 have ht:=qkn h;have e:((l+kg n m) % n+n-kg n m) % n=l:=by rw[show(l+kg n m) % n+n-kg n m=(l+kg n m) % n+(n-kg n m)from by omega,Int.emod_add_emod,show l+kg n m+(n-kg n m)=l+n from by omega,Int.add_emod_right];exact Int.emod_eq_of_lt h0 h1
 unfold qqg jb;by_cases hc:ku n m<=(l+kg n m) % n
 ·rw[if_pos hc,if_pos (by omega),show(l+kg n m) % n+1-1+n-kg n m=(l+kg n m) % n+n-kg n m from by omega];exact e
 ·rw[if_neg hc,if_neg (by omega)];exact e
theorem qn6{n m l:Int}(h:pq n m):0<=jb n m l/\jb n m l<=n/\jb n m l≠ku n m:=by
 have hp:=qed (m:=l+kg n m) (n:=n) h.1;have hg:=vz h;unfold jb;by_cases hc:ku n m<=(l+kg n m) % n
 ·rw[if_pos hc];omega
 ·rw[if_neg hc];omega
theorem qm1{n m fr:Int}(M:pq n m)(hfr:fr=if ku n m=0 then n else ku n m-1):ku n (m+1)=fr∧∀ l,0<=l->l<n->(jb n m l=fr->jb n (m+1) l=ku n m)/\(jb n m l≠fr->jb n m l=jb n (m+1) l):=by
 have hn:1<=n/\n<=100000:=⟨M.1,M.2.1⟩;have hg:=vz M;have hr:=qed (m:=m) (n:=n+1) (by omega);by_cases hc:m % (n+1)+1<=n
 ·obtain⟨e1,e2⟩:=qp0 hn.1 (show(0:Int)<=1 by omega) hc;have hg0:ku n m≠0:=by unfold ku;omega
  rw[if_neg hg0]at hfr;have e3:ku n (m+1)=fr:=by rw[hfr];unfold ku;rw[e1];omega
  refine⟨e3,fun l h0 h1=>?_⟩;have hp:=qqn (m:=m) (l:=l) hn.1;rw[qam n m l,qam n (m+1) l,e2 l,e1];unfold ku at hfr ⊢;by_cases c1:n-m % (n+1)<=ww n m l
  ·rw[if_pos c1,if_pos (by omega)];omega
  ·rw[if_neg c1];by_cases c2:n-(m % (n+1)+1)<=ww n m l
   ·rw[if_pos c2];omega
   ·rw[if_neg c2];omega
 ·obtain⟨e1,e2⟩:=qp1 hn.1 (Int.not_le.1 hc) (show(1:Int)<=n+1 by omega);have hg0:ku n m=0:=by unfold ku;omega
  rw[if_pos hg0]at hfr;have e3:ku n (m+1)=fr:=by rw[hfr];unfold ku;rw[e1];omega
  refine⟨e3,fun l h0 h1=>?_⟩;have hp:=qqn (m:=m) (l:=l) hn.1;rw[hg0,qam n m l,qam n (m+1) l,e2 l,e1,if_pos (show n-m % (n+1)<=ww n m l by omega)];by_cases c1:ww n m l+1=n
  ·rw[if_pos c1,if_neg (by omega)];omega
  ·rw[if_neg c1,if_neg (by omega)];omega
theorem qn5{n m l k:Int}(M:pq n m)(h0:0<=l)(h1:l<n)(k0:0<=k)(k1:k<n)(e:jb n m l=jb n m k):l=k:=by
 have:=qey M h0 h1;rw[e,qey M k0 k1]at this;exact this.symm
theorem qdh{t:List Int}{s b v:Int}{r:Nat}(hr:r<t.length)(hz:rd t r=0)(hb:0<=b)(hv:v≠b+1):ia (t.set r v) s b=ia t s b:=
 xx (oe _ _ _) (qly hr (oe t s b) hv (by omega))
theorem qjr{t:List Int}{s a:Int}{r:Nat}(hr:r<t.length)(hz:∀ j:Int,(r:Int)<j->j<t.length->rd t j=0)(ha:0<=a):ia (t.set r (a+1)) s a=s+r:=by
 refine xx (oe _ _ _) (.inl ⟨r,by omega,by rw[List.length_set];omega,by rw[mc _ _ hr,if_pos (by omega)],fun j j0 j1=>?_,rfl⟩);rw[List.length_set]at j1;rw[mc _ _ hr,if_neg (by omega),hz j j0 j1];omega
theorem qjq{t:List Int}{s a:Int}{r:Nat}(hz:rd t r=0)(ha:0<=a)(has:a<s):ia t s a≠s+r:=by
 rcases oe t s a with⟨i,i0,i1,i2,i3,i4⟩|⟨_,i1⟩
 ·intro e;have:i=r:=by omega
  rw[this,hz]at i2;omega
 ·omega
theorem qpr{t:List Int}{s a:Int}(ha:0<=a)(has:a<s):0<=ia t s a/\ia t s a<s+t.length:=by
 rcases oe t s a with⟨i,i0,i1,i2,i3,i4⟩|⟨_,i1⟩ <;> omega
theorem qlx{t:List Int}{s a b:Int}(ha:0<=a/\a<s)(hb:0<=b/\b<s):ia t s a=ia t s b<->a=b:=qnt ha hb (oe t s a) (oe t s b)
end Go.Proofs.YtmfhaliclnnbaaaGreat.Pl
namespace Go.Proofs.YtmfhaliclnnbaaaGreat.Sys
open Go.RowKit Go.Proofs.YtmfhaliclnnbaaaGreatW.PrintWords Go.Proofs.YtmfhaliclnnbaaaGreatW.PrintLast Go.Proofs.YtmfhaliclnnbaaaGreatW.PrintMore
open Go.Proofs.YtmfhaliclnnbaaaGreat.XTopWhole Go.Proofs.YtmfhaliclnnbaaaGreat.Pl Go.Maps
set_option linter.unusedVariables false
set_option linter.unusedSimpArgs false
set_option maxRecDepth 100000
set_option maxHeartbeats 8000000
def W64(l:List Int):Prop:=l.length=8∧∀ x∈l,0<=x/\x<=18446744073709551615
def lnC(m:Mem)(i:Nat):List Int:=(m.cells.getD i ⟨zL,0,0⟩).line
def gp(m:Mem)(i:Nat):Int:=(m.cells.getD i ⟨zL,0,-1⟩).limit
theorem qke{m:Mem}{i:Nat}(h:i<m.cells.length):gp m i=(m.cells.getD i ⟨zL,0,0⟩).limit:=by
 unfold gp;rw[ax,ax,bx h];rfl
theorem qqs:W64 zL:=⟨rfl,by decide⟩
theorem W64.get{l:List Int}(h:W64 l)(j:Nat):0<=l.getD j 0/\l.getD j 0<=18446744073709551615:=by
 rw[ax];by_cases hj:j<l.length
 ·rw[bx hj];exact h.2 _ (List.getElem_mem hj)
 ·rw[List.getElem?_eq_none (by omega)];decide
theorem qpe{old now:List Int}(ho:W64 old)(hn:W64 now)(mask:Int):W64 (mix old now mask):=by
 refine⟨mz _ _ _ _,fun x hx=>?_⟩;unfold mix nl at hx;obtain⟨j,_,rfl⟩:=List.mem_map.1 hx;split
 ·exact hn.get j
 ·exact ho.get j
theorem qne:∀ j,j<8->qjj (-1) j=true:=by decide
theorem qpd{old now:List Int}(hn:now.length=8):mix old now (-1)=now:=by
 obtain⟨a,b,c,d,e,f,g,i,rfl⟩:=qhr hn;have h:mix old [a,b,c,d,e,f,g,i] (-1)=(List.range 8).map fun j=>[a,b,c,d,e,f,g,i].getD j 0:=by unfold mix nl;refine List.map_congr_left (fun j hj=>?_);have hj:=List.mem_range.1 hj;rw[if_pos (by rw[qne j hj];simp[hj])]
 rw[h];rfl
structure PutR (m m':Mem) (i:Nat) (l:List Int) (e:Int):Prop where
 len:m'.cells.length=m.cells.length
 regs:m'.regs=m.regs
 oth:∀ j,j≠i->lnC m' j=lnC m j
 lim:∀ j,gp m' j=gp m j
 cut:m.cut<0->m'.cut=m.cut
 res:(e=0/\m'.down=false/\lnC m' i=l)\/(e=3/\m'.down=false/\lnC m' i=lnC m i/\0<=gp m i)\/(e=2/\m'.down=true/\W64 (lnC m' i)/\0<=m.cut)
structure SetR (m m':Mem) (i:Nat) (v:Int) (e:Int):Prop where
 cells:m'.cells=m.cells
 cut:m.cut<0->m'.cut=m.cut
 res:(e=0/\m'.down=false/\m'.regs=m.regs.set i v)\/(e=2/\m'.down=true/\(m'.regs=m.regs\/m'.regs=m.regs.set i v)/\0<=m.cut)
theorem qie{m:Mem}(hd:m.down=false):((Nvm.write m).1= -1/\(Nvm.write m).2.down=false)\/((Nvm.write m).2.down=true/\0<=m.cut):=by
 unfold Nvm.write;by_cases c:m.cut=0
 ·rw[if_pos c];exact .inr ⟨rfl,by omega⟩
 ·rw[if_neg c];by_cases c1:m.cut>0
  ·rw[if_pos c1];exact .inl ⟨rfl,hd⟩
  ·rw[if_neg c1];exact .inl ⟨rfl,hd⟩
theorem qa9{m:Mem}(h:m.cut<0):(Nvm.write m).2.cut=m.cut:=by
 unfold Nvm.write;rw[if_neg (by omega),if_neg (by omega)]
theorem yj{l:List Cell}{i:Nat}{c d:Cell}(h:i<l.length):(l.set i c).getD i d=c:=by
 rw[ax,List.getElem?_set_self h];rfl
theorem getD_set_ne{l:List Cell}{i j:Nat}{c d:Cell}(h:j≠i):(l.set i c).getD j d=l.getD j d:=by
 rw[ax,ax,List.getElem?_set_ne (fun e=>h e.symm)]
theorem qnw{m:Mem}{i:Int}{l:List Int}(hd:m.down=false)(h0:0<=i)(h1:i<m.cells.length)(hl:W64 l)(ho:W64 (lnC m i.toNat)):PutR m (Nvm.put m i l).2 i.toNat l (Nvm.put m i l).1:=by
 have hh:Nvm.has m i=true:=by unfold Nvm.has;simp;omega
 have hlt:i.toNat<m.cells.length:=by omega
 have hwc:=xf m;have hwr:=pi m;have hwt:∀ h:m.cut<0,(Nvm.write m).2.cut=m.cut:=qa9;have hwu:=qie hd;unfold Nvm.put;rw[if_pos hh,hd];simp only[Bool.false_eq_true,if_false];by_cases cw:Nvm.worn m i.toNat=true
 ·rw[if_pos cw];have hlim:0<=gp m i.toNat:=by
   rw[qke hlt];unfold Nvm.worn at cw;simp only[Bool.and_eq_true,decide_eq_true_eq]at cw;exact cw.1
  refine⟨by rw[hwc],hwr,fun j _=>by unfold lnC;rw[hwc],fun j=>by unfold gp;rw[hwc],hwt,?_⟩;have hs:lnC (Nvm.write m).2 i.toNat=lnC m i.toNat:=by unfold lnC;rw[hwc]
  unfold Nvm.told;rcases hwu with⟨_,h2⟩|⟨h2,h3⟩
  ·rw[h2];exact .inr (.inl ⟨rfl,rfl,hs,hlim⟩)
  ·rw[h2];exact .inr (.inr ⟨rfl,rfl,by rw[hs];exact ho,h3⟩)
 ·rw[if_neg cw];have hc:(Nvm.hit (Nvm.write m).2 i.toNat l (Nvm.write m).1).cells=m.cells.set i.toNat ⟨mix (lnC m i.toNat) l (Nvm.write m).1,wrap64 ((m.cells.getD i.toNat ⟨zL,0,0⟩).wear+1),gp m i.toNat⟩:=by
   rw[qke hlt];unfold Nvm.hit lnC;rw[hwc]
  refine⟨by rw[hc,List.length_set],hwr,fun j hj=>by unfold lnC;rw[hc,getD_set_ne hj],fun j=>?_,hwt,?_⟩
  ·unfold gp;rw[hc];by_cases e:j=i.toNat
   ·subst e;rw[yj hlt];rfl
   ·rw[getD_set_ne e]
  ·have hs:lnC (Nvm.hit (Nvm.write m).2 i.toNat l (Nvm.write m).1) i.toNat=mix (lnC m i.toNat) l (Nvm.write m).1:=by
    unfold lnC;rw[hc,yj hlt];rfl
   have hdn:(Nvm.hit (Nvm.write m).2 i.toNat l (Nvm.write m).1).down=(Nvm.write m).2.down:=rfl;unfold Nvm.told;rw[hdn];rcases hwu with⟨h1,h2⟩|⟨h2,h3⟩
   ·rw[h2];exact .inl ⟨rfl,rfl,by rw[hs,h1,qpd hl.1]⟩
   ·rw[h2];exact .inr (.inr ⟨rfl,rfl,by rw[hs];exact qpe ho hl _,h3⟩)
theorem qmn:Nvm.bit0 (-1)=true:=by decide
theorem zm{m:Mem}{i:Int}{v:Int}(hd:m.down=false)(h0:0<=i)(h1:i<35):SetR m (Nvm.set m i v).2 i.toNat v (Nvm.set m i v).1:=by
 have hh:Nvm.hasReg i=true:=by unfold Nvm.hasReg;simp;omega
 have hwc:=xf m;have hwr:=pi m;have hwu:=qie hd;unfold Nvm.set;rw[if_pos hh,hd];simp only[Bool.false_eq_true,if_false];by_cases cb:Nvm.bit0 (Nvm.write m).1=true
 ·rw[if_pos cb];refine⟨hwc,fun h=>qa9 h,?_⟩;have hr:(Nvm.setReg (Nvm.write m).2 i v).regs=m.regs.set i.toNat v:=by unfold Nvm.setReg;rw[hwr]
  have hdn:(Nvm.setReg (Nvm.write m).2 i v).down=(Nvm.write m).2.down:=rfl;unfold Nvm.told;rw[hdn];rcases hwu with⟨_,h2⟩|⟨h2,h3⟩
  ·rw[h2];exact .inl ⟨rfl,rfl,hr⟩
  ·rw[h2];exact .inr ⟨rfl,rfl, .inr hr,h3⟩
 ·rw[if_neg cb];refine⟨hwc,fun h=>qa9 h,?_⟩;unfold Nvm.told;rcases hwu with⟨h1,h2⟩|⟨h2,h3⟩
  ·rw[h1]at cb;exact absurd qmn cb
  ·rw[h2];exact .inr ⟨rfl,rfl, .inl hwr,h3⟩
structure LOk (slots:Int) (spares:Nat) (m:Mem):Prop where
 s1:1<=slots
 s2:slots<=2000
 sp:spares<=16
 len:(m.cells.length:Int)=slots+spares
 val:∀ i,i<m.cells.length->W64 (lnC m i)
 rlen:m.regs.length=35
 regs:gf m
 may:qbv (Lns.tableTo m spares) slots
def slc(slots:Int)(spares:Nat)(m:Mem)(k:Int):List Int:=lnC m (ia (Lns.tableTo m spares) slots k).toNat
theorem pf{m m':Mem}(h:m'.regs=m.regs)(k:Nat):Lns.tableTo m' k=Lns.tableTo m k:=by unfold Lns.tableTo;rw[h]
theorem qmb{m m':Mem}{i:Nat}{v:Int}(hl:m.regs.length=35)(h:m'.regs=m.regs.set (3+i) v){k:Nat}(hi:i<k)(hk:k<=16):Lns.tableTo m' k=(Lns.tableTo m k).set i v:=by
 unfold Lns.tableTo;rw[h];refine List.ext_getElem (by simp) (fun j h1 h2=>?_);rw[List.getElem_set];simp only[List.getElem_map,List.getElem_range];simp at h1;by_cases e:i=j
 ·subst e;rw[if_pos rfl,ax,List.getElem?_set_self (by omega)];rfl
 ·rw[if_neg e,ax,List.getElem?_set_ne (by omega),ax]
section
variable{slots:Int}{spares:Nat}{m m':Mem}{slot:Int}{d:List Int}
theorem LOk.place(h:LOk slots spares m){k:Int}(h0:0<=k)(h1:k<slots):0<=ia (Lns.tableTo m spares) slots k/\ia (Lns.tableTo m spares) slots k<m.cells.length:=by
 have:=qpr (t:=Lns.tableTo m spares) h0 h1;rw[fx]at this;have:=h.len;omega
theorem LOk.slotW(h:LOk slots spares m){k:Int}(h0:0<=k)(h1:k<slots):W64 (slc slots spares m k):=by
 have:=h.place h0 h1;exact h.val _ (by omega)
theorem LOk.put(h:LOk slots spares m){i:Nat}{l:List Int}{e:Int}(hl:W64 l)(hp:PutR m m' i l e):LOk slots spares m':=by
 refine⟨h.s1,h.s2,h.sp,by rw[hp.len];exact h.len,fun j hj=>?_,by rw[hp.regs];exact h.rlen,h.regs.of hp.regs,by rw[pf hp.regs];exact h.may⟩;rw[hp.len]at hj;by_cases e1:j=i
 ·subst e1;rcases hp.res with⟨_,_,e⟩|⟨_,_,e,_⟩|⟨_,_,e,_⟩
  ·rw[e];exact hl
  ·rw[e];exact h.val _ hj
  ·exact e
 ·rw[hp.oth j e1];exact h.val _ hj
structure LPutR (slots:Int) (spares:Nat) (m m':Mem) (slot:Int) (d:List Int) (e:Int):Prop where
 ok:LOk slots spares m'
 oth:∀ k,0<=k->k<slots->k≠slot->slc slots spares m' k=slc slots spares m k
 lim:∀ j,gp m' j=gp m j
 cut:m.cut<0->m'.cut=m.cut
 regs:∀ j,(j<3\/19<=j)->m'.regs.getD j 0=m.regs.getD j 0
 res:(e=0/\m'.down=false/\slc slots spares m' slot=d)\/(e=3/\m'.down=false/\slc slots spares m' slot=slc slots spares m slot)\/(e=2/\m'.down=true/\0<=m.cut)
theorem mo{m m':Mem}(h:m'.cells=m.cells)(j:Nat):gp m' j=gp m j:=by unfold gp;rw[h]
theorem ru{m m':Mem}(h:m'.cells=m.cells)(j:Nat):lnC m' j=lnC m j:=by unfold lnC;rw[h]
theorem jz{m m':Mem}{i:Nat}{v:Int}(h:m'.regs=m.regs.set i v){j:Nat}(hj:j≠i):m'.regs.getD j 0=m.regs.getD j 0:=by
 rw[h,ax,List.getElem?_set_ne (fun e=>hj e.symm),ax]
theorem LOk.setReg(h:LOk slots spares m){i:Nat}{v e:Int}(hs:SetR m m' i v e)(h0:0<=v)(h1:v<=18446744073709551615)(hm:qbv (Lns.tableTo m' spares) slots):LOk slots spares m':=by
 have hr:m'.regs=m.regs\/m'.regs=m.regs.set i v:=by
  rcases hs.res with⟨_,_,e⟩|⟨_,_,e,_⟩
  ·exact .inr e
  ·exact e
 refine⟨h.s1,h.s2,h.sp,by rw[hs.cells];exact h.len,fun j hj=>by rw[ru hs.cells];exact h.val _ (by rw[hs.cells]at hj;exact hj),?_,?_,hm⟩
 ·rcases hr with e|e <;> rw[e]
  ·exact h.rlen
  ·rw[List.length_set];exact h.rlen
 ·rcases hr with e|e
  ·exact h.regs.of e
  ·exact h.regs.set e h0 h1
theorem LOk.setTab(h:LOk slots spares m){i:Nat}{v e:Int}(hi:i<spares)(hs:SetR m m' (3+i) v e)(h0:0<v)(h1:v<=slots+1)(hz:rd (Lns.tableTo m spares) i=0)(hn:∀ j:Int,0<=j->j<i->rd (Lns.tableTo m spares) j≠0):LOk slots spares m'∧(Lns.tableTo m' spares=Lns.tableTo m spares\/Lns.tableTo m' spares=(Lns.tableTo m spares).set i v)/\(e=0->Lns.tableTo m' spares=(Lns.tableTo m spares).set i v):=by
 have ht:(e=0/\m'.regs=m.regs.set (3+i) v)\/(e=2/\(m'.regs=m.regs\/m'.regs=m.regs.set (3+i) v)):=by
  rcases hs.res with⟨e0,_,e⟩|⟨e2,_,e,_⟩
  ·exact .inl ⟨e0,e⟩
  ·exact .inr ⟨e2,e⟩
 have hset:m'.regs=m.regs.set (3+i) v->Lns.tableTo m' spares=(Lns.tableTo m spares).set i v:=fun e=>qmb h.rlen e hi h.sp;have hT:Lns.tableTo m' spares=Lns.tableTo m spares\/Lns.tableTo m' spares=(Lns.tableTo m spares).set i v:=by
  rcases ht with⟨_,e⟩|⟨_,e|e⟩
  ·exact .inr (hset e)
  ·exact .inl (pf e _)
  ·exact .inr (hset e)
 refine⟨h.setReg hs (by omega) (by have:=h.s2;omega) ?_,hT,fun e0=>?_⟩
 ·rcases hT with e|e
  ·rw[e];exact h.may
  ·rw[e];have:=qpb h.may (r:=(i:Int)) (by omega) (by rw[fx];omega) hz hn h0 h1
   rwa[Int.toNat_natCast]at this
 ·rcases ht with⟨_,e⟩|⟨e2,_⟩
  ·exact hset e
  ·omega
theorem qdk(h0:0<=slot)(h1:slot<slots)(hd:W64 d):∀ (n i:Nat) (m:Mem),LOk slots spares m->m.down=false->i+n=spares->(∀ j:Int,0<=j->j<i->rd (Lns.tableTo m spares) j≠0)->(∀ j:Int,(i:Int)<=j->j<spares->rd (Lns.tableTo m spares) j=0)→
  LPutR slots spares m (Lns.putLoop slots slot d n i m).2 slot d (Lns.putLoop slots slot d n i m).1
 |0,i,m,h,hu,hin,hn,hz=>⟨h,fun _ _ _ _=>rfl,fun _=>rfl,fun _=>rfl,fun _ _=>rfl, .inr (.inl ⟨rfl,hu,rfl⟩)⟩
 | n + 1, i, m, h, hu, hin, hn, hz => by
  have hs1:=h.s1
  have hs2:=h.s2
  have hsp:=h.sp
  have hi:i<spares:=by omega
  have hlen:=h.len
  have hP:=qnw (m:=m) (i:=slots+i) (l:=d) hu (by omega) (by omega) hd (h.val _ (by omega))
  have hzi:=hz i (by omega) (by omega)
  have hfree:∀ k,0<=k->k<slots->(ia (Lns.tableTo m spares) slots k).toNat≠(slots+(i:Int)).toNat:=fun k k0 k1 e=>by
   have:=qjq (r:=i) hzi k0 k1
   have:=h.place k0 k1
   omega
  unfold Lns.putLoop
  generalize hr1:Nvm.put m (slots+i) d=r1 at hP
  obtain⟨e1,m1⟩:=r1
  have L1:=h.put hd hP
  have hT1:=pf (k:=spares) hP.regs
  have hsl1:∀ k,0<=k->k<slots->slc slots spares m1 k=slc slots spares m k:=fun k k0 k1=>by
   unfold slc
   rw[hT1]
   exact hP.oth _ (hfree k k0 k1)
  have hl1:W64 (lnC m1 (slots+(i:Int)).toNat):=L1.val _ (by have:=L1.len;omega)
  dsimp only at hP ⊢
  by_cases c0:e1=0
  ·rw[if_pos c0]
   have hd1:m1.down=false/\lnC m1 (slots+(i:Int)).toNat=d:=by
    rcases hP.res with⟨_,e⟩|⟨e,_⟩|⟨e,_⟩
    ·exact e
    ·omega
    ·omega
   have hS:=zm (m:=m1) (i:=3+(i:Int)) (v:=slot+1) hd1.1 (by omega) (by omega)
   rw[show(3+(i:Int)).toNat=3+i by omega]at hS
   generalize Nvm.set m1 (3+(i:Int)) (slot+1)=r2 at hS
   obtain⟨e2,m2⟩:=r2
   dsimp only at hS ⊢
   obtain⟨L2,hT2,hT2'⟩:=L1.setTab hi hS (by omega) (by omega) (by rw[hT1];exact hzi) (by rw[hT1];exact hn)
   refine⟨L2,fun k k0 k1 hk=>?_,fun j=>by rw[mo hS.cells,hP.lim],fun hc=>by rw[hS.cut (by rw[hP.cut hc];exact hc),hP.cut hc],fun j hj=>?_,?_⟩
   ·rw[<-hsl1 k k0 k1]
    unfold slc
    rw[ru hS.cells]
    rcases hT2 with e|e
    ·rw[e]
    ·rw[e,qdh (by rw[fx];exact hi) (by rw[hT1];exact hzi) k0 (by omega)]
   ·rw[<-show m1.regs.getD j 0=m.regs.getD j 0 by rw[hP.regs]]
    rcases hS.res with⟨_,_,e⟩|⟨_,_,e|e,_⟩
    ·exact jz e (by omega)
    ·rw[e]
    ·exact jz e (by omega)
   ·rcases hS.res with⟨e,u,_⟩|⟨e,u,_,c⟩
    ·refine .inl ⟨e,u,?_⟩
     unfold slc
     rw[hT2' e,hT1,qjr (by rw[fx];exact hi) (fun j j0 j1=>hz j (by omega) (by rw[fx]at j1;exact j1)) h0,ru hS.cells]
     exact hd1.2
    ·exact .inr (.inr ⟨e,u,by rcases Int.lt_or_le m.cut 0 with hc|hc;rw[hP.cut hc]at c;omega;exact hc⟩)
  ·rw [if_neg c0]
   by_cases c3:e1=3
   ·rw[if_pos c3]
    have hd1:m1.down=false:=by
     rcases hP.res with⟨e,_⟩|⟨_,e,_⟩|⟨e,_⟩
     ·omega
     ·exact e
     ·omega
    have hS:=zm (m:=m1) (i:=3+(i:Int)) (v:=slots+1) hd1 (by omega) (by omega)
    rw[show(3+(i:Int)).toNat=3+i by omega]at hS
    generalize hr2:Nvm.set m1 (3+(i:Int)) (slots+1)=r2 at hS
    obtain⟨e2,m2⟩:=r2
    dsimp only at hS ⊢
    obtain⟨L2,hT2,hT2'⟩:=L1.setTab hi hS (by omega) (by omega) (by rw[hT1];exact hzi) (by rw[hT1];exact hn)
    have hsl2:∀ k,0<=k->k<slots->slc slots spares m2 k=slc slots spares m k:=fun k k0 k1=>by
     rw[<-hsl1 k k0 k1]
     unfold slc
     rw[ru hS.cells]
     rcases hT2 with e|e
     ·rw[e]
     ·rw[e,qdh (by rw[fx];exact hi) (by rw[hT1];exact hzi) k0 (by omega)]
    have hcut2:m.cut<0->m2.cut=m.cut:=fun hc=>by rw[hS.cut (by rw[hP.cut hc];exact hc),hP.cut hc]
    have hreg2:∀ j,(j<3\/19<=j)->m2.regs.getD j 0=m.regs.getD j 0:=fun j hj=>by
     rw[<-show m1.regs.getD j 0=m.regs.getD j 0 by rw[hP.regs]]
     rcases hS.res with⟨_,_,e⟩|⟨_,_,e|e,_⟩
     ·exact jz e (by omega)
     ·rw[e]
     ·exact jz e (by omega)
    have hlim2:∀ j,gp m2 j=gp m j:=fun j=>by rw[mo hS.cells,hP.lim]
    by_cases c2:e2=0
    ·rw[if_pos c2]
     have hd2:m2.down=false:=by
      rcases hS.res with⟨_,e,_⟩|⟨e,_⟩
      ·exact e
      ·omega
     have hT:=hT2' c2
     have hrd:∀ j:Int,rd (Lns.tableTo m2 spares) j=if j.toNat=i then slots+1 else rd (Lns.tableTo m spares) j:=fun j=>by
      rw[hT,mc _ _ (by rw[fx];exact hi),hT1]
     have ih:=qdk h0 h1 hd n (i+1) m2 L2 hd2 (by omega) (fun j j0 j1=>by
      rw[hrd]
      by_cases e:j.toNat=i
      ·rw[if_pos e];omega
      ·rw[if_neg e];exact hn j j0 (by omega)) (fun j j0 j1=>by
      rw[hrd,if_neg (by omega)]
      exact hz j (by omega) j1)
     refine⟨ih.ok,fun k k0 k1 hk=>by rw[ih.oth k k0 k1 hk,hsl2 k k0 k1],fun j=>by rw[ih.lim,hlim2],fun hc=>by rw[ih.cut (by rw[hcut2 hc];exact hc),hcut2 hc],fun j hj=>by rw[ih.regs j hj,hreg2 j hj],?_⟩
     rcases ih.res with e|⟨e,u,x⟩|⟨e,u,x⟩
     ·exact .inl e
     ·exact .inr (.inl ⟨e,u,by rw[x,hsl2 slot h0 h1]⟩)
     ·exact .inr (.inr ⟨e,u,by rcases Int.lt_or_le m.cut 0 with hc|hc;rw[hcut2 hc]at x;omega;exact hc⟩)
    ·rw[if_neg c2]
     have he2:e2=2/\m2.down=true/\0<=m1.cut:=by
      rcases hS.res with⟨e,_⟩|⟨e,u,_,c⟩
      ·exact absurd e c2
      ·exact⟨e,u,c⟩
     exact⟨L2,fun k k0 k1 _=>hsl2 k k0 k1,hlim2,hcut2,hreg2, .inr (.inr ⟨he2.1,he2.2.1,by rcases Int.lt_or_le m.cut 0 with hc|hc;(have:=hP.cut hc;omega);exact hc⟩)⟩
   ·rw[if_neg c3]
    have he:e1=2/\m1.down=true/\0<=m.cut:=by
     rcases hP.res with⟨e,_⟩|⟨e,_⟩|⟨e,u,_,c⟩
     ·exact absurd e c0
     ·exact absurd e c3
     ·exact⟨e,u,c⟩
    exact⟨L1,fun k k0 k1 _=>hsl1 k k0 k1,hP.lim,hP.cut,fun j _=>by rw[hP.regs], .inr (.inr he)⟩
theorem qkf(h:LOk slots spares m)(hu:m.down=false)(h0:0<=slot)(h1:slot<slots)(hd:W64 d):LPutR slots spares m (Lns.put m slots spares slot d).2 slot d (Lns.put m slots spares slot d).1/\((Lns.put m slots spares slot d).1=3→∃ j,0<=gp m j):=by
 have hp:=h.place h0 h1;have hP:=qnw (m:=m) (l:=d) hu hp.1 hp.2 hd (h.val _ (by omega));unfold Lns.put;rw[hu];simp only[Bool.false_eq_true,if_false];generalize Nvm.put m (ia (Lns.tableTo m spares) slots slot) d=r1 at hP;obtain⟨e1,m1⟩:=r1;dsimp only at hP ⊢;have L1:=h.put hd hP;have hT1:=pf (k:=spares) hP.regs;have hoth:∀ k,0<=k->k<slots->k≠slot->slc slots spares m1 k=slc slots spares m k:=fun k k0 k1 hk=>by unfold slc;rw[hT1];refine hP.oth _ (fun e=>hk ((qlx (t:=Lns.tableTo m spares) ⟨k0,k1⟩ ⟨h0,h1⟩).1 ?_));have:=h.place k0 k1;omega
 have base:LPutR slots spares m m1 slot d e1:=by
  refine⟨L1,hoth,hP.lim,hP.cut,fun j _=>by rw[hP.regs],?_⟩;rcases hP.res with⟨e,u,x⟩|⟨e,u,x,_⟩|⟨e,u,_,c⟩
  ·exact .inl ⟨e,u,by unfold slc;rw[hT1];exact x⟩
  ·exact .inr (.inl ⟨e,u,by unfold slc;rw[hT1];exact x⟩)
  ·exact .inr (.inr ⟨e,u,c⟩)
 by_cases c3:e1=3
 ·rw [if_pos c3];have hx : m1.down = false ∧ slc slots spares m1 slot = slc slots spares m slot ∧ 0 ≤ gp m (ia (Lns.tableTo m spares) slots slot).toNat := by
   rcases hP.res with⟨e,_⟩|⟨_,u,x,y⟩|⟨e,_⟩
   ·omega
   ·exact⟨u,by unfold slc;rw[hT1];exact x,y⟩
   ·omega
  by_cases cn:sj (Lns.tableTo m spares)<0
  ·rw[if_pos cn];exact⟨base,fun _=>⟨_,hx.2.2⟩⟩
  ·rw[if_neg cn];have hN:=qde (Lns.tableTo m spares);rcases hN with⟨r0,r1,r2,r3⟩|⟨r0,_⟩
   ·rw[fx]at r1;have ih:=qdk (slots:=slots) (spares:=spares) h0 h1 hd (spares-(sj (Lns.tableTo m spares)).toNat) (sj (Lns.tableTo m spares)).toNat m1 L1 hx.1 (by omega) (fun j j0 j1=>by rw[hT1];exact r3 j j0 (by omega)) (fun j j0 j1=>by
     rw[hT1];exact qqv h.may r0 r2 (j-sj (Lns.tableTo m spares)).toNat j (by omega) (by rw[fx];exact j1))
    refine⟨⟨ih.ok,fun k k0 k1 hk=>by rw[ih.oth k k0 k1 hk,hoth k k0 k1 hk],fun j=>by rw[ih.lim,hP.lim],fun hc=>by rw[ih.cut (by rw[hP.cut hc];exact hc),hP.cut hc],fun j hj=>by rw[ih.regs j hj,hP.regs],?_⟩,fun _=>⟨_,hx.2.2⟩⟩;rcases ih.res with e|⟨e,u,x⟩|⟨e,u,x⟩
    ·exact .inl e
    ·exact .inr (.inl ⟨e,u,by rw[x,hx.2.1]⟩)
    ·exact .inr (.inr ⟨e,u,by rcases Int.lt_or_le m.cut 0 with hc|hc;rw[hP.cut hc]at x;omega;exact hc⟩)
   ·omega
 ·rw[if_neg c3];exact⟨base,fun e=>absurd e c3⟩
end
structure MOk (s:Shape) (m:Mem):Prop where
 ok:s.Ok
 l:LOk (s.n+1) s.spares m
 mv:Trn.moves m<=4611686018427387903
def lgc(s:Shape)(m:Mem)(line:Int):List Int:=slc (s.n+1) s.spares m (jb s.n (Trn.moves m) line)
theorem qbt{m m':Mem}{i:Nat}{v:Int}(h:m'.regs=m.regs.set i v)(hi:i<3\/19<=i){k:Nat}(hk:k<=16):Lns.tableTo m' k=Lns.tableTo m k:=by
 unfold Lns.tableTo;refine List.map_congr_left (fun j hj=>?_);have:=List.mem_range.1 hj;exact jz h (by omega)
section
variable{s:Shape}{m m':Mem}{line:Int}{d:List Int}
theorem MOk.g(h:MOk s m):pq s.n (Trn.moves m):=⟨h.ok.n1,by have:=h.ok.n2;omega,(h.l.regs.get 0).1,by have:=h.mv;omega⟩
theorem MOk.slotR(h:MOk s m)(line:Int):0<=jb s.n (Trn.moves m) line/\jb s.n (Trn.moves m) line<s.n+1:=by
 have:=qn6 (l:=line) h.g;omega
theorem MOk.lineW(h:MOk s m)(line:Int):W64 (lgc s m line):=h.l.slotW (h.slotR line).1 (h.slotR line).2
theorem qf6{slots:Int}{spares:Nat}(h:LOk slots spares m)(hu:m.down=false){k:Int}(h0:0<=k)(h1:k<slots):Lns.get m slots spares k=(slc slots spares m k,0):=by
 have hp:=h.place h0 h1;unfold Lns.get Nvm.get;rw[hu];have hh:Nvm.has m (ia (Lns.tableTo m spares) slots k)=true:=by unfold Nvm.has;simp;omega
 rw[hh];rfl
theorem vn(h:MOk s m)(hu:m.down=false)(line:Int):Trn.get s m line=(lgc s m line,0):=by
 unfold Trn.get;rw[hu];exact qf6 h.l hu (h.slotR line).1 (h.slotR line).2
theorem MOk.setReg(h:MOk s m){i:Nat}{v e:Int}(hs:SetR m m' i v e)(hi:(1<=i/\i<3)\/19<=i)(h0:0<=v)(h1:v<=18446744073709551615):MOk s m'∧(∀ line,lgc s m' line=lgc s m line)/\Trn.moves m'=Trn.moves m/\(∀ j,j≠i->m'.regs.getD j 0=m.regs.getD j 0):=by
 have hr:m'.regs=m.regs\/m'.regs=m.regs.set i v:=by
  rcases hs.res with⟨_,_,e⟩|⟨_,_,e,_⟩
  ·exact .inr e
  ·exact e
 have ht:Lns.tableTo m' s.spares=Lns.tableTo m s.spares:=by
  rcases hr with e|e
  ·exact pf e _
  ·exact qbt e (by omega) h.ok.sp
 have ho:∀ j,j≠i->m'.regs.getD j 0=m.regs.getD j 0:=fun j hj=>by
  rcases hr with e|e
  ·rw[e]
  ·exact jz e hj
 have hm:Trn.moves m'=Trn.moves m:=ho 0 (by omega);refine⟨⟨h.ok,h.l.setReg hs h0 h1 (by rw[ht];exact h.l.may),by rw[hm];exact h.mv⟩,fun line=>?_,hm,ho⟩;unfold lgc slc;rw[hm,ht,ru hs.cells]
structure MoveR (s:Shape) (m m':Mem) (e:Int):Prop where
 l:LOk (s.n+1) s.spares m'
 same:∀ line,0<=line->line<s.n->lgc s m' line=lgc s m line
 lim:∀ j,gp m' j=gp m j
 cut:m.cut<0->m'.cut=m.cut
 regs:∀ j,((1<=j/\j<3)\/19<=j)->m'.regs.getD j 0=m.regs.getD j 0
 mv:Trn.moves m'=Trn.moves m\/Trn.moves m'=Trn.moves m+1
 res:(e=0/\m'.down=false/\Trn.moves m'=Trn.moves m+1)\/(e=3/\m'.down=false∧∃ j,0<=gp m j)\/(e=2/\m'.down=true/\0<=m.cut)
theorem qph(h:MOk s m)(hu:m.down=false):MoveR s m (Trn.move s m).2 (Trn.move s m).1:=by
 have hg:=h.g;have hgr:=vz hg;have hmv:=h.mv;have hmo:0<=Trn.moves m:=hg.2.2.1;obtain⟨fr,hfr⟩:∃ fr,fr=if ku s.n (Trn.moves m)=0 then s.n else ku s.n (Trn.moves m)-1:=⟨_,rfl⟩
 have hms:Trn.moveS s.n (Trn.moves m)=(fr,ku s.n (Trn.moves m)):=by
  unfold Trn.moveS;rw[hfr];by_cases c:ku s.n (Trn.moves m)=0
  ·rw[if_pos c,if_pos c,c]
  ·rw[if_neg c,if_neg c]
 have hn1:=h.ok.n1;have hfr2:0<=fr/\fr<=s.n/\fr≠ku s.n (Trn.moves m):=by
  by_cases c:ku s.n (Trn.moves m)=0
  ·rw[if_pos c]at hfr;omega
  ·rw[if_neg c]at hfr;omega
 have hst:=qm1 hg hfr;have hG:=qf6 h.l hu (k:=fr) hfr2.1 (by omega);have hw:=h.l.slotW (k:=fr) hfr2.1 (by omega);obtain⟨hP,hP3⟩:=qkf h.l hu (slot:=ku s.n (Trn.moves m)) (d:=slc (s.n+1) s.spares m fr) hgr.1 (by omega) hw;unfold Trn.move;rw[hms];dsimp only;rw[hG];dsimp only;rw[if_pos rfl];generalize Lns.put m (s.n+1) s.spares (ku s.n (Trn.moves m)) (slc (s.n+1) s.spares m fr)=r1 at hP hP3;obtain⟨e1,m1⟩:=r1;dsimp only at hP hP3 ⊢;have hm1:Trn.moves m1=Trn.moves m:=hP.regs 0 (by omega);have hold:∀ line,0<=line->line<s.n->slc (s.n+1) s.spares m1 (jb s.n (Trn.moves m) line)=lgc s m line:=fun line l0 l1=>by have:=qn6 (l:=line) hg;exact hP.oth _ this.1 (by omega) this.2.2
 by_cases c0:e1=0
 ·rw[if_pos c0];have hx:m1.down=false/\slc (s.n+1) s.spares m1 (ku s.n (Trn.moves m))=slc (s.n+1) s.spares m fr:=by
   rcases hP.res with⟨_,e⟩|⟨e,_⟩|⟨e,_⟩
   ·exact e
   ·omega
   ·omega
  have hS:=zm (m:=m1) (i:=0) (v:=Trn.moves m+1) hx.1 (by omega) (by omega);generalize Nvm.set m1 0 (Trn.moves m+1)=r2 at hS;obtain⟨e2,m2⟩:=r2;dsimp only at hS ⊢;rw[show(0:Int).toNat=0 from rfl]at hS;have hr:m2.regs=m1.regs\/m2.regs=m1.regs.set 0 (Trn.moves m+1):=by
   rcases hS.res with⟨_,_,e⟩|⟨_,_,e,_⟩
   ·exact .inr e
   ·exact e
  have ht:Lns.tableTo m2 s.spares=Lns.tableTo m1 s.spares:=by
   rcases hr with e|e
   ·exact pf e _
   ·exact qbt e (by omega) h.ok.sp
  have hsl:∀ k,slc (s.n+1) s.spares m2 k=slc (s.n+1) s.spares m1 k:=fun k=>by unfold slc;rw[ht,ru hS.cells]
  have hset0:m2.regs=m1.regs.set 0 (Trn.moves m+1)->Trn.moves m2=Trn.moves m+1:=fun e=>by unfold Trn.moves at *;rw[e,ax,List.getElem?_set_self (by have:=hP.ok.rlen;omega)];rfl
  have hmv2:Trn.moves m2=Trn.moves m\/Trn.moves m2=Trn.moves m+1:=by
   rcases hr with e|e
   ·left;rw[<-hm1];unfold Trn.moves;rw[e]
   ·exact .inr (hset0 e)
  refine⟨hP.ok.setReg hS (by omega) (by omega) (by rw[ht];exact hP.ok.may),fun line l0 l1=>?_,fun j=>by rw[mo hS.cells,hP.lim],fun hc=>by rw[hS.cut (by rw[hP.cut hc];exact hc),hP.cut hc],fun j hj=>?_,hmv2,?_⟩
  ·unfold lgc;rw[hsl];rcases hmv2 with e|e
   ·rw[e];exact hold line l0 l1
   ·rw[e];obtain⟨a1,a2⟩:=hst.2 line l0 l1;by_cases c:jb s.n (Trn.moves m) line=fr
    ·rw[a1 c,hx.2,c]
    ·rw[<-a2 c];exact hold line l0 l1
  ·rw[<-hP.regs j (by omega)];rcases hr with e|e
   ·rw[e]
   ·exact jz e (by omega)
  ·rcases hS.res with⟨e,u,x⟩|⟨e,u,_,c⟩
   ·exact .inl ⟨e,u,hset0 x⟩
   ·exact .inr (.inr ⟨e,u,by rcases Int.lt_or_le m.cut 0 with hc|hc;(have:=hP.cut hc;omega);exact hc⟩)
 ·rw[if_neg c0];refine⟨hP.ok,fun line l0 l1=>by unfold lgc;rw[hm1];exact hold line l0 l1,hP.lim,hP.cut,fun j hj=>hP.regs j (by omega), .inl hm1,?_⟩;rcases hP.res with⟨e,_⟩|⟨e,u,_⟩|⟨e,u,c⟩
  ·exact absurd e c0
  ·exact .inr (.inl ⟨e,u,hP3 e⟩)
  ·exact .inr (.inr ⟨e,u,c⟩)
structure TPutR (s:Shape) (m m':Mem) (line:Int) (d:List Int) (e:Int):Prop where
 l:LOk (s.n+1) s.spares m'
 oth:∀ k,0<=k->k<s.n->k≠line->lgc s m' k=lgc s m k
 lim:∀ j,gp m' j=gp m j
 cut:m.cut<0->m'.cut=m.cut
 regs:∀ j,((1<=j/\j<3)\/19<=j)->m'.regs.getD j 0=m.regs.getD j 0
 mv:Trn.moves m'=Trn.moves m\/Trn.moves m'=Trn.moves m+1
 res:(e=0/\m'.down=false/\lgc s m' line=d)\/(e=3/\m'.down=false/\lgc s m' line=lgc s m line∧∃ j,0<=gp m j)\/(e=2/\m'.down=true/\0<=m.cut)
theorem qh0(h:MOk s m)(hu:m.down=false)(h0:0<=line)(h1:line<s.n)(hd:W64 d):TPutR s m (Trn.putAt s m line d).2 line d (Trn.putAt s m line d).1/\Trn.moves (Trn.putAt s m line d).2=Trn.moves m:=by
 have hs:=h.slotR line;obtain⟨hP,hP3⟩:=qkf h.l hu (slot:=jb s.n (Trn.moves m) line) (d:=d) hs.1 hs.2 hd;unfold Trn.putAt;generalize Lns.put m (s.n+1) s.spares (jb s.n (Trn.moves m) line) d=r1 at hP hP3;obtain⟨e1,m1⟩:=r1;dsimp only at hP hP3 ⊢;have hm1:Trn.moves m1=Trn.moves m:=hP.regs 0 (by omega);refine⟨⟨hP.ok,fun k k0 k1 hk=>?_,hP.lim,hP.cut,fun j hj=>hP.regs j (by omega), .inl hm1,?_⟩,hm1⟩
 ·unfold lgc;rw[hm1];exact hP.oth _ (h.slotR k).1 (h.slotR k).2 (fun e=>hk (qn5 h.g k0 k1 h0 h1 e))
 ·unfold lgc;rw[hm1];rcases hP.res with⟨e,u,x⟩|⟨e,u,x⟩|⟨e,u,c⟩
  ·exact .inl ⟨e,u,x⟩
  ·exact .inr (.inl ⟨e,u,x,hP3 e⟩)
  ·exact .inr (.inr ⟨e,u,c⟩)
theorem qgn(h:MOk s m)(hu:m.down=false)(hv:Trn.moves m+1<=4611686018427387903)(puts:Int)(h0:0<=line)(h1:line<s.n)(hd:W64 d):TPutR s m (Trn.put s m puts line d).2.1 line d (Trn.put s m puts line d).1/\((Trn.put s m puts line d).1=0->Trn.moves (Trn.put s m puts line d).2.1=Trn.moves m+if wrap64 (puts+1)=s.period then 1 else 0):=by
 unfold Trn.put;rw[hu];simp only[Bool.false_eq_true,if_false];by_cases cp:wrap64 (puts+1)=s.period
 ·rw[if_pos cp,if_pos cp];have hM:=qph h hu;generalize Trn.move s m=r1 at hM;obtain⟨e1,m1⟩:=r1;dsimp only at hM ⊢;by_cases c0:e1=0
  ·rw[if_pos c0];dsimp only;have hx:m1.down=false/\Trn.moves m1=Trn.moves m+1:=by
    rcases hM.res with⟨_,e⟩|⟨e,_⟩|⟨e,_⟩
    ·exact e
    ·omega
    ·omega
   have h1':MOk s m1:=⟨h.ok,hM.l,by omega⟩;obtain⟨hP,hPm⟩:=qh0 h1' hx.1 h0 h1 hd;generalize Trn.putAt s m1 line d=r2 at hP hPm;obtain⟨e2,m2⟩:=r2;dsimp only at hP hPm ⊢;refine⟨⟨hP.l,fun k k0 k1 hk=>by rw[hP.oth k k0 k1 hk,hM.same k k0 k1],fun j=>by rw[hP.lim,hM.lim],fun hc=>by rw[hP.cut (by rw[hM.cut hc];exact hc),hM.cut hc],fun j hj=>by rw[hP.regs j hj,hM.regs j hj], .inr (by rw[hPm,hx.2]),?_⟩,fun _=>by rw[hPm,hx.2]⟩;rcases hP.res with e|⟨e,u,x,j,hj⟩|⟨e,u,c⟩
   ·exact .inl e
   ·exact .inr (.inl ⟨e,u,by rw[x,hM.same line h0 h1],j,by rw[hM.lim]at hj;exact hj⟩)
   ·exact .inr (.inr ⟨e,u,by rcases Int.lt_or_le m.cut 0 with hc|hc;(have:=hM.cut hc;omega);exact hc⟩)
  ·rw[if_neg c0];dsimp only;refine⟨⟨hM.l,fun k k0 k1 _=>hM.same k k0 k1,hM.lim,hM.cut,hM.regs,hM.mv,?_⟩,fun e=>absurd e c0⟩;rcases hM.res with⟨e,_⟩|⟨e,u,x⟩|⟨e,u,c⟩
   ·exact absurd e c0
   ·exact .inr (.inl ⟨e,u,hM.same line h0 h1,x⟩)
   ·exact .inr (.inr ⟨e,u,c⟩)
 ·rw[if_neg cp,if_neg cp];obtain⟨hP,hPm⟩:=qh0 h hu h0 h1 hd;exact⟨hP,fun _=>by rw[hPm];omega⟩
end
section
variable{w:World}{M C:Nat}{m:Mem}
theorem qio(h:MemAt w M C m){s:Shape}(hs:s.Ok)(hR:gf m)(hl:(m.cells.length:Int)=s.n+1+s.spares)(hd:m.down=false)(hm:qbv (Lns.tableTo m s.spares) (s.n+1))(hv:m.regs.getD 0 0<=1099511627776):Calls Tryz.prog 82 #[.pointer (some ⟨M,0,none⟩), .int .i64 s.n, .int .i64 s.spares, .int .i64 s.period] w fun e w'=>∃ L T,e=.returned (.pointer (some ⟨T,0,none⟩))/\TurnAt w' M C L T s m 0/\w.heap.size<=L/\w.heap.size<=T/\Below w.heap.size w w':=by
 have H:=am h;have⟨n1,n2,sp,p1,p2⟩:=hs;have HLt:=h.lt;have HS:=am hs;have HR:=am hR;have HLin:=am (sy h);have HV:=am hv;have HNew:=am (qig h sp hR (slots:=s.n+1) (by omega) (by omega) hl hd hm);have ER:=am (show Nvm.reg m 0=(m.regs.getD 0 0,0)by unfold Nvm.reg;rw[hd];rfl);have W1:wrap64 (s.n+1)=s.n+1:=by unfold wrap64;omega
 have d0:decide (s.n<1)=false:=ah (by omega);have d1:decide (s.n>(m.cells.length:Int))=false:=ah (by omega);have d2:decide (s.period<1)=false:=ah (by omega);have d3:decide (s.period>1000)=false:=ah (by omega);have d4:decide (m.regs.getD 0 0>1099511627776)=false:=ah (by omega);clear hl hm hR hs h hd hv;generalize hr0:m.regs.getD 0 0=r0 at d4 ER HV;have HR0:=am hr0;clear hr0;go_enter Tryz.func82,Tryz.ntmps82;go_wp2_with (first
  |(go_at_call 56;(with_reducible refine HLin.out.mono ?_);rintro e w1 ⟨rfl,rfl⟩)
  |(go_at_call 124;(try rw[W1]);(with_reducible refine HNew.out.mono ?_);rintro e w1 ⟨L,rfl,hL,hgL,hb⟩;have HL:=am hL;have HB:=am hb;have H1:=am (H.out.below hb);clear hL hb)
  |(go_at_call 35;(with_reducible refine(kz H1.out 0).mono ?_);rintro e w2 ⟨rfl,rfl⟩;rw[ER.out]))
 go_ret;have hLlt:=d7 HL.out;refine⟨L,w1.heap.size,rfl,⟨H1.out.alloc _,HL.out.below ((ai _ _).alloc (an _) _),heap_alloc_new w1 _,sq (by omega) (by omega),?_,by omega,HR.out,by rw[HR0.out];have:=HV.out;omega,HS.out⟩,hgL,HB.out.size,aa HB.out ((ai _ _).alloc (an _) _)⟩;have:=HB.out.size;exact sq (by omega) (by omega)
end
structure Pn where
 lines:Int
 spare:Int
 period:Int
 batch:Int
structure Pn.Ok (p:Pn):Prop where
 l1:1<=p.lines
 l2:p.lines<=64
 s1:0<=p.spare
 s2:p.spare<=16
 p1:1<=p.period
 p2:p.period<=1000
 b1:1<=p.batch
 b2:p.batch<=100
def Pn.shape(p:Pn):Shape:=⟨16+p.lines,p.spare.toNat,p.period⟩
theorem Pn.Ok.shape{p:Pn}(h:p.Ok):p.shape.Ok:=by
 have⟨a,b,c,d,e,f,_,_⟩:=h;exact⟨by show 1<=16+p.lines;omega,by show 16+p.lines<=1000;omega,by show p.spare.toNat<=16;omega,e,f⟩
def fk(p:Pn):List Value:=[.int .i64 p.lines, .int .i64 p.spare, .int .i64 p.period, .int .i64 p.batch]
abbrev oz(p:Pn):Value:=.agg #[.int .i64 p.lines, .int .i64 p.spare, .int .i64 p.period, .int .i64 p.batch]
theorem jh:(Tryz.prog.info? 23).map (·.size)=some 4:=by kernel_rfl
section
variable{p:Pn}
theorem uy(h:p.Ok):gi.f p.lines p.spare p.period p.batch=some true:=by
 have⟨a,b,c,d,e,f,g,i⟩:=h;unfold gi.f;rw[if_pos a,if_pos b,if_pos c,if_pos d,if_pos e,if_pos f,if_pos g,af i]
theorem qbl(h:p.Ok):jc.f p.lines p.spare p.period p.batch=some (16+p.lines):=by
 have:=h.l1;have:=h.l2;unfold jc.f;rw[uy h];show some (wrap64 (16+p.lines))=_;rw[w64 (n:=16+p.lines) (by omega)]
theorem qdi(h:p.Ok):oh.f p.lines p.spare p.period p.batch=some (16+p.lines+1+p.spare):=by
 have⟨a,b,c,d,e,f,g,i⟩:=h;unfold oh.f;rw[uy h,qbl h];show some (wrap64 ((wrap64 (16+p.lines+1))+p.spare))=_;rw[w64 (n:=16+p.lines+1) (by omega),w64 (n:=16+p.lines+1+p.spare) (by omega)]
theorem ql0(h:p.Ok):pd.f p.lines p.spare p.period p.batch=some (p.lines*8):=by
 have:=h.l1;have:=h.l2;unfold pd.f;rw[uy h];show some (wrap64 (p.lines*8))=_;rw[w64 (n:=p.lines*8) (by omega)]
theorem qdj(h:p.Ok){i:Int}(h0:0<=i)(h1:i<p.lines):it.f p.lines p.spare p.period p.batch i=some (16+i):=by
 have:=h.l2;unfold it.f;rw[uy h];show(if i<0 then some (-1)else if i>=p.lines then some (-1)else some (wrap64 (16+i)))=_;rw[if_neg (by omega),if_neg (by omega),w64 (n:=16+i) (by omega)]
end
section
variable{w:World}{M C:Nat}{m:Mem}{p:Pn}
theorem yl(h:MemAt w M C m)(hp:p.Ok)(hl:(m.cells.length:Int)=16+p.lines+1+p.spare):Calls Tryz.prog 34 #[.pointer (some ⟨M,0,none⟩),oz p] w fun e w'=>e=.returned (.int .i64 (if m.down then 2 else 0))/\Below w.heap.size w w':=by
 have HMay:=am (uy hp);have HDev:=am (qdi hp);have HL:=am hl;have H1:=am (h.alloc (.cells (fk p).toArray 23));have BX:=am (heap_alloc_new w (.cells (fk p).toArray 23));have HB:Aside0 (Below w.heap.size w (w.alloc (.cells (fk p).toArray 23))):=⟨(ai _ _).alloc (an _) _⟩;clear h hp hl;generalize hrr:(if m.down=true then(2:Int)else 0)=rr;have HRR:=am hrr;clear hrr;go_enter Tryz.func34,Tryz.ntmps34;go_wp2;have hge:w.heap.size<=w.heap.size:=an _;have E0:(w.alloc (.cells #[Value.int .i64 p.lines, .int .i64 p.spare, .int .i64 p.period, .int .i64 p.batch] 23))=w.alloc (.cells (fk p).toArray 23):=rfl;rw[E0];clear E0;obtain⟨PB,hpb⟩:∃ z,w.heap.size=z:=⟨_,rfl⟩;generalize w.alloc (.cells (fk p).toArray 23)=w1 at H1 BX HB ⊢;have HPB:=am hpb;rw[hpb]at BX ⊢;clear hpb;refine dj (n:=11) (S:=fun w'=>w'.heap[PB]? =some (.cells (fk p).toArray 23 (0,0))) (ds:=[]) (onA 11 0) (by kernel_rfl) rfl rfl BX.out (fun hHeld=>?_);refine tv 0 (some 6) (bA 11 1) rfl hHeld (fun w' hs=>dh 23 (.tmp 3) rfl PB 0 rfl (fk p) _ (fun j v hv=>by rw[Nat.zero_add];exact bt hs j v hv) Tryz.underlying23 rfl jh) (h:=?_);refine ip (i:=1) (N:=some 7) (bA 11 3) rfl rfl (by kernel_rfl) (by decide) (fun K hK=>?_);refine fv Tryz.func32 (by kernel_rfl) rfl #[oz p] (by rfl) rfl rfl (by simp only[List.map_toArray,List.map_cons,List.map_nil];rfl) ?_;refine(gi.calls p.lines p.spare p.period p.batch true _ HMay.out).mono ?_;rintro e w2 ⟨rfl,hb⟩;refine⟨_,rfl,?_⟩;have hb2:Below w1.heap.size w1 w2:=aa (bg (ai _ _)) hb;have H2:=am (H1.out.below hb2);have BX2:=am (ap BX.out hb2);have HB2:=am (aa HB.out hb2);refine hK.out _ _ BX2.out (fun hHeld=>?_);clear hK K hb hb2 H1 BX HB hHeld;refine pu 2 (some 8) (bA 11 7) (h:=?_);refine pu 3 (some 9) (bA 11 15) (h:=?_);refine pu 4 (some 10) (bA 11 31) (h:=?_);refine tv 6 (some 12) (bA 11 95) rfl BX2.out (fun w' hs=>dh 23 (.tmp 3) rfl PB 0 rfl (fk p) _ (fun j v hv=>by rw[Nat.zero_add];exact bt hs j v hv) Tryz.underlying23 rfl jh) (h:=?_);refine ip (i:=5) (N:=some 11) (bA 11 127) rfl rfl (by kernel_rfl) (by decide) (fun K hK=>?_);refine fv Tryz.func56 (by kernel_rfl) rfl #[.pointer (some ⟨M,0,none⟩)] (by rfl) rfl rfl (by simp only[List.map_toArray,List.map_cons,List.map_nil];rfl) ?_;refine(sy H2.out).mono ?_;rintro e w3 ⟨rfl,rfl⟩;refine⟨_,rfl,?_⟩;refine hK.out _ _ BX2.out (fun hHeld=>?_);clear hK K;refine ip (i:=7) (N:=some 13) (bA 11 255) rfl rfl (by kernel_rfl) (by decide) (fun K hK=>?_);refine fv Tryz.func9 (by kernel_rfl) rfl #[oz p] (by rfl) rfl rfl (by simp only[List.map_toArray,List.map_cons,List.map_nil];rfl) ?_;refine(oh.calls p.lines p.spare p.period p.batch _ _ HDev.out).mono ?_;rintro e w4 ⟨rfl,hb⟩;refine⟨_,rfl,?_⟩;have H4:=am (H2.out.below hb);have HB4:=am (aa HB2.out hb);refine hK.out _ _ (ap BX2.out hb) (fun hHeld=>?_);clear hK K hb hHeld H2 BX2 HB2;refine pu (v:=.bool false) 8 (some 14) (bA 11 511) (hy:=by intro w';go_simp;have:=HL.out;omega) (h:=?_);refine pu 9 (some 15) (bA 11 1023) (h:=?_);refine pu 10 (some 5) (bA 11 2047) (h:=?_);refine fa (by kernel_rfl) ?_;cases hd:m.down
 ·have HD:=am hd;clear hd;go_wp2_with (first|(go_at_call 30;(with_reducible refine(ll H4.out).mono ?_);rintro e w5 ⟨rfl,rfl⟩;rw[HD.out]))
  go_ret;rw[<-HPB.out,←HRR.out,HD.out];exact⟨rfl,HB4.out⟩
 ·have HD:=am hd;clear hd;go_wp2_with (first|(go_at_call 30;(with_reducible refine(ll H4.out).mono ?_);rintro e w5 ⟨rfl,rfl⟩;rw[HD.out]))
  go_ret;rw[<-HPB.out,←HRR.out,HD.out];exact⟨rfl,HB4.out⟩
theorem vo(h:MemAt w M C m)(hp:p.Ok)(hR:gf m)(hl:(m.cells.length:Int)=16+p.lines+1+p.spare)(hd:m.down=false)(hm:qbv (Lns.tableTo m p.shape.spares) (p.shape.n+1))(hv:m.regs.getD 0 0<=1099511627776):Calls Tryz.prog 36 #[.pointer (some ⟨M,0,none⟩),oz p] w fun e w'=>∃ L T,e=.returned (.pointer (some ⟨T,0,none⟩))/\TurnAt w' M C L T p.shape m 0/\w.heap.size<=L/\w.heap.size<=T/\Below w.heap.size w w':=by
 have HLog:=am (qbl hp);have hs:(p.shape.spares:Int)=p.spare:=by show((p.spare.toNat:Nat):Int)=p.spare;have:=hp.s1;omega
 have HSp:=am hs;have H1:=am (h.alloc (.cells (fk p).toArray 23));have BX:=am (heap_alloc_new w (.cells (fk p).toArray 23));have HB:Aside0 (Below w.heap.size w (w.alloc (.cells (fk p).toArray 23))):=⟨(ai _ _).alloc (an _) _⟩;have HNew:Aside0 (∀ w',MemAt w' M C m->Calls Tryz.prog 82 #[.pointer (some ⟨M,0,none⟩), .int .i64 (16+p.lines), .int .i64 p.spare, .int .i64 p.period] w' fun e w''=>∃ L T,e=.returned (.pointer (some ⟨T,0,none⟩))/\TurnAt w'' M C L T p.shape m 0/\w'.heap.size<=L/\w'.heap.size<=T/\Below w'.heap.size w' w''):=⟨fun w' hw=>by
  have e:=qio hw hp.shape hR (by rw[hl,hs];show 16+p.lines+1+p.spare=(16+p.lines)+1+p.spare;omega) hd hm hv;rw[hs]at e;exact e⟩
 clear h hp hl hR hd hm hv hs;go_enter Tryz.func36,Tryz.ntmps36;go_wp2;have E0:(w.alloc (.cells #[Value.int .i64 p.lines, .int .i64 p.spare, .int .i64 p.period, .int .i64 p.batch] 23))=w.alloc (.cells (fk p).toArray 23):=rfl;rw[E0];clear E0;obtain⟨PB,hpb⟩:∃ z,w.heap.size=z:=⟨_,rfl⟩;generalize w.alloc (.cells (fk p).toArray 23)=w1 at H1 BX HB ⊢;have HPB:=am hpb;rw[hpb]at BX ⊢;clear hpb;refine dj (n:=9) (S:=fun w'=>w'.heap[PB]? =some (.cells (fk p).toArray 23 (0,0))) (ds:=[]) (onA 9 0) (by kernel_rfl) rfl rfl BX.out (fun hHeld=>?_);refine pu 0 (some 5) (bA 9 1) (h:=?_);refine pu 3 (some 8) (bA 9 9) (h:=?_);refine pu 5 (some 10) (bA 9 41) (h:=?_);refine tv 1 (some 6) (bA 9 43) rfl hHeld (fun w' hs=>dh 23 (.tmp 3) rfl PB 0 rfl (fk p) _ (fun j v hv=>by rw[Nat.zero_add];exact bt hs j v hv) Tryz.underlying23 rfl jh) (h:=?_);refine tv 4 (some 9) (bA 9 59) rfl hHeld (fun w' hs=>aw 3 (.tmp 8) rfl PB 1 (.int .i64 p.spare) rfl ((aj hs 1).trans rfl) _ Tryz.underlying3 rfl) (h:=?_);refine tv 6 (some 11) (bA 9 123) rfl hHeld (fun w' hs=>aw 3 (.tmp 10) rfl PB 2 (.int .i64 p.period) rfl ((aj hs 2).trans rfl) _ Tryz.underlying3 rfl) (h:=?_);refine ip (i:=2) (N:=some 7) (bA 9 127) rfl rfl (by kernel_rfl) (by decide) (fun K hK=>?_);refine fv Tryz.func33 (by kernel_rfl) rfl #[oz p] (by rfl) rfl rfl (by simp only[List.map_toArray,List.map_cons,List.map_nil];rfl) ?_;refine(jc.calls p.lines p.spare p.period p.batch _ _ HLog.out).mono ?_;rintro e w2 ⟨rfl,hb⟩;refine⟨_,rfl,?_⟩;have hb2:Below w1.heap.size w1 w2:=aa (bg (ai _ _)) hb;have H2:=am (H1.out.below hb2);have BX2:=am (ap BX.out hb2);have HB2:=am (aa HB.out hb2);refine hK.out _ _ BX2.out (fun hHeld=>?_);clear hK K hb hb2 H1 BX HB hHeld;refine ip (i:=7) (N:=some 12) (bA 9 255) rfl rfl (by kernel_rfl) (by decide) (fun K hK=>?_);refine fv Tryz.func82 (by kernel_rfl) rfl #[.pointer (some ⟨M,0,none⟩), .int .i64 (16+p.lines), .int .i64 p.spare, .int .i64 p.period] (by rfl) rfl rfl (by simp only[List.map_toArray,List.map_cons,List.map_nil];rfl) ?_;refine(HNew.out w2 H2.out).mono ?_;rintro e w3 ⟨L,T,rfl,hT,hgL,hgT,hb⟩;refine⟨_,rfl,?_⟩;refine hK.out _ _ (ap BX2.out hb) (fun hHeld=>?_);clear hK K hHeld;have HB3:=am (aa HB2.out hb);have HT:=am hT;have hsz:=HB2.out.size;clear hT hb H2 BX2;refine pu 8 (some 4) (bA 9 511) (h:=?_);refine fa (by kernel_rfl) ?_;go_wp2;go_ret;rw[<-HPB.out];exact⟨L,T,rfl,HT.out,by omega,by omega,HB3.out⟩
end
end Go.Proofs.YtmfhaliclnnbaaaGreat.Sys
