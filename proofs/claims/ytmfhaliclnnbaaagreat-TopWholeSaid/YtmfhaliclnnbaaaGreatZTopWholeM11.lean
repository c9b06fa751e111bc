import Derived.Test.YtmfhaliclnnbaaaGreatZTopWholeM10
import Derived.Test.YtmfhaliclnnbaaaGreatZTopWholeM6
namespace Go.Proofs.YtmfhaliclnnbaaaGreat.Sys
open Go.RowKit Go.Proofs.YtmfhaliclnnbaaaGreatW.PrintWords Go.Proofs.YtmfhaliclnnbaaaGreatW.PrintLast Go.Proofs.YtmfhaliclnnbaaaGreatW.PrintMore
open Go.Proofs.YtmfhaliclnnbaaaGreat.XTopWhole Go.Proofs.YtmfhaliclnnbaaaGreat.Pl Go.Maps
set_option linter.unusedVariables false
set_option linter.unusedSimpArgs false
set_option maxRecDepth 100000
set_option maxHeartbeats 8000000
theorem qji(n:Int):dy.f n=some (decide (2<=n/\n<=512)):=by
 unfold dy.f;by_cases h:n>=2
 ·rw[if_pos h];congr 1;simp;omega
 ·rw[if_neg h,ah (by omega)]
theorem qh8(n:Int):dr.f n=fc.f n:=rfl
theorem ql8{w:Int}(h:0<=w/\w<=18446744073709551615):gx.f w=if 2<=w / 2/\w / 2<=512 then some (w / 2,w % 2==1,true)else some (0,false,false):=by
 unfold gx.f;rw[qic h.1 h.2,w64 (by omega)];by_cases h1:w / 2<2
 ·rw[if_pos h1,if_neg (by omega)]
 ·rw[if_neg h1];by_cases h3:w / 2>512
  ·rw[if_pos h3,if_neg (by omega)]
  ·rw[if_neg h3,if_pos (by omega)]
section
variable{w:World}{l:List S116}{A:Option Addr}{c:Nat}
theorem un{words:Int}(hm:mb l words)(hr:Kd.C e6 w A l.length l)(hc:l.length<=c):Calls Tryz.prog 118 #[.slice A l.length c, .int .i64 words] w fun e w'=>e=.returned (.bool true)/\Below w.heap.size w w':=by
 have HR:=am hr;have hwm:=hm.1.2.1;have HM:dr.f words=some true:=by rw[qh8,ua];exact congrArg some (af hm.1)
 have HMw:=am HM;have hlen:=j6 hm;have HMb:=am hm;clear hr HM;go_enter Tryz.func118,Tryz.ntmps118;go_wp2_with (first
  |(go_at_call 64;(with_reducible refine(dr.calls words true _ HMw.out).mono ?_);rintro e w1 ⟨rfl,hd⟩;have HB:=am hd.below;clear hd))
 go_loopw [5,13] (fun a i wr=>∃ (k:Nat) (av:Int) (fr:Bool),a=.int .i64 av/\i=.int .i64 k/\k<=l.length/\Aside0 (0<=av/\f9 words av fr (l.drop k))/\Aside0 (Below w.heap.size w wr)) (fun _ i _=>l.length-(intOf i).toNat)
 case atStart=>exact⟨0,0,false,rfl,rfl,by omega,⟨Int.le_refl 0,hm.2⟩,HB⟩
 case round=>
  clear HB;obtain⟨k,av,fr,rfl,rfl,hk,HP,HB⟩:=hrel;by_cases hlt:k<l.length
  ·have d3:decide ((k:Int)<l.length)=true:=af (by omega);obtain⟨ad,ea,hx0,hx1,hx2⟩:=fj (Kd.C_below HR.out HB.out) (k:Int) (by omega) (by omega);cases ea;rw[Int.toNat_natCast]at hx0 hx1 hx2;have p0:(0<=(k:Int))=True:=eq_true (by omega);have p1:((k:Int)<l.length)=True:=eq_true (by omega);have HWk:=am (wk1 k (by omega));have HMs:=am (wk2 hlt (by omega));obtain⟨h0,hp⟩:=HP.out;rw[px hlt]at hp;generalize hxx:ab l (k:Int)=x at hp hx0 hx1 hx2;have HXX:=am hxx;clear hxx;obtain⟨e0,e1,e2,e3,e4,hn⟩:=hp;rw[e0]at hx0;have HBm:Aside0 (dy.f x.f1=some true):=⟨by rw[qji,af ⟨e1,e2⟩]⟩;have w1:wrap64 (words-av)=words-av:=w64 (by omega);have w2:wrap64 (av+x.f1)=av+x.f1:=w64 (by omega);have r1:decide (wrap64 (words-av)<x.f1)=false:=ah (by rw[w1];omega);have HNx:Aside0 (0<=av+x.f1/\f9 words (av+x.f1) (!x.f2) (l.drop (k+1))):=⟨by omega,hn⟩;have HLt:=am hlt;clear hn w1 w2 hlt;generalize hbb:x.f2=bb at hx2 HNx e4;clear e4;have hkc:decide ((0:Int)<(k:Int))=false∨∃ m:Nat,decide ((0:Int)<(k:Int))=true/\wrap64 ((k:Int)-1)=(m:Int)/\k=m+1:=by
    by_cases e:k=0
    ·exact .inl (ah (by omega))
    ·exact .inr ⟨k-1,af (by omega),by rw[w64 (by omega)];omega,by omega⟩
   rcases hkc with r3|⟨m,r3,r4,hkm⟩
   ·have r3n:decide (0<k)=false:=by rw[decide_eq_false_iff_not]at r3 ⊢;omega
    go_wp2_with (first
     |(go_at_call 151;(with_reducible refine(dy.calls x.f1 true _ HBm.out).mono ?_);rintro e w3 ⟨rfl,hd⟩;have HB3:=am (aa (aa HB.out ((ai _ _).alloc (an _) _)) hd.below);have hz:=ap (heap_alloc_new wr (.cells #[.int .i64 av, .int .i64 x.f1, .bool bb] 116)) hd.below;have z1:w3.cell? ⟨wr.heap.size,1,none⟩=some (.int .i64 x.f1):=(aj hz 1).trans rfl;have z2:w3.cell? ⟨wr.heap.size,2,none⟩=some (.bool bb):=(aj hz 2).trans rfl;clear hd hz))
    exact⟨⟨k+1,_,_,rfl,congrArg _ (by omega),HLt.out,HNx,HB3⟩,by have:=HLt.out;simp[intOf];omega⟩
   ·have r3n:decide (0<k)=true:=af (by omega);have hprev:bb=false->(ab l (m:Int)).f2=true:=fun e=>by
     cases hp:(ab l (m:Int)).f2
     ·have:=qau HMb.out.2 (j:=(m:Int)) (by omega) (by have:=HLt.out;omega) hp;rw[show(m:Int)+1=(k:Int)by omega,HXX.out,hbb,e]at this;cases this
     ·rfl
    obtain⟨ad',ea,hy⟩:=mg (Kd.C_below HR.out HB.out) (i:=m) (by have:=HLt.out;omega);cases ea;generalize ab l (m:Int)=y at hy hprev;have HY:=am hy;have q0:(0<=(m:Int))=True:=eq_true (by omega);have q1:((m:Int)<l.length)=True:=eq_true (by have:=HLt.out;omega);have hcs:(!bb)=false\/((!bb)=true/\y.f2=true):=by cases bb;exact .inr ⟨rfl,hprev rfl⟩;exact .inl rfl
    subst hkm;have q2:(0<=(m:Int)+1)=True:=eq_true (by omega);have q3:((m:Int)+1<l.length)=True:=eq_true (by have:=HLt.out;omega);have q4:((m:Int)+1).toNat=m+1:=by omega
    have d4:decide ((m:Int)+1<l.length)=true:=af (by have:=HLt.out;omega);have r5:decide ((0:Int)<(m:Int)+1)=true:=af (by omega);have r6:wrap64 ((m:Int)+1-1)=(m:Int):=by rw[w64 (by omega)];omega
    clear hprev hy hbb;rcases hcs with nb|⟨nb,hyt⟩
    case' inr=>have HYt:=am hyt;clear hyt
    case' inl=>have HYt:Aside0 (y.f2=y.f2):=⟨rfl⟩
    all_goals go_wp2_with (first
     |(go_at_call 151;(with_reducible refine(dy.calls x.f1 true _ HBm.out).mono ?_);rintro e w3 ⟨rfl,hd⟩;have HB3:=am (aa (aa HB.out ((ai _ _).alloc (an _) _)) hd.below);have hz:=ap (heap_alloc_new wr (.cells #[.int .i64 av, .int .i64 x.f1, .bool bb] 116)) hd.below;have z1:w3.cell? ⟨wr.heap.size,1,none⟩=some (.int .i64 x.f1):=(aj hz 1).trans rfl;have z2:w3.cell? ⟨wr.heap.size,2,none⟩=some (.bool bb):=(aj hz 2).trans rfl;obtain⟨y0,y1,y2⟩:=HY.out.on (aa ((ai wr.heap.size wr).alloc (an _) _) hd.below);rw[HYt.out]at y2;clear hd hz))
    all_goals (try rw[nb]at HNx)
    all_goals exact⟨⟨m+1+1,_,_,rfl,congrArg _ (by omega),HLt.out,HNx,HB3⟩,by have:=HLt.out;simp[intOf];omega⟩
  ·have hkk:k=l.length:=by omega
   subst hkk;have d3:decide ((l.length:Int)<l.length)=false:=ah (by omega);have h:=HP.out.2;rw[List.drop_length]at h;have r1:(av==words)=true:=beq_iff_eq.mpr h;go_wp2;go_ret;exact⟨rfl,HB.out⟩
theorem ki{v:List Int}{words:Int}(hV:HV l v words)(hr:Kd.C (Kd.int .u64) w A v.length v)(hc:v.length<=c):Calls Tryz.prog 72 #[.slice A v.length c] w fun e w'=>∃ A' c',e=.returned (.tuple #[.slice A' l.length c', .bool true])/\Kd.R e6 116 w' w.heap.size (fun _=>True) (.slice A' l.length c') l/\Below w.heap.size w w':=by
 have HR:=am hr;have hlen:=j6 hV.1;have HHv:=am hV;have HVl:=am hV.2.2.1;have hwm:=hV.1.1.2.1;clear hr hV;go_enter Tryz.func72,Tryz.ntmps72;go_wp2;go_loopw [4,5] (fun o a wr=>∃ (k:Nat) (av:Int) (fr:Bool),a=.int .i64 av/\k<=l.length/\Aside0 (0<=av/\av<=words/\f9 words av fr (l.drop k))/\Aside0 (Kd.R e6 116 wr w.heap.size (fun _=>True) o (l.take k))/\Aside0 (Below w.heap.size w wr)) (fun _ a _=>v.length-(intOf a).toNat)
 case atStart=>exact⟨0,0,false,rfl,by omega,⟨Int.le_refl 0,by have:=HHv.out.1.1.1;omega,HHv.out.1.2⟩,⟨Kd.R_nil _ _ _ _ _⟩,⟨ai _ _⟩⟩
 case round=>
  obtain⟨k,av,fr,rfl,hk,HP,HO,HB⟩:=hrel;obtain⟨h0,hw,hp⟩:=HP.out;have hvl:=HVl.out;by_cases hlt:av<(v.length:Int)
  ·have d3:decide (av<(v.length:Int))=true:=af hlt;have hkl:k<l.length:=by
    rcases Nat.lt_or_ge k l.length with h|h
    ·exact h
    ·rw[List.drop_of_length_le h]at hp;have:av=words:=hp;omega
   have htk:l.take (k+1)=l.take k++[ab l k]:=by rw[List.take_succ_eq_append_getElem hkl];unfold ab;rw[Int.toNat_natCast,ax,bx hkl];rfl
   have hmem:ab l (k:Int)∈l:=jl (by omega) (by omega);have hhead:=HHv.out.2.2.2 _ hmem;rw[px hkl]at hp;obtain⟨ad,ea,hx⟩:=Kd.at_int (Kd.C_below HR.out HB.out) av h0 hlt;cases ea;have HTk:=am htk;generalize ab l (k:Int)=x at hp hhead HTk;obtain⟨e0,e1,e2,e3,e4,hn⟩:=hp;subst e0;rw[hhead]at hx;have HPr:Aside0 (gx.f (nc x)=some (x.f1,x.f2,true)):=⟨by
    have h1:=qja x;rw[ql8 (by unfold nc;split <;> omega),h1.1,h1.2,if_pos ⟨e1,e2⟩]⟩
   have p0:(0<=x.f0)=True:=eq_true h0;have p1:(x.f0<(v.length:Int))=True:=eq_true hlt;have w2:wrap64 (x.f0+x.f1)=x.f0+x.f1:=w64 (by omega);have HW2:=am w2;have HNx:Aside0 (0<=x.f0+x.f1/\x.f0+x.f1<=words/\f9 words (x.f0+x.f1) (!x.f2) (l.drop (k+1))):=⟨by omega,by omega,hn⟩;have HLt:Aside0 (k+1<=l.length/\2<=x.f1/\x.f0<(v.length:Int)/\0<=x.f0):=⟨by omega,e1,hlt,h0⟩;clear hn w2 hlt htk hhead hmem e4 hvl;go_wp2_with (first
    |(go_at_call 117;(with_reducible refine(gx.calls (nc x) x.f1 x.f2 true _ HPr.out).mono ?_);rintro e w3 ⟨rfl,hd⟩;have HB3:=am (aa HB.out hd.below);have HO3:=am (Kd.R_below HO.out hd.below);clear hd)
    |((with_reducible refine di (b:=.append) (xs:=#[.tmp 24, .tmp 29]) rfl ?_);at_builtin;refine qml x rfl rfl rfl rfl HO3.out HB3.out (by rw[List.length_take];omega) ?_;intro v1 w8 ho hb;have HO8:=am ho;have HB8:=am hb;clear ho hb))
   exact⟨⟨k+1,_,_,rfl,HLt.out.1,HNx,⟨by rw[HTk.out];exact HO8.out⟩,HB8⟩,by have:=HLt.out;simp only[intOf];omega⟩
  ·have hav:av=words:=by omega
   have hkk:k=l.length:=by
    rcases Nat.lt_or_ge k l.length with h|h
    ·rw[px h]at hp;have:=hp.2.1;have:=hp.2.2.2.1;omega
    ·omega
   subst hkk;have d3:decide (av<(v.length:Int))=false:=ah hlt;rw[List.take_length]at HO;obtain⟨A',c',rfl⟩:=Kd.R_slice HO.out;have HCm:Aside0 (∀ w',Kd.R e6 116 w' w.heap.size (fun _=>True) (.slice A' l.length c') l->Calls Tryz.prog 118 #[.slice A' l.length c', .int .i64 v.length] w' fun e w''=>e=.returned (.bool true)/\Below w'.heap.size w' w''):=⟨fun w' h=>by
    obtain⟨_,q1,q2⟩:=Kd.R_reads' h;exact un (by rw[HVl.out];exact HHv.out.1) q2 q1⟩
   clear hvl hav;go_wp2_with (first
    |(go_at_call 118;refine(HCm.out _ HO.out).mono ?_;rintro e w3 ⟨rfl,hb⟩;have HB3:=am (aa HB.out hb);have HO3:=am (Kd.R_below HO.out hb);clear hb))
   go_ret2;exact⟨_,_,rfl,HO3.out,HB3.out⟩
end
section
variable{w:World}{l:List S116}{A:Option Addr}{c:Nat}
theorem qbc(hl:Wf l){need:Int}(hn:2<=need)(hr:Kd.C e6 w A l.length l)(hc:l.length<=c):Calls Tryz.prog 112 #[.slice A l.length c, .int .i64 need] w fun e w'=>∃ v out,e=.returned v/\Kd.R (Kd.int .i64) 3 w' w.heap.size (fun _=>True) v out/\FitsP l need l.length out/\out.length<=l.length/\Below w.heap.size w w':=by
 have HR:=am hr;have HW:=am hl;have n2:decide (need<2)=false:=ah (by omega);clear hr hn;go_enter Tryz.func112,Tryz.ntmps112;go_wp2;go_loopw [5,12] (fun v i wr=>∃ (k:Nat) (out:List Int),i=.int .i64 k/\k<=l.length/\Aside0 (FitsP l need k out)/\Aside0 (out.length<=k)/\Aside0 (Kd.R (Kd.int .i64) 3 wr w.heap.size (fun _=>True) v out)/\Aside0 (Below w.heap.size w wr)) (fun _ i _=>l.length-(intOf i).toNat)
 case atStart=>exact⟨0,[],rfl,by omega,⟨FitsP.zero l need⟩,⟨by simp⟩,⟨Kd.R_nil _ _ _ _ _⟩,⟨ai _ _⟩⟩
 case round =>
  obtain⟨k,out,rfl,hk,HF,HL,HO,HB⟩:=hrel;by_cases hlt:k<l.length
  ·have d3:decide ((k:Int)<l.length)=true:=af (by omega);obtain⟨ad,ea,hx0,hx1,hx2⟩:=fj (Kd.C_below HR.out HB.out) (k:Int) (by omega) (by omega);cases ea;rw[Int.toNat_natCast]at hx0 hx1 hx2;have p0:(0<=(k:Int))=True:=eq_true (by omega);have p1:((k:Int)<l.length)=True:=eq_true (by omega);have HWk:=am (wk1 k (by have:=HW.out.1;omega));have HMs:=am (wk2 hlt (by have:=HW.out.1;omega));have hd:OkB l need k∨¬ OkB l need k:=Classical.em _;unfold OkB at hd;generalize hx:ab l (k:Int)=x at hd hx0 hx1 hx2;have HX:=am hx;clear hx;rcases hd with⟨hu,hs⟩|hno
   ·rw [hu] at hx2;have d5 : decide (x.f1 < need) = false := ah (by omega);obtain ⟨Ao, co, eo⟩ := Kd.R_slice HO.out;subst eo;go_wp2;have hw1 : Below wr.heap.size wr (wr.alloc (.cells #[.int .i64 x.f0, .int .i64 x.f1, .bool false] 116)) := (ai _ _).alloc (an _) _;have hz := heap_alloc_new wr (.cells #[.int .i64 x.f0, .int .i64 x.f1, .bool false] 116);generalize wr.alloc (.cells #[.int .i64 x.f0, .int .i64 x.f1, .bool false] 116) = w1 at hw1 hz ⊢;have HO1 := am (Kd.R_below HO.out hw1);have HB1 := am (aa HB.out hw1);have HZ := am hz;clear hx0 hx1 hx2 hw1 hz HO HB;generalize wr.heap.size = g at HZ ⊢;rcases out with _ | ⟨a, out⟩
    case' nil=>have HF2:=am (FitsP.first (by omega) HF.out (by unfold OkB;rw[HX.out];exact⟨hu,hs⟩));have HQ:=HO1;have HL2:Aside0 (([]:List Int).length<=k):=⟨by simp⟩;refine dj (n:=15) (S:=fun _=>True) (ds:=[]) (onA 15 0) (by kernel_rfl) rfl rfl trivial (fun hHeld=>?_);refine ps 0 25 ?_;refine ps 1 26 ?_;refine ps 2 27 ?_;refine ps 3 28 ?_;refine pg 4 29 ?_;refine pg 5 30 ?_;refine pg 6 31 ?_;refine pg 7 32 ?_;refine pg 8 33 ?_;refine pg 9 34 ?_;refine pg 10 35 ?_;refine pg 11 36 ?_;refine pg 12 37 ?_;refine pg 13 38 ?_;refine ps 14 39 ?_;refine fa (by kernel_rfl) ?_;go_wp2;refine dj (n:=15) (S:=fun _=>True) (ds:=[]) (onA 15 0) (by kernel_rfl) rfl rfl trivial (fun hHeld=>?_);refine ps 0 40 ?_;refine ps 1 41 ?_;refine ps 2 42 ?_;refine ps 3 43 ?_;refine pg 4 44 ?_;refine pg 5 45 ?_;refine pg 6 46 ?_;refine pg 7 47 ?_;refine pg 8 48 ?_;refine pg 9 49 ?_;refine pg 10 50 ?_;refine pg 11 51 ?_;refine pg 12 52 ?_;refine pg 13 53 ?_;refine ps 14 54 ?_;refine fa (by kernel_rfl) ?_
    case' cons=>
     have hah:=HF.out.head;obtain⟨go,cap,ev,_⟩:=Kd.R_form HO1.out (by simp);injection ev with e1 _ e2;subst e1 e2;obtain⟨ad',ea,_,hy1,_⟩:=fj (Kd.C_below HR.out HB1.out) a hah.1 (by omega);cases ea;have q0:(0<=a)=True:=eq_true hah.1;have q1:(a<(l.length:Int))=True:=eq_true (by omega);have q2:decide ((0:Int)<((a::out).length:Int))=true:=af (by simp);generalize hy:ab l a=y at hy1;have HY:=am hy;have HS:=am (show w1.cell? ⟨g,1,none⟩=some (.int .i64 x.f1)/\w1.cell? ⟨go,0,none⟩=some (.int .i64 a)/\w1.cell? ⟨(ad.add (a.toNat*3)).block,(ad.add (a.toNat*3)).off+1,none⟩=some (.int .i64 y.f1)from⟨(aj HZ.out 1).trans rfl,(i8 HO1.out 0 (by simp)).1,hy1⟩);clear hy hy1;refine dj (n:=15) (S:=fun w'=>w'.cell? ⟨g,1,none⟩=some (.int .i64 x.f1)/\w'.cell? ⟨go,0,none⟩=some (.int .i64 a)/\w'.cell? ⟨(ad.add (a.toNat*3)).block,(ad.add (a.toNat*3)).off+1,none⟩=some (.int .i64 y.f1)) (ds:=[]) (onA 15 0) (by kernel_rfl) rfl rfl HS.out (fun hHeld=>?_);refine ps 0 25 ?_;refine ps 1 26 ?_;refine ps 2 27 ?_;refine ps 3 28 ?_;refine ps 4 29 ?_;refine ps 5 30 ?_;refine ps 6 31 ?_;refine ps 11 36 ?_;refine vs 7 32 hHeld (fun w' hs=>aw 3 (.tmp 31) rfl go 0 _ rfl hs.2.1 _ Tryz.underlying3 rfl) ?_;refine ps 8 33 ?_;refine ps 9 34 ?_;refine vs 10 35 hHeld (fun w' hs=>aw 3 (.tmp 34) rfl _ _ _ rfl hs.2.2 _ Tryz.underlying3 rfl) ?_;refine vs 12 37 hHeld (fun w' hs=>aw 3 (.tmp 36) rfl g 1 _ rfl hs.1 _ Tryz.underlying3 rfl) ?_;refine ps 13 38 ?_;refine ps 14 39 ?_;refine fa (by kernel_rfl) ?_;by_cases e1:x.f1<y.f1
     case' pos=>have r1:decide (x.f1<y.f1)=true:=af e1;have HF2:=am (HF.out.less (by unfold OkB;rw[HX.out];exact⟨hu,hs⟩) (by rw[HX.out,HY.out];exact e1));have HQ:Aside0 (Kd.R (Kd.int .i64) 3 w1 w.heap.size (fun _=>True) (.slice none 0 0) []):=⟨Kd.R_nil _ _ _ _ _⟩;have HL2:Aside0 (([]:List Int).length<=k):=⟨by simp⟩;go_wp2;refine dj (n:=15) (S:=fun _=>True) (ds:=[]) (onA 15 0) (by kernel_rfl) rfl rfl trivial (fun hHeld=>?_);refine ps 0 40 ?_;refine ps 1 41 ?_;refine ps 2 42 ?_;refine ps 3 43 ?_;refine pg 4 44 ?_;refine pg 5 45 ?_;refine pg 6 46 ?_;refine pg 7 47 ?_;refine pg 8 48 ?_;refine pg 9 49 ?_;refine pg 10 50 ?_;refine pg 11 51 ?_;refine pg 12 52 ?_;refine pg 13 53 ?_;refine ps 14 54 ?_;refine fa (by kernel_rfl) ?_
     case' neg=>
      have r1:decide (x.f1<y.f1)=false:=ah e1;go_wp2;by_cases e2:x.f1=y.f1
      case' pos=>have r2:decide (y.f1=x.f1)=true:=af e2.symm;have r3:(y.f1==x.f1)=true:=beq_iff_eq.mpr e2.symm;have HF2:=am (HF.out.same (by unfold OkB;rw[HX.out];exact⟨hu,hs⟩) (by rw[HX.out,HY.out];exact e2));have HQ:=HO1;have HL2:=HL;clear e2
      case' neg=>have r2:decide (y.f1=x.f1)=false:=ah (fun h=>e2 h.symm);have r3:(y.f1==x.f1)=false:=beq_eq_false_iff_ne.mpr (fun h=>e2 h.symm);have HF2:=am (HF.out.more (by rw[HX.out,HY.out];omega));clear e2
      all_goals
       refine dj (n:=15) (S:=fun w'=>w'.cell? ⟨g,1,none⟩=some (.int .i64 x.f1)/\w'.cell? ⟨go,0,none⟩=some (.int .i64 a)/\w'.cell? ⟨(ad.add (a.toNat*3)).block,(ad.add (a.toNat*3)).off+1,none⟩=some (.int .i64 y.f1)) (ds:=[]) (onA 15 0) (by kernel_rfl) rfl rfl HS.out (fun hHeld=>?_)
       refine ps 0 40 ?_
       refine ps 1 41 ?_
       refine ps 2 42 ?_
       refine ps 3 43 ?_
       refine ps 4 44 ?_
       refine ps 5 45 ?_
       refine ps 6 46 ?_
       refine ps 11 51 ?_
       refine vs 7 47 hHeld (fun w' hs=>aw 3 (.tmp 46) rfl go 0 _ rfl hs.2.1 _ Tryz.underlying3 rfl) ?_
       refine ps 8 48 ?_
       refine ps 9 49 ?_
       refine vs 10 50 hHeld (fun w' hs=>aw 3 (.tmp 49) rfl _ _ _ rfl hs.2.2 _ Tryz.underlying3 rfl) ?_
       refine vs 12 52 hHeld (fun w' hs=>aw 3 (.tmp 51) rfl g 1 _ rfl hs.1 _ Tryz.underlying3 rfl) ?_
       refine ps 13 53 ?_
       refine ps 14 54 ?_
       refine fa (by kernel_rfl) ?_
      case' neg=>
       go_wp2;go_roundw
       case rel=>exact⟨k+1,_,HWk.out,hlt,HF2,⟨by have:=HL.out;simp at this ⊢;omega⟩,⟨rz HO1⟩,⟨bz HB1⟩⟩
       case measure=>exact HMs.out
    all_goals go_wp2_with (first
     |((with_reducible refine b9 (N:=57) rfl ?_);refine mr rfl (.tmp 56) rfl (k:Int) rfl ?_)
     |((with_reducible refine di (b:=.append) (xs:=#[.tmp 55, .tmp 57]) rfl ?_);at_builtin;refine apI (k:Int) rfl rfl rfl rfl (rz HQ) (bz HB1) (by have h1:=HL2.out;have h2:=HW.out.1;exact Nat.le_trans h1 (by omega)) ?_;intro v1 w8 ho hb;have HO8:=am ho;have HB8:=am hb;clear ho hb))
    all_goals go_roundw
    all_goals first
     |exact⟨k+1,_,HWk.out,hlt,HF2,⟨by have h1:=HL2.out;first|(rw[List.length_append];exact Nat.add_le_add h1 (an 1))|simp⟩,HO8,HB8⟩
     |exact HMs.out
   ·have HF2:=am (HF.out.skip (by unfold OkB;rw[HX.out];exact hno));have hs:x.f2=true\/(x.f2=false/\decide (x.f1<need)=true):=by
     cases hb:x.f2
     ·exact .inr ⟨rfl,af (by rw[hb]at hno;simp at hno;omega)⟩
     ·exact .inl rfl
    rcases hs with hb|⟨hb,d5⟩
    all_goals (rw[hb]at hx2;go_wp2;go_roundw)
    all_goals first
     |exact⟨k+1,out,HWk.out,hlt,HF2,⟨by have:=HL.out;omega⟩,⟨Kd.R_below HO.out ((ai _ _).alloc (an _) _)⟩,⟨aa HB.out ((ai _ _).alloc (an _) _)⟩⟩
     |exact HMs.out
  ·have hkk:k=l.length:=by omega
   subst hkk;have d3:decide ((l.length:Int)<l.length)=false:=ah (by omega);go_wp2;go_ret;exact⟨_,out,rfl,HO.out,HF.out,HL.out,HB.out⟩
end
section
variable{w:World}{l:List S116}{A A2:Option Addr}{c c2:Nat}{counts:List Int}
theorem ql3{a:Int}(h1:a<=9223372036854775807):kx.f a counts=some (nw a counts):=by
 have:=qhe (a:=a) (b:=0) (c:=false) (counts:=counts) h1;rw[<-this];rfl
theorem qd4(hl:Wf l){need:Int}(hn:2<=need)(hr:Kd.C e6 w A l.length l)(hc:l.length<=c)(hr2:Kd.C (Kd.int .i64) w A2 counts.length counts)(hc2:counts.length<=c2):Calls Tryz.prog 73 #[.slice A l.length c, .int .i64 need, .slice A2 counts.length c2] w fun e w'=>∃ ch out,e=.returned (.int .i64 ch)/\FitsP l need l.length out/\jq l counts out ch/\Below w.heap.size w w':=by
 have HR:=am hr;have HR2:=am hr2;have HFt:=am (qbc (w:=w) hl hn hr hc);have HW:=am hl;have HCt:Aside0 (∀ (w':World) (x:S116),x.f0<=9223372036854775807->Kd.C (Kd.int .i64) w' A2 counts.length counts->Calls Tryz.prog 119 #[.int .i64 x.f0, .slice A2 counts.length c2] w' fun e w''=>e=.returned (.int .i64 (nw x.f0 counts))/\Drawn0 w' w''):=⟨fun w' x h h2=>kx.calls x.f0 A2 c2 counts _ w' h2 hc2 (ql3 h)⟩;clear hr hr2 hn hl;go_enter Tryz.func73,Tryz.ntmps73;go_wp2_with (first
  |(go_at_call 112;(with_reducible refine HFt.out.mono ?_);rintro e w1 ⟨v,out,rfl,ho,hf,hlo,hb⟩;obtain⟨A1,c1,rfl⟩:=Kd.R_slice ho;have HO:=am (Kd.R_reads' ho).2.2;have HF:=am hf;have HB:=am hb;clear ho hf hb))
 have HLo:=am hlo;clear hlo;go_loopw [7,14] (fun b i wr=>∃ (k:Nat) (best:Int),b=.int .i64 best/\i=.int .i64 k/\k<=out.length/\Aside0 (jq l counts (out.take k) best)/\Aside0 (Below w1.heap.size w1 wr)) (fun _ i _=>out.length-(intOf i).toNat)
 case atStart=>exact⟨0,-1,rfl,rfl,by omega,⟨.inl ⟨rfl,rfl⟩⟩,⟨ai _ _⟩⟩
 case round =>
  obtain⟨k,best,rfl,rfl,hk,HP,HB1⟩:=hrel;by_cases hlt:k<out.length
  ·have d3:decide ((k:Int)<out.length)=true:=af (by omega);have htk:out.take (k+1)=out.take k++[out[k]]:=List.take_succ_eq_append_getElem hlt;have hmem:out[k]∈out:=List.getElem_mem hlt;obtain⟨ao,eo,hx⟩:=Kd.at_int (Kd.C_below HO.out HB1.out) (k:Int) (by omega) (by omega);cases eo;rw[show rd out (k:Int)=out[k]by unfold rd;rw[Int.toNat_natCast,ax,bx hlt];rfl,Int.toNat_natCast]at hx;have HTk:=am htk;have hoi:=HF.out.ok _ hmem;generalize out[k]=xv at hx HTk hoi;have p0:(0<=(k:Int))=True:=eq_true (by omega);have p1:((k:Int)<out.length)=True:=eq_true (by omega);have HWk:=am (wk1 k (by have:=HW.out.1;have:=HLo.out;omega));have HMs:=am (wk2 hlt (by have:=HW.out.1;have:=HLo.out;omega));have HLt:=am hlt;clear htk hmem hlt;rcases HP.out with⟨hnil,rfl⟩|⟨hm,hall⟩
   case inl=>
    have HC2:Aside0 (jq l counts (out.take (k+1)) xv):=⟨by rw[HTk.out,hnil];exact z6 xv⟩;clear hoi hnil
    as_aux_lemma=>go_wp2;refine dj (n:=49) (S:=fun w'=>Below w1.heap.size w1 w') (ds:=[]) (onA 49 0) (by kernel_rfl) rfl rfl (bz HB1) (fun hHeld=>?_);refine ps 0 18 ?_;refine ps 1 19 ?_;refine ps 2 20 ?_;refine pg 3 21 ?_;refine pg 4 22 ?_;refine pg 5 23 ?_;refine pg 6 24 ?_;refine pg 7 25 ?_;refine pg 8 26 ?_;refine pg 9 27 ?_;refine pg 10 28 ?_;refine pg 11 29 ?_;refine pg 12 30 ?_;refine pg 13 31 ?_;refine pg 14 32 ?_;refine pg 15 33 ?_;refine pg 16 34 ?_;refine pg 17 35 ?_;refine ps 18 36 ?_;refine ps 19 37 ?_;refine pg 20 38 ?_;refine pg 21 39 ?_;refine pg 22 40 ?_;refine pg 23 41 ?_;refine pg 24 42 ?_;refine pg 25 43 ?_;refine pg 26 44 ?_;refine pg 27 45 ?_;refine pg 28 46 ?_;refine pg 29 47 ?_;refine pg 30 48 ?_;refine pg 31 49 ?_;refine pg 32 50 ?_;refine pg 33 51 ?_;refine pg 34 52 ?_;refine pg 35 53 ?_;refine pg 36 54 ?_;refine pg 37 55 ?_;refine pg 38 56 ?_;refine pg 39 57 ?_;refine pg 40 58 ?_;refine pg 41 59 ?_;refine pg 42 60 ?_;refine pg 43 61 ?_;refine pg 44 62 ?_;refine pg 45 63 ?_;refine pg 46 64 ?_;refine pg 47 65 ?_;refine ps 48 66 ?_;refine fa (by kernel_rfl) ?_;go_wp2;exact⟨⟨k+1,_,rfl,HWk.out,HLt.out,HC2,⟨bz HB1⟩⟩,HMs.out⟩
   case inr=>
    have hbi:=HF.out.ok _ (List.mem_of_mem_take hm);have n7:decide (best<0)=false:=ah (by omega);obtain⟨xi,rfl⟩:=Int.eq_ofNat_of_zero_le hoi.1;obtain⟨bi,rfl⟩:=Int.eq_ofNat_of_zero_le hbi.1;obtain⟨ad,ea,hX⟩:=mg (Kd.C_below HR.out (aa HB.out HB1.out)) (i:=xi) (by omega);cases ea;obtain⟨ad',ea,hY⟩:=mg (Kd.C_below HR.out (aa HB.out HB1.out)) (i:=bi) (by omega);cases ea;have q0:(0<=(xi:Int))=True:=eq_true (by omega);have q1:((xi:Int)<l.length)=True:=eq_true (by omega);have q2:(0<=(bi:Int))=True:=eq_true (by omega);have q3:((bi:Int)<l.length)=True:=eq_true (by omega);have HN:=am (fun h=>qct (x:=(xi:Int)) hall h);have HD:=am (fun h=>qcu (x:=(xi:Int)) hm hall h);have HXm:=am (HW.out.2 (xi:Int)).2.1;have HYm:=am (HW.out.2 (bi:Int)).2.1;unfold qku at HN HD;clear hoi hbi hm hall;generalize ab l (xi:Int)=x at hX HN HD HXm;generalize ab l (bi:Int)=y at hY HN HD HYm;have HX:=am hX;have HY:=am hY;clear hX hY;go_wp2;refine dj (n:=49) (S:=fun w'=>Below w1.heap.size w1 w'∧R3 w' ad xi x/\R3 w' ad bi y) (ds:=[]) (onA 49 0) (by kernel_rfl) rfl rfl ⟨bz HB1,HX.out.on (bg (ai _ _)),HY.out.on (bg (ai _ _))⟩ (fun hHeld=>?_);refine ps 0 18 ?_;refine ps 1 19 ?_;refine ps 2 20 ?_;refine ps 3 21 ?_;refine ps 4 22 ?_;refine ps 5 23 ?_;refine ps 6 24 ?_;refine ps 8 26 ?_;refine ps 10 28 ?_;refine ps 11 29 ?_;refine ps 12 30 ?_;refine ps 13 31 ?_;refine ps 15 33 ?_;refine vg 7 25 rfl hHeld (by rintro w' ⟨_,⟨a0,a1,a2⟩,_⟩;go_simp;with_reducible rfl) ?_;refine vg 14 32 rfl hHeld (by rintro w' ⟨_,_,⟨b0,b1,b2⟩⟩;go_simp;with_reducible rfl) ?_;refine os 9 27 Tryz.func119 #[.int .i64 x.f0, .slice A2 counts.length c2] ?_;refine(HCt.out _ x HXm.out (Kd.C_below HR2.out (aa HB.out hHeld.1))).mono ?_;rintro e w3 ⟨rfl,hd⟩;refine⟨_,rfl,⟨aa hHeld.1 hd.below,hHeld.2.1.on hd.below,hHeld.2.2.on hd.below⟩,fun hHeld=>nz ?_⟩;refine os 16 34 Tryz.func119 #[.int .i64 y.f0, .slice A2 counts.length c2] ?_;refine(HCt.out _ y HYm.out (Kd.C_below HR2.out (aa HB.out hHeld.1))).mono ?_;rintro e w4 ⟨rfl,hd⟩;refine⟨_,rfl,⟨aa hHeld.1 hd.below,hHeld.2.1.on hd.below,hHeld.2.2.on hd.below⟩,fun hHeld=>nz ?_⟩;by_cases c1:nw x.f0 counts<nw y.f0 counts
    case pos=>
     have HC2:Aside0 (jq l counts (out.take (k+1)) xi):=⟨by rw[HTk.out];exact HN.out (.inl c1)⟩;have r1:decide (nw x.f0 counts<nw y.f0 counts)=true:=af c1;clear c1
     as_aux_lemma=>refine ps 17 35 ?_;refine ps 18 36 ?_;refine ps 19 37 ?_;refine pg 20 38 ?_;refine pg 21 39 ?_;refine pg 22 40 ?_;refine pg 23 41 ?_;refine pg 24 42 ?_;refine pg 25 43 ?_;refine pg 26 44 ?_;refine pg 27 45 ?_;refine pg 28 46 ?_;refine pg 29 47 ?_;refine pg 30 48 ?_;refine pg 31 49 ?_;refine pg 32 50 ?_;refine pg 33 51 ?_;refine pg 34 52 ?_;refine pg 35 53 ?_;refine pg 36 54 ?_;refine pg 37 55 ?_;refine pg 38 56 ?_;refine pg 39 57 ?_;refine pg 40 58 ?_;refine pg 41 59 ?_;refine pg 42 60 ?_;refine pg 43 61 ?_;refine pg 44 62 ?_;refine pg 45 63 ?_;refine pg 46 64 ?_;refine pg 47 65 ?_;refine ps 48 66 ?_;refine fa (by kernel_rfl) ?_;clear HB1;have HB1:=am hHeld.1;go_wp2;exact⟨⟨k+1,_,rfl,HWk.out,HLt.out,HC2,⟨bz HB1⟩⟩,HMs.out⟩
    case neg=>
     have r1:decide (nw x.f0 counts<nw y.f0 counts)=false:=ah c1;by_cases c2:nw x.f0 counts=nw y.f0 counts
     case neg=>
      have HC2:Aside0 (jq l counts (out.take (k+1)) bi):=⟨by rw[HTk.out];exact HD.out (fun h=>by rcases h with h|h <;> omega)⟩;have r2:decide (nw x.f0 counts=nw y.f0 counts)=false:=ah c2;have r3:(nw x.f0 counts==nw y.f0 counts)=false:=beq_eq_false_iff_ne.mpr c2;clear c1 c2
      as_aux_lemma=>refine ps 17 35 ?_;refine ps 18 36 ?_;refine ps 19 37 ?_;refine ps 20 38 ?_;refine ps 21 39 ?_;refine ps 22 40 ?_;refine ps 23 41 ?_;refine ps 25 43 ?_;refine ps 27 45 ?_;refine ps 28 46 ?_;refine ps 29 47 ?_;refine ps 30 48 ?_;refine ps 32 50 ?_;refine vg 24 42 rfl hHeld (by rintro w' ⟨_,⟨a0,a1,a2⟩,_⟩;go_simp;with_reducible rfl) ?_;refine vg 31 49 rfl hHeld (by rintro w' ⟨_,_,⟨b0,b1,b2⟩⟩;go_simp;with_reducible rfl) ?_;refine os 26 44 Tryz.func119 #[.int .i64 x.f0, .slice A2 counts.length c2] ?_;refine(HCt.out _ x HXm.out (Kd.C_below HR2.out (aa HB.out hHeld.1))).mono ?_;rintro e w5 ⟨rfl,hd⟩;refine⟨_,rfl,⟨aa hHeld.1 hd.below,hHeld.2.1.on hd.below,hHeld.2.2.on hd.below⟩,fun hHeld=>nz ?_⟩;refine os 33 51 Tryz.func119 #[.int .i64 y.f0, .slice A2 counts.length c2] ?_;refine(HCt.out _ y HYm.out (Kd.C_below HR2.out (aa HB.out hHeld.1))).mono ?_;rintro e w6 ⟨rfl,hd⟩;refine⟨_,rfl,⟨aa hHeld.1 hd.below,hHeld.2.1.on hd.below,hHeld.2.2.on hd.below⟩,fun hHeld=>nz ?_⟩;refine ps 34 52 ?_;refine ps 35 53 ?_;refine pg 36 54 ?_;refine pg 37 55 ?_;refine pg 38 56 ?_;refine pg 39 57 ?_;refine pg 40 58 ?_;refine pg 41 59 ?_;refine pg 42 60 ?_;refine pg 43 61 ?_;refine pg 44 62 ?_;refine pg 45 63 ?_;refine pg 46 64 ?_;refine ps 47 65 ?_;refine ps 48 66 ?_;refine fa (by kernel_rfl) ?_;clear HB1;have HB1:=am hHeld.1;go_wp2;exact⟨⟨k+1,_,rfl,HWk.out,HLt.out,HC2,⟨bz HB1⟩⟩,HMs.out⟩
     case pos=>
      have r2:decide (nw x.f0 counts=nw y.f0 counts)=true:=af c2;have r3:(nw x.f0 counts==nw y.f0 counts)=true:=beq_iff_eq.mpr c2;by_cases c3:x.f0<y.f0
      case' pos=>have HC2:Aside0 (jq l counts (out.take (k+1)) xi):=⟨by rw[HTk.out];exact HN.out (.inr ⟨c2,c3⟩)⟩;have r4:decide (x.f0<y.f0)=true:=af c3
      case' neg=>have HC2:Aside0 (jq l counts (out.take (k+1)) bi):=⟨by rw[HTk.out];exact HD.out (fun h=>by rcases h with h|h <;> omega)⟩;have r4:decide (x.f0<y.f0)=false:=ah c3
      all_goals
       clear c1 c2 c3
       as_aux_lemma=>refine ps 17 35 ?_;refine ps 18 36 ?_;refine ps 19 37 ?_;refine ps 20 38 ?_;refine ps 21 39 ?_;refine ps 22 40 ?_;refine ps 23 41 ?_;refine ps 25 43 ?_;refine ps 27 45 ?_;refine ps 28 46 ?_;refine ps 29 47 ?_;refine ps 30 48 ?_;refine ps 32 50 ?_;refine vg 24 42 rfl hHeld (by rintro w' ⟨_,⟨a0,a1,a2⟩,_⟩;go_simp;with_reducible rfl) ?_;refine vg 31 49 rfl hHeld (by rintro w' ⟨_,_,⟨b0,b1,b2⟩⟩;go_simp;with_reducible rfl) ?_;refine os 26 44 Tryz.func119 #[.int .i64 x.f0, .slice A2 counts.length c2] ?_;refine(HCt.out _ x HXm.out (Kd.C_below HR2.out (aa HB.out hHeld.1))).mono ?_;rintro e w5 ⟨rfl,hd⟩;refine⟨_,rfl,⟨aa hHeld.1 hd.below,hHeld.2.1.on hd.below,hHeld.2.2.on hd.below⟩,fun hHeld=>nz ?_⟩;refine os 33 51 Tryz.func119 #[.int .i64 y.f0, .slice A2 counts.length c2] ?_;refine(HCt.out _ y HYm.out (Kd.C_below HR2.out (aa HB.out hHeld.1))).mono ?_;rintro e w6 ⟨rfl,hd⟩;refine⟨_,rfl,⟨aa hHeld.1 hd.below,hHeld.2.1.on hd.below,hHeld.2.2.on hd.below⟩,fun hHeld=>nz ?_⟩;refine ps 34 52 ?_;refine ps 35 53 ?_;refine ps 36 54 ?_;refine ps 37 55 ?_;refine ps 38 56 ?_;refine ps 39 57 ?_;refine ps 41 59 ?_;refine ps 42 60 ?_;refine ps 43 61 ?_;refine ps 44 62 ?_;refine vg 40 58 rfl hHeld (by rintro w' ⟨_,⟨a0,a1,a2⟩,_⟩;go_simp;with_reducible rfl) ?_;refine vg 45 63 rfl hHeld (by rintro w' ⟨_,_,⟨b0,b1,b2⟩⟩;go_simp;with_reducible rfl) ?_;refine ps 46 64 ?_;refine ps 47 65 ?_;refine ps 48 66 ?_;refine fa (by kernel_rfl) ?_;clear HB1;have HB1:=am hHeld.1;go_wp2;exact⟨⟨k+1,_,rfl,HWk.out,HLt.out,HC2,⟨bz HB1⟩⟩,HMs.out⟩
  ·have hkk:k=out.length:=by omega
   subst hkk;have d3:decide ((out.length:Int)<out.length)=false:=ah (by omega);rw[List.take_length]at HP;go_wp2;go_ret;exact⟨best,out,rfl,HF.out,HP.out,aa HB.out HB1.out⟩
end
section
variable{w:World}{l:List S116}{A:Option Addr}{c:Nat}
theorem uo{words:Int}(hm:mb l words)(hr:Kd.C e6 w A l.length l):Calls Tryz.prog 155 #[.slice A l.length c] w fun e w'=>e=.returned (.int .i64 words)/\Below w.heap.size w w':=by
 have HR:=am hr;have hlen:=j6 hm;have HM:=am hm;clear hr hm;go_enter Tryz.func155,Tryz.ntmps155;go_wp2;go_loopw [3,8] (fun s i wr=>∃ k:Nat,s=.int .i64 (dq (l.take k))/\i=.int .i64 k/\k<=l.length/\Aside0 (Below w.heap.size w wr)) (fun _ i _=>l.length-(intOf i).toNat)
 case atStart=>exact⟨0,rfl,rfl,by omega,⟨ai _ _⟩⟩
 case round=>
  obtain⟨k,rfl,rfl,hk,HB⟩:=hrel;by_cases hlt:k<l.length
  ·have d3:decide ((k:Int)<l.length)=true:=af (by omega);obtain⟨ad,ea,hx0,hx1,hx2⟩:=fj (Kd.C_below HR.out HB.out) (k:Int) (by omega) (by omega);cases ea;rw[Int.toNat_natCast]at hx0 hx1 hx2;have p0:(0<=(k:Int))=True:=eq_true (by omega);have p1:((k:Int)<l.length)=True:=eq_true (by omega);have HWk:=am (wk1 k (by omega));have HMs:=am (wk2 hlt (by omega));obtain⟨s1,s2,s3,s4,s5⟩:=qia HM.out hlt;have hwm:=HM.out.1.2.1;have HS1:=am s1;generalize dq (l.take k)=n at s2 s3 HS1 ⊢;generalize ab l (k:Int)=x at hx0 hx1 hx2 s3 s4 s5 HS1;have r0:decide (x.f1<0)=false:=ah (by omega);have r1:decide (1000<x.f1)=false:=ah (by omega);have w2:wrap64 (n+x.f1)=n+x.f1:=w64 (by omega);have HW2:=am w2;have HLt:=am hlt;clear s1 w2 hlt;go_wp2;have hal:=(ai wr.heap.size wr).alloc (an _) (.cells #[.int .i64 x.f0, .int .i64 x.f1, .bool x.f2] 116);have HB3:=am (aa HB.out hal);exact⟨⟨k+1,by rw[HS1.out],congrArg _ (by omega),HLt.out,HB3⟩,by have:=HLt.out;simp[intOf];omega⟩
  ·have hkk:k=l.length:=by omega
   subst hkk;have d3:decide ((l.length:Int)<l.length)=false:=ah (by omega);have HE:Aside0 (dq (l.take l.length)=words):=⟨by rw[List.take_length];exact(qc9 HM.out).symm⟩;rw[HE.out];go_wp2;go_ret;exact⟨rfl,HB.out⟩
theorem qgg(a b:Int)(c:Bool):dz.f a b c=some (oo a):=by
 rw[<-qki a b c];rfl
theorem xh{off:Int}(hlen:l.length<=1000)(hr:Kd.C e6 w A l.length l):Calls Tryz.prog 116 #[.slice A l.length c, .int .i64 off] w fun e w'=>e=.returned (.int .i64 (na off l 0))/\Below w.heap.size w w':=by
 have HR:=am hr;clear hr;generalize hres:na off l 0=res;have HRes:=am hres;clear hres;go_enter Tryz.func116,Tryz.ntmps116;go_wp2;go_loopw [9] (fun i wr=>∃ k:Nat,i=.int .i64 k/\k<=l.length/\Aside0 (na off (l.drop k) k=res)/\Aside0 (Below w.heap.size w wr)) (fun i _=>l.length-(intOf i).toNat)
 case atStart=>exact⟨0,rfl,by omega,HRes,⟨ai _ _⟩⟩
 case round=>
  obtain⟨k,rfl,hk,HF,HB⟩:=hrel;by_cases hlt:k<l.length
  ·have d3:decide ((k:Int)<l.length)=true:=af (by omega);obtain⟨ad,ea,hx0,hx1,hx2⟩:=fj (Kd.C_below HR.out HB.out) (k:Int) (by omega) (by omega);cases ea;rw[Int.toNat_natCast]at hx0 hx1 hx2;have p0:(0<=(k:Int))=True:=eq_true (by omega);have p1:((k:Int)<l.length)=True:=eq_true (by omega);have HWk:=am (wk1 k (by omega));have HMs:=am (wk2 hlt (by omega));have hf:=HF.out;rw[px hlt,na]at hf;generalize ab l (k:Int)=x at hx0 hx1 hx2 hf;have hal:=(ai wr.heap.size wr).alloc (an _) (.cells #[.int .i64 x.f0, .int .i64 x.f1, .bool x.f2] 116);have HB3:=am (aa HB.out hal);have hcs:x.f2=false\/(x.f2=true/\oo x.f0=off)\/(x.f2=true/\oo x.f0≠off):=by
    cases x.f2
    ·exact .inl rfl
    ·by_cases e:oo x.f0=off
     ·exact .inr (.inl ⟨rfl,e⟩)
     ·exact .inr (.inr ⟨rfl,e⟩)
   have HLt:=am hlt;clear hal hlt;rcases hcs with hb|⟨hb,ho⟩|⟨hb,ho⟩
   ·rw[hb]at hx2 hf HB3;have HF2:=am (show na off (l.drop (k+1)) (k+1)=res by simpa using hf);clear hf;go_wp2;exact⟨⟨k+1,congrArg _ (by omega),HLt.out,HF2,HB3⟩,by have:=HLt.out;simp[intOf];omega⟩
   ·rw[hb]at hx2 hf HB3;have HF2:=am (show(k:Int)=res by simpa[ho]using hf);have r1:decide (oo x.f0=off)=true:=af ho;have r2:(oo x.f0==off)=true:=beq_iff_eq.mpr ho;have HOf:=am (qgg x.f0 x.f1 true);clear hf ho;go_wp2_with (first
     |(go_at_call 75;(with_reducible refine(dz.calls x.f0 x.f1 true _ _ HOf.out).mono ?_);rintro e w3 ⟨rfl,hb⟩;have HB4:=am (aa HB3.out hb);clear hb))
    go_ret;exact⟨by rw[<-HF2.out];rfl,HB4.out⟩
   ·rw[hb]at hx2 hf HB3;have HF2:=am (show na off (l.drop (k+1)) (k+1)=res by simpa[ho]using hf);have r1:decide (oo x.f0=off)=false:=ah ho;have r2:(oo x.f0==off)=false:=beq_eq_false_iff_ne.mpr ho;have HOf:=am (qgg x.f0 x.f1 true);clear hf ho;go_wp2_with (first
     |(go_at_call 75;(with_reducible refine(dz.calls x.f0 x.f1 true _ _ HOf.out).mono ?_);rintro e w3 ⟨rfl,hb⟩;have HB4:=am (aa HB3.out hb);clear hb))
    exact⟨⟨k+1,congrArg _ (by omega),HLt.out,HF2,HB4⟩,by have:=HLt.out;simp[intOf];omega⟩
  ·have hkk:k=l.length:=by omega
   subst hkk;have d3:decide ((l.length:Int)<l.length)=false:=ah (by omega);have h:=HF.out;rw[List.drop_length,na]at h;have HE:=am h;clear h;go_wp2;go_ret;exact⟨by rw[<-HE.out];rfl,HB.out⟩
def zn(off n:Int)(b:S116):Prop:=b.f2=true/\(b.f0+1)*8<=off/\off<=(b.f0+b.f1)*8-n
theorem tj{off n:Int}{r:Bool}(hg:∀ b∈l,0<=b.f0/\2<=b.f1/\b.f0+b.f1<=512)(hlen:l.length<=1000)(hres:r=true<->ma l off n)(hr:Kd.C e6 w A l.length l):Calls Tryz.prog 153 #[.slice A l.length c, .int .i64 off, .int .i64 n] w fun e w'=>e=.returned (.bool r)/\Below w.heap.size w w':=by
 have HR:=am hr;have HG:=am hg;have HRes:=am hres;clear hr hg hres;go_enter Tryz.func153,Tryz.ntmps153;by_cases n0:n<0\/448<n
 ·have HE:Aside0 (r=false):=⟨by
   cases hr:r
   ·rfl
   ·have:=(HRes.out.1 hr).1;have:=(HRes.out.1 hr).2.1;omega⟩
  rw[HE.out];have hcs:decide (n<0)=true\/(decide (n<0)=false/\decide (448<n)=true):=by
   by_cases a:n<0
   ·exact .inl (af a)
   ·exact .inr ⟨ah a,af (by omega)⟩
  rcases hcs with a|⟨a,b⟩
  all_goals (go_wp2;go_ret;exact⟨rfl,ai _ _⟩)
 have a1:decide (n<0)=false:=ah (by omega);have a2:decide (448<n)=false:=ah (by omega);go_wp2;go_loopw [18] (fun i wr=>∃ k:Nat,i=.int .i64 k/\k<=l.length/\Aside0 (r=true↔∃ b∈l.drop k,zn off n b)/\Aside0 (Below w.heap.size w wr)) (fun i _=>l.length-(intOf i).toNat)
 case atStart=>exact⟨0,rfl,by omega,⟨HRes.out.trans ⟨fun h=>h.2.2,fun h=>⟨by omega,by omega,h⟩⟩⟩,⟨ai _ _⟩⟩
 case round =>
  obtain⟨k,rfl,hk,HF,HB⟩:=hrel;by_cases hlt:k<l.length
  ·have d3:decide ((k:Int)<l.length)=true:=af (by omega);obtain⟨ad,ea,hx0,hx1,hx2⟩:=fj (Kd.C_below HR.out HB.out) (k:Int) (by omega) (by omega);cases ea;rw[Int.toNat_natCast]at hx0 hx1 hx2;have p0:(0<=(k:Int))=True:=eq_true (by omega);have p1:((k:Int)<l.length)=True:=eq_true (by omega);have hf:=HF.out;have hgx:=HG.out _ (jl (l:=l) (j:=(k:Int)) (by omega) (by omega));rw[px hlt]at hf;simp only[List.mem_cons,exists_eq_or_imp]at hf;generalize ab l (k:Int)=x at hx0 hx1 hx2 hf hgx;have hal:=(ai wr.heap.size wr).alloc (an _) (.cells #[.int .i64 x.f0, .int .i64 x.f1, .bool x.f2] 116);have HB3:=am (aa HB.out hal);have HLt:=am hlt;have w1:wrap64 (x.f0+x.f1)=x.f0+x.f1:=w64 (by omega);have w2:wrap64 ((x.f0+x.f1)*8)=(x.f0+x.f1)*8:=w64 (by omega);have HOf:Aside0 (dz.f x.f0 x.f1 true=some ((x.f0+1)*8)):=⟨by rw[qgg,ux (a:=x.f0) (by omega)]⟩;have HNo:Aside0 (¬ zn off n x->(r=true↔∃ b∈l.drop (k+1),zn off n b)):=⟨fun h=>hf.trans ⟨fun e=>e.resolve_left h, .inr⟩⟩;have HYe:Aside0 (zn off n x->r=true):=⟨fun h=>hf.2 (.inl h)⟩;clear hf hlt;cases hb:x.f2
   ·have HF2:=am (HNo.out (fun h=>by rw[h.1]at hb;cases hb));rw[hb]at hx2 HB3;clear hal hgx;go_wp2;exact⟨⟨k+1,congrArg _ (by omega),HLt.out,HF2,HB3⟩,by have:=HLt.out;simp[intOf];omega⟩
   ·rw [hb] at hx2 HB3;have hz := heap_alloc_new wr (.cells #[.int .i64 x.f0, .int .i64 x.f1, .bool true] 116);have HZ := am hz;have hcs : (decide ((x.f0 + 1) * 8 ≤ off) = false ∧ ¬ zn off n x) ∨ (decide ((x.f0 + 1) * 8 ≤ off) = true ∧ decide (off ≤ (x.f0 + x.f1) * 8) = false ∧ ¬ zn off n x) ∨
      (decide ((x.f0+1)*8<=off)=true/\decide (off<=(x.f0+x.f1)*8)=true/\wrap64 ((x.f0+x.f1)*8-off)=(x.f0+x.f1)*8-off/\decide (n<=(x.f0+x.f1)*8-off)=false∧¬ zn off n x)∨
      (decide ((x.f0+1)*8<=off)=true/\decide (off<=(x.f0+x.f1)*8)=true/\wrap64 ((x.f0+x.f1)*8-off)=(x.f0+x.f1)*8-off/\decide (n<=(x.f0+x.f1)*8-off)=true/\zn off n x):=by
     unfold zn;rw[hb];simp only[decide_eq_false_iff_not,decide_eq_true_eq];by_cases c1:(x.f0+1)*8<=off
     ·by_cases c2:off<=(x.f0+x.f1)*8
      ·have:=w64 (n:=(x.f0+x.f1)*8-off) (by omega);by_cases c3:n<=(x.f0+x.f1)*8-off
       ·exact .inr (.inr (.inr ⟨c1,c2,this,c3,trivial,c1,by omega⟩))
       ·exact .inr (.inr (.inl ⟨c1,c2,this,c3,fun h=>by omega⟩))
      ·exact .inr (.inl ⟨c1,c2,fun h=>by omega⟩)
     ·exact .inl ⟨c1,fun h=>by omega⟩
    clear hal hz hgx hb;rcases hcs with⟨c1,hn⟩|⟨c1,c2,hn⟩|⟨c1,c2,c3,c4,hn⟩|⟨c1,c2,c3,c4,hy⟩
    case' inr.inr.inr=>have HY:=am (HYe.out hy);clear hy
    case' inl=>have HF2:=am (HNo.out hn);clear hn
    case' inr.inl=>have HF2:=am (HNo.out hn);clear hn
    case' inr.inr.inl=>have HF2:=am (HNo.out hn);clear hn
    all_goals go_wp2_with (first
     |(go_at_call 75;(with_reducible refine(dz.calls x.f0 x.f1 true _ _ HOf.out).mono ?_);rintro e w3 ⟨rfl,hb⟩;have HB4:=am (aa HB3.out hb);clear hb))
    all_goals first
     |exact⟨⟨k+1,congrArg _ (by omega),HLt.out,HF2,HB4⟩,by have:=HLt.out;simp[intOf];omega⟩
     |(go_ret;exact⟨by rw[HY.out];rfl,HB4.out⟩)
  ·have hkk:k=l.length:=by omega
   subst hkk;have d3:decide ((l.length:Int)<l.length)=false:=ah (by omega);have h:=HF.out;rw[List.drop_length]at h;have HE:Aside0 (r=false):=⟨by
    cases hr:r
    ·rfl
    ·obtain⟨b,hb,_⟩:=h.1 hr;exact absurd hb List.not_mem_nil⟩
   clear h;go_wp2;go_ret;exact⟨by rw[HE.out];rfl,HB.out⟩
end
theorem um(w:World)(A:Option Addr)(c:Nat)(ws:List Int)(hr:Kd.C (Kd.int .u64) w A ws.length ws)(h0:0<ws.length)(hl:ws.length<=1000000)(base':Nat)(ok':Nat->Prop)(A':Option Addr)(c':Nat)(es:List S160)(he:Kd.R jp 160 w base' ok' (.slice A' es.length c') es)(hel:es.length<=1000000):Calls Tryz.prog 113 #[.slice A ws.length c, .slice A' es.length c'] w fun e w'=>∃ v,e=.returned v/\Kd.R (Kd.int .u64) 25 w' w.heap.size (fun _=>True) v (Sp.apply ws es)/\Below w.heap.size w w':=by
 have HR:=am hr;have HE:=am he;clear hr he;go_enter Tryz.func113,Tryz.ntmps113;go_wp2_with (first
  |((with_reducible refine di (b:=.append) (xs:=#[.const (.slice none 0 0), .tmp 8]) rfl ?_);(try (refine il (by rfl) ?_;dsimp only));at_builtin;refine Kd.R_append_rows (Kd.int .u64) (w0:=w) w.heap.size rfl (.const (.slice none 0 0)) (.tmp 8) 51 25 (.int .u64 0) 8 rfl Tryz.underlying51 wi rfl (by decide) (by omega) (.slice none 0 0) ([]:List Int) ws _ _ _ (fun _=>True) (fun _=>False) rfl rfl (Kd.R_nil _ _ _ _ _) HR.out (fun _ _ h=>h) (fun _ h=>h.elim) (fun _ _=>trivial) (ai _ _) (an _) (by simp;omega) ?_;intro v w1 ho hb _ _;rw[List.nil_append]at ho;have HO:=am ho;have HB:=am hb;clear ho hb))
 obtain⟨gr,cap,ev,hgr,hgl,_⟩:=Kd.R_form HO.out h0;subst ev;go_loopw [12] (fun i wr=>∃ k:Nat,i=.int .i64 k/\k<=es.length/\Aside0 (Kd.R (Kd.int .u64) 25 wr w.heap.size (fun _=>True) (.slice (some ⟨gr,0,none⟩) ws.length cap) (Sp.apply ws (es.take k)))/\Aside0 (Below w.heap.size w wr)/\Aside0 (gr<wr.heap.size)) (fun i _=>es.length-(intOf i).toNat)
 case atStart=>exact⟨0,rfl,by omega,HO,HB,⟨hgl⟩⟩
 case round =>
  clear HO HB;obtain⟨k,rfl,hk,HO,HB,HGL⟩:=hrel;by_cases hlt:k<es.length
  ·have d3:decide ((k:Int)<es.length)=true:=af (by omega);obtain⟨g,ea,hx⟩:=qi4 (Kd.R_below HE.out HB.out) rfl k hlt;subst ea;have HX:=am hx;have HT:=am (Sp.apply_take ws hlt);have hwl:=Sp.apply_length (es.take k) ws;clear hx;generalize es.getD k vt=x at HX HT;have HNN:=am hwl;clear hwl;generalize Sp.apply ws (es.take k)=cu at HO HT HNN;by_cases c0:0<=x.f0
   ·have b0:decide (x.f0>=0)=true:=af c0;obtain⟨p,hp⟩:∃ p:Nat,x.f0=p:=⟨x.f0.toNat,by omega⟩;by_cases c1:x.f0<ws.length
    ·have b1:decide (x.f0<ws.length)=true:=af c1;have E1:Aside0 (Sp.apply ws (es.take (k+1))=cu.set p x.f1):=⟨by rw[HT.out,Sp.apply1,if_pos ⟨c0,by rw[HNN.out];exact c1⟩,hp,Int.toNat_natCast]⟩;have hpn:p<ws.length:=by omega
     go_wp2_with (first
      |((with_reducible refine fz (.load 160 (.tmp 14)) rfl ?_);refine bc rfl 160 (.tmp 14) rfl g (k*2) rfl (py x) _ HX.out Tryz.underlying160 rfl ky ?_)
      |((with_reducible refine bp (t:=160) (p:=7) rfl ?_);refine dx rfl 160 (.tmp 7) (.tmp 15) rfl _ (py x) rfl rfl ky rfl rfl ?_;intro w5 BZ HZ;have hz0:w5.cell? ⟨wr.heap.size,0,none⟩=some (.int .i64 x.f0):=(aj BZ.out 0).trans rfl;have hz1:w5.cell? ⟨wr.heap.size,1,none⟩=some (.int .u64 x.f1):=(aj BZ.out 1).trans rfl;have HO5:=am (Kd.R_below HO.out HZ.out);have hcp:=(xa HO5.out p hpn).1;have hfp:=(xa HO5.out p hpn).2;rw[hp]at hz0))
     go_roundw
     case rel=>exact⟨k+1,by go_num,by omega,⟨by rw[E1.out];exact qfb HO5.out p hpn x.f1⟩,⟨bj (aa HB.out HZ.out) hgr⟩,⟨by have:=HGL.out;have:=HZ.out.size;simp[World.setCell];omega⟩⟩
     case measure=>simp[intOf];omega
    ·have b1:decide (x.f0<ws.length)=false:=ah c1;have E1:Aside0 (Sp.apply ws (es.take (k+1))=cu):=⟨by rw[HT.out,Sp.apply1,if_neg (fun h=>c1 (by rw[HNN.out]at h;exact h.2))]⟩;go_wp2_with (first
      |((with_reducible refine fz (.load 160 (.tmp 14)) rfl ?_);refine bc rfl 160 (.tmp 14) rfl g (k*2) rfl (py x) _ HX.out Tryz.underlying160 rfl ky ?_)
      |((with_reducible refine bp (t:=160) (p:=7) rfl ?_);refine dx rfl 160 (.tmp 7) (.tmp 15) rfl _ (py x) rfl rfl ky rfl rfl ?_;intro w5 BZ HZ;have hz0:w5.cell? ⟨wr.heap.size,0,none⟩=some (.int .i64 x.f0):=(aj BZ.out 0).trans rfl;have hz1:w5.cell? ⟨wr.heap.size,1,none⟩=some (.int .u64 x.f1):=(aj BZ.out 1).trans rfl;have HO5:=am (Kd.R_below HO.out HZ.out)))
     go_roundw
     case rel=>exact⟨k+1,by go_num,by omega,⟨by rw[E1.out];exact HO5.out⟩,⟨aa HB.out HZ.out⟩,⟨by have:=HGL.out;have:=HZ.out.size;omega⟩⟩
     case measure=>simp[intOf];omega
   ·have b0:decide (x.f0>=0)=false:=ah c0;have E1:Aside0 (Sp.apply ws (es.take (k+1))=cu):=⟨by rw[HT.out,Sp.apply1,if_neg (fun h=>c0 h.1)]⟩;go_wp2_with (first
     |((with_reducible refine fz (.load 160 (.tmp 14)) rfl ?_);refine bc rfl 160 (.tmp 14) rfl g (k*2) rfl (py x) _ HX.out Tryz.underlying160 rfl ky ?_)
     |((with_reducible refine bp (t:=160) (p:=7) rfl ?_);refine dx rfl 160 (.tmp 7) (.tmp 15) rfl _ (py x) rfl rfl ky rfl rfl ?_;intro w5 BZ HZ;have hz0:w5.cell? ⟨wr.heap.size,0,none⟩=some (.int .i64 x.f0):=(aj BZ.out 0).trans rfl;have hz1:w5.cell? ⟨wr.heap.size,1,none⟩=some (.int .u64 x.f1):=(aj BZ.out 1).trans rfl;have HO5:=am (Kd.R_below HO.out HZ.out)))
    go_roundw
    case rel=>exact⟨k+1,by go_num,by omega,⟨by rw[E1.out];exact HO5.out⟩,⟨aa HB.out HZ.out⟩,⟨by have:=HGL.out;have:=HZ.out.size;omega⟩⟩
    case measure=>simp[intOf];omega
  ·have d3:decide ((k:Int)<es.length)=false:=ah (by omega);have hkk:k=es.length:=by omega
   subst hkk;rw[List.take_length]at HO;go_wp2;go_ret;exact⟨_,rfl,HO.out,HB.out⟩
theorem qqz(d:Nat)(w:World)(x0 y0:Int)(x1 y1:Int)(x2 y2:Bool):(Op.equalIn (d+2) 116 (.agg #[.int .i64 x0, .int .i64 x1, .bool x2]) (.agg #[.int .i64 y0, .int .i64 y1, .bool y2])).run Tryz.prog w=.ok (x0==y0&&(x1==y1&&(x2==y2))) w:=by
 refine qqy Tryz.underlying116 (by kernel_rfl) ?_;refine qhf (by rfl) (by go_simp;rfl) (by go_simp;rfl) (by go_simp) ?_;refine qhf (by rfl) (by go_simp;rfl) (by go_simp;rfl) (by go_simp) ?_;exact qmx (by rfl) (by go_simp;rfl) (by go_simp;rfl) (by go_simp)
attribute [local go_sem high] qqz
theorem qqj(x y:S116):(!(x.f0==y.f0)||(!(x.f1==y.f1)|| !(x.f2==y.f2)))=true<->x≠y:=by
 obtain⟨a,b,c⟩:=x;obtain⟨a',b',c'⟩:=y;simp only[Bool.or_eq_true,Bool.not_eq_true',beq_eq_false_iff_ne,ne_eq,S116.mk.injEq];constructor
 ·rintro (h|h|h) ⟨e1,e2,e3⟩ <;> first|exact h e1|exact h e2|exact h e3
 ·intro h;by_cases e1:a=a'
  ·by_cases e2:b=b'
   ·exact .inr (.inr fun e3=>h ⟨e1,e2,e3⟩)
   ·exact .inr (.inl e2)
  ·exact .inl e1
section
variable{w:World}{l l':List S116}{A A':Option Addr}{c c':Nat}
theorem qbd(hL:l.length<=1000000)(hr:Kd.C e6 w A l.length l)(hc:l.length<=c)(hr':Kd.C e6 w A' l'.length l')(hc':l'.length<=c'):Calls Tryz.prog 77 #[.slice A l.length c, .slice A' l'.length c'] w fun e w'=>∃ r,e=.returned (.bool r)/\(r=true<->l=l')/\Below w.heap.size w w':=by
 have hu116:=Tryz.underlying116;have HR:=am hr;have HR':=am hr';clear hr hr';by_cases hn:l.length=l'.length
 ·have HN:=am hn;have d1:((l.length:Int) != (l'.length:Int))=false:=bne_eq_false_iff_eq.mpr (by omega);have d2:(l.length==l'.length)=true:=beq_iff_eq.mpr hn;clear hn;go_enter Tryz.func77,Tryz.ntmps77;go_wp2;go_loopw [13] (fun i wr=>∃ k:Nat,i=.int .i64 k/\k<=l.length/\Aside0 (l.take k=l'.take k)/\Aside0 (Below w.heap.size w wr)) (fun i _=>l.length-(intOf i).toNat)
  case atStart=>exact⟨0,rfl,by omega,⟨rfl⟩,⟨ai _ _⟩⟩
  case round=>
   obtain⟨k,rfl,hk,HT,HB⟩:=hrel;by_cases hlt:k<l.length
   ·have d3:decide ((k:Int)<l.length)=true:=af (by omega);obtain⟨ad,ea,hx0,hx1,hx2⟩:=fj (Kd.C_below HR.out HB.out) (k:Int) (by omega) (by omega);cases ea;obtain⟨ad',ea,hy0,hy1,hy2⟩:=fj (Kd.C_below HR'.out HB.out) (k:Int) (by omega) (by have:=HN.out;omega);cases ea;rw[Int.toNat_natCast]at hx0 hx1 hx2 hy0 hy1 hy2;have p0:(0<=(k:Int))=True:=eq_true (by omega);have p1:((k:Int)<l.length)=True:=eq_true (by omega);have p2:((k:Int)<l'.length)=True:=eq_true (by have:=HN.out;omega);have HWk:=am (wk1 k (by omega));have HMs:=am (wk2 hlt (by omega));have HLt:=am hlt;have ht:l.take (k+1)=l.take k++[ab l (k:Int)]:=by rw[List.take_succ_eq_append_getElem hlt];unfold ab;rw[Int.toNat_natCast,ax,bx hlt];rfl
    have ht':l'.take (k+1)=l'.take k++[ab l' (k:Int)]:=by have hlt:=HN.out ▸ hlt;rw[List.take_succ_eq_append_getElem hlt];unfold ab;rw[Int.toNat_natCast,ax,bx hlt];rfl
    have HT1:=am ht;have HT1':=am ht';clear ht ht' hlt;generalize ab l (k:Int)=x at hx0 hx1 hx2 HT1;generalize ab l' (k:Int)=y at hy0 hy1 hy2 HT1';by_cases e:x≠y
    ·have c8:(!(x.f0==y.f0)||(!(x.f1==y.f1)||(!(x.f2==y.f2))))=true:=(qqj x y).mpr e;have HE:=am e;clear e;go_wp2
     repeat (go_quiet (fail);try go_wp2)
     go_ret;refine⟨_,rfl,⟨fun h=>(Bool.noConfusion h),fun h=>absurd ?_ HE.out⟩,bz HB⟩;subst h;have:=HT1.out.symm.trans HT1'.out;exact(List.cons.inj (List.append_cancel_left this)).1
    ·have c8:(!(x.f0==y.f0)||(!(x.f1==y.f1)||(!(x.f2==y.f2))))=false:=by
      cases h:(!(x.f0==y.f0)||(!(x.f1==y.f1)||(!(x.f2==y.f2))))
      ·rfl
      ·exact absurd ((qqj x y).mp h) e
     have HE:=am (Classical.not_not.mp e);clear e;go_wp2
     repeat (go_quiet (fail);try go_wp2)
     exact⟨⟨k+1,congrArg _ (by omega),HLt.out,⟨by rw[HT1.out,HT1'.out,HT.out,HE.out]⟩,⟨bz HB⟩⟩,by have:=HLt.out;simp[intOf];omega⟩
   ·have hkk:k=l.length:=by omega
    subst hkk;have d3:decide ((l.length:Int)<l.length)=false:=ah (by omega);go_wp2;go_ret;have h:=HT.out;rw[List.take_length,HN.out,List.take_length]at h;exact⟨_,rfl,⟨fun _=>h,fun _=>rfl⟩,HB.out⟩
 ·have HN:=am hn;have d1:((l.length:Int) != (l'.length:Int))=true:=bne_iff_ne.mpr (by omega);have d2:(l.length==l'.length)=false:=beq_eq_false_iff_ne.mpr hn;clear hn;go_enter Tryz.func77,Tryz.ntmps77;go_wp2;go_ret;exact⟨_,rfl,⟨fun h=>(Bool.noConfusion h),fun h=>absurd (congrArg List.length h) HN.out⟩,ai _ _⟩
end
structure Md (w:World) (M g c:Nat) (v:List Int) (r:Int):Prop where
 box:w.heap[M]? =some (.cells [.slice (some ⟨g,0,none⟩) v.length c, .int .i64 r].toArray 107 (0,0))
 row:Kd.C (Kd.int .u64) w (some ⟨g,0,none⟩) v.length v
 cap:v.length<=c
 ne:g≠M
theorem Md.below{w w':World}{M g c:Nat}{v:List Int}{r:Int}(h:Md w M g c v r)(hb:Below w.heap.size w w'):Md w' M g c v r:=
 ⟨ap h.box hb,Kd.C_below h.row hb,h.cap,h.ne⟩
theorem qok{w w':World}{g n:Nat}{xs:List Int}(h:Kd.C (Kd.int .u64) w (some ⟨g,0,none⟩) n xs)(e:w'.heap[g]? =w.heap[g]?):Kd.C (Kd.int .u64) w' (some ⟨g,0,none⟩) n xs:=by
 obtain⟨h1,h2,h3⟩:=h;refine⟨h1,h2,fun h=>?_⟩;obtain⟨ad,ea,k⟩:=h3 h;cases ea;refine⟨_,rfl,fun j p hj=>?_⟩;obtain⟨cc,k1,k2,k3⟩:=k j p hj;refine⟨cc,k1,k2,fun i u hi=>?_⟩;have:=k3 i u hi;have hab:((⟨g,0,none⟩:Addr).add (j*(Kd.int .u64).sz+i)).block=g:=by unfold Addr.add;split <;> rfl
 generalize (⟨g,0,none⟩:Addr).add (j*(Kd.int .u64).sz+i)=a at this hab ⊢;unfold World.cell? at this ⊢;rw[hab]at this ⊢;rw[e];exact this
theorem Md.kept{w w':World}{M g c:Nat}{v:List Int}{r:Int}{S:Nat->Prop}(h:Md w M g c v r)(hlt:g<w.heap.size)(k:aq S w w')(hM:¬ S M)(hg:¬ S g):Md w' M g c v r:=
 ⟨k.of h.box hM,qok h.row (by rw[k.of (Array.getElem?_eq_getElem hlt) hg,Array.getElem?_eq_getElem hlt]),h.cap,h.ne⟩
theorem Md.root{w:World}{M g c:Nat}{v:List Int}{r:Int}(h:Md w M g c v r)(r':Int):Md (w.setCell ⟨M,1,none⟩ (.int .i64 r')) M g c v r':=
 ⟨by rw[heap_setCell_same _ _ _ _ _ _ h.box];rfl,qok h.row (heap_setCell_other _ _ _ _ h.ne),h.cap,h.ne⟩
section
variable{w:World}{M g c:Nat}{v:List Int}{r:Int}{l:List S116}{words:Int}
theorem tg(h:Md w M g c v r)(hV:HV l v words):Calls Tryz.prog 78 #[.pointer (some ⟨M,0,none⟩)] w fun e w'=>∃ A' c',e=.returned (.slice A' l.length c')/\Kd.R e6 116 w' w.heap.size (fun _=>True) (.slice A' l.length c') l/\Below w.heap.size w w':=by
 have k0:w.cell? ⟨M,0,none⟩=some (.slice (some ⟨g,0,none⟩) v.length c):=(aj h.box 0).trans rfl;have HC:=am (ki hV h.row h.cap);clear h hV;go_enter Tryz.func78,Tryz.ntmps78;go_wp2_with (first
  |(go_at_call 72;refine HC.out.mono ?_;rintro e w1 ⟨A',c',rfl,ho,hb⟩;have HO:=am ho;have HB:=am hb;clear ho hb))
 go_ret;exact⟨_,_,rfl,HO.out,HB.out⟩
theorem qck{words:Int}{v:List Int}(hw:dr.f words=some true)(hf:kc.f words=some v)(hv:0<v.length):Calls Tryz.prog 24 #[.int .i64 words] w fun e w'=>∃ M g c,e=.returned (.pointer (some ⟨M,0,none⟩))/\Md w' M g c v 0/\w.heap.size<=M/\w.heap.size<=g/\M<w'.heap.size/\g<w'.heap.size/\Below w.heap.size w w':=by
 have HWd:=am hw;have HF:=am hf;clear hw hf;go_enter Tryz.func24,Tryz.ntmps24;go_wp2_with (first
  |(go_at_call 64;(with_reducible refine(dr.calls words true _ HWd.out).mono ?_);rintro e w1 ⟨rfl,hd⟩;have HB:=am hd.below;clear hd)
  |(go_at_call 65;(with_reducible refine(kc.calls words v _ HF.out).mono ?_);rintro e w2 ⟨v0,rfl,ho,hb⟩;have HO:=am (Kd.R_lower ho (bk HB.out));have HB2:=am (aa HB.out hb);clear ho hb HB;obtain⟨gr,cap,ev,hgr,hgl,hcp⟩:=Kd.R_form HO.out hv;subst ev))
 go_ret;have hb:Below w2.heap.size w2 (w2.alloc (.cells #[.slice (some ⟨gr,0,none⟩) v.length cap, .int .i64 0] 107)):=(ai _ _).alloc (an _) _;obtain⟨_,q1,q2⟩:=Kd.R_reads' HO.out;exact⟨_,gr,cap,rfl,⟨heap_alloc_new _ _,Kd.C_below q2 hb,q1,by omega⟩,bk HB2.out,hgr,(Array.getElem?_eq_some_iff.1 (heap_alloc_new w2 (.cells #[.slice (some ⟨gr,0,none⟩) v.length cap, .int .i64 0] 107))).1,Nat.lt_of_lt_of_le hgl (bk hb),aa HB2.out hb⟩
def wy(l:List S116)(r off:Int):Int:=if off≠0/\na off l 0<0 then r else off
theorem qcj(h:Md w M g c v r)(hV:HV l v words)(hl:l.length<=1000)(off:Int):Calls Tryz.prog 70 #[.pointer (some ⟨M,0,none⟩), .int .i64 off] w fun e w'=>∃ n w1,e=.returned (.int .i64 n)/\Below w.heap.size w w1/\Md w' M g c v (wy l r off)/\(w'=w1\/w'=w1.setCell ⟨M,1,none⟩ (.int .i64 off)):=by
 have HM:=am h;have HC:=am (tg h hV);have HL:=am hl;clear h hV hl;by_cases e0:off=0
 ·have d0:(off != 0)=false:=bne_eq_false_iff_eq.mpr e0;have R0:Aside0 (wy l r off=off):=⟨if_neg (fun h=>h.1 e0)⟩;have k1:w.cell? ⟨M,1,none⟩=some (.int .i64 r):=(aj HM.out.box 1).trans rfl;have f1:w.frozen? ⟨M,1,none⟩=false:=ak HM.out.box 1;clear e0;go_enter Tryz.func70,Tryz.ntmps70;go_wp2;go_ret;exact⟨0,w,rfl,ai _ _,by rw[R0.out];exact HM.out.root off, .inr rfl⟩
 ·have d0:(off != 0)=true:=bne_iff_ne.mpr e0;by_cases e1:na off l 0<0
  ·have d1:decide (na off l 0<0)=true:=af e1;have R0:Aside0 (wy l r off=r):=⟨if_pos ⟨e0,e1⟩⟩;clear e0 e1;go_enter Tryz.func70,Tryz.ntmps70;go_wp2_with (first
    |(go_at_call 78;refine HC.out.mono ?_;rintro e w1 ⟨A',c',rfl,ho,hb⟩;have HO:=am ho;have HB:=am hb;clear ho hb)
    |(go_at_call 116;refine(xh HL.out (Kd.R_reads' HO.out).2.2).mono ?_;rintro e w2 ⟨rfl,hb⟩;have HB2:=am (aa HB.out hb);clear hb))
   go_ret;exact⟨1,_,rfl,HB2.out,by rw[R0.out];exact HM.out.below HB2.out, .inl rfl⟩
  ·have d1:decide (na off l 0<0)=false:=ah e1;have R0:Aside0 (wy l r off=off):=⟨if_neg (fun h=>e1 h.2)⟩;clear e0 e1;go_enter Tryz.func70,Tryz.ntmps70;go_wp2_with (first
    |(go_at_call 78;refine HC.out.mono ?_;rintro e w1 ⟨A',c',rfl,ho,hb⟩;have HO:=am ho;have HB:=am hb;clear ho hb)
    |(go_at_call 116;refine(xh HL.out (Kd.R_reads' HO.out).2.2).mono ?_;rintro e w2 ⟨rfl,hb⟩;have HB2:=am (aa HB.out hb);have HM2:=am (HM.out.below HB2.out);have k1:w2.cell? ⟨M,1,none⟩=some (.int .i64 r):=(aj HM2.out.box 1).trans rfl;have f1:w2.frozen? ⟨M,1,none⟩=false:=ak HM2.out.box 1;clear hb))
   go_ret;exact⟨0,_,rfl,HB2.out,by rw[R0.out];exact HM2.out.root off, .inr rfl⟩
end
theorem qk1(A:Option Addr)(n c:Nat)(r:Int):Tryz.prog.built 107 [(0, .slice A n c),(1, .int .i64 r)]=some #[.slice A n c, .int .i64 r]:=by kernel_rfl
section
variable{w:World}{M g c:Nat}{v:List Int}{r:Int}
theorem qfm(h:Md w M g c v r)(h0:0<v.length)(hl:v.length<=1000000):Calls Tryz.prog 66 #[.pointer (some ⟨M,0,none⟩)] w fun e w'=>∃ M' g' c',e=.returned (.pointer (some ⟨M',0,none⟩))/\Md w' M' g' c' v r/\w.heap.size<=M'∧w.heap.size<=g'∧M'<w'.heap.size/\g'<w'.heap.size/\Below w.heap.size w w':=by
 have HM:=am h;clear h;go_enter Tryz.func66,Tryz.ntmps66;go_wp2;refine dj (n:=12) (S:=fun w'=>Md w' M g c v r/\Below w.heap.size w w') (ds:=[9,10]) (onA 12 0) (by kernel_rfl) rfl rfl ⟨HM.out.below (bg (ai _ _)),bg (ai _ _)⟩ (fun hHeld=>?_);refine ps 0 3 ?_;refine ps 1 4 ?_;refine ps 2 5 ?_;refine ps 5 8 ?_;refine ps 6 9 ?_;refine ps 7 10 ?_;refine vs 3 6 hHeld (fun w' hs=>aw 51 (.tmp 5) rfl M 0 _ rfl ((aj hs.1.box 0).trans rfl) _ Tryz.underlying51 rfl) ?_;refine vs 8 11 hHeld (fun w' hs=>aw 3 (.tmp 10) rfl M 1 _ rfl ((aj hs.1.box 1).trans rfl) _ Tryz.underlying3 rfl) ?_;refine ip (i:=4) (N:=some 7) (bA 12 511) rfl rfl (by kernel_rfl) (by decide) (fun K hK=>?_);refine Kd.R_append_rows_step (Kd.int .u64) (w0:=w) w.heap.size rfl (.const (.slice none 0 0)) (.tmp 6) 51 25 (.int .u64 0) 8 rfl Tryz.underlying51 wi rfl (by decide) (by omega) (.slice none 0 0) ([]:List Int) v _ _ _ (fun _=>True) (fun _=>False) rfl rfl (Kd.R_nil _ _ _ _ _) hHeld.1.row (fun _ _ h=>h) (fun _ h=>h.elim) (fun _ _=>trivial) hHeld.2 hHeld.2.size (by simp;omega) ?_;intro v1 w1 ho hb _ _;rw[List.nil_append]at ho;refine hK.out (Act.put _ (some 7) v1) _ ⟨HM.out.below hb,hb⟩ (fun _=>?_);clear hK K hHeld;obtain⟨gr,cap,ev,hgr,hgl,hcp⟩:=Kd.R_form ho h0;subst ev;have HO:=am ho;have HB:=am hb;clear ho hb;refine nz ?_;refine ko (i:=9) (N:=some 12) (bA 12 1023) rfl rfl (by kernel_rfl) (by decide) (fun K hK=>?_);refine jt rfl rfl (vy 107 _ rfl [(0, .slice (some ⟨gr,0,none⟩) v.length cap),(1, .int .i64 r)] (by simp;exact⟨rfl,rfl⟩) _ (qk1 _ _ _ _)) (hK.out _ _ ?_);clear hK K;refine nz ?_;refine ko (i:=10) (N:=some 13) (bA 12 2047) rfl rfl (by kernel_rfl) (by decide) (fun K hK=>?_);refine jt rfl rfl (v:=Value.pointer (some ⟨w1.heap.size,0,none⟩)) (w1:=w1.alloc (.cells #[.slice (some ⟨gr,0,none⟩) v.length cap, .int .i64 r] 107)) (by first|(go_simp;done)|(go_simp;rfl)) (hK.out _ _ ?_);clear hK K;refine nz ?_;refine ps 11 2 ?_;refine fa (by kernel_rfl) ?_;go_wp2;go_ret;have hb:Below w1.heap.size w1 (w1.alloc (.cells #[.slice (some ⟨gr,0,none⟩) v.length cap, .int .i64 r] 107)):=(ai _ _).alloc (an _) _;obtain⟨_,q1,q2⟩:=Kd.R_reads' HO.out;exact⟨_,gr,cap,rfl,⟨heap_alloc_new _ _,Kd.C_below q2 hb,q1,by omega⟩,bk HB.out,hgr,(Array.getElem?_eq_some_iff.1 (heap_alloc_new w1 (.cells #[.slice (some ⟨gr,0,none⟩) v.length cap, .int .i64 r] 107))).1,Nat.lt_of_lt_of_le hgl (bk hb),aa HB.out hb⟩
end
theorem qr9:(Tryz.prog.info? 5).map (fun i=>(i.zero,i.size,i.bytes))=some (some (.int .u8 0),1,1):=by kernel_rfl
section
variable{ops:Array Oper}{rest:List Oper}{o:Oper}{a:Act}{Q:Exit->Act->World->Prop}{w0 W:World}{s x:Tmp}{v:Value}
theorem apB{xs:List Int}(p:Int)(hgd:o.guard=none)(ho:o.op=.call {callee:=.builtin .append,args:=#[.tmp s, .tmp x],argTypes:=#[34,34]})(hs:a.eval (.tmp s)=v)(hx:a.eval (.tmp x)=.slice (some ⟨W.heap.size,0,none⟩) 1 1)
  (HO:Kd.R (Kd.int .u8) 5 W w0.heap.size (fun _=>True) v xs) (HB:Below w0.heap.size w0 W) (hl:xs.length<=1000000) (h:∀ v1 w1,Kd.R (Kd.int .u8) 5 w1 w0.heap.size (fun _=>True) v1 (xs++[p])->Below w0.heap.size w0 w1->wpList Tryz.prog ops Q rest (a.put o.dst v1) w1):
  wpList Tryz.prog ops Q (o::rest) a (W.alloc (.cells [Value.int .u8 p].toArray 5)):=
 Kd.R_append (Kd.int .u8) (w0:=w0) w0.heap.size hgd (.tmp s) (.tmp x) 34 5 (.int .u8 0) 1 ho Tryz.underlying34 qr9 rfl (by decide) (by omega) v xs p [.int .u8 p] (fun _=>True) (fun _=>False) hs hx rfl (fun _ hk=>hk.elim) (fun _ _=>trivial) HO HB (bk HB) (by omega) (fun v1 w1 h1 h2 _ _=>h v1 w1 h1 h2)
end
theorem qet{n off k:Int}(hn:0<=n/\n<=1000000)(h0:0<=off)(h1:0<=k/\k<=448)(h2:off+k<=8*n):gh.f n off k=some true:=by
 unfold gh.f;rw[w64 (n:=8*n) (by omega),if_pos (by omega),if_pos (by omega),if_pos (by omega),if_pos (by omega),w64 (by omega),af (by omega)]
theorem qnz(v:List Int)(o:Int)(k:Nat):rdB v o (k+1)=rdB v o k++[jr v (o+k)]:=by
 rw[qpt];rfl
section
variable{w:World}{v:List Int}{A:Option Addr}{c:Nat}
theorem qfp{off n:Int}(h0:0<=off)(h1:0<=n/\n<=448)(h2:off+n<=8*v.length)(hl:v.length<=1000)(hr:Kd.C (Kd.int .u64) w A v.length v)(hc:v.length<=c):Calls Tryz.prog 156 #[.slice A v.length c, .int .i64 off, .int .i64 n] w fun e w'=>∃ u,e=.returned (.tuple #[u, .bool true])/\Kd.R (Kd.int .u8) 5 w' w.heap.size (fun _=>True) u (rdB v off n.toNat)/\Below w.heap.size w w':=by
 have HR:=am hr;have HIn:Aside0 (gh.f v.length off n=some true):=⟨qet (by omega) h0 h1 (by omega)⟩;have HN:=am (And.intro h0 (And.intro h1 (And.intro h2 hl)));have we:wrap64 (off+n)=off+n:=w64 (by omega);clear hr h0 h1 h2 hl;go_enter Tryz.func156,Tryz.ntmps156;go_wp2_with (first
  |(go_at_call 173;(with_reducible refine(gh.calls v.length off n true _ HIn.out).mono ?_);rintro e w1 ⟨rfl,hd⟩;have HB:=am hd.below;clear hd))
 go_loopw [8,9] (fun u i wr=>∃ k:Nat,i=.int .i64 (off+k)/\(k:Int)<=n/\Aside0 (Kd.R (Kd.int .u8) 5 wr w.heap.size (fun _=>True) u (rdB v off k))/\Aside0 (Below w.heap.size w wr)) (fun _ i _=>1000000-(intOf i).toNat)
 case atStart=>exact⟨0,congrArg _ (by omega),by have:=HN.out;omega,⟨Kd.R_nil _ _ _ _ _⟩,HB⟩
 case round=>
  clear HB;obtain⟨k,rfl,hk,HO,HB⟩:=hrel;obtain⟨h0,h1,h2,hl⟩:=HN.out;by_cases hlt:(k:Int)<n
  ·have d3:decide (off+k<off+n)=true:=af (by omega);have HS:=am (qnz v off k);have HK:=am (And.intro hlt (And.intro h0 (And.intro h1 h2)));have hi0:0<=off+k:=by omega
   have hi1:off+k<8*v.length:=by omega
   have hw:wrap64 (off+k+1)=off+((k+1:Nat):Int):=by rw[w64 (by omega)];omega
   have HW:=am hw;have hll:(rdB v off k).length<=1000000:=by rw[qcd];omega
   have HLl:=am hll;clear hlt h0 h1 h2 hk hw hll;unfold jr at HS;generalize hii:off+(k:Int)=i at d3 hi0 hi1 HS HW;have HI:=am hii;clear hii;have q1:wrap64 (Int.tdiv i 8)=i / 8:=by rw[Int.tdiv_eq_ediv_of_nonneg hi0,w64 (by omega)]
   have q2:IntKind.u64.wrap (wrap64 (Int.tmod i 8*8))=i % 8*8:=by rw[Int.tmod_eq_emod_of_nonneg hi0,w64 (by omega)];rw[Pl.u64w];omega
   obtain⟨ad,ea,hx⟩:=Kd.at_int (Kd.C_below HR.out HB.out) (i / 8) (by omega) (by omega);cases ea;have p0:(0<=i / 8)=True:=eq_true (by omega);have p1:(i / 8<(v.length:Int))=True:=eq_true (by omega);have p2:(0<=i % 8*8)=True:=eq_true (by omega);clear hi0 hi1 hl;generalize i / 8=q at q1 hx p0 p1 HS;generalize i % 8*8=s at q2 p2 HS;go_wp2_with (first
    |((with_reducible refine di (b:=.append) (xs:=#[.tmp 24, .tmp 36]) rfl ?_);at_builtin;refine apB (shr .u64 (rd v q) s % 256) rfl rfl rfl rfl HO.out HB.out HLl.out ?_;intro v1 w8 ho hb;have HO8:=am ho;have HB8:=am hb;clear ho hb))
   exact⟨⟨k+1,congrArg _ HW.out,by have:=HK.out;omega,⟨by rw[HS.out];exact HO8.out⟩,HB8⟩,by rw[HW.out];have:=HK.out;have:=HN.out;have:=HI.out;simp only[intOf];omega⟩
  ·have d3:decide (off+k<off+n)=false:=ah (by omega);have d4:decide ((k:Int)<n)=false:=ah (by omega);have hkk:n.toNat=k:=by omega
   have HKK:=am hkk;clear hkk hlt h0 h1 h2;go_wp2;go_ret2;exact⟨_,rfl,by rw[HKK.out];exact HO.out,HB.out⟩
end
section
variable{w:World}{M g c:Nat}{v:List Int}{r:Int}{l:List S116}{words:Int}{A:Option Addr}
theorem qg2(hV:HV l v words)(hg:∀ b∈l,0<=b.f0/\2<=b.f1/\b.f0+b.f1<=512)(hgv:∀ b∈l,b.f0+b.f1<=v.length)(hlen:l.length<=1000)(hvl:v.length<=1000){off n:Int}(hin:ma l off n)(hr:Kd.C (Kd.int .u64) w A v.length v)(hc:v.length<=c):Calls Tryz.prog 123 #[.slice A v.length c, .int .i64 off, .int .i64 n] w fun e w'=>∃ u,e=.returned (.tuple #[u, .int .i64 0])/\Kd.R (Kd.int .u8) 5 w' w.heap.size (fun _=>True) u (rdB v off n.toNat)/\Below w.heap.size w w':=by
 have HR:=am hr;have HC:=am (ki hV hr hc);have HW:Aside0 (∀ w' A' c',Kd.C e6 w' A' l.length l->Calls Tryz.prog 153 #[.slice A' l.length c', .int .i64 off, .int .i64 n] w' fun e w''=>e=.returned (.bool true)/\Below w'.heap.size w' w''):=
  ⟨fun w' A' c' h=>tj hg hlen ⟨fun _=>hin,fun _=>rfl⟩ h⟩
 have hb:0<=off/\off+n<=8*v.length:=by obtain⟨_,_,b,hb,_,h1,h2⟩:=hin;have:=hg b hb;have:=hgv b hb;omega
 have HB:Aside0 (∀ w',Kd.C (Kd.int .u64) w' A v.length v->Calls Tryz.prog 156 #[.slice A v.length c, .int .i64 off, .int .i64 n] w' fun e w''=>∃ u,e=.returned (.tuple #[u, .bool true])/\Kd.R (Kd.int .u8) 5 w'' w'.heap.size (fun _=>True) u (rdB v off n.toNat)/\Below w'.heap.size w' w''):=
  ⟨fun w' h=>qfp hb.1 ⟨hin.1,hin.2.1⟩ hb.2 hvl h hc⟩
 clear hr hV hin hb hg hgv hlen hvl;go_enter Tryz.func123,Tryz.ntmps123;go_wp2_with (first
  |(go_at_call 72;refine HC.out.mono ?_;rintro e w1 ⟨A',c',rfl,ho,hb⟩;have HO:=am ho;have HB1:=am hb;clear ho hb)
  |(go_at_call 153;refine(HW.out _ _ _ (Kd.R_reads' HO.out).2.2).mono ?_;rintro e w2 ⟨rfl,hb⟩;have HB2:=am (aa HB1.out hb);clear hb HB1)
  |(go_at_call 156;refine(HB.out _ (Kd.C_below HR.out HB2.out)).mono ?_;rintro e w3 ⟨u,rfl,ho,hb⟩;have HO3:=am (Kd.R_lower ho (bk HB2.out));have HB3:=am (aa HB2.out hb);clear ho hb HB2))
 go_ret2;exact⟨_,rfl,HO3.out,HB3.out⟩
theorem qgx(h:Md w M g c v r)(hV:HV l v words)(hg:∀ b∈l,0<=b.f0/\2<=b.f1/\b.f0+b.f1<=512)(hgv:∀ b∈l,b.f0+b.f1<=v.length)(hlen:l.length<=1000)(hvl:v.length<=1000){off n:Int}(hin:ma l off n):Calls Tryz.prog 80 #[.pointer (some ⟨M,0,none⟩), .int .i64 off, .int .i64 n] w fun e w'=>∃ u,e=.returned (.tuple #[u, .int .i64 0])/\Kd.R (Kd.int .u8) 5 w' w.heap.size (fun _=>True) u (rdB v off n.toNat)/\Below w.heap.size w w':=by
 have k0:w.cell? ⟨M,0,none⟩=some (.slice (some ⟨g,0,none⟩) v.length c):=(aj h.box 0).trans rfl;have HC:=am (qg2 hV hg hgv hlen hvl hin h.row h.cap);clear h hV hg hgv hlen hvl hin;go_enter Tryz.func80,Tryz.ntmps80;go_wp2_with (first
  |(go_at_call 123;refine HC.out.mono ?_;rintro e w1 ⟨u,rfl,ho,hb⟩;have HO:=am ho;have HB:=am hb;clear ho hb))
 go_ret2;exact⟨_,rfl,HO.out,HB.out⟩
end
abbrev ov(p:S116):Array Value:=[Value.int .i64 p.f0, .int .i64 p.f1, .bool p.f2].toArray
theorem qe9{s n:Int}(hs:2<=s/\s<=512):Ev (fun k=>cj.f k s n) (tk s n):=by
 unfold cj.f tk;by_cases c:n<2
 ·rw[if_pos (.inl c)];refine ba c (Ev.step (fun k=>by rw[cj.j0]) (ba rfl (Ev.now _)))
 ·refine dw c ?_;by_cases d:n>s
  ·rw[if_pos (.inr d),af d];exact Ev.step (fun k=>by rw[cj.j0]) (ba rfl (Ev.now _))
  ·rw[if_neg (by omega),ah d];refine Ev.step (fun k=>by rw[cj.j0]) (dw (by decide) ?_);rw[w64 (n:=s-n) (by omega)];refine lr (fun e=>?_) (fun e=>?_)
   ·rw[if_pos e];exact Ev.now _
   ·rw[if_neg e];exact Ev.now _
theorem qre{w:World}{g:Nat}{p:S116}(h:w.heap[g]? =some (.cells (ov p) 116 (0,0))):Kd.C e6 w (some ⟨g,0,none⟩) 1 [p]:=by
 refine⟨rfl,by decide,fun _=>⟨_,rfl,fun j q hj=>⟨_,rfl,qo6 w q,fun i u hi=>?_⟩⟩⟩;have hj0:j=0:=by
  rcases j with _|j
  ·rfl
  ·simp at hj
 subst hj0;obtain rfl:p=q:=by simpa using hj
 have e:(⟨g,0,none⟩:Addr).add (0*e6.sz+i)=⟨g,i,none⟩:=by
  unfold Addr.add;split
  ·next h0=>rw[show i=0 by omega]
  ·simp
 rw[e];exact bt h i u hi
section
variable{ops:Array Oper}{Q:Exit->Act->World->Prop}{md:Region.Mode}{ds:List Nat}
theorem qqr{S:World->Prop}{fuel:Nat}{l:Array Bool}{a:Act}{w:World}{xs:List S116}{A:Option Addr}{c:Nat}{oi oj ok:Oper}(i j k Na Nb Nc:Nat)(s:Operand)(p:S116)(hr:Kd.C e6 w A xs.length xs)(hxl:xs.length<=1000)(hS:∀ w',Below w.heap.size w w'→S w')(h:∀ u v x w',Kd.R e6 116 w' w.heap.size (fun _=>True) x (xs++[p])->Below w.heap.size w w'→S w'→bf Tryz.prog md ops Q S ds fuel (stp (stp (stp l i) j) k) (((a.put (some Na) u).put (some Nb) v).put (some Nc) x) w')(hi:ops[i]? =some oi)(hj:ops[j]? =some oj)(hk:ops[k]? =some ok)(hs:a.eval s=.slice A xs.length c:=by rfl)(hc:(Region.ready md ops l==[i,j]&&l.setIfInBounds i true==stp l i&&l.setIfInBounds j true==stp l j)=true:=by kernel_rfl)(hc1:n9 md ops (stp l i) (stp (stp l i) j) j=true:=by kernel_rfl)(hc2:n9 md ops (stp l j) (stp (stp l i) j) i=true:=by kernel_rfl)(hc3:n9 md ops (stp (stp l i) j) (stp (stp (stp l i) j) k) k=true:=by kernel_rfl)(hNi:oi.dst=some Na:=by rfl)(hNj:oj.dst=some Nb:=by rfl)(hNk:ok.dst=some Nc:=by rfl)(hoi:oi.op=.call {callee:=.builtin .append,args:=#[.const (.slice none 0 0),s],argTypes:=#[93,93]}:=by rfl)(hok:ok.op=.call {callee:=.builtin .append,args:=#[.tmp Na, .tmp Nb],argTypes:=#[93,93]}:=by rfl)(hs':∀ v,(a.put (some Nb) v).eval s=a.eval s:=by intro _;rfl)(hr0:∀ W:World,(execOp a.eval oj).run Tryz.prog W=.ok (.value (.slice (some ⟨W.heap.size,0,none⟩) 1 1)) (W.alloc (.cells (ov p) 116)):=by intro W;first|(go_simp;done)|(go_simp;rfl))(hr1:∀ u,∀ W:World,(execOp (a.put (some Na) u).eval oj).run Tryz.prog W=.ok (.value (.slice (some ⟨W.heap.size,0,none⟩) 1 1)) (W.alloc (.cells (ov p) 116)):=by intro _ W;simp only[Act.put,List.setIfInBounds_toArray,List.set_cons_zero,List.set_cons_succ];first|(go_simp;done)|(go_simp;rfl))(he1:∀ u v,((a.put (some Na) u).put (some Nb) v).eval (.tmp Na)=u:=by intro _ _;rfl)(he2:∀ u v,((a.put (some Na) u).put (some Nb) v).eval (.tmp Nb)=v:=by intro _ _;rfl)(hcm:∀ u v,(a.put (some Nb) v).put (some Na) u=(a.put (some Na) u).put (some Nb) v:=by intro _ _;rfl)(hdi:i ∉ ds:=by decide)(hdj:j ∉ ds:=by decide)(hdk:k ∉ ds:=by decide)(hwi:∀ t,Region.wanted oi t=true:=by intro _;rfl)(hwj:∀ t,Region.wanted oj t=true:=by intro _;rfl)(hwk:∀ t,Region.wanted ok t=true:=by intro _;rfl):bf Tryz.prog md ops Q S ds (fuel+3) l a w:=by
 have hM:∀ W b,Kd.M e6 W b (fun _=>False) p [.int .i64 p.f0, .int .i64 p.f1, .bool p.f2]:=fun W b=>wj _ _ _ p;have al:∀ W:World,Below W.heap.size W (W.alloc (.cells (ov p) 116)):=fun W=>(ai _ _).alloc (an _) _;refine qgo (stp l i) (stp l j) hi hj hNi hNj hc hdi hdj (fun K hK=>?_) (fun K hK=>?_)
 ·have:=Kd.R_append_rows_step (ops:=ops) (Q:=Q) (Kc:=K) (P:=Tryz.prog) (o:=oi) (a:=a) e6 (w0:=w) (W:=w) w.heap.size (hwi _) (.const (.slice none 0 0)) s 93 116 (.agg #[(.int .i64 0),(.int .i64 0),(.bool false)]) 24 hoi Tryz.underlying93 mh rfl (by decide) (by omega) (.slice none 0 0) ([]:List S116) xs _ _ _ (fun _=>True) (fun _=>False) rfl hs (Kd.R_nil _ _ _ _ _) hr (fun _ _ h=>h) (fun _ h=>h.elim) (fun _ _=>trivial) (ai _ _) (an _) (by simp;omega) (fun v1 w1 ho hb _ _=>by
   rw[List.nil_append]at ho;rw[hNi];refine hK.out _ _ (hS _ hb) (fun _=>?_);refine ip (stp (stp l i) j) hj hNj hc1 hdj (fun K2 hK2=>?_);refine jt (hwj _) hNj (hr1 _ w1) (hK2.out _ _ (hS _ (aa hb (al w1))) (fun _=>?_));refine ip (stp (stp (stp l i) j) k) hk hNk hc3 hdk (fun K3 hK3=>?_);have h3:=Kd.R_append_step (ops:=ops) (Q:=Q) (Kc:=K3) (P:=Tryz.prog) (o:=ok) (a:=(a.put (some Na) v1).put (some Nb) (.slice (some ⟨w1.heap.size,0,none⟩) 1 1)) e6 (w0:=w) (W:=w1) w.heap.size (hwk _) (.tmp Na) (.tmp Nb) 93 116 (.agg #[(.int .i64 0),(.int .i64 0),(.bool false)]) 24 hok Tryz.underlying93 mh rfl (by decide) (by omega) v1 xs p _ (fun _=>True) (fun _=>False) (he1 _ _) (he2 _ _) (hM _ _) (fun _ hk=>hk.elim) (fun _ _=>trivial) ho hb (bk hb) (by omega) (fun v3 w3 h1 h2 _ _=>by
    rw[hNk];exact hK3.out _ _ (hS _ h2) (fun hs3=>h _ _ _ _ h1 h2 hs3))
   rw[hNk]at h3;exact h3)
  rw[hNi]at this;exact this
 ·refine jt (hwj _) hNj (hr0 w) (hK.out _ _ (hS _ (al w)) (fun _=>?_));refine ip (stp (stp l i) j) hi hNi hc2 hdi (fun K2 hK2=>?_);have h2:=Kd.R_append_rows_step (ops:=ops) (Q:=Q) (Kc:=K2) (P:=Tryz.prog) (o:=oi) (a:=a.put (some Nb) (.slice (some ⟨w.heap.size,0,none⟩) 1 1)) e6 (w0:=w.alloc (.cells (ov p) 116)) (W:=w.alloc (.cells (ov p) 116)) (w.alloc (.cells (ov p) 116)).heap.size (hwi _) (.const (.slice none 0 0)) s 93 116 (.agg #[(.int .i64 0),(.int .i64 0),(.bool false)]) 24 hoi Tryz.underlying93 mh rfl (by decide) (by omega) (.slice none 0 0) ([]:List S116) xs _ _ _ (fun _=>True) (fun _=>False) rfl (by rw[hs',hs]) (Kd.R_nil _ _ _ _ _) (Kd.C_below hr (al w)) (fun _ _ h=>h) (fun _ h=>h.elim) (fun _ _=>trivial) (ai _ _) (an _) (by simp;omega) (fun v1 w1 ho hb _ _=>by
   rw[List.nil_append]at ho;have hbw:=aa (al w) hb;have hC:=qre (p:=p) (ap (heap_alloc_new w (.cells (ov p) 116)) hb);rw[hNi];refine hK2.out _ _ (hS _ hbw) (fun _=>?_);rw[hcm];refine ip (stp (stp (stp l i) j) k) hk hNk hc3 hdk (fun K3 hK3=>?_);have h3:=Kd.R_append_rows_step (ops:=ops) (Q:=Q) (Kc:=K3) (P:=Tryz.prog) (o:=ok) (a:=(a.put (some Na) v1).put (some Nb) (.slice (some ⟨w.heap.size,0,none⟩) 1 1)) e6 (w0:=w) (W:=w1) w.heap.size (hwk _) (.tmp Na) (.tmp Nb) 93 116 (.agg #[(.int .i64 0),(.int .i64 0),(.bool false)]) 24 hok Tryz.underlying93 mh rfl (by decide) (by omega) v1 xs [p] _ _ _ (fun _=>True) (fun _=>False) (he1 _ _) (he2 _ _) (Kd.R_lower ho (al w).size) hC (fun _ _ h=>h) (fun _ h=>h.elim) (fun _ _=>trivial) hbw (bk hbw) (by omega) (fun v3 w3 h1 h2 _ _=>by
    rw[hNk];exact hK3.out _ _ (hS _ h2) (fun hs3=>h _ _ _ _ h1 h2 hs3))
   rw[hNk]at h3;exact h3)
  rw[hNi]at h2;exact h2
theorem qr1{S:World->Prop}{fuel:Nat}{l:Array Bool}{a:Act}{w0 W:World}{s x:Tmp}{v:Value}{o:Oper}{xs:List S116}(p:S116)(i N:Nat)(hi:ops[i]? =some o)(hN:o.dst=some N)(ho:o.op=.call {callee:=.builtin .append,args:=#[.tmp s, .tmp x],argTypes:=#[93,93]})(hs:a.eval (.tmp s)=v)(hx:a.eval (.tmp x)=.slice (some ⟨W.heap.size,0,none⟩) 1 1)(HO:Kd.R e6 116 W w0.heap.size (fun _=>True) v xs)(HB:Below w0.heap.size w0 W)(hl:xs.length<=1000000)(h:∀ v1 w1,Kd.R e6 116 w1 w0.heap.size (fun _=>True) v1 (xs++[p])->Below w0.heap.size w0 w1->S w1/\(S w1->bf Tryz.prog md ops Q S ds fuel (stp l i) (a.put (some N) v1) w1))(hc:n9 md ops l (stp l i) i=true:=by kernel_rfl)(hd:i ∉ ds:=by decide)(hw:Region.wanted o (yielded ops a.tmps)=true:=by rfl):bf Tryz.prog md ops Q S ds (fuel+1) l a (W.alloc (.cells (ov p) 116)):=by
 refine ip (stp l i) hi hN hc hd (fun K hK=>?_);have:=Kd.R_append_step (ops:=ops) (Q:=Q) (Kc:=K) e6 (w0:=w0) w0.heap.size hw (.tmp s) (.tmp x) 93 116 (.agg #[(.int .i64 0),(.int .i64 0),(.bool false)]) 24 ho Tryz.underlying93 mh rfl (by decide) (by omega) v xs p [.int .i64 p.f0, .int .i64 p.f1, .bool p.f2] (fun _=>True) (fun _=>False) hs hx (wj _ _ _ p) (fun _ hk=>hk.elim) (fun _ _=>trivial) HO HB (bk HB) (by omega) (fun v1 w1 h1 h2 _ _=>by
  have h3:=h v1 w1 h1 h2;rw[hN];exact hK.out _ _ h3.1 h3.2)
 rw[hN]at this;exact this
end
theorem qmp{A:Option Addr}{c:Nat}{l:List S116}(k:Nat)(h:k<=l.length)(hc:l.length<=c):∀ W:World,(Instr.slice 93 (.slice A l.length c) none (some (.int .i64 (k:Int))) none).run Tryz.prog W=.ok (.slice A (l.take k).length c) W:=by
 obtain⟨i,hi,_,hsz,_⟩:=info_parts mh;have:=qqx (P:=Tryz.prog) 93 116 .i64 Tryz.underlying93 hi A l.length c (k:Int) (by omega) (by omega) hc
 rwa[show(k:Int).toNat=(l.take k).length by rw[List.length_take];omega]at this
theorem qj8{A:Option Addr}{c:Nat}{l:List S116}(k:Nat)(h:k<=l.length):∀ W:World,(Instr.slice 93 (.slice A l.length c) (some (.int .i64 (k:Int))) none none).run Tryz.prog W=.ok (.slice (if c=k then A else A.map (·.add (k*3))) (l.drop k).length (c-k)) W:=by
 obtain⟨i,hi,_,hsz,_⟩:=info_parts mh;have:=qmq (P:=Tryz.prog) 93 116 .i64 Tryz.underlying93 hi 3 hsz A l.length c (k:Int) (by omega) (by omega)
 rwa[Int.toNat_natCast,←List.length_drop]at this
section
variable{w:World}{l:List S116}{A:Option Addr}{c:Nat}
theorem qd3{i need:Int}(hC:zp l i need)(hr:Kd.C e6 w A l.length l)(hc:l.length<=c):Calls Tryz.prog 120 #[.slice A l.length c, .int .i64 i, .int .i64 need] w fun e w'=>∃ v,e=.returned (.tuple #[v, .bool true])/\Below w.heap.size w w':=by
 obtain⟨hb,i0,i1,hf,ht⟩:=hC;have hlen:=j6 hb;have hbr:=si hb i0 i1;have htr:=qb1 ht hbr.2.1;obtain⟨n,rfl⟩:=Int.eq_ofNat_of_zero_le i0;obtain⟨ad,ea,hX⟩:=mg hr (i:=n) (by omega);cases ea;have HR:=am hr;have HWd:=am (uo (c:=c) (w:=w) hb hr);have HCm:Aside0 (∀ w',Kd.C e6 w' (some ad) l.length l->Calls Tryz.prog 118 #[.slice (some ad) l.length c, .int .i64 (dq l)] w' fun e w''=>e=.returned (.bool true)/\Below w'.heap.size w' w''):=⟨fun w' h=>un hb h hc⟩;have HTk:Aside0 (∃ k,cj.f k (ab l (n:Int)).f1 need=some (tk (ab l (n:Int)).f1 need)):=⟨by obtain⟨k,hk⟩:=qe9 (n:=need) (s:=(ab l (n:Int)).f1) ⟨hbr.2.1,hbr.2.2.1⟩;exact⟨k,hk k (an k)⟩⟩;have HT0:Aside0 (∀ w',Kd.C e6 w' (some ad) l.length l->Kd.C e6 w' (some ad) (l.take n).length (l.take n)):=⟨fun w' h=>Kd.C_take h (by omega)⟩;have HD0:Aside0 (∀ w',Kd.C e6 w' (some ad) l.length l->Kd.C e6 w' (if c=n+1 then some ad else(some ad).map (·.add ((n+1)*3))) (l.drop (n+1)).length (l.drop (n+1))):=⟨fun w' h=>Kd.C_drop h (by omega) hc⟩;have hct:=qmp (A:=some ad) (c:=c) n (by omega) hc;have hcd:=qj8 (A:=some ad) (c:=c) (l:=l) (n+1) (by omega);have hTl:(l.take n).length<=1000:=by rw[List.length_take];omega
 have hDl:(l.drop (n+1)).length<=1000:=by rw[List.length_drop];omega
 have hwn:wrap64 ((n:Int)+1)=((n+1:Nat):Int):=by rw[w64 (by omega)];omega
 rw[<-hwn]at hcd;clear hr hb;generalize ab l (n:Int)=x at *;generalize hs:tk x.f1 need=s at *;obtain⟨kt,hkt⟩:=HTk.out;have HK:=am hkt;have HX:=am hX;have HF:=am hf;have HTl:=am hTl;have HDl:=am hDl;generalize l.take n=T at *;generalize l.drop (n+1)=D at *;generalize (if c=n+1 then some ad else(some ad).map (·.add ((n+1)*3)))=A2 at *;have q0:(0<=(n:Int))=True:=eq_true (by omega);have q1:((n:Int)<l.length)=True:=eq_true i1;have q2:decide ((n:Int)<0)=false:=ah (by omega);have q3:decide ((l.length:Int)<=(n:Int))=false:=ah (by omega);have q4:decide (s=0)=false:=ah ht;have q5:(s==0)=false:=beq_eq_false_iff_ne.mpr ht;clear hs hkt hX HTk ht htr hbr hf hTl hDl hwn hlen;go_enter Tryz.func120,Tryz.ntmps120;go_wp2_with (first
  |(go_at_call 155;(with_reducible refine HWd.out.mono ?_);rintro e w3 ⟨rfl,hb⟩;have HB3:=am hb;clear hb HWd)
  |(go_at_call 118;(with_reducible refine(HCm.out _ (Kd.C_below HR.out HB3.out)).mono ?_);rintro e w4 ⟨rfl,hb⟩;have HB4:=am (aa HB3.out hb);obtain⟨a0,a1,a2⟩:=HX.out.on HB4.out;rw[HF.out]at a2;clear hb HCm)
  |(go_at_call 121;(with_reducible refine(cj.calls kt x.f1 need s _ HK.out).mono ?_);rintro e w5 ⟨rfl,hd⟩;have HB5:=am (aa HB4.out hd.below);clear hd HB4 a0 a1 a2;obtain⟨a0,a1,a2⟩:=HX.out.on HB5.out)
  |(go_at_call 121;(with_reducible refine(cj.calls kt x.f1 need s _ HK.out).mono ?_);rintro e w6 ⟨rfl,hd⟩;have HB6:=am (aa HB5.out hd.below);clear hd HB5 a0 a1 a2))
 refine dj (n:=14) (S:=fun w'=>Below w.heap.size w w') (ds:=[]) (onA 14 0) (by kernel_rfl) rfl rfl (bg HB6.out) (fun hHeld=>?_);refine ps 0 49 ?_;refine ps 1 50 ?_;refine ps 2 51 ?_;refine ps 4 53 ?_;refine ps 5 54 ?_;refine ps 6 55 ?_;refine ps 7 56 ?_;refine ps 9 58 ?_;refine vg 8 57 rfl hHeld (by intro w' hb;obtain⟨a0,a1,a2⟩:=HX.out.on hb;go_simp;with_reducible rfl) ?_;refine ps 10 59 ?_;refine qqr 3 11 12 52 60 61 (.tmp 51) ⟨x.f0,s,true⟩ (HT0.out _ (Kd.C_below HR.out hHeld)) HTl.out (fun w' hb=>aa hHeld hb) (fun u v y w7 ho hb hs7=>nz ?_) rfl rfl rfl;have HO7:=am (Kd.R_lower ho hHeld.size);have HB7:=am hs7;clear ho hb hs7 hHeld HB6;refine ps 13 9 ?_;refine fa (by kernel_rfl) ?_;obtain⟨a0,a1,a2⟩:=HX.out.on HB7.out;by_cases c1:s<x.f1
 ·have r1:decide (s<x.f1)=true:=af c1;go_wp2;clear a0 a1 a2;refine dj (n:=19) (S:=fun w'=>Below w.heap.size w w') (ds:=[]) (onA 19 0) (by kernel_rfl) rfl rfl (bg HB7.out) (fun hHeld=>?_);refine ps 0 69 ?_;refine ps 1 70 ?_;refine ps 2 71 ?_;refine ps 3 72 ?_;refine ps 4 73 ?_;refine ps 6 75 ?_;refine ps 8 77 ?_;refine ps 9 78 ?_;refine ps 10 79 ?_;refine ps 11 80 ?_;refine ps 13 82 ?_;refine vg 5 74 rfl hHeld (by intro w' hb;obtain⟨a0,a1,a2⟩:=HX.out.on hb;go_simp;with_reducible rfl) ?_;refine ps 7 76 ?_;refine vg 12 81 rfl hHeld (by intro w' hb;obtain⟨a0,a1,a2⟩:=HX.out.on hb;go_simp;with_reducible rfl) ?_;refine ps 14 83 ?_;refine ps 15 84 ?_;refine es 16 85 (.slice (some ⟨w7.drew.heap.size,0,none⟩) 1 1) (w7.drew.alloc (.cells (ov ⟨wrap64 (x.f0+s),wrap64 (x.f1-s),false⟩) 116)) rfl (by first|(go_simp;done)|(go_simp;rfl)) (ca hHeld _) (fun _=>nz ?_);refine qr1 ⟨wrap64 (x.f0+s),wrap64 (x.f1-s),false⟩ 17 86 rfl rfl rfl rfl rfl (w0:=w) (rz HO7) hHeld (by simp;have:=HTl.out;omega) (fun v1 w8 ho hb=>⟨hb,fun _=>nz ?_⟩);have HO8:=am ho;have HB8:=am hb;clear ho hb hHeld HB7 HO7;refine ps 18 9 ?_;refine fa (by kernel_rfl) ?_;go_wp2_with (first
   |((with_reducible refine di (b:=.append) (xs:=#[.tmp 87, .tmp 91]) rfl ?_);at_builtin;refine Kd.R_append_rows e6 (w0:=w) w.heap.size rfl (.tmp 87) (.tmp 91) 93 116 (.agg #[(.int .i64 0),(.int .i64 0),(.bool false)]) 24 rfl Tryz.underlying93 mh rfl (by decide) (by omega) _ _ D _ _ _ (fun _=>True) (fun _=>False) rfl rfl HO8.out (HD0.out _ (Kd.C_below HR.out HB8.out)) (fun _ _ h=>h) (fun _ h=>h.elim) (fun _ _=>trivial) HB8.out (bk HB8.out) (by have:=HTl.out;have:=HDl.out;simp;omega) ?_;intro v9 w9 ho hb _ _;have HB9:=am hb;clear ho hb))
  go_ret2
  first|exact⟨⟨_,rfl⟩,HB9.out⟩|exact⟨_,rfl,HB9.out⟩
 ·have r1:decide (s<x.f1)=false:=ah c1;go_wp2_with (first
   |((with_reducible refine di (b:=.append) (xs:=#[.tmp 87, .tmp 91]) rfl ?_);at_builtin;refine Kd.R_append_rows e6 (w0:=w) w.heap.size rfl (.tmp 87) (.tmp 91) 93 116 (.agg #[(.int .i64 0),(.int .i64 0),(.bool false)]) 24 rfl Tryz.underlying93 mh rfl (by decide) (by omega) _ _ D _ _ _ (fun _=>True) (fun _=>False) rfl rfl HO7.out (HD0.out _ (Kd.C_below HR.out HB7.out)) (fun _ _ h=>h) (fun _ h=>h.elim) (fun _ _=>trivial) HB7.out (bk HB7.out) (by have:=HTl.out;have:=HDl.out;simp;omega) ?_;intro v9 w9 ho hb _ _;have HB9:=am hb;clear ho hb))
  go_ret2;exact⟨⟨_,rfl⟩,HB9.out⟩
end
end Go.Proofs.YtmfhaliclnnbaaaGreat.Sys
