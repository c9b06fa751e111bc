import Derived.Test.YtmfhaliclnnbaaaGreatZTopWholeM2
import Derived.Test.YtmfhaliclnnbaaaGreatZTopWholeM3
import Derived.Test.YtmfhaliclnnbaaaGreatZTopWholeM4
import Derived.Test.YtmfhaliclnnbaaaGreatZTopWholeM5
namespace Go.Proofs.YtmfhaliclnnbaaaGreat.Pl
open Go.RowKit Go.Proofs.YtmfhaliclnnbaaaGreatW.PrintWords Go.Proofs.YtmfhaliclnnbaaaGreatW.PrintLast Go.Proofs.YtmfhaliclnnbaaaGreatW.PrintMore Go.Proofs.YtmfhaliclnnbaaaGreat.XTopWhole
set_option linter.unusedVariables false
set_option linter.unusedSimpArgs false
set_option maxRecDepth 100000
set_option maxHeartbeats 8000000
def qh2(x c s:Nat):Nat:=((BitVec.ofNat 64 x&&& ~~~ BitVec.ofNat 64 (255*2 ^ s))|||BitVec.ofNat 64 (c*2 ^ s)).toNat
theorem qnu(x c s i:Nat)(hc:c<256)(hi:i<64):(qh2 x c s).testBit i=if s<=i/\i<s+8 then c.testBit (i-s)else x.testBit i:=by
 unfold qh2;rw[<-BitVec.getLsbD,BitVec.getLsbD_or,BitVec.getLsbD_and,BitVec.getLsbD_not,BitVec.getLsbD_ofNat,BitVec.getLsbD_ofNat,BitVec.getLsbD_ofNat,←Nat.shiftLeft_eq,←Nat.shiftLeft_eq,Nat.testBit_shiftLeft,Nat.testBit_shiftLeft,
  show(255:Nat)=2 ^ 8-1 from rfl,Nat.testBit_two_pow_sub_one]
 by_cases h1:s<=i
 ·by_cases h2:i<s+8
  ·rw[if_pos ⟨h1,h2⟩,af hi,af (show i>=s from h1),af (show i-s<8 by omega)];simp
  ·have:c.testBit (i-s)=false:=Nat.testBit_lt_two_pow (Nat.lt_of_lt_of_le hc (Nat.pow_le_pow_right (n:=2) (i:=8) (by decide) (by omega)));rw[if_neg (fun h=>h2 h.2),af hi,ah (show ¬ i-s<8 by omega),this];simp
 ·rw[if_neg (fun h=>h1 h.1),af hi,ah (show ¬ i>=s from h1)];simp
theorem qps(x c s:Nat):qh2 x c s<2 ^ 64:=BitVec.isLt _
theorem ql2(x c s t:Nat)(hc:c<256)(ht:t+8<=64)(h:s=t\/s+8<=t\/t+8<=s):qh2 x c s / 2 ^ t % 2 ^ 8=if s=t then c else x / 2 ^ t % 2 ^ 8:=by
 apply Nat.eq_of_testBit_eq;intro j;rw[Nat.testBit_mod_two_pow,Nat.testBit_div_two_pow];by_cases hj:j<8
 ·rw[af hj,Bool.true_and,qnu x c s _ hc (by omega)];by_cases e:s=t
  ·rw[if_pos e,if_pos (by omega),show j+t-s=j from by omega]
  ·rw[if_neg e,if_neg (by omega),Nat.testBit_mod_two_pow,Nat.testBit_div_two_pow,af hj,Bool.true_and]
 ·rw[ah hj,Bool.false_and];split
  ·exact(Nat.testBit_lt_two_pow (Nat.lt_of_lt_of_le hc (Nat.pow_le_pow_right (n:=2) (i:=8) (by decide) (by omega)))).symm
  ·rw[Nat.testBit_mod_two_pow,ah hj,Bool.false_and]
def qef(x c s:Int):Int:=Go.bits .or .u64 (Go.bits .andNot .u64 x (shl .u64 255 s)) (shl .u64 (IntKind.u64.wrap c) s)
theorem qnv(x c s:Nat)(hx:x<2 ^ 64)(hc:c<256)(hs:s+8<=64):qef x c s=(qh2 x c s:Nat):=by
 have e1:shl .u64 255 (s:Int)=((255*2 ^ s:Nat):Int):=by have h1:(255*2 ^ s:Nat)<2 ^ 64:=Nat.lt_of_lt_of_le (Nat.mul_lt_mul_of_pos_right (show 255<2 ^ 8 by decide) (Nat.two_pow_pos s)) (by rw[<-Nat.pow_add];exact Nat.pow_le_pow_right (by decide) (by omega));unfold shl;rw[Int.toNat_natCast,show min s IntKind.u64.bits=s from Nat.min_eq_left (by show s<=64;omega),show(255:Int)*2 ^ s=((255*2 ^ s:Nat):Int)from by rw[Int.natCast_mul,Int.natCast_pow];rfl,ph _ (Int.natCast_nonneg _) (by exact_mod_cast h1)]
 have e2:shl .u64 (IntKind.u64.wrap (c:Int)) (s:Int)=((c*2 ^ s:Nat):Int):=by have h1:(c*2 ^ s:Nat)<2 ^ 64:=Nat.lt_of_lt_of_le (Nat.mul_lt_mul_of_pos_right (show c<2 ^ 8 by omega) (Nat.two_pow_pos s)) (by rw[<-Nat.pow_add];exact Nat.pow_le_pow_right (by decide) (by omega));unfold shl;rw[ph (c:Int) (by omega) (by omega),Int.toNat_natCast,show min s IntKind.u64.bits=s from Nat.min_eq_left (by show s<=64;omega),show(c:Int)*2 ^ s=((c*2 ^ s:Nat):Int)from by rw[Int.natCast_mul,Int.natCast_pow];rfl,ph _ (Int.natCast_nonneg _) (by exact_mod_cast h1)]
 unfold qef;rw[e1,e2];have hb:∀ a b:Nat,b<2 ^ 64->Go.bits .andNot .u64 (a:Int) (b:Int)=(((BitVec.ofNat 64 a&&& ~~~ BitVec.ofNat 64 b).toNat:Nat):Int):=fun a b _=>by show IntKind.u64.wrap _=_;rw[ph _ (by omega) (by exact_mod_cast BitVec.isLt _)];simp only[BitVec.ofInt_natCast];rfl
 have ho:∀ a b:Nat,Go.bits .or .u64 (a:Int) (b:Int)=(((BitVec.ofNat 64 a|||BitVec.ofNat 64 b).toNat:Nat):Int):=fun a b=>by show IntKind.u64.wrap _=_;rw[ph _ (by omega) (by exact_mod_cast BitVec.isLt _)];simp only[BitVec.ofInt_natCast];rfl
 rw[hb _ _ (Nat.lt_of_lt_of_le (Nat.mul_lt_mul_of_pos_right (show 255<2 ^ 8 by decide) (Nat.two_pow_pos s)) (by rw[<-Nat.pow_add];exact Nat.pow_le_pow_right (by decide) (by omega))),ho];unfold qh2;rw[BitVec.ofNat_toNat,BitVec.setWidth_eq]
def jr(v:List Int)(i:Int):Int:=shr .u64 (rd v (i / 8)) (i % 8*8) % 256
theorem qn3(x:Int){s:Int}(h:0<=s/\s<=64):shr .u64 x s=x / 2 ^ s.toNat:=by
 unfold shr;rw[show min s.toNat IntKind.u64.bits=s.toNat from Nat.min_eq_left (by show s.toNat<=64;omega)]
theorem xy{x c:Int}(hx:0<=x/\x<=18446744073709551615)(hc:0<=c/\c<=255){i j:Int}(hi:0<=i/\i<8)(hj:0<=j/\j<8):(0<=qef x c (i*8)/\qef x c (i*8)<=18446744073709551615)/\shr .u64 (qef x c (i*8)) (j*8) % 256=if i=j then c else shr .u64 x (j*8) % 256:=by
 obtain⟨X,rfl⟩:=Int.eq_ofNat_of_zero_le hx.1;obtain⟨C,rfl⟩:=Int.eq_ofNat_of_zero_le hc.1;obtain⟨I,rfl⟩:=Int.eq_ofNat_of_zero_le hi.1;obtain⟨J,rfl⟩:=Int.eq_ofNat_of_zero_le hj.1;have e:((I:Int)*8)=((I*8:Nat):Int):=by omega
 have e2:((J:Int)*8)=((J*8:Nat):Int):=by omega
 rw[e,qnv X C (I*8) (by omega) (by omega) (by omega),qn3 _ (by omega),qn3 _ (by omega),e2,Int.toNat_natCast];have hb:=ql2 X C (I*8) (J*8) (by omega) (by omega) (by omega);have hl:=qps X C (I*8);refine⟨by omega,?_⟩;have h1:((qh2 X C (I*8):Nat):Int) / 2 ^ (J*8) % 256=((qh2 X C (I*8) / 2 ^ (J*8) % 2 ^ 8:Nat):Int):=by rw[Int.natCast_emod,Int.natCast_ediv,Int.natCast_pow];rfl
 have h2:((X:Nat):Int) / 2 ^ (J*8) % 256=((X / 2 ^ (J*8) % 2 ^ 8:Nat):Int):=by rw[Int.natCast_emod,Int.natCast_ediv,Int.natCast_pow];rfl
 rw[h1,h2,hb];by_cases h:I=J
 ·rw[if_pos (by omega),if_pos (by omega)]
 ·rw[if_neg (by omega),if_neg (by omega)]
theorem rj(pre suf:List S116)(x:S116):ab (pre++x::suf) (pre.length:Int)=x:=by
 unfold ab;rw[ax,Int.toNat_natCast,List.getElem?_append_right (by omega)];simp
theorem xz{l:List S116}{j:Int}(h0:0<=j)(h1:j<l.length):∃ h:j.toNat<l.length,ab l j=l[j.toNat]'h:=by
 refine⟨by omega,?_⟩;unfold ab;rw[ax,bx (by omega)];rfl
theorem jl{l:List S116}{j:Int}(h0:0<=j)(h1:j<l.length):ab l j∈l:=by
 obtain⟨h,e⟩:=xz h0 h1;rw[e];exact List.getElem_mem h
def f9(words:Int):Int->Bool->List S116->Prop
 |a,_,[]=>a=words
 |a,fr,b::l=>b.f0=a/\2<=b.f1/\b.f1<=512/\b.f1<=words-a/\(fr=true->b.f2=true)/\f9 words (a+b.f1) (!b.f2) l
def sx(words:Int):Prop:=8<=words/\words<=512/\words % 8=0
instance (words:Int):Decidable (sx words):=by unfold sx;infer_instance
def mb(l:List S116)(words:Int):Prop:=sx words/\f9 words 0 false l
theorem i6{words:Int}{l:List S116}:∀ {a:Int} {fr:Bool},f9 words a fr l→∀ b∈l,a<=b.f0/\2<=b.f1/\b.f1<=512/\b.f0+b.f1<=words:=by
 induction l with
 |nil=>exact fun _ b hb=>absurd hb (by simp)
 |cons c l ih=>
  intro a fr h b hb;obtain⟨h0,h1,h2,h3,h4,h5⟩:=h;rcases List.mem_cons.1 hb with hb|hb
  ·subst hb;omega
  ·have:=ih h5 b hb;omega
theorem vv{words:Int}{l:List S116}:∀ {a:Int} {fr:Bool},f9 words a fr l->l.Pairwise (fun b c=>b.f0+b.f1<=c.f0):=by
 induction l with
 |nil=>exact fun _=>List.Pairwise.nil
 |cons c l ih=>
  intro a fr h;obtain⟨h0,h1,h2,h3,h4,h5⟩:=h;refine List.pairwise_cons.2 ⟨fun b hb=>?_,ih h5⟩;have:=i6 h5 b hb;omega
theorem qen{words:Int}{l:List S116}:∀ {a:Int} {fr:Bool},f9 words a fr l->a+2*l.length<=words:=by
 induction l with
 |nil=>intro a fr h;have:a=words:=h;simp;omega
 |cons c l ih=>
  intro a fr h;obtain⟨h0,h1,h2,h3,h4,h5⟩:=h;have:=ih h5;simp;omega
theorem ni{words:Int}{l:List S116}(h:f9 words 0 false l){j:Int}(h0:0<=j)(h1:j<l.length):
  0<=(ab l j).f0/\2<=(ab l j).f1/\(ab l j).f1<=512/\(ab l j).f0+(ab l j).f1<=words:=i6 h _ (jl h0 h1)
theorem tz{words:Int}{l:List S116}(h:f9 words 0 false l){i j:Int}(h0:0<=i)(h1:i<j)(h2:j<l.length):(ab l i).f0+(ab l i).f1<=(ab l j).f0:=by
 obtain⟨hi,ei⟩:=xz (l:=l) h0 (by omega);obtain⟨hj,ej⟩:=xz (l:=l) (j:=j) (by omega) h2;rw[ei,ej];exact List.pairwise_iff_getElem.1 (vv h) _ _ hi hj (by omega)
theorem ua(n:Int):fc.f n=some (decide (8<=n/\n<=512/\n % 8=0)):=by
 unfold fc.f;by_cases h1:n>=8
 ·rw[if_pos h1];by_cases h2:n<=512
  ·rw[if_pos h2,qdt (by omega)];congr 1;rw[Bool.eq_iff_iff,beq_iff_eq,decide_eq_true_iff];exact⟨fun h=>⟨h1,h2,h⟩,fun h=>h.2.2⟩
  ·rw[if_neg h2,ah (by omega)]
 ·rw[if_neg h1,ah (by omega)]
theorem rg(n:Int):ec.f n=some (decide (2<=n/\n<=512)):=by
 unfold ec.f;by_cases h2:n>=2
 ·rw[if_pos h2];congr 1;rw[Bool.eq_iff_iff];simp only[decide_eq_true_iff];omega
 ·rw[if_neg h2,ah (by omega)]
theorem qor{words:Int}(hw:words<=100000)(suf:List S116):∀ (pre:List S116) (a:Int) (fr:Bool),0<=a->a<=words->(pre++suf).length<=100000→∃ b,Ev (fun k=>dc.l0 k words a fr (pre++suf) ((pre++suf).length:Int) (pre.length:Int)) b/\(b=true<->f9 words a fr suf):=by
 induction suf with
 |nil=>
  intro pre a fr h0 h1 hl;refine⟨a==words,Ev.step (fun k=>by rw[dc.l0]) (dw (by simp) (Ev.now _)),?_⟩;rw[beq_iff_eq];exact Iff.rfl
 |cons x suf ih=>
  intro pre a fr h0 h1 hl;have e:pre++x::suf=(pre++[x])++suf:=by simp
  have hlen2:((pre++[x]).length:Int)=(pre.length:Int)+1:=by simp
  have hlt:(pre.length:Int)<((pre++x::suf).length:Int):=by simp;omega
  have w1:wrap64 ((pre.length:Int)+1)=(pre.length:Int)+1:=w64 (by simp at hl;omega);have w2:wrap64 (words-a)=words-a:=w64 (by omega);by_cases c1:x.f0=a
  ·by_cases c2:2<=x.f1/\x.f1<=512
   ·by_cases c4:fr=true/\x.f2=false
    ·refine⟨false,Ev.step (fun k=>by rw[dc.l0]) ?_,⟨fun h=>(by cases h),fun h=>by have:=h.2.2.2.2.1 c4.1;rw[c4.2]at this;cases this⟩⟩;rw[rj];exact ba hlt (ba (by omega) (ba hlt (ba c1 (ij (rg _) (ba (by simp[c2]) (ba c4.1 (dw (by rw[c4.2];decide) (Ev.now _))))))))
    ·by_cases c3:x.f1>words-a
     ·refine⟨false,Ev.step (fun k=>by rw[dc.l0]) ?_,⟨fun h=>(by cases h),fun h=>by have:=h.2.2.2.1;omega⟩⟩;rw[rj,w2];refine ba hlt (ba (by omega) (ba hlt (ba c1 (ij (rg _) (ba (by simp[c2]) ?_)))));exact lr (fun _=>lr (fun _=>ba c3 (Ev.now _)) (fun _=>Ev.now _)) (fun _=>ba c3 (Ev.now _))
     ·have w3:wrap64 (a+x.f1)=a+x.f1:=w64 (by omega);obtain⟨b,hb,hi⟩:=ih (pre++[x]) (a+x.f1) (!x.f2) (by omega) (by omega) (by rw[<-e];exact hl);rw[hlen2,←e]at hb;refine⟨b,Ev.step (fun k=>by rw[dc.l0]) ?_,?_⟩
      ·rw[rj,w2,w1,w3];refine ba hlt (ba (by omega) (ba hlt (ba c1 (ij (rg _) (ba (by simp[c2]) ?_)))));refine lr (fun hf=>?_) (fun _=>dw c3 hb);refine ba ?_ (dw c3 hb);cases hx:x.f2 with
       |true=>rfl
       |false=>exact absurd ⟨hf,hx⟩ c4
      ·rw[hi];constructor
       ·intro h;exact⟨c1,c2.1,c2.2,by omega,fun hf=>by
         cases hx:x.f2 with
         |true=>rfl
         |false=>exact absurd ⟨hf,hx⟩ c4,h⟩
       ·exact fun h=>h.2.2.2.2.2
   ·refine⟨false,Ev.step (fun k=>by rw[dc.l0]) ?_,⟨fun h=>(by cases h),fun h=>absurd ⟨h.2.1,h.2.2.1⟩ c2⟩⟩;rw[rj];exact ba hlt (ba (by omega) (ba hlt (ba c1 (ij (rg _) (dw (by simp;omega) (Ev.now _))))))
  ·refine⟨false,Ev.step (fun k=>by rw[dc.l0]) ?_,⟨fun h=>(by cases h),fun h=>absurd h.1 c1⟩⟩;rw[rj];exact ba hlt (ba (by omega) (ba hlt (dw c1 (Ev.now _))))
theorem qfu{l:List S116}(words:Int)(hl:l.length<=100000):∃ b,Ev (fun k=>dc.f k l words) b/\(b=true<->mb l words):=by
 unfold dc.f;by_cases h:8<=words/\words<=512/\words % 8=0
 ·obtain⟨b,hb,hi⟩:=qor (words:=words) (by omega) l [] 0 false (by omega) (by omega) hl;refine⟨b,ij (ua words) (ba (by simp[h]) hb),hi.trans ⟨fun hh=>⟨h,hh⟩,fun hh=>hh.2⟩⟩
 ·exact⟨false,ij (ua words) (dw (by simpa using h) (Ev.now _)),⟨fun hh=>(by cases hh),fun hh=>absurd hh.1 h⟩⟩
theorem qhd{l:List S116}{words:Int}(hl:l.length<=100000)(h:mb l words):Ev (fun k=>dc.f k l words) true:=by
 obtain⟨b,hb,hi⟩:=qfu words hl
 rwa[hi.2 h]at hb
theorem qos{l:List S116}{words:Int}(hl:l.length<=100000)(h:¬ mb l words):Ev (fun k=>dc.f k l words) false:=by
 obtain⟨b,hb,hi⟩:=qfu words hl;cases b with
 |true=>exact absurd (hi.1 rfl) h
 |false=>exact hb
theorem qj6{a b:S116}(h0:a.f0=b.f0)(h1:a.f1=b.f1)(h2:a.f2=b.f2):a=b:=by
 cases a;cases b;simp at h0 h1 h2;simp[h0,h1,h2]
theorem qdg{w:Int}(h:0<=w/\w<=18446744073709551615):ka.f w=if 2<=w / 2/\w / 2<=512 then some (w / 2,w % 2==1,true)else some (0,false,false):=by
 unfold ka.f ec.f;rw[qic h.1 h.2,w64 (by omega)];by_cases h1:w / 2>512
 ·rw[if_pos h1,if_neg (by omega)]
 ·rw[if_neg h1];by_cases h2:w / 2>=2
  ·rw[if_pos h2,if_pos (by omega)];simp only[Option.bind_some];rw[if_pos (by simp;omega)]
  ·rw[if_neg h2,if_neg (by omega)];rfl
theorem qch(n:Int)(u:Bool):gg.f n u=some (if 2<=n/\n<=512 then 2*n+(if u then 1 else 0)else 0):=by
 unfold gg.f ec.f;by_cases h:2<=n/\n<=512
 ·rw[if_pos (by omega),if_pos h];simp only[Option.bind_some];rw[if_pos (by simp;omega)];have e:IntKind.u64.wrap (IntKind.u64.wrap n*2)=2*n:=by rw[u64w,u64w];omega
  rw[e];cases u
  ·simp
  ·simp only[if_true];rw[qp6 (by omega) (by omega) (by omega)]
 ·rw[if_neg h];by_cases h2:n>=2
  ·rw[if_pos h2];simp only[Option.bind_some];rw[if_neg (by simp;omega)]
  ·rw[if_neg h2];rfl
def Wds(w:List Int):Prop:=w.length<=2000∧∀ j:Int,0<=rd w j/\rd w j<=18446744073709551615
def qr(w:List Int):Int->List S116->Prop
 |a,[]=>(w.length:Int)<=a
 |a,b::l=>a<w.length/\b.f0=a/\2<=rd w a / 2/\rd w a / 2<=512/\b.f1=rd w a / 2/\b.f2=(rd w a % 2==1)/\qr w (a+b.f1) l
theorem qlw{w:List Int}{l:List S116}:∀ {a:Int} {m:List S116},qr w a l->qr w a m->l=m:=by
 induction l with
 |nil=>
  intro a m h h';cases m with
  |nil=>rfl
  |cons b m=>have h1:(w.length:Int)<=a:=h;have:=h'.1;omega
 |cons b l ih=>
  intro a m h h';cases m with
  |nil=>have h1:(w.length:Int)<=a:=h';have:=h.1;omega
  |cons c m=>
   obtain⟨a0,a1,a2,a3,a4,a5,a6⟩:=h;obtain⟨b0,b1,b2,b3,b4,b5,b6⟩:=h';have e:b=c:=qj6 (by rw[a1,b1]) (by rw[a4,b4]) (by rw[a5,b5]);subst e;rw[ih a6 b6]
def qb4(w:List Int)(r:List S116×Bool):Prop:=
 (qr w 0 r.1/\mb r.1 w.length/\r.2=true)\/((∀ l,qr w 0 l→¬ mb l w.length)/\r=([],false))
theorem qiu{w:List Int}{r r':List S116×Bool}(h:qb4 w r)(h':qb4 w r'):r=r':=by
 rcases h with⟨a,b,c⟩|⟨a,b⟩
 ·rcases h' with⟨a',b',c'⟩|⟨a',b'⟩
  ·exact Prod.ext (qlw a a') (by rw[c,c'])
  ·exact absurd b (a' _ a)
 ·rcases h' with⟨a',b',c'⟩|⟨a',b'⟩
  ·exact absurd b' (a _ a')
  ·rw[b,b']
theorem qk0{w:List Int}(hw:Wds w)(d:Nat):∀ (acc:List S116) (a:Int),0<=a->(w.length:Int)<=a+d->a<=3000->(acc.length:Int)<=a→∃ r,Ev (fun k=>cf.l0 k w acc a) r/\((∃ l,qr w a l/\mb (acc++l) w.length/\r=(acc++l,true))\/((∀ l,qr w a l→¬ mb (acc++l) w.length)/\r=([],false))):=by
 have hlen:=hw.1;have fin:∀ (acc:List S116) (a:Int),0<=a->(w.length:Int)<=a->a<=3000->(acc.length:Int)<=a→
   ∃ r,Ev (fun k=>cf.l0 k w acc a) r/\((∃ l,qr w a l/\mb (acc++l) w.length/\r=(acc++l,true))\/((∀ l,qr w a l→¬ mb (acc++l) w.length)/\r=([],false))):=by
  intro acc a h0 h1 h2 h3;obtain⟨b,hb,hi⟩:=qfu (l:=acc) (w.length:Int) (by omega);have pn:∀ l,qr w a l->l=[]:=fun l hl=>by
   cases l with
   |nil=>rfl
   |cons c l=>have:=hl.1;omega
  cases b with
  |true=>
   refine⟨(acc,true),Ev.step (fun k=>by rw[cf.l0]) ?_,Or.inl ⟨[],h1,by rw[List.append_nil];exact hi.1 rfl,by rw[List.append_nil]⟩⟩;exact dw (by omega) (gu hb (ba rfl (Ev.now _)))
  |false=>
   refine⟨([],false),Ev.step (fun k=>by rw[cf.l0]) ?_,Or.inr ⟨fun l hl hm=>?_,rfl⟩⟩
   ·exact dw (by omega) (gu hb (dw (by decide) (Ev.now _)))
   ·rw[pn l hl,List.append_nil]at hm;have:=hi.2 hm;cases this
 induction d with
 |zero=>intro acc a h0 h1;exact fin acc a h0 (by omega)
 |succ d ih=>
  intro acc a h0 h1 h2 h3;by_cases ha:(w.length:Int)<=a
  ·exact fin acc a h0 ha h2 h3
  ·have hr:=hw.2 a;by_cases hp:2<=rd w a / 2/\rd w a / 2<=512
   ·obtain⟨r,hb,hi⟩:=ih (acc++[(⟨a,rd w a / 2,rd w a % 2==1⟩:S116)]) (a+rd w a / 2) (by omega) (by omega) (by omega) (by simp;omega);refine⟨r,Ev.step (fun k=>by rw[cf.l0]) ?_,?_⟩
    ·rw[qdg hr,if_pos hp];refine ba (by omega) (ba h0 (ij rfl ?_));refine ba rfl (ba (by omega) ?_);rw[w64 (n:=a+rd w a / 2) (by omega)];exact hb
    ·rcases hi with⟨l,q1,q2,q3⟩|⟨q1,q2⟩
     ·refine Or.inl ⟨(⟨a,rd w a / 2,rd w a % 2==1⟩:S116)::l,⟨by omega,rfl,hp.1,hp.2,rfl,rfl,q1⟩,?_,?_⟩
      ·rw[List.append_assoc]at q2;exact q2
      ·rw[q3,List.append_assoc];rfl
     ·refine Or.inr ⟨fun l hl=>?_,q2⟩;cases l with
      |nil=>have hl:(w.length:Int)<=a:=hl;omega
      |cons b l=>
       obtain⟨b0,b1,b2,b3,b4,b5,b6⟩:=hl;have e:b=(⟨a,rd w a / 2,rd w a % 2==1⟩:S116):=qj6 b1 b4 b5;rw[b4]at b6;have:=q1 l b6;rw[List.append_assoc]at this;rw[e];exact this
   ·refine⟨([],false),Ev.step (fun k=>by rw[cf.l0]) ?_,Or.inr ⟨fun l hl=>?_,rfl⟩⟩
    ·rw[qdg hr,if_neg hp];exact ba (by omega) (ba h0 (ij rfl (dw (by decide) (Ev.now _))))
    ·cases l with
     |nil=>have hl:(w.length:Int)<=a:=hl;omega
     |cons b l=>exact absurd ⟨hl.2.2.1,hl.2.2.2.1⟩ hp
theorem qkz{w:List Int}(hw:Wds w):∃ r,Ev (fun k=>cf.f k w) r/\qb4 w r:=by
 have hlen:=hw.1;obtain⟨r,h1,h2⟩:=qk0 hw w.length [] 0 (by omega) (by omega) (by omega) (by simp);refine⟨r,h1,?_⟩;rcases h2 with⟨l,a,b,c⟩|⟨a,b⟩
 ·rw[c];exact Or.inl ⟨a,b,rfl⟩
 ·exact Or.inr ⟨a,b⟩
theorem qiv{w:List Int}{l:List S116}(hw:Wds w)(hp:qr w 0 l)(hm:mb l w.length):Ev (fun k=>cf.f k w) (l,true):=by
 obtain⟨r,h1,h2⟩:=qkz hw;have:=qiu h2 (Or.inl ⟨hp,hm,rfl⟩:qb4 w (l,true))
 rwa[this]at h1
def nc(b:S116):Int:=2*b.f1+(if b.f2=true then 1 else 0)
theorem qja(b:S116):(nc b / 2=b.f1)/\((nc b % 2==1)=b.f2):=by
 unfold nc;cases b.f2
 ·rw[if_neg (by decide)];exact⟨by omega,by rw[beq_eq_false_iff_ne];omega⟩
 ·rw[if_pos rfl];exact⟨by omega,by rw[beq_iff_eq];omega⟩
theorem qno{w:List Int}{l:List S116}:∀ {a:Int} {fr:Bool},f9 w.length a fr l->(∀ b∈l,rd w b.f0=nc b)->qr w a l:=by
 induction l with
 |nil=>intro a fr h _;have h:a=w.length:=h;show(w.length:Int)<=a;omega
 |cons b l ih=>
  intro a fr h hh;obtain⟨h0,h1,h2,h3,h4,h5⟩:=h;have hb:=hh b (by simp);rw[h0]at hb;have hr:=qja b;exact⟨by omega,h0,by rw[hb,hr.1];exact h1,by rw[hb,hr.1];exact h2,by rw[hb,hr.1],by rw[hb,hr.2],ih h5 (fun c hc=>hh c (by simp[hc]))⟩
theorem qmy(n:Int):oc.f n=some (if sx n then(List.replicate n.toNat 0).set 0 (2*n)else[]):=by
 unfold oc.f;rw[ua];simp only[Option.bind_some];by_cases h:8<=n/\n<=512/\n % 8=0
 ·rw[if_pos (by simp[h]),if_pos (by omega),if_pos (by omega),if_pos (show sx n from h),qch,if_pos (by omega)];simp only[Option.bind_some];rw[if_pos (by simp;omega)];simp
 ·rw[if_neg (by simpa using h),if_neg (show ¬ sx n from h)]
def dq:List S116->Int
 |[]=>0
 |b::l=>b.f1+dq l
theorem qk5{words:Int}(suf:List S116)(pre:List S116):∀ {a:Int} {fr:Bool},f9 words a fr (pre++suf)→∃ fr',f9 words (a+dq pre) fr' suf:=by
 induction pre with
 |nil=>intro a fr h;exact⟨fr,by show f9 words (a+0) fr suf;rw[Int.add_zero];exact h⟩
 |cons b pre ih=>
  intro a fr h;obtain⟨c0,c1,c2,c3,c4,c5⟩:=h;obtain⟨fr',h'⟩:=ih c5;refine⟨fr',?_⟩;show f9 words (a+(b.f1+dq pre)) fr' suf;rw[<-Int.add_assoc];exact h'
theorem qbf{words:Int}(l:List S116){a:Int}{fr:Bool}(h:f9 words a fr l):words=a+dq l:=by
 obtain⟨fr',h'⟩:=qk5 [] l (by rw[List.append_nil];exact h);have h':a+dq l=words:=h';omega
theorem qma{l:List S116}{j:Int}(h0:0<=j)(h1:j+1<l.length):∃ pre x y suf,l=pre++x::y::suf/\(pre.length:Int)=j:=by
 refine⟨l.take j.toNat,l[j.toNat]'(by omega),l[j.toNat+1]'(by omega),l.drop (j.toNat+2),?_,by rw[List.length_take];omega⟩;rw[<-List.drop_eq_getElem_cons (by omega),←List.drop_eq_getElem_cons (by omega)];exact(List.take_append_drop _ _).symm
theorem qai(n:Int)(u:Bool):du.f n u=gg.f n u:=rfl
theorem qgq{v:List Int}{i:Nat}{x:Int}(hv:Wds v)(h0:0<=x)(h1:x<=18446744073709551615):Wds (v.set i x):=by
 refine⟨by rw[List.length_set];exact hv.1,fun j=>?_⟩;by_cases hi:i<v.length
 ·rw[mc x j hi];by_cases h:j.toNat=i
  ·rw[if_pos h];exact⟨h0,h1⟩
  ·rw[if_neg h];exact hv.2 j
 ·rw[List.set_eq_of_length_le (by omega)];exact hv.2 j
def o9:Bool->List S116->Bool
 |fr,[]=>fr
 |_,b::l=>o9 (!b.f2) l
theorem qje(P R:List S116):∀ fr,o9 fr (P++R)=o9 (o9 fr P) R:=by
 induction P with
 |nil=>intro fr;rfl
 |cons b P ih=>intro fr;exact ih _
theorem uj(P R:List S116):dq (P++R)=dq P+dq R:=by
 induction P with
 |nil=>show dq R=0+dq R;omega
 |cons b P ih=>show b.f1+dq (P++R)=(b.f1+dq P)+dq R;rw[ih];omega
theorem rk{words:Int}(P R:List S116):∀ {a:Int} {fr:Bool},f9 words a fr (P++R)->f9 words (a+dq P) (o9 fr P) R:=by
 induction P with
 |nil=>intro a fr h;show f9 words (a+0) fr R;rw[Int.add_zero];exact h
 |cons b P ih=>
  intro a fr h;obtain⟨h0,h1,h2,h3,h4,h5⟩:=h;have:=ih h5;show f9 words (a+(b.f1+dq P)) (o9 (!b.f2) P) R;rw[<-Int.add_assoc];exact this
theorem qhb{words:Int}(P R R':List S116):∀ {a:Int} {fr:Bool},f9 words a fr (P++R)->f9 words (a+dq P) (o9 fr P) R'→f9 words a fr (P++R'):=by
 induction P with
 |nil=>intro a fr _ h;have h:f9 words (a+0) fr R':=h;rw[Int.add_zero]at h;exact h
 |cons b P ih=>
  intro a fr h h';obtain⟨h0,h1,h2,h3,h4,h5⟩:=h;have h':f9 words (a+(b.f1+dq P)) (o9 (!b.f2) P) R':=h';rw[<-Int.add_assoc]at h';exact⟨h0,h1,h2,h3,h4,ih h5 h'⟩
theorem qha{words:Int}{Q:List S116}{a:Int}{fr:Bool}(fr2:Bool)(h:f9 words a fr Q)(hq:∀ q Q',Q=q::Q'→q.f2=true):f9 words a fr2 Q:=by
 cases Q with
 |nil=>exact h
 |cons q Q=>
  obtain⟨h0,h1,h2,h3,h4,h5⟩:=h;exact⟨h0,h1,h2,h3,fun _=>hq q Q rfl,h5⟩
theorem yd{words:Int}(P R:List S116){a:Int}{fr:Bool}(h:f9 words a fr (P++R)):2*(P.length:Int)<=dq P/\a+dq P+2*R.length<=words:=by
 constructor
 ·have:∀ b∈P,2<=b.f1:=fun b hb=>(i6 h b (List.mem_append_left _ hb)).2.1;clear h
  induction P with
  |nil=>show 2*((0:Nat):Int)<=0;omega
  |cons b P ih=>
   have h1:=ih (fun c hc=>this c (List.mem_cons_of_mem _ hc));have h2:=this b List.mem_cons_self;show 2*(((P.length+1:Nat)):Int)<=b.f1+dq P;omega
 ·exact qen (rk P R h)
theorem qiz{words:Int}{P M Q:List S116}{x:S116}{a:Int}{fr:Bool}(hw:words<=512)(ha:0<=a)(h:f9 words a fr (P++(x::M)++Q))(hp:o9 fr P=false)(hq:∀ q Q',Q=q::Q'→q.f2=true):x.f0=a+dq P/\f9 words a fr (P++(⟨x.f0,dq (x::M),false⟩:S116)::Q):=by
 rw[List.append_assoc]at h;have h1:=rk P _ h;rw[hp]at h1;have n1:=yd P _ h;have n2:=yd (x::M) Q h1;have e0:x.f0=a+dq P:=h1.1;refine⟨e0,qhb P _ _ h ?_⟩;rw[hp];simp only[List.length_cons]at n2;refine⟨e0,by show 2<=dq (x::M);omega,by show dq (x::M)<=512;omega,by show dq (x::M)<=words-(a+dq P);omega,(fun hf=>nomatch hf),?_⟩;exact qha true (rk (x::M) Q h1) hq
def IsB(l:List S116):Prop:=mb l (dq l)
theorem qc9{l:List S116}{w:Int}(h:mb l w):w=dq l:=by have:=qbf l h.2;omega
theorem qlp(l:List S116)(hl:l.length<=100000)(suf:List S116):∀ pre:List S116,l=pre++suf->(∀ b∈pre,2<=b.f1/\b.f1<=512)->0<=dq pre->dq pre<=1024→∃ t,Ev (fun k=>dd.l0 k (dq pre) l (l.length:Int) (pre.length:Int)) t/\((∃ w,mb l w)->t=dq l)/\(t=dq l\/t=0)/\((∀ b∈l,2<=b.f1/\b.f1<=512)->dq l<=512->t=dq l):=by
 induction suf with
 |nil=>
  intro pre e hp h0 h1;rw[List.append_nil]at e;subst e;exact⟨dq l,Ev.step (fun k=>by rw[dd.l0]) (dw (by simp) (Ev.now _)),fun _=>rfl, .inl rfl,fun _ _=>rfl⟩
 |cons x suf ih=>
  intro pre e hp h0 h1;have hlt:(pre.length:Int)<(l.length:Int):=by rw[e];simp;omega
  have ex:ab l (pre.length:Int)=x:=by rw[e];exact rj pre suf x
  by_cases c1:2<=x.f1/\x.f1<=512
  ·by_cases c2:dq pre>512
   ·have big:(∀ b∈l,2<=b.f1/\b.f1<=512)→¬ dq l<=512:=by
     intro hb hs;rw[e,uj]at hs;have:∀ m:List S116,(∀ b∈m,2<=b.f1/\b.f1<=512)->0<=dq m:=by
      intro m
      induction m with
      |nil=>intro _;exact Int.le_refl _
      |cons c m ihm=>intro hc;have q1:=hc c List.mem_cons_self;have q2:=ihm (fun d hd=>hc d (List.mem_cons_of_mem _ hd));show 0<=c.f1+dq m;omega
     have q:=this (x::suf) (fun b hb'=>hb b (by rw[e];exact List.mem_append_right _ hb'));omega
    refine⟨0,Ev.step (fun k=>by rw[dd.l0]) ?_,fun⟨w,hw⟩=>?_, .inr rfl,fun hb hs=>absurd hs (big hb)⟩
    ·rw[ex];exact ba hlt (ba (by omega) (ba hlt (ij (rg _) (ba (by simp[c1]) (ba c2 (Ev.now _))))))
    ·have ht:=qbf l hw.2;have hw1:=hw.1;unfold sx at hw1;exact absurd (by omega:dq l<=512) (big (fun b hb=>⟨(i6 hw.2 b hb).2.1,(i6 hw.2 b hb).2.2.1⟩))
   ·obtain⟨t,ht,hi⟩:=ih (pre++[x]) (by rw[e];simp) (by
     intro b hb;rcases List.mem_append.1 hb with hb|hb
     ·exact hp b hb
     ·rw[List.mem_singleton.1 hb];exact c1) (by rw[uj];show 0<=dq pre+(x.f1+0);omega) (by rw[uj];show dq pre+(x.f1+0)<=1024;omega)
    have es:dq (pre++[x])=dq pre+x.f1:=by rw[uj];show dq pre+(x.f1+0)=_;omega
    refine⟨t,Ev.step (fun k=>by rw[dd.l0]) ?_,hi⟩;rw[ex,w64 (n:=dq pre+x.f1) (by omega),w64 (n:=(pre.length:Int)+1) (by omega)];refine ba hlt (ba (by omega) (ba hlt (ij (rg _) (ba (by simp[c1]) (dw c2 ?_)))));rw[es]at ht;simpa using ht
  ·refine⟨0,Ev.step (fun k=>by rw[dd.l0]) ?_,fun⟨w,hw⟩=>?_, .inr rfl,fun hb _=>absurd (hb x (by rw[e];simp)) c1⟩
   ·rw[ex];exact ba hlt (ba (by omega) (ba hlt (ij (rg _) (dw (by simp;omega) (Ev.now _)))))
   ·have:=i6 hw.2 x (by rw[e];simp);omega
theorem qa2{l:List S116}(hl:l.length<=100000):∃ t,Ev (fun k=>dd.f k l) t/\((∃ w,mb l w)->t=dq l)/\(t=dq l\/t=0)/\((∀ b∈l,2<=b.f1/\b.f1<=512)->dq l<=512->t=dq l):=
 qlp l hl l [] rfl (fun b hb=>nomatch hb) (Int.le_refl _) (by show(0:Int)<=1024;omega)
theorem qjl{l:List S116}(hl:l.length<=100000)(h:∀ b∈l,2<=b.f1/\b.f1<=512)(hs:dq l<=512):Ev (fun k=>dd.f k l) (dq l):=by
 obtain⟨t,ht,_,_,h3⟩:=qa2 hl
 rwa[h3 h hs]at ht
def cz(l:List S116)(i:Int):Int:=if i>0/\(ab l (i-1)).f2=false then i-1 else i
def mTo(l:List S116)(i:Int):Int:=if i+1<l.length/\(ab l (i+1)).f2=false then i+2 else i+1
def Can(l:List S116)(i:Int):Prop:=IsB l/\0<=i/\i<l.length/\(ab l i).f2=true
theorem qis{l:List S116}{i:Int}(hl:l.length<=100000)(h:Can l i):Ev (fun k=>bv.f k l i) (cz l i,mTo l i,true):=by
 obtain⟨h1,h2,h3,h4⟩:=h;unfold bv.f;obtain⟨t,ht,hi,_⟩:=qa2 hl;rw[hi ⟨_,h1⟩]at ht;refine gu ht (gu (qhd hl h1) (ba rfl (dw (by omega) (dw (by omega) (ba h2 (ba h3 ?_))))));rw[h4];refine Ev.step (fun k=>by rw[bv.j0]) ?_;refine dw (by decide) ?_;rw[w64 (n:=i-1) (by omega),w64 (n:=i+1) (by omega)];have go:∀ b:Bool,(b=true<->(i>0/\(ab l (i-1)).f2=false))->Ev (fun k=>bv.j1 k l i (i+1) b) (cz l i,mTo l i,true):=by
  intro b hb;refine Ev.step (fun k=>by rw[bv.j1]) ?_;rw[w64 (n:=i-1) (by omega),w64 (n:=i+1+1) (by omega)];unfold cz mTo;refine lr (fun c=>?_) (fun c=>?_)
  ·rw[if_pos (hb.1 c)];refine lr (fun d=>ba (by omega) (lr (fun e=>?_) (fun e=>?_))) (fun d=>?_)
   ·rw[if_neg (by simp[e])];exact Ev.now _
   ·rw[if_pos ⟨d,by simpa using e⟩,show i+1+1=i+2 from by omega];exact Ev.now _
   ·rw[if_neg (fun hh=>d hh.1)];exact Ev.now _
  ·rw[if_neg (fun hh=>c (hb.2 hh))];refine lr (fun d=>ba (by omega) (lr (fun e=>?_) (fun e=>?_))) (fun d=>?_)
   ·rw[if_neg (by simp[e])];exact Ev.now _
   ·rw[if_pos ⟨d,by simpa using e⟩,show i+1+1=i+2 from by omega];exact Ev.now _
   ·rw[if_neg (fun hh=>d hh.1)];exact Ev.now _
 refine lr (fun c=>ba (by omega) (ba (by omega) (go _ ?_))) (fun c=>go _ ?_)
 ·simp[c]
 ·simp[c]
theorem qkx{l:List S116}{i:Int}(hl:l.length<=100000)(h:¬ Can l i):Ev (fun k=>bv.f k l i) (0,0,false):=by
 unfold bv.f;obtain⟨t,ht,hi,ho,_⟩:=qa2 hl;have out:Ev (fun k=>bv.j0 k l i true) (0,0,false):=by refine Ev.step (fun k=>by rw[bv.j0]) ?_;exact ba rfl (Ev.now _)
 refine gu ht ?_;by_cases hm:mb l t
 ·have e:t=dq l:=qc9 hm;refine gu (qhd hl hm) (ba rfl (lr (fun _=>out) (fun c1=>lr (fun _=>out) (fun c2=>ba (by omega) (ba (by omega) ?_)))));have:(ab l i).f2=false:=by
   cases hu:(ab l i).f2 with
   |false=>rfl
   |true=>exact absurd ⟨by unfold IsB;rw[<-e];exact hm,by omega,by omega,hu⟩ h
  rw[this];exact out
 ·exact gu (qos hl hm) (dw (by decide) out)
theorem mw{l:List S116}{i:Int}(h:0<=i/\i<l.length):0<=cz l i/\cz l i<=i/\i<mTo l i/\mTo l i<=l.length:=by
 unfold cz mTo;refine⟨?_,?_,?_,?_⟩
 ·split <;> omega
 ·split <;> omega
 ·split <;> omega
 ·split <;> omega
def mP(l:List S116)(i:Int):List S116:=l.take (cz l i).toNat
def mM(l:List S116)(i:Int):List S116:=(l.take (mTo l i).toNat).drop (cz l i).toNat
def mQ(l:List S116)(i:Int):List S116:=l.drop (mTo l i).toNat
theorem qac{l:List S116}{i:Int}(h:0<=i/\i<l.length):l=mP l i++mM l i++mQ l i:=by
 have hf:=mw h;unfold mP mM mQ;rw[show l.take (cz l i).toNat=(l.take (mTo l i).toNat).take (cz l i).toNat from by rw[List.take_take,Nat.min_eq_left (by omega)],List.take_append_drop,List.take_append_drop]
def mrg(l:List S116)(i:Int):List S116:=mP l i++[⟨(ab l (cz l i)).f0,dq (mM l i),false⟩]++mQ l i
theorem qkg{l:List S116}{i:Int}(h:IsB l)(hi:0<=i/\i<l.length):(∀ b∈mM l i,2<=b.f1/\b.f1<=512)/\dq (mM l i)<=512:=by
 have e:=qac hi;have hc:=h.2;have hw:=h.1;unfold sx at hw;constructor
 ·intro b hb;have:=i6 hc b (by rw[e];exact List.mem_append_left _ (List.mem_append_right _ hb));omega
 ·generalize hs:dq l=w at hc hw;rw[e,List.append_assoc]at hc;have n1:=yd _ _ hc;have n2:=yd _ _ (rk _ _ hc);omega
theorem qq9{l:List S116}{i:Int}(hi:0<=i/\i<l.length):(mM l i).length<=3:=by
 unfold mM;rw[List.length_drop,List.length_take];unfold cz mTo;split <;> split <;> omega
def j8(n:Int)(u:Bool):Int:=if 2<=n/\n<=512 then 2*n+(if u then 1 else 0)else 0
theorem qln{l:List S116}{i:Int}(hl:l.length<=1000)(h:Can l i):Ev (fun k=>fu.f k l i) ((ab l (cz l i)).f0,j8 (dq (mM l i)) false,true):=by
 have hi:0<=i/\i<l.length:=⟨h.2.1,h.2.2.1⟩;have ft:=mw hi;have g:=qkg h.1 hi;have n:=qq9 hi;unfold fu.f;refine gu (qis (by omega) h) (ba rfl (ba ft.1 (ba (by show cz l i<_;omega) (ba (by show cz l i<=mTo l i;omega) (ba ft.2.2.2 ?_)))));exact gu (qjl (l:=mM l i) (by omega) g.1 g.2) (ij (qch _ _) (Ev.now _))
theorem qnf{l:List S116}{i:Int}(hl:l.length<=1000)(h:¬ Can l i):Ev (fun k=>fu.f k l i) (0,0,false):=by
 unfold fu.f;exact gu (qkx (by omega) h) (dw (by decide) (Ev.now _))
theorem qag{l:List S116}{n:Int}{q:S116}{Q:List S116}(_h0:0<=n)(h:l.drop n.toNat=q::Q):ab l n=q/\n<l.length:=by
 have h1:=congrArg List.head? h;rw[List.head?_drop,List.head?_cons]at h1;have h2:n.toNat<l.length:=by
  rcases Nat.lt_or_ge n.toNat l.length with h|h
  ·exact h
  ·rw[List.getElem?_eq_none h]at h1;cases h1
 refine⟨?_,by omega⟩;unfold ab;rw[ax,h1];rfl
theorem qau{l:List S116}{words j:Int}(h:f9 words 0 false l)(h0:0<=j)(h1:j+1<l.length)(hf:(ab l j).f2=false):(ab l (j+1)).f2=true:=by
 obtain⟨pre,x,y,suf,hl,hp⟩:=qma h0 h1;rw[hl]at h;have hs:=rk pre _ h;have ex:ab l j=x:=by rw[hl,←hp];exact rj pre _ x
 have ey:ab l (j+1)=y:=by rw[hl,←hp,show pre++x::y::suf=(pre++[x])++y::suf from by simp,show(pre.length:Int)+1=((pre++[x]).length:Int)from by simp];exact rj _ suf y
 rw[ex]at hf;rw[ey];exact hs.2.2.2.2.2.2.2.2.2.1 (by rw[hf];rfl)
theorem qhp{l:List S116}{j:Int}(h0:0<=j)(h1:j<l.length)(fr:Bool):o9 fr (l.take (j+1).toNat)= !(ab l j).f2:=by
 have e:l.take (j+1).toNat=l.take j.toNat++[ab l j]:=by obtain⟨h,er⟩:=xz h0 h1;rw[er,show(j+1).toNat=j.toNat+1 from by omega,List.take_add_one,bx h];rfl
 rw[e,qje];rfl
theorem qpa{l:List S116}{i words:Int}(h:mb l words)(hi:0<=i/\i<l.length)(_hu:(ab l i).f2=true):o9 false (mP l i)=false/\(∃ M,mM l i=ab l (cz l i)::M)/\(∀ q Q',mQ l i=q::Q'→q.f2=true):=by
 have ft:=mw hi;refine⟨?_,?_,?_⟩
 ·unfold mP;by_cases hz:cz l i=0
  ·rw[hz];rfl
  ·have e:=qhp (l:=l) (j:=cz l i-1) (by omega) (by omega) false;rw[show cz l i-1+1=cz l i from by omega]at e;rw[e];have:(ab l (cz l i-1)).f2=true:=by
    by_cases c:i>0/\(ab l (i-1)).f2=false
    ·have ef:cz l i=i-1:=by unfold cz;rw[if_pos c]
     rw[ef]at hz ⊢;cases hb:(ab l (i-1-1)).f2 with
     |true=>rfl
     |false=>
      have:=qau h.2 (j:=i-1-1) (by omega) (by omega) hb;rw[show i-1-1+1=i-1 from by omega,c.2]at this;cases this
    ·have ef:cz l i=i:=by unfold cz;rw[if_neg c]
     rw[ef]at hz ⊢;cases hb:(ab l (i-1)).f2 with
     |true=>rfl
     |false=>exact absurd ⟨by omega,hb⟩ c
   rw[this];rfl
 ·unfold mM;have hlen:((l.take (mTo l i).toNat).drop (cz l i).toNat).length≠0:=by rw[List.length_drop,List.length_take];omega
  cases hM:(l.take (mTo l i).toNat).drop (cz l i).toNat with
  |nil=>rw[hM]at hlen;exact absurd rfl hlen
  |cons x M=>
   refine⟨M,?_⟩;have:=(qag ft.1 hM).1;have e2:ab (l.take (mTo l i).toNat) (cz l i)=ab l (cz l i):=by unfold ab;rw[ax,ax,List.getElem?_take_of_lt (by omega)]
   rw[<-this,e2]
 ·intro q Q' hq;unfold mQ at hq;obtain⟨e,hlt⟩:=qag (by omega) hq;rw[<-e];by_cases c:i+1<l.length/\(ab l (i+1)).f2=false
  ·have et:mTo l i=i+2:=by unfold mTo;rw[if_pos c]
   rw[et]at hlt ⊢;have:=qau h.2 (j:=i+1) (by omega) (by omega) c.2
   rwa[show i+1+1=i+2 from by omega]at this
  ·have et:mTo l i=i+1:=by unfold mTo;rw[if_neg c]
   rw[et]at hlt ⊢;cases hb:(ab l (i+1)).f2 with
   |true=>rfl
   |false=>exact absurd ⟨hlt,hb⟩ c
theorem qpk{l:List S116}{i words:Int}(h:mb l words)(hi:0<=i/\i<l.length)(hu:(ab l i).f2=true):mb (mrg l i) words:=by
 obtain⟨hp,⟨M,hM⟩,hq⟩:=qpa h hi hu;have hw:=h.1;have hc:=h.2;unfold sx at hw;rw[qac hi,hM]at hc;have:=(qiz (by omega) (Int.le_refl _) hc hp hq).2;refine⟨h.1,?_⟩;unfold mrg;rw[List.append_assoc,hM];exact this
theorem qcr{l:List S116}{i words:Int}(h:mb l words)(hi:0<=i/\i<l.length)(hu:(ab l i).f2=true):Can l i:=by
 refine⟨?_,hi.1,hi.2,hu⟩;unfold IsB;rw[<-qc9 h];exact h
def tk(s need:Int):Int:=if need<2\/need>s then 0 else if s-need<2 then s else need
theorem qod{s n:Int}(hs:2<=s/\s<=512):Ev (fun k=>ie.f k s n) (tk s n):=by
 unfold ie.f tk;by_cases c:n<2
 ·rw[if_pos (.inl c)];refine ba c (Ev.step (fun k=>by rw[ie.j0]) (ba rfl (Ev.now _)))
 ·refine dw c ?_;by_cases d:n>s
  ·rw[if_pos (.inr d),af d];exact Ev.step (fun k=>by rw[ie.j0]) (ba rfl (Ev.now _))
  ·rw[if_neg (by omega),ah d];refine Ev.step (fun k=>by rw[ie.j0]) (dw (by decide) ?_);rw[w64 (n:=s-n) (by omega)];refine lr (fun e=>?_) (fun e=>?_)
   ·rw[if_pos e];exact Ev.now _
   ·rw[if_neg e];exact Ev.now _
theorem qb1{s n:Int}(h:tk s n≠0)(hs:2<=s):2<=tk s n/\tk s n<=s/\(tk s n<s->2<=s-tk s n)/\2<=n/\n<=tk s n:=by
 unfold tk at h ⊢;split at h
 ·exact absurd rfl h
 ·rename_i c
  rw[if_neg c];split <;> omega
theorem qp4{s n:Int}(hs:2<=s):tk s n=0<->(n<2\/n>s):=by
 unfold tk;split
 ·rename_i c;exact⟨fun _=>c,fun _=>rfl⟩
 ·rename_i c
  split
  ·exact⟨fun h=>by omega,fun h=>absurd h c⟩
  ·exact⟨fun h=>by omega,fun h=>absurd h c⟩
def zp(l:List S116)(i need:Int):Prop:=IsB l/\0<=i/\i<l.length/\(ab l i).f2=false/\tk (ab l i).f1 need≠0
def tkn(b:S116)(need:Int):List S116:=⟨b.f0,tk b.f1 need,true⟩::(if tk b.f1 need<b.f1 then[⟨b.f0+tk b.f1 need,b.f1-tk b.f1 need,false⟩]else[])
def crv(l:List S116)(i need:Int):List S116:=l.take i.toNat++tkn (ab l i) need++l.drop (i.toNat+1)
theorem si{l:List S116}{i:Int}(h:IsB l)(h0:0<=i)(h1:i<l.length):0<=(ab l i).f0/\2<=(ab l i).f1/\(ab l i).f1<=512/\(ab l i).f0+(ab l i).f1<=512:=by
 have:=ni h.2 h0 h1;have hw:=h.1;unfold sx at hw;omega
theorem qp5(b:S116)(need:Int):1<=(tkn b need).length/\(tkn b need).length<=2:=by
 unfold tkn;split <;> simp
def iz(n:Int)(u:Bool):Int:=if 2<=n/\n<=512 then 2*n+(if u then 1 else 0)else 0
def fl(a k:Int):Nat->List S160
 |0=>[]
 |n+1=>⟨a+k,0⟩::fl a (k+1) n
theorem wt(a:Int)(n:Nat):∀ k,(fl a k n).length=n:=by
 induction n with
 |zero=>intro k;rfl
 |succ n ih=>intro k;show(fl a (k+1) n).length+1=n+1;rw[ih]
def eds(b:S116)(need:Int):List S160:=
 ⟨b.f0,iz (tk b.f1 need) true⟩::(fl b.f0 1 (tk b.f1 need-1).toNat++(if tk b.f1 need<b.f1 then[⟨b.f0+tk b.f1 need,iz (b.f1-tk b.f1 need) false⟩]else[]))
theorem qfx{b:S116}{need:Int}(h:2<=tk b.f1 need):((eds b need).length:Int)=tk b.f1 need+(if tk b.f1 need<b.f1 then 1 else 0):=by
 unfold eds;rw[List.length_cons,List.length_append,wt];split
 ·simp only[List.length_cons,List.length_nil];omega
 ·simp only[List.length_nil];omega
theorem zz{l:List S116}{i:Int}(h0:0<=i)(h1:i<l.length):l=l.take i.toNat++ab l i::l.drop (i.toNat+1):=by
 obtain⟨h,e⟩:=xz h0 h1;rw[e,←List.drop_eq_getElem_cons h];exact(List.take_append_drop _ _).symm
theorem qou{l:List S116}{i need words:Int}(hC:mb l words)(h:zp l i need):mb (crv l i need) words:=by
 obtain⟨h1,h2,h3,h4,h5⟩:=h;have hr:=si h1 h2 h3;have ht:=qb1 h5 hr.2.1;have hc:=hC.2;rw[zz h2 h3]at hc;have hs:=rk _ _ hc;obtain⟨k0,k1,k2,k3,k4,k5⟩:=hs;rw[h4]at k4 k5;have hfr:o9 false (l.take i.toNat)=false:=by
  cases hf:o9 false (l.take i.toNat)with
  |false=>rfl
  |true=>have:=k4 hf;cases this
 have hq:∀ q Q',l.drop (i.toNat+1)=q::Q'→q.f2=true:=by intro q Q' e;rw[e]at k5;exact k5.2.2.2.2.1 rfl
 refine⟨hC.1,?_⟩;unfold crv;rw[List.append_assoc];refine qhb _ _ _ hc ?_;rw[hfr];unfold tkn;split
 ·rename_i c
  have:=ht.2.2.1 c;refine⟨k0,by dsimp only;omega,by dsimp only;omega,by dsimp only;omega,(fun hh=>nomatch hh),?_⟩;refine⟨by dsimp only;omega,by dsimp only;omega,by dsimp only;omega,by dsimp only;omega,(fun hh=>nomatch hh),?_⟩;dsimp only;have e:0+dq (l.take i.toNat)+tk (ab l i).f1 need+((ab l i).f1-tk (ab l i).f1 need)=0+dq (l.take i.toNat)+(ab l i).f1:=by omega
  rw[e];exact k5
 ·rename_i c
  have e:tk (ab l i).f1 need=(ab l i).f1:=by omega
  refine⟨k0,by dsimp only;omega,by dsimp only;omega,by dsimp only;omega,(fun hh=>nomatch hh),?_⟩;dsimp only;rw[e];exact qha _ k5 hq
theorem qb7{l:List S116}{i need words:Int}(hC:mb l words)(h0:0<=i)(h1:i<l.length)(hn:2<=need):zp l i need<->((ab l i).f2=false/\need<=(ab l i).f1):=by
 have hB:IsB l:=by unfold IsB;rw[<-qc9 hC];exact hC
 have hr:=si hB h0 h1;have hz:=qp4 (s:=(ab l i).f1) (n:=need) hr.2.1;constructor
 ·rintro⟨_,_,_,h4,h5⟩;refine⟨h4,?_⟩;by_cases c:need<=(ab l i).f1
  ·exact c
  ·exact absurd (hz.2 (by omega)) h5
 ·rintro⟨h4,h5⟩;exact⟨hB,h0,h1,h4,fun e=>by have:=hz.1 e;omega⟩
def app:List Int->List S160->List Int
 |v,[]=>v
 |v,e::es=>app (if 0<=e.f0/\e.f0<v.length then v.set e.f0.toNat e.f1 else v) es
theorem xj(es:List S160):∀ v,(app v es).length=v.length:=by
 induction es with
 |nil=>intro v;rfl
 |cons e es ih=>
  intro v;show(app _ es).length=_;rw[ih];split
  ·rw[List.length_set]
  ·rfl
theorem qj4(es fs:List S160):∀ v,app v (es++fs)=app (app v es) fs:=by
 induction es with
 |nil=>intro v;rfl
 |cons e es ih=>intro v;exact ih _
theorem qop(es:List S160):∀ v,Wds v->(∀ e∈es,0<=e.f1/\e.f1<=18446744073709551615)->Wds (app v es):=by
 induction es with
 |nil=>intro v h _;exact h
 |cons e es ih=>
  intro v h he;refine ih _ ?_ (fun x hx=>he x (List.mem_cons_of_mem _ hx));have:=he e List.mem_cons_self;split
  ·exact qgq h this.1 this.2
  ·exact h
theorem qce(pre suf:List S160)(x:S160):bw (pre++x::suf) (pre.length:Int)=x:=by
 unfold bw;rw[ax,Int.toNat_natCast,List.getElem?_append_right (by omega)];simp
theorem qoo(a:Int)(n:Nat)(ha:0<=a):∀ (v:List Int) (k j:Int),0<=k->a+k+n<=v.length->0<=j->rd (app v (fl a k n)) j=if a+k<=j/\j<a+k+n then 0 else rd v j:=by
 induction n with
 |zero=>intro v k j h0 h1 h2;rw[if_neg (by omega)];rfl
 |succ n ih=>
  intro v k j h0 h1 h2;show rd (app (if 0<=a+k/\a+k<v.length then v.set (a+k).toNat 0 else v) (fl a (k+1) n)) j=_;rw[if_pos (by omega),ih _ (k+1) j (by omega) (by rw[List.length_set];omega) h2,mc _ _ (by omega)];by_cases c:j=a+k
  ·rw[if_neg (by omega),if_pos (by omega),if_pos (by omega)]
  ·rw[if_neg (show ¬ j.toNat=(a+k).toNat by omega)];by_cases d:a+(k+1)<=j/\j<a+(k+1)+n
   ·rw[if_pos d,if_pos (by omega)]
   ·rw[if_neg d,if_neg (by omega)]
theorem qpp{a:Int}{n:Nat}:∀ {k:Int} {e:S160},e∈fl a k n->e.f1=0:=by
 induction n with
 |zero=>intro k e h;cases h
 |succ n ih=>
  intro k e h;rcases List.mem_cons.1 h with h|h
  ·rw[h]
  ·exact ih h
theorem qqc{n:Int}{u:Bool}(h:2<=n/\n<=512):iz n u=2*n+(if u=true then 1 else 0):=by
 unfold iz;rw[if_pos h]
theorem qfy{v:List Int}{b:S116}{need:Int}(hb:0<=b.f0)(hv:b.f0+b.f1<=v.length)(h2:2<=tk b.f1 need)(ht:tk b.f1 need<=b.f1){j:Int}(h0:0<=j):rd (app v (eds b need)) j=if j=b.f0+tk b.f1 need/\tk b.f1 need<b.f1 then iz (b.f1-tk b.f1 need) false else if b.f0<j/\j<b.f0+tk b.f1 need then 0 else if j=b.f0 then iz (tk b.f1 need) true else rd v j:=by
 unfold eds;show rd (app (if 0<=b.f0/\b.f0<v.length then v.set b.f0.toNat (iz (tk b.f1 need) true)else v) _) j=_;rw[if_pos (by omega),qj4];have hn:∀ i:Int,0<=i->rd (app (v.set b.f0.toNat (iz (tk b.f1 need) true)) (fl b.f0 1 (tk b.f1 need-1).toNat)) i=if b.f0<i/\i<b.f0+tk b.f1 need then 0 else if i=b.f0 then iz (tk b.f1 need) true else rd v i:=by
  intro i hi;rw[qoo b.f0 _ hb _ 1 i (by omega) (by rw[List.length_set];omega) hi,mc _ _ (by omega)];by_cases c:b.f0<i/\i<b.f0+tk b.f1 need
  ·rw[if_pos c,if_pos (by omega)]
  ·rw[if_neg c,if_neg (by omega)];by_cases d:i=b.f0
   ·rw[if_pos d,if_pos (by omega)]
   ·rw[if_neg d,if_neg (by omega)]
 by_cases c:tk b.f1 need<b.f1
 ·rw[if_pos c];show rd (if 0<=b.f0+tk b.f1 need/\b.f0+tk b.f1 need<_ then(app (v.set b.f0.toNat (iz (tk b.f1 need) true)) (fl b.f0 1 (tk b.f1 need-1).toNat)).set (b.f0+tk b.f1 need).toNat (iz (b.f1-tk b.f1 need) false)else _) j=_;rw[if_pos (by rw[xj,List.length_set];omega),mc _ _ (by rw[xj,List.length_set];omega)];by_cases d:j=b.f0+tk b.f1 need
  ·rw[if_pos (by omega),if_pos ⟨d,c⟩]
  ·rw[if_neg (by omega),if_neg (fun h=>d h.1),hn j h0]
 ·rw[if_neg c,if_neg (fun h=>c h.2)];exact hn j h0
theorem qfz(b:S116)(need:Int):∀ e∈eds b need,0<=e.f1/\e.f1<=18446744073709551615:=by
 have hh:∀ (n:Int) (u:Bool),0<=iz n u/\iz n u<=18446744073709551615:=by
  intro n u;unfold iz;split
  ·split <;> omega
  ·omega
 intro e he;unfold eds at he;rcases List.mem_cons.1 he with he|he
 ·rw[he];exact hh _ _
 ·rcases List.mem_append.1 he with he|he
  ·rw[qpp he];omega
  ·split at he
   ·rw[List.mem_singleton.1 he];exact hh _ _
   ·cases he
theorem qk8{l:List S116}{i need words:Int}{v:List Int}(hC:mb l words)(h:zp l i need)(hv:(v.length:Int)=words)(hH:∀ b∈l,rd v b.f0=nc b):∀ b∈crv l i need,rd (app v (eds (ab l i) need)) b.f0=nc b:=by
 obtain⟨h1,h2,h3,h4,h5⟩:=h;have hr:=si h1 h2 h3;have ht:=qb1 h5 hr.2.1;have hrw:=ni hC.2 h2 h3;have hw:=hC.1;unfold sx at hw;have hup:=vv hC.2;have hl:=zz h2 h3;have hlm:∀ b∈l.take i.toNat,b∈l:=fun b hb=>List.mem_of_mem_take hb;have hdm:∀ b∈l.drop (i.toNat+1),b∈l:=fun b hb=>List.mem_of_mem_drop hb;rw[hl]at hup;rw[List.pairwise_append]at hup;intro b hb;have rdv:=fun(j:Int) (j0:0<=j)=>qfy (v:=v) (b:=ab l i) (need:=need) hr.1 (by omega) ht.1 ht.2.1 j0;unfold crv at hb;rcases List.mem_append.1 hb with hb|hb
 ·rcases List.mem_append.1 hb with hb|hb
  ·have hx:=hup.2.2 b hb _ List.mem_cons_self;have hm:=i6 hC.2 b (hlm b hb);rw[rdv b.f0 (by omega),if_neg (by omega),if_neg (by omega),if_neg (by omega)];exact hH b (hlm b hb)
  ·unfold tkn at hb;rcases List.mem_cons.1 hb with hb|hb
   ·rw[hb];dsimp only;rw[rdv _ (by omega),if_neg (by omega),if_neg (by omega),if_pos rfl,qqc (by omega)];rfl
   ·split at hb
    ·rename_i c
     have:=ht.2.2.1 c;rw[List.mem_singleton.1 hb];dsimp only;rw[rdv _ (by omega),if_pos ⟨rfl,c⟩,qqc (by omega)];rfl
    ·cases hb
 ·have hx:=(List.pairwise_cons.1 hup.2.1).1 b hb;have hm:=i6 hC.2 b (hdm b hb);rw[rdv b.f0 (by omega),if_neg (by omega),if_neg (by omega),if_neg (by omega)];exact hH b (hdm b hb)
def Wf(l:List S116):Prop:=l.length<=1000∧∀ j:Int,-9223372036854775808<=(ab l j).f0/\(ab l j).f0<=9223372036854775807/\ -9223372036854775808<=(ab l j).f1/\(ab l j).f1<=9223372036854775807
def OkB(l:List S116)(need j:Int):Prop:=(ab l j).f2=false/\need<=(ab l j).f1
structure FitsP (l:List S116) (need i:Int) (out:List Int):Prop where
 ok:∀ x∈out,0<=x/\x<i/\OkB l need x∧∀ j:Int,0<=j->j<i->OkB l need j->(ab l x).f1<=(ab l j).f1
 all:∀ x:Int,0<=x->x<i->OkB l need x->(∀ j:Int,0<=j->j<i->OkB l need j->(ab l x).f1<=(ab l j).f1)->x∈out
 none:out=[]→∀ j:Int,0<=j->j<i→¬ OkB l need j
 len:(out.length:Int)<=i
 up:out.Pairwise (·<·)
theorem FitsP.zero(l:List S116)(need:Int):FitsP l need 0 []:=
 ⟨fun x h=>absurd h (by simp),fun x h0 h1=>by omega,fun _ j h0 h1=>by omega,by simp,List.Pairwise.nil⟩
theorem FitsP.skip{l:List S116}{need i:Int}{out:List Int}(h:FitsP l need i out)(hn:¬ OkB l need i):FitsP l need (i+1) out:=by
 have hj:∀ j:Int,j<i+1->OkB l need j->j<i:=fun j h1 h2=>by
  by_cases e:j=i
  ·subst e;exact absurd h2 hn
  ·omega
 refine⟨fun x hx=>?_,fun x h0 h1 h2 h3=>?_,fun h0 j h1 h2 h3=>?_,by have:=h.len;omega,h.up⟩
 ·obtain⟨a,b,c,d⟩:=h.ok x hx;exact⟨a,by omega,c,fun j h0 h1 h2=>d j h0 (hj j h1 h2) h2⟩
 ·exact h.all x h0 (hj x h1 h2) h2 (fun j h4 h5 h6=>h3 j h4 (by omega) h6)
 ·exact h.none h0 j h1 (hj j h2 h3) h3
theorem FitsP.first{l:List S116}{need i:Int}(hi:0<=i)(h:FitsP l need i [])(ho:OkB l need i):FitsP l need (i+1) [i]:=by
 have hj:∀ j:Int,0<=j->j<i+1->OkB l need j->j=i:=fun j h0 h1 h2=>by
  by_cases e:j=i
  ·exact e
  ·exact absurd h2 (h.none rfl j h0 (by omega))
 refine⟨fun x hx=>?_,fun x h0 h1 h2 h3=>?_,fun h0=>by simp at h0,by simp;omega,by simp⟩
 ·have hx:=List.mem_singleton.1 hx;subst hx;exact⟨hi,by omega,ho,fun j h0 h1 h2=>by rw[hj j h0 h1 h2];exact Int.le_refl _⟩
 ·rw[hj x h0 h1 h2];simp
theorem FitsP.head{l:List S116}{need i:Int}{a:Int}{out:List Int}(h:FitsP l need i (a::out)):0<=a/\a<i/\OkB l need a∧∀ x∈a::out,(ab l x).f1=(ab l a).f1:=by
 obtain⟨h0,h1,h2,h3⟩:=h.ok a (by simp);refine⟨h0,h1,h2,fun x hx=>?_⟩;obtain⟨g0,g1,g2,g3⟩:=h.ok x hx;have:=h3 x g0 g1 g2;have:=g3 a h0 h1 h2;omega
theorem FitsP.less{l:List S116}{need i:Int}{a:Int}{out:List Int}(h:FitsP l need i (a::out))(ho:OkB l need i)(hs:(ab l i).f1<(ab l a).f1):FitsP l need (i+1) [i]:=by
 obtain⟨h0,h1,h2,h3⟩:=h.ok a (by simp);refine⟨fun x hx=>?_,fun x g0 g1 g2 g3=>?_,fun h0=>by simp at h0,by simp;omega,by simp⟩
 ·have hx:=List.mem_singleton.1 hx;subst hx;refine⟨by omega,by omega,ho,fun j g0 g1 g2=>?_⟩;by_cases e:j=x
  ·subst e;exact Int.le_refl _
  ·have:=h3 j g0 (by omega) g2;omega
 ·by_cases e:x=i
  ·subst e;simp
  ·exfalso;have:=h3 x g0 (by omega) g2;have:=g3 i (by omega) (by omega) ho;omega
theorem FitsP.same{l:List S116}{need i:Int}{a:Int}{out:List Int}(h:FitsP l need i (a::out))(ho:OkB l need i)(hs:(ab l i).f1=(ab l a).f1):FitsP l need (i+1) ((a::out)++[i]):=by
 obtain⟨h0,h1,h2,h3⟩:=h.ok a (by simp);have hh:=h.head.2.2.2;refine⟨fun x hx=>?_,fun x g0 g1 g2 g3=>?_,fun h0=>by simp at h0,by have:=h.len;simp at this ⊢;omega,?_⟩
 ·have key:∀ j:Int,0<=j->j<i+1->OkB l need j->(ab l a).f1<=(ab l j).f1:=fun j g0 g1 g2=>by
   by_cases e:j=i
   ·subst e;omega
   ·exact h3 j g0 (by omega) g2
  rcases List.mem_append.1 hx with hx|hx
  ·obtain⟨k0,k1,k2,_⟩:=h.ok x hx;exact⟨k0,by omega,k2,fun j g0 g1 g2=>by rw[hh x hx];exact key j g0 g1 g2⟩
  ·have hx:=List.mem_singleton.1 hx;subst hx;exact⟨by omega,by omega,ho,fun j g0 g1 g2=>by rw[hs];exact key j g0 g1 g2⟩
 ·by_cases e:x=i
  ·subst e;simp
  ·exact List.mem_append_left _ (h.all x g0 (by omega) g2 (fun j k0 k1 k2=>g3 j k0 (by omega) k2))
 ·refine List.pairwise_append.2 ⟨h.up,by simp,fun x hx y hy=>?_⟩;have hy:=List.mem_singleton.1 hy;subst hy;exact(h.ok x hx).2.1
theorem FitsP.more{l:List S116}{need i:Int}{a:Int}{out:List Int}(h:FitsP l need i (a::out))(hs:(ab l a).f1<(ab l i).f1):FitsP l need (i+1) (a::out):=by
 obtain⟨h0,h1,h2,h3⟩:=h.ok a (by simp);have hh:=h.head.2.2.2;refine⟨fun x hx=>?_,fun x g0 g1 g2 g3=>?_,fun h0=>by simp at h0,by have:=h.len;omega,h.up⟩
 ·obtain⟨k0,k1,k2,k3⟩:=h.ok x hx;refine⟨k0,by omega,k2,fun j g0 g1 g2=>?_⟩;by_cases e:j=i
  ·subst e;have:=hh x hx;omega
  ·exact k3 j g0 (by omega) g2
 ·by_cases e:x=i
  ·subst e;have:=g3 a h0 (by omega) h2;omega
  ·exact h.all x g0 (by omega) g2 (fun j k0 k1 k2=>g3 j k0 (by omega) k2)
def nw(at_:Int)(counts:List Int):Int:=if at_<0\/(counts.length:Int)<=at_ / 32 then 0 else rd counts (at_ / 32)
theorem qhe{a b:Int}{c:Bool}{counts:List Int}(h1:a<=9223372036854775807):ue.f a b c counts=some (nw a counts):=by
 unfold ue.f nw;by_cases h:a<0
 ·rw[if_pos h,if_pos (Or.inl h)]
 ·rw[if_neg h,qds (by omega),w64 (n:=a / 32) (by omega)];by_cases h2:a / 32>=(counts.length:Int)
  ·rw[if_pos h2,if_pos (Or.inr h2)]
  ·rw[if_neg h2,if_pos (by omega),if_pos (by omega),if_neg (by omega)]
def Leq(l:List S116)(counts:List Int)(x y:Int):Prop:=
 nw (ab l x).f0 counts<nw (ab l y).f0 counts\/(nw (ab l x).f0 counts=nw (ab l y).f0 counts/\(ab l x).f0<=(ab l y).f0)
def jq(l:List S116)(counts out:List Int)(c:Int):Prop:=(out=[]/\c= -1)\/(c∈out∧∀ y∈out,Leq l counts c y)
theorem qqw{l:List S116}{need:Int}{counts out:List Int}{c:Int}(hf:FitsP l need l.length out)(hc:jq l counts out c):(c= -1/\out=[]∧∀ j:Int,0<=j->j<l.length→¬ OkB l need j)\/(0<=c/\c<l.length/\OkB l need c/\c∈out/\(∀ y∈out,Leq l counts c y)∧∀ j:Int,0<=j->j<l.length->OkB l need j->(ab l c).f1<=(ab l j).f1):=by
 rcases hc with⟨h1,h2⟩|⟨h1,h2⟩
 ·exact Or.inl ⟨h2,h1,hf.none h1⟩
 ·obtain⟨a,b,c,d⟩:=hf.ok _ h1;exact Or.inr ⟨a,b,c,h1,h2,d⟩
def HV(l:List S116)(v:List Int)(words:Int):Prop:=mb l words/\Wds v/\(v.length:Int)=words∧∀ b∈l,rd v b.f0=nc b
theorem rq{l:List S116}{v:List Int}{words:Int}(h:HV l v words):Ev (fun k=>cf.f k v) (l,true):=
 qiv h.2.1 (qno (fr:=false) (by rw[h.2.2.1];exact h.1.2) h.2.2.2) (by rw[h.2.2.1];exact h.1)
theorem qjc{l:List S116}{v:List Int}{words i need:Int}(h:HV l v words)(hc:zp l i need):HV (crv l i need) (app v (eds (ab l i) need)) words:=
 ⟨qou h.1 hc,qop _ _ h.2.1 (qfz _ _),by rw[xj];exact h.2.2.1,qk8 h.1 hc h.2.2.1 h.2.2.2⟩
theorem qm6{l:List S116}{v:List Int}{words i:Int}(h:HV l v words)(hc:Can l i):HV (mrg l i) (v.set (ab l (cz l i)).f0.toNat (j8 (dq (mM l i)) false)) words:=by
 obtain⟨hC,hW,hlen,hH⟩:=h;obtain⟨hB,x0,x1,hu⟩:=hc;have hi:0<=i/\i<l.length:=⟨x0,x1⟩;have hwd:=hC.1;unfold sx at hwd;have hM:=qpk hC hi hu;have ft:=mw hi;have hrf:=si hB (i:=cz l i) ft.1 (by omega);have hrw:=ni hC.2 (j:=cz l i) ft.1 (by omega);have hcm:=hM.2;have hmid:mrg l i=mP l i++⟨(ab l (cz l i)).f0,dq (mM l i),false⟩::mQ l i:=by unfold mrg;rw[List.append_assoc];rfl
 rw[hmid]at hcm;have hs2:=(i6 hcm ⟨(ab l (cz l i)).f0,dq (mM l i),false⟩ (by simp));dsimp only at hs2;have hwd2:j8 (dq (mM l i)) false=2*dq (mM l i):=by unfold j8;rw[if_pos ⟨hs2.2.1,hs2.2.2.1⟩];simp
 rw[hwd2];have hup:=vv hcm;rw[List.pairwise_append]at hup;refine⟨hM,qgq hW (by omega) (by omega),by rw[List.length_set];exact hlen,?_⟩;intro b hb;rw[hmid]at hb;have old:b∈l->b.f0≠(ab l (cz l i)).f0->rd (v.set (ab l (cz l i)).f0.toNat (2*dq (mM l i))) b.f0=nc b:=by intro hbl hne;have hbm:=i6 hC.2 b hbl;rw[mc _ _ (by omega),if_neg (by omega)];exact hH b hbl
 rcases List.mem_append.1 hb with hb|hb
 ·have h1:=hup.2.2 b hb _ List.mem_cons_self;have h2:b∈l:=by rw[qac hi];exact List.mem_append_left _ (List.mem_append_left _ hb)
  have h3:=i6 hC.2 b h2;exact old h2 (by dsimp only at h1;omega)
 ·rcases List.mem_cons.1 hb with hb|hb
  ·rw[hb];dsimp only;rw[mc _ _ (by omega),if_pos rfl];unfold nc;simp
  ·have h1:=(List.pairwise_cons.1 hup.2.1).1 b hb;have h2:b∈l:=by rw[qac hi];exact List.mem_append_right _ hb
   exact old h2 (by dsimp only at h1;omega)
def df(n:Int):Int:=if n<1\/n>448 then 0 else(n+7) / 8+1
theorem uv(n:Int):jx.f n=some (df n):=by
 unfold jx.f df;by_cases h1:n<1
 ·rw[if_pos h1,if_pos (.inl h1)]
 ·by_cases h2:n>448
  ·rw[if_neg h1,if_pos h2,if_pos (.inr h2)]
  ·rw[if_neg h1,if_neg h2,if_neg (by omega),w64 (n:=n+7) (by omega),qds (by omega),w64 (n:=(n+7) / 8) (by omega),w64 (by omega)]
theorem qa3(n:Int):df n=0\/(2<=df n/\df n<=57):=by
 unfold df;split
 ·exact .inl rfl
 ·right;omega
theorem ux{a:Int}(h:0<=a/\a<=512):oo a=(a+1)*8:=by
 unfold oo;rw[if_neg (by omega),if_neg (by omega),w64 (n:=a+1) (by omega),w64 (by omega)]
theorem qj0{l:List S116}{words:Int}(h:mb l words)(hl:l.length<=1000):Wf l:=by
 refine⟨hl,fun j=>?_⟩;have hw:=h.1;unfold sx at hw;have e:ab l j=ab l (j.toNat:Int):=by unfold ab;rw[Int.toNat_natCast]
 rw[e];by_cases hj:j.toNat<l.length
 ·have:=ni h.2 (j:=(j.toNat:Int)) (by omega) (by omega);omega
 ·unfold ab;rw[ax,Int.toNat_natCast,List.getElem?_eq_none (by omega)];exact⟨by decide,by decide,by decide,by decide⟩
theorem qf0(off:Int)(pre suf:List S116)(x:S116)(hx:x.f2=true/\oo x.f0=off):∀ i:Nat,(∀ b∈pre,b.f2=true->oo b.f0≠off)->na off (pre++x::suf) i=((i+pre.length:Nat):Int):=by
 induction pre with
 |nil=>
  intro i _;show(if(x.f2&&decide (oo x.f0=off))=true then(i:Int)else na off suf (i+1))=_;rw[if_pos (by simp[hx.1,hx.2])];rfl
 |cons y pre ih=>
  intro i h;show(if(y.f2&&decide (oo y.f0=off))=true then(i:Int)else na off (pre++x::suf) (i+1))=_;rw[if_neg,ih (i+1) (fun b hb=>h b (List.mem_cons_of_mem _ hb)),List.length_cons]
  ·omega
  ·have:=h y List.mem_cons_self;simp only[Bool.and_eq_true,decide_eq_true_eq];exact fun hh=>this hh.1 hh.2
theorem uc(off:Int)(l:List S116):∀ i:Nat,(∀ b∈l,b.f2=true->oo b.f0≠off)->na off l i= -1:=by
 induction l with
 |nil=>intro i _;rfl
 |cons y l ih=>
  intro i h;show(if(y.f2&&decide (oo y.f0=off))=true then(i:Int)else na off l (i+1))=_;rw[if_neg,ih (i+1) (fun b hb=>h b (List.mem_cons_of_mem _ hb))];have:=h y List.mem_cons_self;simp only[Bool.and_eq_true,decide_eq_true_eq];exact fun hh=>this hh.1 hh.2
theorem ud{l:List S116}{words c off:Int}(h:mb l words)(h0:0<=c)(h1:c<l.length)(hu:(ab l c).f2=true)(ho:off=((ab l c).f0+1)*8):na off l 0=c:=by
 have hl:=zz h0 h1;have hw:=h.1;unfold sx at hw;have hr:=ni h.2 h0 h1;have hup:=vv h.2;rw[hl,List.pairwise_append]at hup;have:=qf0 off (l.take c.toNat) (l.drop (c.toNat+1)) (ab l c) ⟨hu,by rw[ux (by omega),ho]⟩ 0 (fun b hb _=>by
  have h2:=hup.2.2 b hb _ List.mem_cons_self;have h3:=i6 h.2 b (List.mem_of_mem_take hb);rw[ux (by omega),ho];omega)
 rw[<-hl]at this;rw[this,List.length_take];omega
theorem qf1{l:List S116}{v:List Int}{words:Int}(hV:HV l v words)(off:Int):Ev (fun k=>i7.f k v off) (l,na off l 0):=by
 unfold i7.f;exact gu (rq hV) (Ev.now _)
theorem qqb{l:List S116}{v:List Int}{words:Int}(hV:HV l v words):l.length≠0:=by
 intro e;have hw:=hV.1.1;unfold sx at hw;have hl:=List.eq_nil_of_length_eq_zero e;have hc:=hV.1.2;rw[hl]at hc;have hc:(0:Int)=words:=hc;omega
theorem qes{l:List S116}{v:List Int}{words c off:Int}(hV:HV l v words)(hl:l.length<=1000)(h0:0<=c)(h1:c<l.length)(hu:(ab l c).f2=true)(ho:off=((ab l c).f0+1)*8):Ev (fun k=>ic.f k v off) ([⟨(ab l (cz l c)).f0,j8 (dq (mM l c)) false⟩],0):=by
 have hne:=qqb hV;have can:=qcr hV.1 ⟨h0,h1⟩ hu;have hf:=qf1 hV off;rw[ud hV.1 h0 h1 hu ho]at hf;unfold ic.f;exact gu hf (dw (by dsimp only;omega) (gu (qln hl can) (ba rfl (Ev.now _))))
theorem qm8{l:List S116}{v:List Int}{words off:Int}(hV:HV l v words)(hl:l.length<=1000)(ho:∀ b∈l,b.f2=true->oo b.f0≠off):Ev (fun k=>ic.f k v off) ([],1):=by
 have hne:=qqb hV;have hf:=qf1 hV off;rw[uc off l 0 ho]at hf;unfold ic.f;exact gu hf (dw (by dsimp only;omega) (gu (qnf hl (fun h=>by have:=h.2.1;omega)) (dw (by decide) (Ev.now _))))
theorem qdn(n:Int):fe.f n=some (df n):=by
 unfold fe.f df;by_cases h1:n<1
 ·rw[if_pos h1,if_pos (.inl h1)]
 ·by_cases h2:n>448
  ·rw[if_neg h1,if_pos h2,if_pos (.inr h2)]
  ·rw[if_neg h1,if_neg h2,if_neg (by omega),w64 (n:=n+7) (by omega),qds (by omega),w64 (n:=(n+7) / 8) (by omega),w64 (by omega)];congr 1;omega
theorem qm5{W:Int}(hM:sx W):HV [(⟨0,W,false⟩:S116)] ((List.replicate W.toNat 0).set 0 (2*W)) W:=by
 unfold sx at hM;have hlen:(((List.replicate W.toNat (0:Int)).set 0 (2*W)).length:Int)=W:=by rw[List.length_set,List.length_replicate];omega
 refine⟨⟨hM,rfl,by dsimp only;omega,by dsimp only;omega,by dsimp only;omega,fun h=>(by cases h),?_⟩,⟨by omega,fun j=>?_⟩,hlen,fun b hb=>?_⟩
 ·show 0+W=W;omega
 ·rw[mc _ _ (by rw[List.length_replicate];omega),qrl];split <;> omega
 ·rw[List.mem_singleton.1 hb];dsimp only;rw[mc _ _ (by rw[List.length_replicate];omega),if_pos (show(0:Int).toNat=0 from rfl)];unfold nc;simp
def mf(l:List S116):List S116:=l.filter (fun b=>b.f2)
theorem qap(a b:List S116):mf (a++b)=mf a++mf b:=by unfold mf;exact List.filter_append ..
theorem qfd{A:List S116}(h:∀ b∈A,b.f2=false):mf A=[]:=by
 unfold mf;rw[List.filter_eq_nil_iff];intro b hb;rw[h b hb];decide
theorem qoh{A:List S116}(h:∀ b∈A,b.f2=true):mf A=A:=by
 unfold mf;rw[List.filter_eq_self];intro b hb;exact h b hb
theorem qo9{l:List S116}{i:Int}(hi:0<=i/\i<l.length)(hu:(ab l i).f2=true):mf (mM l i)=[ab l i]:=by
 have ft:=mw hi;have er:ab (l.take (mTo l i).toNat) i=ab l i:=by unfold ab;rw[ax,ax,List.getElem?_take_of_lt (by omega)]
 have e:=zz (l:=l.take (mTo l i).toNat) hi.1 (by rw[List.length_take];omega);rw[er,List.take_take,Nat.min_eq_left (by omega)]at e;have eM:mM l i=(l.take i.toNat).drop (cz l i).toNat++ab l i::(l.take (mTo l i).toNat).drop (i.toNat+1):=by
  unfold mM
  conv=>lhs;rw[e]
  rw[List.drop_append_of_le_length (by rw[List.length_take];omega)]
 have hA:∀ b∈(l.take i.toNat).drop (cz l i).toNat,b.f2=false:=by
  intro b hb;by_cases c:i>0/\(ab l (i-1)).f2=false
  ·have ef:cz l i=i-1:=by unfold cz;rw[if_pos c]
   rw[ef]at hb;cases hd:(l.take i.toNat).drop (i-1).toNat with
   |nil=>rw[hd]at hb;cases hb
   |cons q Q=>
    have hlen:=congrArg List.length hd;rw[List.length_drop,List.length_take,List.length_cons]at hlen;have hQ:Q=[]:=List.eq_nil_of_length_eq_zero (by omega);rw[hd,hQ]at hb;rw[List.mem_singleton.1 hb];have e1:=(qag (by omega) hd).1;have e2:ab (l.take i.toNat) (i-1)=ab l (i-1):=by unfold ab;rw[ax,ax,List.getElem?_take_of_lt (by omega)]
    rw[<-e1,e2];exact c.2
  ·have ef:cz l i=i:=by unfold cz;rw[if_neg c]
   rw[ef,List.drop_of_length_le (by rw[List.length_take];omega)]at hb;cases hb
 have hD:∀ b∈(l.take (mTo l i).toNat).drop (i.toNat+1),b.f2=false:=by
  intro b hb;by_cases c:i+1<l.length/\(ab l (i+1)).f2=false
  ·have et:mTo l i=i+2:=by unfold mTo;rw[if_pos c]
   rw[et,show i.toNat+1=(i+1).toNat from by omega]at hb;cases hd:(l.take (i+2).toNat).drop (i+1).toNat with
   |nil=>rw[hd]at hb;cases hb
   |cons q Q=>
    have hlen:=congrArg List.length hd;rw[List.length_drop,List.length_take,List.length_cons]at hlen;have hQ:Q=[]:=List.eq_nil_of_length_eq_zero (by omega);rw[hd,hQ]at hb;rw[List.mem_singleton.1 hb];have e1:=(qag (by omega) hd).1;have e2:ab (l.take (i+2).toNat) (i+1)=ab l (i+1):=by unfold ab;rw[ax,ax,List.getElem?_take_of_lt (by omega)]
    rw[<-e1,e2];exact c.2
  ·have et:mTo l i=i+1:=by unfold mTo;rw[if_neg c]
   rw[et,List.drop_of_length_le (by rw[List.length_take];omega)]at hb;cases hb
 rw[eM,qap,qfd hA,List.nil_append,show ab l i::(l.take (mTo l i).toNat).drop (i.toNat+1)=[ab l i]++(l.take (mTo l i).toNat).drop (i.toNat+1)from rfl,qap,qfd hD,List.append_nil,qoh (fun b hb=>by rw[List.mem_singleton.1 hb];exact hu)]
theorem qp8{l:List S116}{words:Int}(h:mb l words):(mf l).Pairwise (fun b c=>b.f0<c.f0):=by
 unfold mf;refine List.Pairwise.filter _ ?_;refine List.Pairwise.imp_of_mem ?_ (vv h.2);intro b c hb _ hh;have:=i6 h.2 b hb;omega
theorem j6{l:List S116}{words:Int}(h:mb l words):l.length<=256:=by
 have hw:=h.1;unfold sx at hw;have:=qen h.2;omega
theorem qa1{l:List S116}{x:S116}(h:x∈l):∃ c:Int,0<=c/\c<l.length/\ab l c=x:=by
 obtain⟨n,hn,e⟩:=List.getElem_of_mem h;refine⟨n,by omega,by omega,?_⟩;obtain⟨_,e2⟩:=xz (l:=l) (j:=(n:Int)) (by omega) (by omega);rw[e2,←e];rfl
def rdB(v:List Int)(o:Int):Nat->List Int
 |0=>[]
 |n+1=>jr v o::rdB v (o+1) n
theorem qcd(v:List Int):∀ (n:Nat) (o:Int),(rdB v o n).length=n:=by
 intro n
 induction n with
 |zero=>intro o;rfl
 |succ n ih=>intro o;show(rdB v (o+1) n).length+1=n+1;rw[ih]
theorem qe7{v u:List Int}:∀ (n:Nat) (o:Int),(∀ j:Int,o<=j->j<o+n->jr v j=jr u j)->rdB v o n=rdB u o n:=by
 intro n
 induction n with
 |zero=>intro o h;rfl
 |succ n ih=>
  intro o h;show jr v o::rdB v (o+1) n=jr u o::rdB u (o+1) n;rw[h o (by omega) (by omega),ih (o+1) (fun j h1 h2=>h j (by omega) (by omega))]
theorem qpt(v:List Int):∀ (n m:Nat) (o:Int),rdB v o (n+m)=rdB v o n++rdB v (o+n) m:=by
 intro n
 induction n with
 |zero=>intro m o;rw[Nat.zero_add,show o+((0:Nat):Int)=o by omega];rfl
 |succ n ih=>
  intro m o;rw[show n+1+m=(n+m)+1 by omega];show jr v o::rdB v (o+1) (n+m)=jr v o::(rdB v (o+1) n++_);rw[ih,show o+1+(n:Int)=o+((n+1:Nat):Int)by omega]
theorem qpv{w:List Int}{off n:Int}(hw:w.length<=2000)(hn:0<=n/\n<=448)(ho:0<=off/\off+n<=w.length*8)(d:Nat):∀ (acc:List Int) (i:Int),0<=i->i+d=off+n->acc.length+d<=1000->Ev (fun k=>fo.l0 k w off n acc i) (acc++rdB w i d,true):=by
 induction d with
 |zero=>
  intro acc i h0 h1 h2;have e:¬ i<wrap64 (off+n):=by rw[w64 (by omega)];omega
  refine Ev.step (fun k=>by rw[fo.l0]) ?_;exact dw e (qi5 (by show(acc,true)=(acc++[],true);rw[List.append_nil]))
 |succ d ih=>
  intro acc i h0 h1 h2;have e:i<wrap64 (off+n):=by rw[w64 (by omega)];omega
  have h3:=ih (acc++[jr w i]) (i+1) (by omega) (by omega) (by simp;omega);rw[List.append_assoc]at h3;refine Ev.step (fun k=>by rw[fo.l0]) ?_;rw[qds h0,qdt h0,w64 (n:=i / 8) (by omega),w64 (n:=i % 8*8) (by omega),w64 (n:=i+1) (by omega)];exact ba e (ba (by omega) (ba (by omega) (ba (by omega) (ba (by omega) h3))))
theorem qkm{w:List Int}{o n:Int}(hw:w.length<=2000)(h:0<=n/\n<=448/\0<=o/\o+n<=w.length*8):ix.f w o n=some true:=by
 unfold ix.f;rw[if_pos h.2.2.1,if_pos h.1,if_pos h.2.1,w64 (n:=(w.length:Int)*8) (by omega),w64 (by omega),af (by omega)]
theorem qc6{o n:Int}{x:S116}(hx:0<=x.f0/\0<=x.f1/\x.f0+x.f1<=512)(hn:0<=n/\n<=448):qx o n x=(x.f2&&(decide ((x.f0+1)*8<=o)&&decide (o<=(x.f0+x.f1)*8-n))):=by
 unfold qx;rw[ux (by omega),w64 (n:=x.f0+x.f1) (by omega),w64 (n:=(x.f0+x.f1)*8) (by omega),w64 (n:=(x.f0+x.f1)*8-n) (by omega)]
theorem fh{l:List S116}{v:List Int}{words:Int}(hV:HV l v words){b:S116}(hb:b∈l):0<=b.f0/\2<=b.f1/\b.f0+b.f1<=words/\words<=512:=by
 have h1:=i6 hV.1.2 b hb;have h2:=hV.1.1;unfold sx at h2;omega
theorem qc7{l:List S116}{v:List Int}{words o n:Int}(hV:HV l v words):∃ r,Ev (fun k=>jf.f k v o n) r/\(r=true<->0<=n/\n<=448∧∃ b∈l,b.f2=true/\(b.f0+1)*8<=o/\o<=(b.f0+b.f1)*8-n):=by
 unfold jf.f;by_cases h0:n<0
 ·exact⟨false,ba h0 (Ev.now _),⟨fun h=>(by cases h),fun h=>(by omega)⟩⟩
 ·by_cases h1:n>448
  ·exact⟨false,dw h0 (ba h1 (Ev.now _)),⟨fun h=>(by cases h),fun h=>(by omega)⟩⟩
  ·refine⟨l.any (qx o n),dw h0 (dw h1 (gu (rq hV) (Ev.now _))),?_⟩;rw[List.any_eq_true];constructor
   ·rintro⟨x,hx,hh⟩;have hg:=fh hV hx;rw[qc6 (by omega) (by omega)]at hh;simp only[Bool.and_eq_true,decide_eq_true_eq]at hh;exact⟨by omega,by omega,x,hx,hh.1,hh.2.1,hh.2.2⟩
   ·rintro⟨_,_,x,hx,h2,h3,h4⟩;have hg:=fh hV hx;refine⟨x,hx,?_⟩;rw[qc6 (by omega) (by omega)];simp only[Bool.and_eq_true,decide_eq_true_eq];exact⟨h2,h3,h4⟩
theorem qf3{l:List S116}{v:List Int}{words o n:Int}{r:Bool}(hV:HV l v words)(h:Ev (fun k=>jf.f k v o n) r):Ev (fun k=>iv.f k v o n) (if r=true then 0 else 1):=by
 unfold iv.f;refine gu (rq hV) (ba rfl (gu h ?_));cases r
 ·exact dw (by decide) (Ev.now _)
 ·exact ba rfl (Ev.now _)
theorem qkj{l:List S116}{v:List Int}{words o n:Int}(hV:HV l v words)(hn:0<=n/\n<=448)(hb:∃ b∈l,b.f2=true/\(b.f0+1)*8<=o/\o<=(b.f0+b.f1)*8-n):Ev (fun k=>jy.f k v o n) (rdB v o n.toNat,0):=by
 obtain⟨r,h1,h2⟩:=qc7 (o:=o) (n:=n) hV;have e:r=true:=h2.2 ⟨hn.1,hn.2,hb⟩;subst e;obtain⟨b,hbl,hbu,h3,h4⟩:=hb;have hg:=fh hV hbl;have hlen:=hV.2.2.1;have h5:0<=o/\o+n<=(v.length:Int)*8:=by omega
 have h6:=qpv (w:=v) (off:=o) (n:=n) hV.2.1.1 hn h5 n.toNat [] o h5.1 (by omega) (by simp;omega);have h7:Ev (fun k=>fo.f k v o n) (rdB v o n.toNat,true):=by unfold fo.f;exact ij (qkm hV.2.1.1 ⟨hn.1,hn.2,h5.1,h5.2⟩) (ba rfl h6)
 unfold jy.f;exact gu (qf3 hV h1) (ba rfl (gu h7 (Ev.now _)))
theorem qgp{l:List S116}{words:Int}(hC:mb l words){x y:S116}(hx:x∈l)(hy:y∈l):x=y\/x.f0+x.f1<=y.f0\/y.f0+y.f1<=x.f0:=by
 obtain⟨i,i0,i1,ei⟩:=qa1 hx;obtain⟨j,j0,j1,ej⟩:=qa1 hy;by_cases e:i=j
 ·left;rw[<-ei,←ej,e]
 ·right;by_cases h:i<j
  ·left;rw[<-ei,←ej];exact tz hC.2 i0 h j1
  ·right;rw[<-ei,←ej];exact tz hC.2 j0 (by omega) i1
def putAt(V:List Int)(j c:Int):List Int:=V.set (j / 8).toNat (qef (rd V (j / 8)) c (j % 8*8))
theorem qh1{V:List Int}{j c q:Int}(hV:Wds V)(hj:0<=j/\j<V.length*8)(hq:0<=q):rd (putAt V j c) q=if q=j / 8 then qef (rd V (j / 8)) c (j % 8*8)else rd V q:=by
 unfold putAt;rw[mc _ _ (by omega)];by_cases h:q=j / 8
 ·rw[if_pos h,if_pos (by omega)]
 ·rw[if_neg h,if_neg (by omega)]
theorem qjt{V:List Int}{j c i:Int}(hV:Wds V)(hj:0<=j/\j<V.length*8)(hc:0<=c/\c<=255)(hi:0<=i):jr (putAt V j c) i=if i=j then c else jr V i:=by
 unfold jr;rw[qh1 hV hj (by omega)];by_cases h:i / 8=j / 8
 ·rw[if_pos h,(xy (hV.2 _) hc (i:=j % 8) (j:=i % 8) (by omega) (by omega)).2];by_cases e:i=j
  ·rw[if_pos e,if_pos (by omega)]
  ·rw[if_neg e,if_neg (by omega),h]
 ·rw[if_neg h,if_neg (by omega)]
theorem ql1{V:List Int}{j c:Int}(hV:Wds V)(hc:0<=c/\c<=255):Wds (putAt V j c):=by
 have h:=(xy (hV.2 (j / 8)) hc (i:=j % 8) (j:=0) (by omega) (by omega)).1;exact qgq hV h.1 h.2
def j9(V B:List Int)(o:Int):Nat->List Int
 |0=>V
 |n+1=>putAt (j9 V B o n) (o+n) (rd B n)
theorem uz(V B:List Int)(o:Int):∀ n,(j9 V B o n).length=V.length:=by
 intro n
 induction n with
 |zero=>rfl
 |succ n ih=>show(List.set _ _ _).length=_;rw[List.length_set,ih]
def Bys(B:List Int):Prop:=∀ j:Int,0<=rd B j/\rd B j<=255
theorem zj{V B:List Int}{o:Int}(hV:Wds V)(hB:Bys B):∀ n,Wds (j9 V B o n):=by
 intro n
 induction n with
 |zero=>exact hV
 |succ n ih=>exact ql1 ih (hB n)
theorem qbn{V B:List Int}{o:Int}(hV:Wds V)(hB:Bys B)(ho:0<=o):∀ n:Nat,o+n<=V.length*8→∀ i:Int,0<=i->jr (j9 V B o n) i=if o<=i/\i<o+n then rd B (i-o)else jr V i:=by
 intro n
 induction n with
 |zero=>intro h i hi;rw[if_neg (by omega)];rfl
 |succ n ih=>
  intro h i hi;show jr (putAt (j9 V B o n) (o+n) (rd B n)) i=_;rw[qjt (zj hV hB n) (by rw[uz];omega) (hB n) hi,ih (by omega) i hi];by_cases e:i=o+n
  ·rw[if_pos e,if_pos (by omega),show i-o=n by omega]
  ·rw[if_neg e];by_cases e2:o<=i/\i<o+n
   ·rw[if_pos e2,if_pos (by omega)]
   ·rw[if_neg e2,if_neg (by omega)]
theorem qe5{V B:List Int}{o:Int}(hV:Wds V)(hB:Bys B)(ho:0<=o):∀ n:Nat,o+n<=V.length*8→∀ q:Int,0<=q->(q<o / 8\/(o+n+7) / 8<=q)->rd (j9 V B o n) q=rd V q:=by
 intro n
 induction n with
 |zero=>intro h q hq hh;rfl
 |succ n ih=>
  intro h q hq hh;show rd (putAt (j9 V B o n) (o+n) (rd B n)) q=_;rw[qh1 (zj hV hB n) (by rw[uz];omega) hq,if_neg (by omega),ih (by omega) q hq (by omega)]
def qeb(y:List S160)(c s:Int):List S160:=
 y.set (((y.length:Int)-1):Int).toNat (⟨(bw y ((y.length:Int)-1)).f0,Go.bits .or .u64 (Go.bits .andNot .u64 ((bw y ((y.length:Int)-1)).f1) (shl .u64 255 s)) (shl .u64 (IntKind.u64.wrap c) s)⟩:S160)
theorem qb6(pre:List S160)(x:S160)(c s:Int):qeb (pre++[x]) c s=pre++[(⟨x.f0,qef x.f1 c s⟩:S160)]:=by
 have e:(((pre++[x]).length:Int)-1)=(pre.length:Int):=by simp
 have e2:bw (pre++[x]) (pre.length:Int)=x:=qce pre [] x;unfold qeb;rw[e,e2,Int.toNat_natCast,List.set_append_right _ _ (an _),Nat.sub_self];rfl
theorem qb5(v:List Int)(pre:List S160)(q x:Int)(hq:0<=q/\q<v.length):app v (pre++[(⟨q,x⟩:S160)])=(app v pre).set q.toNat x:=by
 rw[qj4];show(if 0<=q/\q<((app v pre).length:Int)then(app v pre).set q.toNat x else app v pre)=_;rw[if_pos (by rw[xj];omega)]
def Eds(v B:List Int)(o:Int)(acc:List S160)(i:Nat):Prop:=
 app v acc=j9 v B o i/\acc.length<=i/\((i=0/\acc=[])\/(0<i∧∃ pre x,acc=pre++[(⟨(o+i-1) / 8,x⟩:S160)]))
theorem qmv{v B:List Int}{o:Int}{acc:List S160}{i:Nat}(hV:Wds v)(hB:Bys B)(ho:0<=o)(hl:o+i<v.length*8)(h:Eds v B o acc i):((acc=[]∨∃ pre x,acc=pre++[(⟨(o+i-1) / 8,x⟩:S160)]/\(o+i-1) / 8≠(o+i) / 8)->Eds v B o (qeb (acc++[(⟨(o+i) / 8,rd v ((o+i) / 8)⟩:S160)]) (rd B i) ((o+i) % 8*8)) (i+1))/\((∃ pre x,acc=pre++[(⟨(o+i-1) / 8,x⟩:S160)]/\(o+i-1) / 8=(o+i) / 8)->Eds v B o (qeb acc (rd B i) ((o+i) % 8*8)) (i+1)):=by
 obtain⟨h1,h2,h3⟩:=h;have e1:o+((i+1:Nat):Int)-1=o+i:=by omega
 have hput:j9 v B o (i+1)=(j9 v B o i).set ((o+i) / 8).toNat (qef (rd (j9 v B o i) ((o+i) / 8)) (rd B i) ((o+i) % 8*8)):=rfl;constructor
 ·intro hc;have hr:rd (j9 v B o i) ((o+i) / 8)=rd v ((o+i) / 8):=by
   rcases hc with hc|⟨pre,x,_,hc⟩
   ·rcases h3 with⟨h3,_⟩|⟨_,pre,x,h3⟩
    ·subst h3;rfl
    ·rw[hc]at h3;simp at h3
   ·exact qe5 hV hB ho i (by omega) _ (by omega) (.inr (by omega))
  rw[qb6];refine⟨(qb5 v acc ((o+i) / 8) _ ⟨by omega,by omega⟩).trans ?_,by simp;omega, .inr ⟨by omega,acc,_,by rw[e1]⟩⟩;rw[h1,hput,hr]
 ·rintro⟨pre,x,hc,hd⟩;have hl2:(app v pre).length=v.length:=xj pre v;have hx:rd (j9 v B o i) ((o+i) / 8)=x:=by rw[<-h1,hc,qb5 _ _ _ _ (by omega),mc _ _ (by rw[hl2];omega),if_pos (by omega)]
  rw[hc,qb6];refine⟨?_,by rw[hc]at h2;simp at h2 ⊢;omega, .inr ⟨by omega,pre,qef x (rd B i) ((o+i) % 8*8),by rw[e1,hd]⟩⟩;dsimp only;rw[hd,qb5 _ _ _ _ (by omega),hput,hx,←h1,hc,hd,qb5 _ _ _ _ (by omega),List.set_set]
theorem qi1{l:List S116}{c need:Int}(h0:0<=c)(h1:c<l.length){x:S116}:x∈crv l c need<->x∈l.take c.toNat\/x∈tkn (ab l c) need\/x∈l.drop (c.toNat+1):=by
 unfold crv;rw[List.mem_append,List.mem_append,or_assoc]
theorem qrq{b x:S116}{need:Int}(h:x∈tkn b need)(hu:x.f2=true):x=⟨b.f0,tk b.f1 need,true⟩:=by
 unfold tkn at h;rcases List.mem_cons.1 h with h|h
 ·exact h
 ·split at h
  ·rw[List.mem_singleton.1 h]at hu;cases hu
  ·cases h
theorem qsu{l:List S116}{c:Int}(h0:0<=c)(h1:c<l.length){x:S116}:x∈l<->x∈l.take c.toNat\/x=ab l c\/x∈l.drop (c.toNat+1):=by
 conv=>lhs;rw[zz h0 h1]
 rw[List.mem_append,List.mem_cons]
theorem qhw{l:List S116}{c words:Int}(hC:mb l words)(h0:0<=c)(h1:c<l.length)(hu:(ab l c).f2=true){x:S116}(hxu:x.f2=true):x∈mrg l c<->x∈l/\x≠ab l c:=by
 have hs:=qac (l:=l) (i:=c) ⟨h0,h1⟩;have hU2:mf l=mf (mP l c)++ab l c::mf (mQ l c):=by
  conv=>lhs;rw[hs]
  rw[qap,qap,qo9 ⟨h0,h1⟩ hu,List.append_assoc];rfl
 have hup:=qp8 hC;rw[hU2,List.pairwise_append]at hup;have mU:∀ L:List S116,x∈L<->x∈mf L:=fun L=>by unfold mf;rw[List.mem_filter];exact⟨fun h=>⟨h,hxu⟩,fun h=>h.1⟩
 have hm:x∈mrg l c<->x∈mf (mP l c)\/x∈mf (mQ l c):=by
  unfold mrg;rw[List.mem_append,List.mem_append,List.mem_singleton,←mU,←mU];constructor
  ·rintro ((h|h)|h)
   ·exact .inl h
   ·rw[h]at hxu;cases hxu
   ·exact .inr h
  ·rintro (h|h)
   ·exact .inl (.inl h)
   ·exact .inr h
 rw[hm,mU l,hU2,List.mem_append,List.mem_cons];constructor
 ·rintro (h|h)
  ·refine⟨.inl h,fun e=>?_⟩;have:=hup.2.2 x h _ List.mem_cons_self;rw[e]at this;omega
  ·refine⟨.inr (.inr h),fun e=>?_⟩;have:=(List.pairwise_cons.1 hup.2.1).1 x h;rw[e]at this;omega
 ·rintro⟨h|h|h,hne⟩
  ·exact .inl h
  ·exact absurd h hne
  ·exact .inr h
theorem qjm(a:Int)(n:Nat):∀ k,∀ e∈fl a k n,a+k<=e.f0/\e.f0<a+k+n:=by
 induction n with
 |zero=>intro k e he;cases he
 |succ n ih=>
  intro k e he;rcases List.mem_cons.1 he with h|h
  ·rw[h];dsimp only;omega
  ·have:=ih (k+1) e h;omega
theorem qmu{b:S116}{need:Int}(h0:tk b.f1 need≠0)(h2:2<=b.f1)(h3:need<=57):∀ e∈eds b need,b.f0<=e.f0/\e.f0<b.f0+64/\e.f0<b.f0+b.f1:=by
 have ht:=qb1 h0 h2;have hk:tk b.f1 need<=58:=by unfold tk;split <;> (try split) <;> omega
 intro e he;unfold eds at he;rcases List.mem_cons.1 he with h|h
 ·rw[h];dsimp only;omega
 ·rcases List.mem_append.1 h with h|h
  ·have:=qjm b.f0 _ _ e h;omega
  ·split at h
   ·rw[List.mem_singleton.1 h];dsimp only;omega
   ·cases h
def yf(v B:List Int)(o:Int)(acc:List S160)(i:Nat):Prop:=
 Eds v B o acc i∧∀ e∈acc,o / 8<=e.f0/\e.f0<=(o+i-1) / 8/\0<=e.f1/\e.f1<=18446744073709551615
theorem qep{v B:List Int}{o:Int}{acc:List S160}{i:Nat}(hV:Wds v)(hB:Bys B)(ho:0<=o)(hl:o+i<v.length*8)(h:yf v B o acc i):((acc=[]∨∃ pre x,acc=pre++[(⟨(o+i-1) / 8,x⟩:S160)]/\(o+i-1) / 8≠(o+i) / 8)->yf v B o (qeb (acc++[(⟨(o+i) / 8,rd v ((o+i) / 8)⟩:S160)]) (rd B i) ((o+i) % 8*8)) (i+1))/\((∃ pre x,acc=pre++[(⟨(o+i-1) / 8,x⟩:S160)]/\(o+i-1) / 8=(o+i) / 8)->yf v B o (qeb acc (rd B i) ((o+i) % 8*8)) (i+1)):=by
 obtain⟨s1,s2⟩:=qmv hV hB ho hl h.1;have hn:=h.2;constructor
 ·intro hc;refine⟨s1 hc,?_⟩;rw[qb6];intro e he;rcases List.mem_append.1 he with h|h
  ·have:=hn e h;omega
  ·rw[List.mem_singleton.1 h];have:=(xy (hV.2 ((o+i) / 8)) (hB i) (i:=(o+i) % 8) (j:=0) (by omega) (by omega)).1;exact⟨by dsimp only;omega,by dsimp only;omega,this⟩
 ·rintro⟨pre,x,hc,hq⟩;refine⟨s2 ⟨pre,x,hc,hq⟩,?_⟩;rw[hc]at hn;rw[hc,qb6];intro e he;rcases List.mem_append.1 he with h|h
  ·have:=hn e (List.mem_append_left _ h);omega
  ·rw[List.mem_singleton.1 h];have h1:=hn ⟨(o+i-1) / 8,x⟩ (List.mem_append_right _ List.mem_cons_self);dsimp only at h1;have:=(xy (x:=x) ⟨h1.2.2.1,h1.2.2.2⟩ (hB i) (i:=(o+i) % 8) (j:=0) (by omega) (by omega)).1;exact⟨h1.1,by dsimp only;omega,this⟩
theorem qrv{w B:List Int}{off:Int}(hw:Wds w)(hB:Bys B)(hn:B.length<=448)(ho:0<=off/\off+B.length<=w.length*8)(d:Nat):∀ (acc:List S160) (i:Nat),i+d=B.length->yf w B off acc i→∃ r,Ev (fun k=>bh.l0 k w off acc B (B.length:Int) (i:Int)) (r,true)/\yf w B off r B.length:=by
 have hwl:=hw.1
 induction d with
 |zero=>
  intro acc i h1 h2;have e:i=B.length:=by omega
  subst e;refine⟨acc,Ev.step (fun k=>by rw[bh.l0]) ?_,h2⟩;exact dw (by omega) (Ev.now _)
 |succ d ih=>
  intro acc i h1 h2;have ei:wrap64 (off+(i:Int))=off+i:=w64 (by omega);have ed:wrap64 (Int.tdiv (off+(i:Int)) 8)=(off+i) / 8:=by rw[qds (by omega),w64 (by omega)]
  have es:wrap64 (Int.tmod (off+(i:Int)) 8*8)=(off+i) % 8*8:=by rw[qdt (by omega),w64 (by omega)]
  obtain⟨s1,s2⟩:=qep hw hB ho.1 (by omega) h2;have hal:=h2.1.2.1;have next:∀ acc2:List S160,yf w B off acc2 (i+1)→∃ r,Ev (fun k=>bh.j2 k w off acc2 B (B.length:Int) (i:Int)) (r,true)/\yf w B off r B.length:=by intro acc2 h3;obtain⟨r,h4,h5⟩:=ih acc2 (i+1) (by omega) h3;refine⟨r,Ev.step (fun k=>by rw[bh.j2]) ?_,h5⟩;rw[w64 (n:=(i:Int)+1) (by omega)];exact h4
  have Jt:yf w B off (qeb (acc++[(⟨(off+i) / 8,rd w ((off+i) / 8)⟩:S160)]) (rd B i) ((off+i) % 8*8)) (i+1)→∃ r,Ev (fun k=>bh.j1 k w off acc (rd B i) (off+i) B (B.length:Int) (i:Int) true) (r,true)/\yf w B off r B.length:=by
   intro h3;obtain⟨r,h4,h5⟩:=next _ h3;have hy:(acc++[(⟨(off+i) / 8,rd w ((off+i) / 8)⟩:S160)]).length=acc.length+1:=by simp
   refine⟨r,Ev.step (fun k=>by rw[bh.j1]) ?_,h5⟩;rw[ed,es];refine ba rfl (ba (by omega) (ba (by omega) (ba (by omega) (ij rfl ?_))));rw[w64 (n:=((acc++[(⟨(off+i) / 8,rd w ((off+i) / 8)⟩:S160)]).length:Int)-1) (by omega)];exact ba (by omega) (ba (by omega) (ba (by omega) h4))
  have Jf:acc.length≠0->yf w B off (qeb acc (rd B i) ((off+i) % 8*8)) (i+1)→∃ r,Ev (fun k=>bh.j1 k w off acc (rd B i) (off+i) B (B.length:Int) (i:Int) false) (r,true)/\yf w B off r B.length:=by intro hz h3;obtain⟨r,h4,h5⟩:=next _ h3;refine⟨r,Ev.step (fun k=>by rw[bh.j1]) ?_,h5⟩;rw[es,w64 (n:=(acc.length:Int)-1) (by omega)];exact dw (by decide) (ba (by omega) (ba (by omega) (ba (by omega) h4)))
  rcases h2.1.2.2 with⟨h3,h4⟩|⟨h3,pre,x,h4⟩
  ·obtain⟨r,h5,h6⟩:=Jt (s1 (.inl h4));refine⟨r,Ev.step (fun k=>by rw[bh.l0]) ?_,h6⟩;rw[ei];exact ba (by omega) (ba (by omega) (ba (by omega) (ba (by rw[h4];rfl) h5)))
  ·have hz:acc.length≠0:=by rw[h4];simp
   have hlast:(bw acc ((acc.length:Int)-1)).f0=(off+i-1) / 8:=by rw[h4,show(((pre++[(⟨(off+i-1) / 8,x⟩:S160)]).length:Int)-1)=(pre.length:Int)by simp,qce pre [] _]
   by_cases hq:(off+i-1) / 8=(off+i) / 8
   ·obtain⟨r,h5,h6⟩:=Jf hz (s2 ⟨pre,x,h4,hq⟩);refine⟨r,Ev.step (fun k=>by rw[bh.l0]) ?_,h6⟩;rw[ei,ed,w64 (n:=(acc.length:Int)-1) (by omega),hlast,bne_eq_false_iff_eq.mpr hq];exact ba (by omega) (ba (by omega) (ba (by omega) (dw (by omega) (ba (by omega) (ba (by omega) h5)))))
   ·obtain⟨r,h5,h6⟩:=Jt (s1 (.inr ⟨pre,x,h4,hq⟩));refine⟨r,Ev.step (fun k=>by rw[bh.l0]) ?_,h6⟩;rw[ei,ed,w64 (n:=(acc.length:Int)-1) (by omega),hlast,bne_iff_ne.mpr hq];exact ba (by omega) (ba (by omega) (ba (by omega) (dw (by omega) (ba (by omega) (ba (by omega) h5)))))
def ma(l:List S116)(o n:Int):Prop:=0<=n/\n<=448∧∃ b∈l,b.f2=true/\(b.f0+1)*8<=o/\o<=(b.f0+b.f1)*8-n
theorem qmf{l:List S116}{v B:List Int}{words o:Int}(hV:HV l v words)(hB:Bys B):(¬ ma l o B.length/\Ev (fun k=>gv.f k v o B) ([],1))\/(ma l o B.length∧∃ es,Ev (fun k=>gv.f k v o B) (es,0)/\app v es=j9 v B o B.length/\es.length<=448/\(es=[]<->B=[])∧∀ e∈es,0<=o / 8/\o / 8<=e.f0/\e.f0<o / 8+64/\e.f0<words/\0<=e.f1/\e.f1<=18446744073709551615):=by
 obtain⟨r,h1,h2⟩:=qc7 (o:=o) (n:=(B.length:Int)) hV;have h4:=qf3 hV h1;unfold gv.f;cases r with
 |false=>exact .inl ⟨fun h=>(by cases h2.2 h),gu h4 (dw (by decide) (Ev.now _))⟩
 |true=>
  right;obtain⟨_,h5,b,hb,hu,h6,h7⟩:=h2.1 rfl;have hg:=fh hV hb;have hlen:=hV.2.2.1;obtain⟨es,e1,e2,e3⟩:=qrv hV.2.1 hB (by omega) (off:=o) (by omega) B.length [] 0 (by omega) ⟨⟨rfl,by simp, .inl ⟨rfl,rfl⟩⟩,fun e he=>by cases he⟩;have h8:Ev (fun k=>bh.f k v o B) (es,true):=by unfold bh.f;exact ij (qkm hV.2.1.1 ⟨by omega,h5,by omega,by omega⟩) (ba rfl e1)
  refine⟨h2.1 rfl,es,gu h4 (ba rfl (gu h8 (Ev.now _))),e2.1,by have:=e2.2.1;omega,?_,fun e he=>by have:=e3 e he;omega⟩;rcases e2.2.2 with⟨z,e⟩|⟨z,pre,x,e⟩
  ·exact⟨fun _=>List.eq_nil_of_length_eq_zero z,fun _=>e⟩
  ·exact⟨fun h=>by rw[e]at h;simp at h,fun h=>by rw[h]at z;simp at z⟩
theorem qh5{l:List S116}{v:List Int}{words o n:Int}(hV:HV l v words):(ma l o n/\Ev (fun k=>jy.f k v o n) (rdB v o n.toNat,0))\/(¬ ma l o n/\Ev (fun k=>jy.f k v o n) ([],1)):=by
 obtain⟨r,h1,h2⟩:=qc7 (o:=o) (n:=n) hV;cases r with
 |true=>have h:=h2.1 rfl;exact .inl ⟨h,qkj hV ⟨h.1,h.2.1⟩ h.2.2⟩
 |false=>
  refine .inr ⟨fun h=>(by cases h2.2 h),?_⟩;unfold jy.f;exact gu (qf3 hV h1) (dw (by decide) (Ev.now _))
def qgy(l:List S116)(off:Int):Prop:=∃ b∈l,b.f2=true/\off=(b.f0+1)*8
theorem qjn{l:List S116}{v:List Int}{words off:Int}(hV:HV l v words):(∃ c:Int,0<=c/\c<l.length/\(ab l c).f2=true/\off=((ab l c).f0+1)*8)\/(¬ qgy l off∧∀ b∈l,b.f2=true->oo b.f0≠off):=by
 by_cases h:qgy l off
 ·obtain⟨b,hb,hu,ho⟩:=h;obtain⟨c,c0,c1,rfl⟩:=qa1 hb;exact .inl ⟨c,c0,c1,hu,ho⟩
 ·refine .inr ⟨h,fun b hb hu e=>h ⟨b,hb,hu,?_⟩⟩;have hg:=fh hV hb;rw[<-e,ux (by omega)]
theorem qqd{l:List S116}{v:List Int}{words off:Int}(hV:HV l v words):(qgy l off/\Ev (fun k=>jn.f k v off) true)\/(¬ qgy l off/\Ev (fun k=>jn.f k v off) false):=by
 have hf:=qf1 hV off;unfold jn.f;rcases qjn (off:=off) hV with⟨c,c0,c1,hu,ho⟩|⟨h,hno⟩
 ·rw[ud hV.1 c0 c1 hu ho]at hf;refine .inl ⟨⟨_,jl c0 c1,hu,ho⟩,gu hf ?_⟩;dsimp only;rw[af c0];exact Ev.now _
 ·rw[uc off l 0 hno]at hf;exact .inr ⟨h,gu hf (Ev.now _)⟩
end Go.Proofs.YtmfhaliclnnbaaaGreat.Pl
