import Derived.Test.YtmfhaliclnnbaaaGreatZTopWholeM7
import Derived.Maps.OwnOps
import Derived.Maps.OwnSet
import Derived.Great.BuildSlice
namespace Go.Proofs.YtmfhaliclnnbaaaGreat.Sys
open Go.RowKit Go.Proofs.YtmfhaliclnnbaaaGreatW.PrintWords Go.Proofs.YtmfhaliclnnbaaaGreatW.PrintLast Go.Proofs.YtmfhaliclnnbaaaGreatW.PrintMore
open Go.Proofs.YtmfhaliclnnbaaaGreat.XTopWhole Go.Proofs.YtmfhaliclnnbaaaGreat.Pl
set_option linter.unusedVariables false
set_option linter.unusedSimpArgs false
set_option maxRecDepth 100000
set_option maxHeartbeats 8000000
structure Shape where
 n:Int
 spares:Nat
 period:Int
structure Shape.Ok (s:Shape):Prop where
 n1:1<=s.n
 n2:s.n<=1000
 sp:s.spares<=16
 p1:1<=s.period
 p2:s.period<=1000
namespace Trn
def moves(m:Mem):Int:=m.regs.getD 0 0
def get(s:Shape)(m:Mem)(line:Int):List Int×Int:=if m.down then(zL,2)else Lns.get m (s.n+1) s.spares (jb s.n (moves m) line)
def moveS(n m:Int):Int×Int:=if ku n m=0 then(n,0)else(ku n m-1,ku n m)
def move(s:Shape)(m:Mem):Int×Mem:=
 if(Lns.get m (s.n+1) s.spares (moveS s.n (moves m)).1).2=0 then
  if(Lns.put m (s.n+1) s.spares (moveS s.n (moves m)).2 (Lns.get m (s.n+1) s.spares (moveS s.n (moves m)).1).1).1=0 then
   Nvm.set (Lns.put m (s.n+1) s.spares (moveS s.n (moves m)).2 (Lns.get m (s.n+1) s.spares (moveS s.n (moves m)).1).1).2 0 (moves m+1)
  else Lns.put m (s.n+1) s.spares (moveS s.n (moves m)).2 (Lns.get m (s.n+1) s.spares (moveS s.n (moves m)).1).1
 else((Lns.get m (s.n+1) s.spares (moveS s.n (moves m)).1).2,m)
end Trn
structure TurnAt (w:World) (M C L T:Nat) (s:Shape) (m:Mem) (puts:Int):Prop where
 mem:MemAt w M C m
 lin:ib w L M (s.n+1) (s.spares:Int)
 tur:w.heap[T]? =some (.cells #[.pointer (some ⟨M,0,none⟩), .pointer (some ⟨L,0,none⟩), .int .i64 s.n, .int .i64 s.period, .int .i64 puts] 126 (0,0))
 lm:¬ MC M C L
 tm:¬ MC M C T
 tl:T≠L
 regs:gf m
 mv:m.regs.getD 0 0<=4611686018427387904
 ok:s.Ok
section
variable{w:World}{M C L T:Nat}{s:Shape}{m:Mem}{puts:Int}
theorem TurnAt.step(h:TurnAt w M C L T s m puts){w':World}{m':Mem}(hm:MemAt w' M C m')(k:aq (MC M C) w w')(hr:gf m')(hv:m'.regs.getD 0 0<=4611686018427387904):TurnAt w' M C L T s m' puts:=
 ⟨hm,h.lin.kept k h.lm,k.of h.tur h.tm,h.lm,h.tm,h.tl,hr,hv,h.ok⟩
theorem TurnAt.kept(h:TurnAt w M C L T s m puts){w':World}{S:Nat->Prop}(k:aq S w w')(hS:∀ j,j=M\/j=C\/j=L\/j=T→¬ S j):TurnAt w' M C L T s m puts:=
 ⟨h.mem.kept k (hS _ (.inl rfl)) (hS _ (.inr (.inl rfl))),h.lin.kept k (hS _ (.inr (.inr (.inl rfl)))),k.of h.tur (hS _ (.inr (.inr (.inr rfl)))),h.lm,h.tm,h.tl,h.regs,h.mv,h.ok⟩
theorem TurnAt.below(h:TurnAt w M C L T s m puts){w':World}(hb:Below w.heap.size w w'):TurnAt w' M C L T s m puts:=h.kept (S:=fun _=>False) (aq.of_below hb) (fun _ _=>id)
theorem TurnAt.alloc(h:TurnAt w M C L T s m puts)(o:Obj):TurnAt (w.alloc o) M C L T s m puts:=h.below ((ai _ _).alloc (an _) o)
theorem TurnAt.drewN(h:TurnAt w M C L T s m puts)(n:Nat):TurnAt (w.drewN n) M C L T s m puts:=h.below (bq (ai _ _) n)
theorem TurnAt.drew(h:TurnAt w M C L T s m puts):TurnAt w.drew M C L T s m puts:=h.below (us (ai _ _))
theorem TurnAt.mayG(h:TurnAt w M C L T s m puts):pq s.n (Trn.moves m):=by
 have:=h.ok.n1;have:=h.ok.n2;have:=(h.regs.get 0).1;have:=h.mv;unfold pq Trn.moves;omega
theorem qcg{n m l:Int}(h:pq n m)(h0:0<=l)(h1:l<n):0<=jb n m l/\jb n m l<n+1:=by
 have:=qed (m:=l+kg n m) (n:=n) h.1;unfold jb;split <;> omega
theorem qf8{n m:Int}(h:pq n m):(0<=(Trn.moveS n m).1/\(Trn.moveS n m).1<n+1)/\0<=(Trn.moveS n m).2/\(Trn.moveS n m).2<n+1:=by
 have:=vz h;have:=h.1;unfold Trn.moveS;split <;> (simp only[];omega)
theorem TurnAt.t0(h:TurnAt w M C L T s m puts):w.cell? ⟨T,0,none⟩=some (.pointer (some ⟨M,0,none⟩)):=(aj h.tur 0).trans rfl
theorem TurnAt.t1(h:TurnAt w M C L T s m puts):w.cell? ⟨T,1,none⟩=some (.pointer (some ⟨L,0,none⟩)):=(aj h.tur 1).trans rfl
theorem TurnAt.t2(h:TurnAt w M C L T s m puts):w.cell? ⟨T,2,none⟩=some (.int .i64 s.n):=(aj h.tur 2).trans rfl
theorem TurnAt.t3(h:TurnAt w M C L T s m puts):w.cell? ⟨T,3,none⟩=some (.int .i64 s.period):=(aj h.tur 3).trans rfl
theorem TurnAt.t4(h:TurnAt w M C L T s m puts):w.cell? ⟨T,4,none⟩=some (.int .i64 puts):=(aj h.tur 4).trans rfl
theorem gn(h:TurnAt w M C L T s m puts):Calls Tryz.prog 90 #[.pointer (some ⟨T,0,none⟩)] w fun e w'=>e=.returned (.int .i64 s.n)/\w=w':=by
 have h2:=h.t2;clear h;go_enter Tryz.func90,Tryz.ntmps90;go_wp2;go_ret;exact⟨rfl,rfl⟩
theorem pv(h:TurnAt w M C L T s m puts)(hd:m.down=false):Calls Tryz.prog 58 #[.pointer (some ⟨T,0,none⟩)] w fun e w'=>e=.returned (.int .i64 (Trn.moves m))/\w=w':=by
 have h0:=h.t0;have H:=am h.mem;have hr0:=(h.regs.get 0).1;have hr1:=h.mv;have E:=am (show Nvm.reg m 0=(Trn.moves m,0)by unfold Nvm.reg Trn.moves;rw[hd];rfl);have hm0:0<=Trn.moves m/\Trn.moves m<=4611686018427387904:=⟨hr0,hr1⟩;clear h hd hr0 hr1;generalize Trn.moves m=mv at E hm0 ⊢;have W:=am (show IntKind.i64.wrap mv=mv by rw[IntKind.wrap_i64];omega);have W2:=am (show wrap64 mv=mv by unfold wrap64;omega);go_enter Tryz.func58,Tryz.ntmps58;go_wp2_with (first|(go_at_call 35;(with_reducible refine(kz H.out 0).mono ?_);rintro e w1 ⟨rfl,rfl⟩;rw[E.out]))
 go_ret;exact⟨by first|rfl|rw[W2.out]|rw[W.out],rfl⟩
theorem qe0(h:TurnAt w M C L T s m puts){line:Int}(h0:0<=line)(h1:line<s.n):Calls Tryz.prog 85 #[.pointer (some ⟨T,0,none⟩), .int .i64 line] w fun e w'=>e=.returned (.int .i64 (if m.down then 2 else 0))/\w=w':=by
 have t0:=h.t0;have t2:=h.t2;have H:=am h.mem;have d0:decide (line<0)=false:=ah (by omega);have d1:decide (line>=s.n)=false:=ah (by omega);clear h;have HD:=am (ll H.out);cases hd:m.down
 ·rw[hd]at HD;go_enter Tryz.func85,Tryz.ntmps85;go_wp2_with (first|(go_at_call 30;(with_reducible refine HD.out.mono ?_);rintro e w1 ⟨rfl,rfl⟩))
  go_ret;exact⟨rfl,rfl⟩
 ·rw[hd]at HD;go_enter Tryz.func85,Tryz.ntmps85;go_wp2_with (first|(go_at_call 30;(with_reducible refine HD.out.mono ?_);rintro e w1 ⟨rfl,rfl⟩))
  go_ret;exact⟨rfl,rfl⟩
end
section
variable{w:World}{M C L T:Nat}{s:Shape}{m:Mem}{puts:Int}
theorem wm(h:MemAt w M C m)(slots:Int)(spares:Nat)(i:Int):(Lns.get m slots spares i).1.length=8:=by
 unfold Lns.get;split
 ·rfl
 ·exact qc4 h _
theorem nu(h:TurnAt w M C L T s m puts){line:Int}(h0:0<=line)(h1:line<s.n):Calls Tryz.prog 39 #[.pointer (some ⟨T,0,none⟩), .int .i64 line] w fun e w'=>e=.returned (.tuple #[iw (Trn.get s m line).1, .int .i64 (Trn.get s m line).2])/\Below w.heap.size w w':=by
 have H:=am h;have HG:=h.mayG;have hn2:=h.ok.n2;have hsp:=h.ok.sp;clear h;have HMay:=am (qe0 (H.out.alloc (.cells ct 73)) h0 h1);cases hd:m.down
 ·have E2:=am (show Trn.get s m line=Lns.get m (s.n+1) s.spares (jb s.n (Trn.moves m) line)by unfold Trn.get;rw[hd];rfl);rw[hd]at HMay;have HD:=am hd;clear hd;obtain⟨ks,hks⟩:=(qgl HG h0 h1).rounds;have HS:=am hks;have hsr:=qcg HG h0 h1;clear hks HG;rw[E2.out];generalize jb s.n (Trn.moves m) line=sl at HS hsr E2 ⊢;have HGL:=am (wm H.out.mem (s.n+1) s.spares sl);generalize hg:Lns.get m (s.n+1) s.spares sl=g at HGL ⊢;have HGE:=am hg;clear hg;obtain⟨gl,ge⟩:=g;have BX:=am (heap_alloc_new w (.cells ct 73));have H1:=am (H.out.alloc (.cells ct 73));have HB:Aside0 (Below w.heap.size w (w.alloc (.cells ct 73))):=⟨(ai _ _).alloc (an _) _⟩;go_enter Tryz.func39,Tryz.ntmps39;go_wp2_with (first|(go_at_call 85;(with_reducible refine HMay.out.mono ?_);rintro e w1 ⟨rfl,rfl⟩))
  generalize w.alloc (.cells ct 73)=w1 at BX H1 HB ⊢;refine dj (n:=17) (S:=fun w'=>w'.cell? ⟨T,1,none⟩=some (.pointer (some ⟨L,0,none⟩))/\w'.cell? ⟨T,2,none⟩=some (.int .i64 s.n)) (ds:=[12,15]) (onA 17 0) (by kernel_rfl) rfl rfl ⟨H1.out.t1,H1.out.t2⟩ (fun hHeld=>?_);refine pu 0 (some 14) (bA 17 1) (h:=?_);refine pu 1 (some 15) (bA 17 3) (h:=?_);refine pu 2 (some 16) (bA 17 7) (h:=?_);refine pu 4 (some 18) (bA 17 23) (h:=?_);refine pu 5 (some 19) (bA 17 55) (h:=?_);refine pu 6 (some 20) (bA 17 119) (h:=?_);refine pu 8 (some 22) (bA 17 375) (h:=?_);refine pu 10 (some 24) (bA 17 1399) (h:=?_);refine tv 3 (some 17) (bA 17 1407) rfl hHeld (fun w' hs=>aw 124 (.tmp 16) rfl T 1 _ rfl hs.1 _ Tryz.underlying124 rfl) (h:=?_);refine tv 7 (some 21) (bA 17 1535) rfl hHeld (fun w' hs=>aw 3 (.tmp 20) rfl T 2 _ rfl hs.2 _ Tryz.underlying3 rfl) (h:=?_);refine ip (i:=9) (N:=some 23) (bA 17 2047) rfl rfl (by kernel_rfl) (by decide) (fun K hK=>?_);refine fv Tryz.func58 (by kernel_rfl) rfl #[.pointer (some ⟨T,0,none⟩)] (by rfl) rfl rfl (by simp only[List.map_toArray,List.map_cons,List.map_nil];rfl) ?_;refine(pv H1.out.drew HD.out).mono ?_;rintro e w2 ⟨rfl,rfl⟩;refine⟨_,rfl,?_⟩;refine hK.out _ _ ⟨H1.out.drew.t1,H1.out.drew.t2⟩ (fun hHeld=>?_);clear hK K;refine ip (i:=11) (N:=some 25) (bA 17 4095) rfl rfl (by kernel_rfl) (by decide) (fun K hK=>?_);refine fv Tryz.func87 (by kernel_rfl) rfl #[.int .i64 s.n, .int .i64 (Trn.moves m), .int .i64 line] (by rfl) rfl rfl (by simp only[List.map_toArray,List.map_cons,List.map_nil];rfl) ?_;refine(gz.calls ks s.n (Trn.moves m) line sl _ HS.out).mono ?_;rintro e w2 ⟨rfl,⟨nd,rfl⟩⟩;refine⟨_,rfl,?_⟩;refine hK.out _ _ ⟨(H1.out.drew.drewN nd).t1,(H1.out.drew.drewN nd).t2⟩ (fun hHeld=>?_);clear hK K hHeld;have H2:=am (H1.out.drew.drewN nd);have HB2:=am (bq (bg HB.out) nd);have BX2:Aside0 ((w1.drew.drewN nd).heap[w.heap.size]? =some (.cells ct 73 (0,0))):=⟨cy (dp BX.out) nd⟩;clear H1 HB BX;generalize w1.drew.drewN nd=w2 at H2 HB2 BX2 ⊢;refine ko (i:=12) (N:=some 26) (bA 17 8191) rfl rfl (by kernel_rfl) (by decide) (fun K hK=>?_);refine fv Tryz.func86 (by kernel_rfl) rfl #[.pointer (some ⟨L,0,none⟩), .int .i64 sl] (by rfl) rfl rfl (by simp only[List.map_toArray,List.map_cons,List.map_nil];rfl) ?_;refine(yw H2.out.mem H2.out.lin hsp H2.out.regs hsr.1 hsr.2 (by omega)).mono ?_;rintro e w3 ⟨rfl,hb⟩;rw[HGE.out];refine⟨_,rfl,?_⟩;refine hK.out _ _ ?_;clear hK K;have HB3:=am (aa HB2.out hb);have BX3:=am (ap BX2.out hb);clear H2 HB2 BX2 hb;refine pu 13 (some 27) (bA 17 16383) (h:=?_);refine pu 14 (some 28) (bA 17 32767) (h:=?_);refine ko (i:=15) (N:=none) (bA 17 65535) rfl rfl (by kernel_rfl) (by decide) (fun K hK=>?_);refine su (by rfl) rfl (kj 73 (.tmp 4) (.tmp 27) rfl w.heap.size 0 (br gl) rfl rfl 73 (br zL) BX3.out (by rw[au,HGL.out];exact ez) (by rw[au,HGL.out];decide) (kd _)) ?_;refine hK.out _ _ ?_;clear hK K;refine pu 16 (some 5) (bA 17 131071) (h:=?_);refine fa (by kernel_rfl) ?_;rw[kf (br gl) (br zL) (by rw[au gl,HGL.out];rfl)];go_wp2;exact ig rfl w.heap.size 73 (br gl) _ rfl (setRow_heap _ _ _ _ _ _ BX3.out) Tryz.underlying73 rfl (by rw[au,HGL.out];exact ez) rfl ⟨rfl,gc HB3.out (an _) _⟩
 ·have E2:=am (show Trn.get s m line=(zL,2)by unfold Trn.get;rw[hd];rfl);rw[hd]at HMay;rw[E2.out];clear hd;go_enter Tryz.func39,Tryz.ntmps39;go_wp2_with (first|(go_at_call 85;(with_reducible refine HMay.out.mono ?_);rintro e w1 ⟨rfl,rfl⟩))
  exact ig rfl w.heap.size 73 (br zL) _ rfl (heap_alloc_new w _) Tryz.underlying73 rfl ez rfl ⟨rfl,(ai _ _).alloc (an _) _⟩
theorem pi(m:Mem):(Nvm.write m).2.regs=m.regs:=by unfold Nvm.write;split;rfl;split <;> rfl
theorem xr(m:Mem)(i:Int)(l:List Int):(Nvm.put m i l).2.regs=m.regs:=by
 unfold Nvm.put;split
 ·split
  ·rfl
  ·split
   ·exact pi m
   ·exact pi m
 ·rfl
theorem xt(m:Mem)(i v:Int):(Nvm.set m i v).2.regs=m.regs\/(Nvm.set m i v).2.regs=m.regs.set i.toNat v:=by
 unfold Nvm.set;split
 ·split
  ·exact .inl rfl
  ·split
   ·exact .inr (by simp[Nvm.setReg,pi])
   ·exact .inl (pi m)
 ·exact .inl rfl
theorem gf.of(h:gf m){m':Mem}(e:m'.regs=m.regs):gf m':=by unfold gf;rw[e];exact h
theorem gf.set(h:gf m){m':Mem}{i:Nat}{v:Int}(e:m'.regs=m.regs.set i v)(h0:0<=v)(h1:v<=18446744073709551615):gf m':=by
 unfold gf;rw[e];intro x hx;rcases List.mem_or_eq_of_mem_set hx with h2|rfl
 ·exact h x h2
 ·exact⟨h0,h1⟩
theorem s9(h:gf m)(i:Int){v:Int}(h0:0<=v)(h1:v<=18446744073709551615):gf (Nvm.set m i v).2:=by
 rcases xt m i v with e|e
 ·exact h.of e
 ·exact h.set e h0 h1
theorem pc(m:Mem)(i v:Int)(j:Nat)(hj:i.toNat≠j):(Nvm.set m i v).2.regs.getD j 0=m.regs.getD j 0:=by
 rcases xt m i v with e|e
 ·rw[e]
 ·rw[e];simp only[ax];rw[List.getElem?_set_ne hj]
theorem yn(slots slot:Int)(d:List Int)(hs0:0<=slot)(hs1:slot<=1000000)(ht0:0<=slots)(ht1:slots<=1000000):∀ (n i:Nat) (m:Mem),gf m->gf (Lns.putLoop slots slot d n i m).2∧∀ j,j<3->(Lns.putLoop slots slot d n i m).2.regs.getD j 0=m.regs.getD j 0
 |0,i,m,h=>⟨h,fun _ _=>rfl⟩
 | n + 1, i, m, h => by
  have hp:gf (Nvm.put m (slots+i) d).2:=h.of (xr _ _ _)
  have e0:=xr m (slots+i) d
  rw[Lns.putLoop]
  split
  ·exact⟨s9 hp _ (by omega) (by omega),fun j hj=>(pc _ _ _ j (by omega)).trans (by rw[e0])⟩
  ·split
   ·split
    ·have ih:=yn slots slot d hs0 hs1 ht0 ht1 n (i+1) _ (s9 hp (3+(i:Int)) (v:=slots+1) (by omega) (by omega))
     exact⟨ih.1,fun j hj=>(ih.2 j hj).trans ((pc _ _ _ j (by omega)).trans (by rw[e0]))⟩
    ·exact⟨s9 hp _ (by omega) (by omega),fun j hj=>(pc _ _ _ j (by omega)).trans (by rw[e0])⟩
   ·exact⟨hp,fun j _=>by rw[e0]⟩
theorem rx(h:gf m)(slots:Int)(spares:Nat)(slot:Int)(d:List Int)(hs0:0<=slot)(hs1:slot<=1000000)(ht0:0<=slots)(ht1:slots<=1000000):gf (Lns.put m slots spares slot d).2∧∀ j,j<3->(Lns.put m slots spares slot d).2.regs.getD j 0=m.regs.getD j 0:=by
 have hp:gf (Nvm.put m (ia (Lns.tableTo m spares) slots slot) d).2:=h.of (xr _ _ _);have e0:=xr m (ia (Lns.tableTo m spares) slots slot) d;unfold Lns.put;split
 ·exact⟨h,fun _ _=>rfl⟩
 ·split
  ·split
   ·exact⟨hp,fun j _=>by rw[e0]⟩
   ·have l:=yn slots slot d hs0 hs1 ht0 ht1 (spares-(sj (Lns.tableTo m spares)).toNat) (sj (Lns.tableTo m spares)).toNat _ hp;exact⟨l.1,fun j hj=>(l.2 j hj).trans (by rw[e0])⟩
  ·exact⟨hp,fun j _=>by rw[e0]⟩
theorem qdc(h:TurnAt w M C L T s m puts)(hd:m.down=false)(hv:m.regs.getD 0 0+1<=4611686018427387904):Calls Tryz.prog 88 #[.pointer (some ⟨T,0,none⟩)] w fun e w'=>e=.returned (.int .i64 (Trn.move s m).1)/\TurnAt w' M C L T s (Trn.move s m).2 puts/\aq (MC M C) w w':=by
 have H:=am h;have HD:=am hd;have HG:=h.mayG;have hn2:=h.ok.n2;have hn1:=h.ok.n1;have hsp:=h.ok.sp;have hv0:=(h.regs.get 0).1;clear h hd;have hmr:=qf8 HG;have HMe:Aside0 (sf.f s.n (Trn.moves m)=some ((Trn.moveS s.n (Trn.moves m)).1,(Trn.moveS s.n (Trn.moves m)).2)):=⟨by rw[qpg HG];rfl⟩;have EM:Aside0 (Trn.move s m=if(Lns.get m (s.n+1) s.spares (Trn.moveS s.n (Trn.moves m)).1).2=0 then
  if(Lns.put m (s.n+1) s.spares (Trn.moveS s.n (Trn.moves m)).2 (Lns.get m (s.n+1) s.spares (Trn.moveS s.n (Trn.moves m)).1).1).1=0 then
   Nvm.set (Lns.put m (s.n+1) s.spares (Trn.moveS s.n (Trn.moves m)).2 (Lns.get m (s.n+1) s.spares (Trn.moveS s.n (Trn.moves m)).1).1).2 0 (Trn.moves m+1)
  else Lns.put m (s.n+1) s.spares (Trn.moveS s.n (Trn.moves m)).2 (Lns.get m (s.n+1) s.spares (Trn.moveS s.n (Trn.moves m)).1).1
 else((Lns.get m (s.n+1) s.spares (Trn.moveS s.n (Trn.moves m)).1).2,m)):=⟨rfl⟩
 generalize Trn.moveS s.n (Trn.moves m)=fm at hmr HMe EM;obtain⟨fi,ti⟩:=fm;simp only[]at hmr HMe EM;generalize Trn.move s m=RR at EM ⊢;have HGL:=am (wm H.out.mem (s.n+1) s.spares fi);generalize hg:Lns.get m (s.n+1) s.spares fi=g at HGL EM;have HGE:=am hg;clear hg HG;obtain⟨gl,ge⟩:=g;have HPR:=am (rx H.out.regs (s.n+1) s.spares ti gl hmr.2.1 (by omega) (by omega) (by omega));simp only[]at EM;generalize hp:Lns.put m (s.n+1) s.spares ti gl=p at EM HPR;have HPE:=am hp;clear hp;obtain⟨pe,m1⟩:=p;have t2:=H.out.t2;have t1:=H.out.t1;by_cases cg:ge=0
 ·subst cg;go_enter Tryz.func88,Tryz.ntmps88;go_wp2_with (first
   |(go_at_call 58;(with_reducible refine(pv H.out HD.out).mono ?_);rintro e w1 ⟨rfl,rfl⟩)
   |(go_at_call 131;(with_reducible refine(sf.calls s.n (Trn.moves m) fi ti _ HMe.out).mono ?_);rintro e w1 ⟨rfl,⟨nd,rfl⟩⟩;have H1:=am (H.out.drewN nd);have t1:=H1.out.t1)
   |(go_at_call 86;(with_reducible refine(yw H1.out.mem H1.out.lin hsp H1.out.regs hmr.1.1 hmr.1.2 (by omega)).mono ?_);rintro e w2 ⟨rfl,hb⟩;rw[HGE.out];have H2:=am (H1.out.below hb);have HB2:=am (aa (bq (ai w.heap.size w) nd) hb);clear hb)
   |((with_reducible refine bp (t:=73) (p:=6) rfl ?_);refine wpList_store_row rfl 73 (.tmp 6) (.tmp 27) rfl w2.heap.size (br gl).toArray rfl rfl 73 _ (heap_alloc_new w2 _) ?hi ?ho ?h1 ?_;(case hi=>rw[List.size_toArray,au,HGL.out];exact ez);(case ho=>simp[au,HGL.out]);(case h1=>exact zy _)))
  have BX3:Aside0 (((w2.alloc (.cells ct 73)).setRow w2.heap.size (br gl).toArray).heap[w2.heap.size]? =some (.cells (br gl).toArray 73 (0,0))):=⟨setRow_heap _ _ _ _ _ _ (heap_alloc_new w2 _)⟩;have HB3:Aside0 (Below w2.heap.size w2 ((w2.alloc (.cells ct 73)).setRow w2.heap.size (br gl).toArray)):=⟨gc ((ai _ _).alloc (an _) _) (an _) _⟩;generalize ((w2.alloc (.cells ct 73)).setRow w2.heap.size (br gl).toArray)=w3 at BX3 HB3 ⊢;have H3:=am (H2.out.below HB3.out);have HB4:=am (aa HB2.out HB3.out);have hz:=HB2.out.size;have hlt:=H.out.mem.lt;clear H2 HB2 HB3 H1;refine dj (n:=8) (S:=fun w'=>w'.cell? ⟨T,1,none⟩=some (.pointer (some ⟨L,0,none⟩))/\(∀ j v,(br gl)[j]? =some v->w'.cell? ⟨w2.heap.size,0+j,none⟩=some v)) (ds:=[6]) (onA 8 0) (by kernel_rfl) rfl rfl ⟨H3.out.t1,fun j v hv=>by rw[Nat.zero_add];exact bt BX3.out j v hv⟩ (fun hHeld=>?_);refine pu 0 (some 32) (bA 8 1) (h:=?_);refine pu 1 (some 33) (bA 8 3) (h:=?_);refine pu 2 (some 34) (bA 8 7) (h:=?_);refine pu 4 (some 36) (bA 8 23) (h:=?_);refine tv 3 (some 35) (bA 8 31) rfl hHeld (fun w' hs=>aw 124 (.tmp 34) rfl T 1 _ rfl hs.1 _ Tryz.underlying124 rfl) (h:=?_);refine tv 5 (some 37) (bA 8 63) rfl hHeld (v:=.agg (br gl).toArray) (fun w' hs=>dh 73 (.tmp 6) rfl w2.heap.size 0 rfl (br gl) _ hs.2 Tryz.underlying73 rfl (by rw[au,HGL.out];exact ez)) (h:=?_);refine ko (i:=6) (N:=some 38) (bA 8 127) rfl rfl (by kernel_rfl) (by decide) (fun K hK=>?_);refine fv Tryz.func89 (by kernel_rfl) rfl #[.pointer (some ⟨L,0,none⟩), .int .i64 ti,iw gl] (by rfl) rfl rfl (by simp only[List.map_toArray,List.map_cons,List.map_nil];rfl) ?_;refine(yx H3.out.drew.mem H3.out.drew.lin H3.out.lm hsp H3.out.regs hmr.2.1 hmr.2.2 (by omega) gl HGL.out).mono ?_;rintro e w4 ⟨rfl,h4_,k4_⟩;rw[HPE.out]at h4_ ⊢;refine⟨_,rfl,?_⟩;refine hK.out _ _ ?_;clear hK K hHeld;have H4:Aside0 (TurnAt w4 M C L T s m1 puts):=⟨H3.out.drew.step h4_ k4_ HPR.out.1 (by rw[HPR.out.2 0 (by omega)];exact H.out.mv)⟩;have K4:Aside0 (aq (MC M C) w w4):=⟨(aq.of_below (bg HB4.out)).step k4_⟩;clear h4_ k4_ H3 HB4 BX3;refine pu 7 (some 8) (bA 8 255) (h:=?_);refine fa (by kernel_rfl) ?_;by_cases cp:pe=0
  ·subst cp;have e1:Aside0 (RR=Nvm.set m1 0 (Trn.moves m+1)):=⟨by rw[EM.out];exact(if_pos trivial).trans (if_pos rfl)⟩;have t0:=H4.out.t0;have hmv:Aside0 (Trn.moves m=m.regs.getD 0 0):=⟨rfl⟩;have hmv0:0<=Trn.moves m/\Trn.moves m+1<=4611686018427387904:=⟨hv0,hv⟩;have W1:=am (show IntKind.u64.wrap (IntKind.u64.wrap (Trn.moves m)+1)=Trn.moves m+1 by rw[u64w,u64w];omega);have HN:Aside0 (gf (Nvm.set m1 0 (Trn.moves m+1)).2):=⟨s9 HPR.out.1 0 (by omega) (by omega)⟩;have HN0:Aside0 ((Nvm.set m1 0 (Trn.moves m+1)).2.regs.getD 0 0<=4611686018427387904):=⟨by
    rcases xt m1 0 (Trn.moves m+1)with e|e
    ·rw[e,HPR.out.2 0 (by omega)];exact H.out.mv
    ·rw[e];simp only[ax,Int.toNat_zero];rw[List.getElem?_set_self (by rw[H4.out.mem.regs];omega)];exact hv⟩
   clear EM;go_wp2_with (first|(go_at_call 107;(with_reducible refine(ob H4.out.mem 0 (Trn.moves m+1)).mono ?_);rintro e w5 ⟨rfl,h5_,k5_⟩;have H5:=am (H4.out.step h5_ k5_ HN.out HN0.out);have K5:=am (K4.out.step k5_);clear h5_ k5_))
   go_ret;rw[e1.out];exact⟨rfl,H5.out,K5.out⟩
  ·have b0:(pe != 0)=true:=by simpa using cp
   have e1:Aside0 (RR=(pe,m1)):=⟨by rw[EM.out];exact(if_pos trivial).trans (if_neg cp)⟩;clear EM;go_wp2;go_ret;rw[e1.out];exact⟨rfl,H4.out,K4.out⟩
 ·have b0:(ge != 0)=true:=by simpa using cg
  have e1:Aside0 (RR=(ge,m)):=⟨by rw[EM.out];exact if_neg cg⟩;clear EM;go_enter Tryz.func88,Tryz.ntmps88;go_wp2_with (first
   |(go_at_call 58;(with_reducible refine(pv H.out HD.out).mono ?_);rintro e w1 ⟨rfl,rfl⟩)
   |(go_at_call 131;(with_reducible refine(sf.calls s.n (Trn.moves m) fi ti _ HMe.out).mono ?_);rintro e w1 ⟨rfl,⟨nd,rfl⟩⟩;have H1:=am (H.out.drewN nd);have t1:=H1.out.t1)
   |(go_at_call 86;(with_reducible refine(yw H1.out.mem H1.out.lin hsp H1.out.regs hmr.1.1 hmr.1.2 (by omega)).mono ?_);rintro e w2 ⟨rfl,hb⟩;rw[HGE.out];have H2:=am (H1.out.below hb);have HB2:=am (aa (bq (ai w.heap.size w) nd) hb);clear hb)
   |((with_reducible refine bp (t:=73) (p:=6) rfl ?_);refine wpList_store_row rfl 73 (.tmp 6) (.tmp 27) rfl w2.heap.size (br gl).toArray rfl rfl 73 _ (heap_alloc_new w2 _) ?hi ?ho ?h1 ?_;(case hi=>rw[List.size_toArray,au,HGL.out];exact ez);(case ho=>simp[au,HGL.out]);(case h1=>exact zy _)))
  go_ret;rw[e1.out];have HB3:Below w2.heap.size w2 ((w2.alloc (.cells ct 73)).setRow w2.heap.size (br gl).toArray):=gc ((ai _ _).alloc (an _) _) (an _) _;exact⟨rfl,H2.out.below HB3,aq.of_below (aa HB2.out HB3)⟩
end
def MCT(M C T:Nat):Nat->Prop:=fun k=>k=M\/k=C\/k=T
theorem s8{M C T k:Nat}(h:k≠M)(h':k≠C)(h'':k≠T):¬ MCT M C T k:=fun e=>by rcases e with e|e|e <;> contradiction
theorem aq.MCT{M C T:Nat}{w w':World}(h:aq (MC M C) w w'):aq (MCT M C T) w w':=h.mono (fun k _ hk=>by rcases hk with rfl|rfl;exact .inl rfl;exact .inr (.inl rfl))
namespace Trn
def putAt(s:Shape)(m:Mem)(line:Int)(d:List Int):Int×Mem:=Lns.put m (s.n+1) s.spares (jb s.n (moves m) line) d
def put(s:Shape)(m:Mem)(puts:Int)(line:Int)(d:List Int):Int×Mem×Int:=
 if m.down then(2,m,puts)
 else if wrap64 (puts+1)=s.period then
  if(move s m).1=0 then((putAt s (move s m).2 line d).1,(putAt s (move s m).2 line d).2,0)
  else((move s m).1,(move s m).2,0)
 else((putAt s m line d).1,(putAt s m line d).2,wrap64 (puts+1))
end Trn
section
variable{w:World}{M C L T:Nat}{s:Shape}{m:Mem}{puts:Int}
theorem TurnAt.setPuts(h:TurnAt w M C L T s m puts)(v:Int):TurnAt (w.setCell ⟨T,4,none⟩ (.int .i64 v)) M C L T s m v:=
 ⟨h.mem.other (fun e=>h.tm (.inl e.symm)) (fun e=>h.tm (.inr e.symm)) _,by unfold ib;rw[Below.heap_setCell _ _ _ _ (fun e=>h.tl e.symm)];exact h.lin,by rw[heap_setCell_same _ _ _ _ _ _ h.tur];rfl,h.lm,h.tm,h.tl,h.regs,h.mv,h.ok⟩
theorem qrp(m:Mem)(i v:Int)(h:(Nvm.set m i v).1=0):(Nvm.set m i v).2.down=false:=by
 unfold Nvm.set at h ⊢;split
 ·rename_i c1
  rw[if_pos c1]at h;split
  ·rename_i c2;rw[if_pos c2]at h;cases h
  ·rename_i c2
   rw[if_neg c2]at h;split
   ·rename_i c3
    rw[if_pos c3]at h;unfold Nvm.told at h;split at h
    ·cases h
    ·rename_i c4;simpa using c4
   ·rename_i c3
    rw[if_neg c3]at h;unfold Nvm.told at h;split at h
    ·cases h
    ·rename_i c4;simpa using c4
 ·rename_i c1;rw[if_neg c1]at h;cases h
theorem qpj(s:Shape)(m:Mem)(h:(Trn.move s m).1=0):(Trn.move s m).2.down=false:=by
 unfold Trn.move at h ⊢;split
 ·rename_i c1
  rw[if_pos c1]at h;split
  ·rename_i c2
   rw[if_pos c2]at h;exact qrp _ _ _ h
  ·rename_i c2
   rw[if_neg c2]at h;exact absurd h c2
 ·rename_i c1
  rw[if_neg c1]at h;exact absurd h c1
theorem yy(h:TurnAt w M C L T s m puts)(hv:m.regs.getD 0 0+2<=4611686018427387904){line:Int}(h0:0<=line)(h1:line<s.n)(d:List Int)(hd8:d.length=8):Calls Tryz.prog 42 #[.pointer (some ⟨T,0,none⟩), .int .i64 line,iw d] w fun e w'=>e=.returned (.int .i64 (Trn.put s m puts line d).1)/\TurnAt w' M C L T s (Trn.put s m puts line d).2.1 (Trn.put s m puts line d).2.2/\aq (MCT M C T) w w':=by
 have H:=am h;have HD8:=am hd8;have hlt:=h.mem.lt;have hTlt:T<w.heap.size:=d7 h.tur;have hn2:=h.ok.n2;have hsp:=h.ok.sp;clear h hd8;unfold iw;have H0:=am (H.out.alloc (.cells (br d).toArray 73));have HMay:=am (qe0 H0.out h0 h1);cases hd:m.down
 ·rw[hd]at HMay;have HD:=am hd;have EP:Aside0 (Trn.put s m puts line d=if wrap64 (puts+1)=s.period then
    if(Trn.move s m).1=0 then((Trn.putAt s (Trn.move s m).2 line d).1,(Trn.putAt s (Trn.move s m).2 line d).2,0)else((Trn.move s m).1,(Trn.move s m).2,0)
   else((Trn.putAt s m line d).1,(Trn.putAt s m line d).2,wrap64 (puts+1))):=⟨by unfold Trn.put;rw[hd];rfl⟩
  clear hd;generalize Trn.put s m puts line d=RR at EP ⊢;have t4:=H0.out.t4;have f4:(w.alloc (.cells (br d).toArray 73)).frozen? ⟨T,4,none⟩=false:=ak H0.out.tur 4;have BX0:=am (heap_alloc_new w (.cells (br d).toArray 73));have K0:Aside0 (aq (MCT M C T) w (w.alloc (.cells (br d).toArray 73))):=⟨(aq.refl _ w).alloc _⟩;go_enter Tryz.func42,Tryz.ntmps42;go_wp2_with (first|(go_at_call 85;(with_reducible refine HMay.out.mono ?_);rintro e w1 ⟨rfl,rfl⟩))
  clear t4 f4;have H1:=am ((H.out.setPuts (wrap64 (puts+1))).alloc (.cells (br d).toArray 73));have K1:Aside0 (aq (MCT M C T) w _):=⟨((aq.refl _ w).set (p:=⟨T,4,none⟩) (.inl (.inr (.inr rfl))) (.int .i64 (wrap64 (puts+1)))).alloc (.cells (br d).toArray 73)⟩;have BX1:Aside0 (((w.setCell ⟨T,4,none⟩ (.int .i64 (wrap64 (puts+1)))).alloc (.cells (br d).toArray 73)).heap[w.heap.size]? =some (.cells (br d).toArray 73 (0,0))):=⟨by
   have e:=heap_alloc_new (w.setCell ⟨T,4,none⟩ (.int .i64 (wrap64 (puts+1)))) (.cells (br d).toArray 73)
   rwa[show(w.setCell ⟨T,4,none⟩ (.int .i64 (wrap64 (puts+1)))).heap.size=w.heap.size by simp[World.setCell]]at e⟩
  clear H0 K0 BX0;generalize (w.setCell ⟨T,4,none⟩ (.int .i64 (wrap64 (puts+1)))).alloc (.cells (br d).toArray 73)=w1 at H1 K1 BX1 ⊢;have t4:=H1.out.t4;have t3:=H1.out.t3;by_cases cp:wrap64 (puts+1)=s.period
  ·have b0:(wrap64 (puts+1)==s.period)=true:=beq_iff_eq.2 cp;go_quiet (fail);clear t4 t3;have H2:=am (H1.out.drewN nq);have K2:=am (K1.out.drewN nq);have BX2:=am (cy BX1.out nq);clear H1 K1 BX1;generalize w1.drewN nq=w2 at H2 K2 BX2 ⊢;have t4:=H2.out.t4;have f4:w2.frozen? ⟨T,4,none⟩=false:=ak H2.out.tur 4;have H3:=am (H2.out.setPuts 0);have K3:Aside0 (aq (MCT M C T) w _):=⟨K2.out.set (p:=⟨T,4,none⟩) (.inl (.inr (.inr rfl))) (.int .i64 0)⟩;have BX3:Aside0 ((w2.setCell ⟨T,4,none⟩ (.int .i64 0)).heap[w.heap.size]? =some (.cells (br d).toArray 73 (0,0))):=⟨by rw[Below.heap_setCell _ _ _ _ (by show w.heap.size≠T;omega)];exact BX2.out⟩;generalize hmv:Trn.move s m=mv at EP;have HMV:=am hmv;clear hmv;obtain⟨me,m2⟩:=mv;have hnT:∀ k,k=w.heap.size→¬ MC M C k:=fun k hk=>sq (by omega) (by omega);by_cases cm:me=0
   ·subst cm;have e1:Aside0 (RR=((Trn.putAt s m2 line d).1,(Trn.putAt s m2 line d).2,0)):=⟨by rw[EP.out];exact(if_pos cp).trans (if_pos rfl)⟩;have HDD:Aside0 (m2.down=false):=⟨by have e:=qpj s m (by rw[HMV.out]);rw[HMV.out]at e;exact e⟩;clear EP;go_wp2_with (first|(go_at_call 88;(with_reducible refine(qdc H3.out HD.out (by omega)).mono ?_);rintro e w5 ⟨rfl,h5_,k5_⟩;rw[HMV.out]at h5_ ⊢;have H5:=am h5_;have K5:=am (K3.out.step k5_.MCT);have BX5:=am (k5_.of BX3.out (hnT _ rfl));clear h5_ k5_))
    clear H2 K2 BX2 H3 K3 BX3 t4 f4;replace H2:=H5;replace K2:=K5;replace BX2:=BX5;clear H5 K5 BX5;have HG:=H2.out.mayG;obtain⟨ks,hks⟩:=(qgl HG h0 h1).rounds;have HS:=am hks;have hsr:=qcg HG h0 h1;have EA:Aside0 (Trn.putAt s m2 line d=Lns.put m2 (s.n+1) s.spares (jb s.n (Trn.moves m2) line) d):=⟨rfl⟩;clear hks HG;generalize jb s.n (Trn.moves m2) line=sl at HS hsr EA;have HPR:=am (rx H2.out.regs (s.n+1) s.spares sl d hsr.1 (by omega) (by omega) (by omega));generalize hq:Lns.put m2 (s.n+1) s.spares sl d=q at EA HPR;have HQ:=am hq;clear hq;obtain⟨qe,m9⟩:=q;refine dj (n:=15) (S:=fun w'=>w'.cell? ⟨T,1,none⟩=some (.pointer (some ⟨L,0,none⟩))/\w'.cell? ⟨T,2,none⟩=some (.int .i64 s.n)/\(∀ j v,(br d)[j]? =some v->w'.cell? ⟨w.heap.size,0+j,none⟩=some v)) (ds:=[13]) (onA 15 0) (by kernel_rfl) rfl rfl ⟨H2.out.t1,H2.out.t2,fun j v hv=>by rw[Nat.zero_add];exact bt BX2.out j v hv⟩ (fun hHeld=>?_);refine pu 0 (some 39) (bA 15 1) (h:=?_);refine pu 1 (some 40) (bA 15 3) (h:=?_);refine pu 2 (some 41) (bA 15 7) (h:=?_);refine pu 4 (some 43) (bA 15 23) (h:=?_);refine pu 5 (some 44) (bA 15 55) (h:=?_);refine pu 6 (some 45) (bA 15 119) (h:=?_);refine pu 8 (some 47) (bA 15 375) (h:=?_);refine pu 10 (some 49) (bA 15 1399) (h:=?_);refine tv 3 (some 42) (bA 15 1407) rfl hHeld (fun w' hs=>aw 124 (.tmp 41) rfl T 1 _ rfl hs.1 _ Tryz.underlying124 rfl) (h:=?_);refine tv 7 (some 46) (bA 15 1535) rfl hHeld (fun w' hs=>aw 3 (.tmp 45) rfl T 2 _ rfl hs.2.1 _ Tryz.underlying3 rfl) (h:=?_);refine tv 12 (some 51) (bA 15 5631) rfl hHeld (v:=.agg (br d).toArray) (fun w' hs=>dh 73 (.tmp 5) rfl w.heap.size 0 rfl (br d) _ hs.2.2 Tryz.underlying73 rfl (by rw[au,HD8.out];exact ez)) (h:=?_);refine ip (i:=9) (N:=some 48) (bA 15 6143) rfl rfl (by kernel_rfl) (by decide) (fun K hK=>?_);refine fv Tryz.func58 (by kernel_rfl) rfl #[.pointer (some ⟨T,0,none⟩)] (by rfl) rfl rfl (by simp only[List.map_toArray,List.map_cons,List.map_nil];rfl) ?_;refine(pv H2.out.drew HDD.out).mono ?_;rintro e w3 ⟨rfl,rfl⟩;refine⟨_,rfl,?_⟩;refine hK.out _ _ hHeld (fun hHeld=>?_);clear hK K;refine ip (i:=11) (N:=some 50) (bA 15 8191) rfl rfl (by kernel_rfl) (by decide) (fun K hK=>?_);refine fv Tryz.func87 (by kernel_rfl) rfl #[.int .i64 s.n, .int .i64 (Trn.moves m2), .int .i64 line] (by rfl) rfl rfl (by simp only[List.map_toArray,List.map_cons,List.map_nil];rfl) ?_;refine(gz.calls ks s.n (Trn.moves m2) line sl _ HS.out).mono ?_;rintro e w3 ⟨rfl,⟨nd,rfl⟩⟩;refine⟨_,rfl,?_⟩;refine hK.out _ _ ⟨(H2.out.drew.drewN nd).t1,(H2.out.drew.drewN nd).t2,fun j v hv=>by rw[Nat.zero_add];exact bt (cy (dp BX2.out) nd) j v hv⟩ (fun hHeld=>?_);clear hK K hHeld;have H3:=am (H2.out.drew.drewN nd);have K3:=am (K2.out.drew.drewN nd);clear H2 K2 BX2;generalize w5.drew.drewN nd=w3 at H3 K3 ⊢;refine ko (i:=13) (N:=some 52) (bA 15 16383) rfl rfl (by kernel_rfl) (by decide) (fun K hK=>?_);refine fv Tryz.func89 (by kernel_rfl) rfl #[.pointer (some ⟨L,0,none⟩), .int .i64 sl,iw d] (by rfl) rfl rfl (by simp only[List.map_toArray,List.map_cons,List.map_nil];rfl) ?_;refine(yx H3.out.mem H3.out.lin H3.out.lm hsp H3.out.regs hsr.1 hsr.2 (by omega) d HD8.out).mono ?_;rintro e w4 ⟨rfl,h4_,k4_⟩;rw[HQ.out]at h4_ ⊢;refine⟨_,rfl,?_⟩;refine hK.out _ _ ?_;clear hK K;have H4:Aside0 (TurnAt w4 M C L T s m9 0):=⟨H3.out.step h4_ k4_ HPR.out.1 (by rw[HPR.out.2 0 (by omega)];exact H3.out.mv)⟩;have K4:Aside0 (aq (MCT M C T) w w4):=⟨K3.out.step k4_.MCT⟩;clear h4_ k4_;refine pu 14 (some 6) (bA 15 32767) (h:=?_);refine fa (by kernel_rfl) ?_;go_wp2;go_ret;rw[e1.out,EA.out];exact⟨rfl,H4.out,K4.out⟩
   ·have b1:(me != 0)=true:=by simpa using cm
    have e1:Aside0 (RR=(me,m2,0)):=⟨by rw[EP.out];exact(if_pos cp).trans (if_neg cm)⟩;clear EP;go_wp2_with (first|(go_at_call 88;(with_reducible refine(qdc H3.out HD.out (by omega)).mono ?_);rintro e w5 ⟨rfl,h5_,k5_⟩;rw[HMV.out]at h5_ ⊢;have H5:=am h5_;have K5:=am (K3.out.step k5_.MCT);clear h5_ k5_))
    go_ret;rw[e1.out];exact⟨rfl,H5.out,K5.out⟩
  ·have b0:(wrap64 (puts+1)==s.period)=false:=beq_eq_false_iff_ne.2 cp;have e1:Aside0 (RR=((Trn.putAt s m line d).1,(Trn.putAt s m line d).2,wrap64 (puts+1))):=⟨by rw[EP.out];exact if_neg cp⟩;go_quiet (fail);clear t4 t3;have H2:=am (H1.out.drewN nq);have K2:=am (K1.out.drewN nq);have BX2:=am (cy BX1.out nq);clear H1 K1 BX1 EP;go_wp2;generalize w1.drewN nq=w2 at H2 K2 BX2 ⊢;have HDD:=HD;have HG:=H2.out.mayG;obtain⟨ks,hks⟩:=(qgl HG h0 h1).rounds;have HS:=am hks;have hsr:=qcg HG h0 h1;have EA:Aside0 (Trn.putAt s m line d=Lns.put m (s.n+1) s.spares (jb s.n (Trn.moves m) line) d):=⟨rfl⟩;clear hks HG;generalize jb s.n (Trn.moves m) line=sl at HS hsr EA;have HPR:=am (rx H2.out.regs (s.n+1) s.spares sl d hsr.1 (by omega) (by omega) (by omega));generalize hq:Lns.put m (s.n+1) s.spares sl d=q at EA HPR;have HQ:=am hq;clear hq;obtain⟨qe,m9⟩:=q;refine dj (n:=15) (S:=fun w'=>w'.cell? ⟨T,1,none⟩=some (.pointer (some ⟨L,0,none⟩))/\w'.cell? ⟨T,2,none⟩=some (.int .i64 s.n)/\(∀ j v,(br d)[j]? =some v->w'.cell? ⟨w.heap.size,0+j,none⟩=some v)) (ds:=[13]) (onA 15 0) (by kernel_rfl) rfl rfl ⟨H2.out.t1,H2.out.t2,fun j v hv=>by rw[Nat.zero_add];exact bt BX2.out j v hv⟩ (fun hHeld=>?_);refine pu 0 (some 39) (bA 15 1) (h:=?_);refine pu 1 (some 40) (bA 15 3) (h:=?_);refine pu 2 (some 41) (bA 15 7) (h:=?_);refine pu 4 (some 43) (bA 15 23) (h:=?_);refine pu 5 (some 44) (bA 15 55) (h:=?_);refine pu 6 (some 45) (bA 15 119) (h:=?_);refine pu 8 (some 47) (bA 15 375) (h:=?_);refine pu 10 (some 49) (bA 15 1399) (h:=?_);refine tv 3 (some 42) (bA 15 1407) rfl hHeld (fun w' hs=>aw 124 (.tmp 41) rfl T 1 _ rfl hs.1 _ Tryz.underlying124 rfl) (h:=?_);refine tv 7 (some 46) (bA 15 1535) rfl hHeld (fun w' hs=>aw 3 (.tmp 45) rfl T 2 _ rfl hs.2.1 _ Tryz.underlying3 rfl) (h:=?_);refine tv 12 (some 51) (bA 15 5631) rfl hHeld (v:=.agg (br d).toArray) (fun w' hs=>dh 73 (.tmp 5) rfl w.heap.size 0 rfl (br d) _ hs.2.2 Tryz.underlying73 rfl (by rw[au,HD8.out];exact ez)) (h:=?_);refine ip (i:=9) (N:=some 48) (bA 15 6143) rfl rfl (by kernel_rfl) (by decide) (fun K hK=>?_);refine fv Tryz.func58 (by kernel_rfl) rfl #[.pointer (some ⟨T,0,none⟩)] (by rfl) rfl rfl (by simp only[List.map_toArray,List.map_cons,List.map_nil];rfl) ?_;refine(pv H2.out.drew HDD.out).mono ?_;rintro e w3 ⟨rfl,rfl⟩;refine⟨_,rfl,?_⟩;refine hK.out _ _ hHeld (fun hHeld=>?_);clear hK K;refine ip (i:=11) (N:=some 50) (bA 15 8191) rfl rfl (by kernel_rfl) (by decide) (fun K hK=>?_);refine fv Tryz.func87 (by kernel_rfl) rfl #[.int .i64 s.n, .int .i64 (Trn.moves m), .int .i64 line] (by rfl) rfl rfl (by simp only[List.map_toArray,List.map_cons,List.map_nil];rfl) ?_;refine(gz.calls ks s.n (Trn.moves m) line sl _ HS.out).mono ?_;rintro e w3 ⟨rfl,⟨nd,rfl⟩⟩;refine⟨_,rfl,?_⟩;refine hK.out _ _ ⟨(H2.out.drew.drewN nd).t1,(H2.out.drew.drewN nd).t2,fun j v hv=>by rw[Nat.zero_add];exact bt (cy (dp BX2.out) nd) j v hv⟩ (fun hHeld=>?_);clear hK K hHeld;have H3:=am (H2.out.drew.drewN nd);have K3:=am (K2.out.drew.drewN nd);clear H2 K2 BX2;generalize w2.drew.drewN nd=w3 at H3 K3 ⊢;refine ko (i:=13) (N:=some 52) (bA 15 16383) rfl rfl (by kernel_rfl) (by decide) (fun K hK=>?_);refine fv Tryz.func89 (by kernel_rfl) rfl #[.pointer (some ⟨L,0,none⟩), .int .i64 sl,iw d] (by rfl) rfl rfl (by simp only[List.map_toArray,List.map_cons,List.map_nil];rfl) ?_;refine(yx H3.out.mem H3.out.lin H3.out.lm hsp H3.out.regs hsr.1 hsr.2 (by omega) d HD8.out).mono ?_;rintro e w4 ⟨rfl,h4_,k4_⟩;rw[HQ.out]at h4_ ⊢;refine⟨_,rfl,?_⟩;refine hK.out _ _ ?_;clear hK K;have H4:Aside0 (TurnAt w4 M C L T s m9 (wrap64 (puts+1))):=⟨H3.out.step h4_ k4_ HPR.out.1 (by rw[HPR.out.2 0 (by omega)];exact H3.out.mv)⟩;have K4:Aside0 (aq (MCT M C T) w w4):=⟨K3.out.step k4_.MCT⟩;clear h4_ k4_;refine pu 14 (some 6) (bA 15 32767) (h:=?_);refine fa (by kernel_rfl) ?_;go_wp2;go_ret;rw[e1.out,EA.out];exact⟨rfl,H4.out,K4.out⟩
 ·rw[hd]at HMay;have e1:Aside0 (Trn.put s m puts line d=(2,m,puts)):=⟨by unfold Trn.put;rw[hd];rfl⟩;clear hd;generalize Trn.put s m puts line d=RR at e1 ⊢;go_enter Tryz.func42,Tryz.ntmps42;go_wp2_with (first|(go_at_call 85;(with_reducible refine HMay.out.mono ?_);rintro e w1 ⟨rfl,rfl⟩))
  go_ret;rw[e1.out];exact⟨rfl,H0.out,(aq.refl _ w).alloc _⟩
end
end Go.Proofs.YtmfhaliclnnbaaaGreat.Sys
namespace Go.Proofs.YtmfhaliclnnbaaaGreat.Sys
open Go.RowKit Go.Proofs.YtmfhaliclnnbaaaGreatW.PrintWords Go.Proofs.YtmfhaliclnnbaaaGreatW.PrintLast Go.Proofs.YtmfhaliclnnbaaaGreatW.PrintMore
open Go.Proofs.YtmfhaliclnnbaaaGreat.XTopWhole Go.Proofs.YtmfhaliclnnbaaaGreat.Pl Go.Maps
set_option linter.unusedVariables false
set_option linter.unusedSimpArgs false
set_option maxRecDepth 100000
set_option maxHeartbeats 8000000
abbrev jw:=Int×List Int
def eq(h:jw):List Value:=.int .i64 h.1::br h.2
def ym:Kd jw where
 sz:=9
 E:=[]
 K:=fun _ x cs=>cs=eq x/\x.2.length=8
 M:=fun _ _ _ x cs=>cs=eq x/\x.2.length=8
 K_len:=fun h=>by rw[h.1];simp[eq,au,h.2]
 K_one:=fun h u hu=>by
  rw[h.1]at hu
  rcases List.mem_cons.1 hu with rfl|hu
  ·rfl
  ·exact kd _ _ hu
 K_below:=fun _ h=>h
 K_of_M:=fun h=>h
 M_mono:=fun _ h=>h
 M_bound:=fun h=>h
 M_move:=fun _ h=>h
 M_lower:=fun _ h=>h
def zH:jw:=(0,zL)
theorem qcb:(Tryz.prog.info? 151).map (fun i=>(i.zero,i.size,i.bytes))=some (some (.agg #[.int .i64 0, .int .u64 0, .int .u64 0, .int .u64 0, .int .u64 0, .int .u64 0, .int .u64 0, .int .u64 0, .int .u64 0]),9,72):=by kernel_rfl
theorem qjd:(Tryz.prog.info? 73).map (fun i=>(i.zero,i.size,i.bytes))=some (some (.agg ct),8,64):=by kernel_rfl
theorem ke:(Tryz.prog.info? 151).map (·.size)=some 9:=by kernel_rfl
abbrev jj:Array Value:=#[.int .i64 0, .int .u64 0, .int .u64 0, .int .u64 0, .int .u64 0, .int .u64 0, .int .u64 0, .int .u64 0, .int .u64 0]
theorem dn{h:jw}(hl:h.2.length=8):(eq h).length=9:=by simp[eq,au,hl]
theorem o7(h:jw):(eq h).toArray.all (·.oneCell')=true:=by simp[eq,br,Value.oneCell']
theorem homeAt{w:World}{base:Nat}{ok:Nat->Prop}{A:Option Addr}{c n:Nat}{xs:List jw}(h:Kd.R ym 151 w base ok (.slice A n c) xs)(hn:xs.length=n)(i:Nat)(hi:i<n):∃ g,A=some ⟨g,0,none⟩/\(xs.getD i zH).2.length=8∧∀ j u,(eq (xs.getD i zH))[j]? =some u->w.cell? ⟨g,i*9+j,none⟩=some u:=by
 obtain⟨g,cap,e,_⟩:=Kd.R_form h (by omega);obtain⟨ad,cs,e2,_,hK,hc⟩:=Kd.C_get (Kd.R_reads' h).2.2 zH (i:Int) (by omega) (by omega);rw[Int.toNat_natCast]at hK hc;obtain⟨rfl,h8⟩:=hK;injection e with e3;subst e3;injection e2 with e2;subst e2;exact⟨g,rfl,h8,fun j u hu=>by have:=hc j u hu;rw[ou,Nat.zero_add]at this;exact this⟩
theorem sg{w w':World}(h:Below w.heap.size w w'):w.grownBy w' none:=⟨h.os,h.tape,h.output,h.size,fun k hk _=>h.block k hk⟩
theorem vr:Keyed Tryz.prog 3:=int_keyed Tryz.underlying3
theorem vq(w:World):(zeroValue 3).run Tryz.prog w=.ok (.int .i64 0) w:=by kernel_rfl
theorem l7(w:World)(z cs:Array Value)(t:TypeId):((w.alloc (.cells z t)).setRow w.heap.size cs).heap[w.heap.size]? =some (.cells cs t (0,0)):=setRow_heap _ _ _ _ _ _ (heap_alloc_new w _)
theorem jv(w:World)(z cs:Array Value)(t:TypeId):Below w.heap.size w ((w.alloc (.cells z t)).setRow w.heap.size cs):=gc ((ai _ _).alloc (an _) _) (an _) _
theorem sa{H:Type}{k e:TypeId}{w w':World}{b n:Nat}{D:DataW H}(h:w.ownsMap Tryz.prog k (plainElem Tryz.prog e) b n D)(hb:Below w.heap.size w w'):w'.ownsMap Tryz.prog k (plainElem Tryz.prog e) b n D:=h.kept (sg hb) (by simp)
section
variable{ops:Array Oper}{rest:List Oper}{o:Oper}{a:Act}{w:World}{Q:Exit->Act->World->Prop}
theorem qld(x:jw)(h8:x.2.length=8):Instr.fill (fun i=>some (i*9,9)) ((Array.range (1*9)).map ((Value.agg jj).cells[· % (Value.agg jj).cells.size]!)) [(0, .agg (eq x).toArray)]=some (eq x).toArray:=by
 obtain⟨l,d⟩:=x;obtain⟨a,b,c,e,f,g,i,j,rfl⟩:=qhr h8
 kernel_rfl
theorem qle(d:List Int)(h8:d.length=8):Instr.fill (fun i=>some (i*8,8)) ((Array.range (1*8)).map ((Value.agg ct).cells[· % (Value.agg ct).cells.size]!)) [(0, .agg (br d).toArray)]=some (br d).toArray:=by
 obtain⟨a,b,c,e,f,g,i,j,rfl⟩:=qhr h8
 kernel_rfl
theorem y3(l:Int)(d:List Int)(h8:d.length=8):Tryz.prog.built 151 [(0, .int .i64 l),(1, .agg (br d).toArray)]=some (eq (l,d)).toArray:=by
 obtain⟨a,b,c,e,f,g,i,j,rfl⟩:=qhr h8
 kernel_rfl
theorem q9(hg:o.guard=none)(t:TypeId)(parts:Array (Nat×Operand))(ho:o.op=.build t parts)(vals:List (Nat×Value))(cells:Array Value)(hv:(parts.map fun(i,x)=>(i,a.eval x)).toList=vals)(hb:Tryz.prog.built t vals=some cells)(h:wpList Tryz.prog ops Q rest (a.put o.dst (.agg cells)) w):wpList Tryz.prog ops Q (o::rest) a w:=by
 subst hv;exact wpList_build hg t parts ho (by rw[hb];rfl) (by rw[hb];exact h)
theorem rf(hg:o.guard=none)(x:Operand)(ho:o.op=.buildSlice 130 1 #[(0,x)])(hm:jw)(h8:hm.2.length=8)(hx:a.eval x=.agg (eq hm).toArray)(h:wpList Tryz.prog ops Q rest (a.put o.dst (.slice (some ⟨w.heap.size,0,none⟩) 1 1)) (w.alloc (.cells (eq hm).toArray 151))):wpList Tryz.prog ops Q (o::rest) a w:=by
 obtain⟨i0,hi,hz0,hz1,hz2⟩:=info_parts qcb;refine wpList_buildSlice hg 130 151 1 #[(0,x)] ho (eq hm).toArray i0 _ Tryz.underlying130 hi hz0 (by rw[hz1];decide) (by rw[hz1];decide) ?_ h;rw[hz1,show(#[(0,x)].map fun(i,x)=>(i,a.eval x)).toList=[(0,a.eval x)]by simp,hx];exact qld hm h8
theorem qb3(hg:o.guard=none)(x:Operand)(ho:o.op=.buildSlice 197 1 #[(0,x)])(d:List Int)(h8:d.length=8)(hx:a.eval x=.agg (br d).toArray)(h:wpList Tryz.prog ops Q rest (a.put o.dst (.slice (some ⟨w.heap.size,0,none⟩) 1 1)) (w.alloc (.cells (br d).toArray 73))):wpList Tryz.prog ops Q (o::rest) a w:=by
 obtain⟨i0,hi,hz0,hz1,hz2⟩:=info_parts qjd;refine wpList_buildSlice hg 197 73 1 #[(0,x)] ho (br d).toArray i0 _ Tryz.underlying197 hi hz0 (by rw[hz1];decide) (by rw[hz1];decide) ?_ h;rw[hz1,show(#[(0,x)].map fun(i,x)=>(i,a.eval x)).toList=[(0,a.eval x)]by simp,hx];exact qle d h8
end
namespace Lg
def mayH(lines:Int)(h:List jw):Bool:=(h.all fun x=>decide (16<=x.1)&&decide (x.1<lines))&&decide (h.map (·.1)).Nodup&&(decide (lines>=16)&&decide ((h.length:Int)>=1)&&decide ((h.length:Int)<=14))
end Lg
def qbw{H:Type}(A:Nat->Int):Nat->DataW H
 |0=>.map []
 |k+1=>(qbw A k).put (.int .i64 (A k)) (.lit (.int .i64 1))
theorem qfa{H:Type}(A:Nat->Int)(x:Int):∀ (k:Nat),(∀ j:Nat,j<k->x≠A j)->(qbw (H:=H) A k).atKey (.int .i64 x) (.lit (.int .i64 0))=.lit (.int .i64 0)
 |0,_=>by simp[qbw,DataW.atKey]
 |k+1,h=>by
  rw[qbw,atKey_put_other (by simpa using h k (by omega))]
  exact qfa A x k (fun j hj=>h j (by omega))
theorem mn{H:Type}(A:Nat->Int):∀ k:Nat,IsMap (qbw (H:=H) A k)
 |0=>isMap_empty
 |k+1=>(mn A k).put _ _
theorem qh9{H:Type}(A:Nat->Int)(x:Int):∀ (k:Nat),(∃ j:Nat,j<k/\x=A j)->(qbw (H:=H) A k).atKey (.int .i64 x) (.lit (.int .i64 0))=.lit (.int .i64 1)
 |0,⟨j,hj,_⟩=>by omega
 |k+1,h=>by
  by_cases e:x=A k
  ·subst e
   rw[qbw,atKey_put_same (mn A k) (show WideAt.IsKeyLit (.int .i64 _)from trivial)]
  ·rw[qbw,atKey_put_other (by simpa using e)]
   obtain⟨j,hj,hx⟩:=h
   exact qh9 A x k ⟨j,by by_cases e2:j=k;exact absurd (e2 ▸ hx) e;omega,hx⟩
theorem qht{lines:Int}{h:List jw}{k:Nat}(hk:k<h.length)(hb:¬ (16<=(h.getD k zH).1/\(h.getD k zH).1<lines)):Lg.mayH lines h=false:=by
 have:(h.all fun x=>decide (16<=x.1)&&decide (x.1<lines))=false:=by rw[List.all_eq_false];refine⟨h[k],List.getElem_mem hk,?_⟩;rw[ax,bx hk]at hb;simp only[Option.getD_some]at hb;simpa using hb
 unfold Lg.mayH;rw[this];rfl
theorem qnd{lines:Int}{h:List jw}{j k:Nat}(hk:k<h.length)(hj:j<k)(e:(h.getD k zH).1=(h.getD j zH).1):Lg.mayH lines h=false:=by
 have hn:¬ (h.map (·.1)).Nodup:=fun hn=>by rw[ax,bx hk,ax,bx (show j<h.length by omega)]at e;simp only[Option.getD_some]at e;have:=List.pairwise_iff_getElem.1 hn j k (by simp;omega) (by simpa using hk) hj;simp only[List.getElem_map]at this;exact this e.symm
 unfold Lg.mayH;rw[ah hn];simp
theorem qnc{lines:Int}{h:List jw}(h1:∀ j,j<h.length->16<=(h.getD j zH).1/\(h.getD j zH).1<lines)(h2:∀ i j,i<j->j<h.length->(h.getD j zH).1≠(h.getD i zH).1):Lg.mayH lines h=(decide (lines>=16)&&decide ((h.length:Int)>=1)&&decide ((h.length:Int)<=14)):=by
 have a1:(h.all fun x=>decide (16<=x.1)&&decide (x.1<lines))=true:=by rw[List.all_eq_true];intro x hx;obtain⟨j,hj,rfl⟩:=List.getElem_of_mem hx;have:=h1 j hj;rw[ax,bx hj]at this;simpa using this
 have a2:(h.map (·.1)).Nodup:=by refine List.pairwise_iff_getElem.2 (fun i j hi hj hij e=>?_);simp only[List.length_map]at hi hj;simp only[List.getElem_map]at e;have:=h2 i j hij hj;rw[ax,bx hj,ax,bx hi]at this;exact this e.symm
 unfold Lg.mayH;rw[a1,af a2];rfl
theorem ox(w:World)(lines:Int)(base:Nat)(ok:Nat->Prop)(A:Option Addr)(c:Nat)(h:List jw)(hr:Kd.R ym 151 w base ok (.slice A h.length c) h)(hl:h.length<=1000000)(hb:∀ x∈h,-1<=x.1/\x.1<=1000000):Calls Tryz.prog 92 #[.int .i64 lines, .slice A h.length c] w fun e w'=>e=.returned (.bool (Lg.mayH lines h))/\Below w.heap.size w w':=by
 have hmm:=@run_makeMap Tryz.prog;have HR:=am hr;have HBd:=am hb;clear hr hb;generalize hN:h.length=n at hl HR ⊢;have HN:=am hN;clear hN;generalize hres:Lg.mayH lines h=res;have HRes:=am hres;clear hres;have HB:Aside0 (Below w.heap.size w (w.alloc (.map #[] 0))):=⟨(ai _ _).alloc (an _) _⟩;have HM:Aside0 ((w.alloc (.map #[] 0)).ownsMap Tryz.prog 3 (plainElem (H:=Unit) Tryz.prog 3) w.heap.size 0 (qbw (H:=Unit) (fun j=>(h.getD j zH).1) 0)):=⟨World.ownsMap_made _ _ _ _⟩;go_enter Tryz.func92,Tryz.ntmps92;go_wp2;clear hmm;go_loopw [11] (fun i wr=>∃ k:Nat,i=.int .i64 k/\k<=n/\Aside0 (wr.ownsMap Tryz.prog 3 (plainElem (H:=Unit) Tryz.prog 3) w.heap.size k (qbw (H:=Unit) (fun j=>(h.getD j zH).1) k))/\Aside0 (Below w.heap.size w wr)/\Aside0 (∀ j,j<k->16<=(h.getD j zH).1/\(h.getD j zH).1<lines)/\Aside0 (∀ i j,i<j->j<k->(h.getD j zH).1≠(h.getD i zH).1)) (fun i _=>n-(intOf i).toNat)
 case atStart=>exact⟨0,rfl,by omega,HM,HB,⟨fun j hj=>by omega⟩,⟨fun i j _ hj=>by omega⟩⟩
 case round =>
  clear HM HB;obtain⟨k,rfl,hk,HM,HB,H1,H2⟩:=hrel;by_cases hlt:k<n
  ·obtain⟨g,ea,h8,hx⟩:=homeAt (Kd.R_below HR.out HB.out) HN.out k hlt;subst ea;have HX:=am hx;have H8:=am h8;have hxb:=HBd.out (h.getD k zH) (by rw[ax,bx (by rw[HN.out];exact hlt)];exact List.getElem_mem _);have hkey0:keyOf Tryz.prog 3 (.int .i64 (h.getD k zH).1)=some (.int .i64 (h.getD k zH).1):=keyOf_int_mk Tryz.underlying3 (WalkArith.wf_i64 (by omega));have HC:Aside0 (∃ q:Int,(q=0\/q=1)/\(qbw (H:=Unit) (fun j=>(h.getD j zH).1) k).atKey (.int .i64 (h.getD k zH).1) (.lit (.int .i64 0))=.lit (.int .i64 q)/\(q=0→∀ j,j<k->(h.getD k zH).1≠(h.getD j zH).1)/\(q=1→∃ j,j<k/\(h.getD k zH).1=(h.getD j zH).1)):=⟨by
    by_cases hs:∃ j,j<k/\(h.getD k zH).1=(h.getD j zH).1
    ·exact⟨1, .inr rfl,qh9 _ _ k hs,fun e=>by omega,fun _=>hs⟩
    ·exact⟨0, .inl rfl,qfa _ _ k (fun j hj e=>hs ⟨j,hj,e⟩),fun _ j hj e=>hs ⟨j,hj,e⟩,fun e=>by omega⟩⟩
   clear hx h8;have HSn:Aside0 (∀ v:Int,True):=⟨fun _=>trivial⟩;generalize hxx:h.getD k zH=x at HX H8 HC hkey0 hxb;have HXX:=am hxx;clear hxx;obtain⟨q,hq,hat,hq0,hq1⟩:=HC.out;have HAt:=am hat;have HQ0:=am hq0;have HQ1:=am hq1;clear hat hq0 hq1 HC;rcases hq with rfl|rfl
   ·by_cases lo:16<=x.1
    ·have d0:decide (x.1<16)=false:=ah (by omega);by_cases hi:x.1<lines
     ·have d1:decide (x.1>=lines)=false:=ah (by omega);go_wp2_with (first
       |((with_reducible refine fz (.load 151 (.tmp 13)) rfl ?_);refine bc rfl 151 (.tmp 13) rfl g (k*9) rfl (eq x) _ HX.out Tryz.underlying151 rfl (by rw[dn H8.out];exact ke) ?_)
       |((with_reducible refine bp (t:=151) (p:=7) rfl ?_);refine wpList_store_row rfl 151 (.tmp 7) (.tmp 14) rfl wr.heap.size (eq x).toArray rfl rfl 151 _ (heap_alloc_new wr _) ?hi ?ho ?h1 ?_;(case hi=>rw[List.size_toArray,dn H8.out];exact ke);(case ho=>simp[dn H8.out]);(case h1=>exact o7 _);have BX1:=am (l7 wr jj (eq x).toArray 151);have HB1:=am (jv wr jj (eq x).toArray 151);generalize (wr.alloc (.cells jj 151)).setRow wr.heap.size (eq x).toArray=w1 at BX1 HB1 ⊢;have hc0:w1.cell? ⟨wr.heap.size,0,none⟩=some (.int .i64 x.1):=(aj BX1.out 0).trans rfl;have HM1:=am (sa HM.out HB1.out))
       |(at_lookup;refine il (by rfl) ?_;dsimp only;refine wpList_lookup_own_int _ rfl _ _ 172 rfl 3 3 .i64 vr Tryz.underlying172 Tryz.underlying3 (vq _) w.heap.size (k+1) _ rfl HM2.out _ _ rfl hkey0 ?_;intro cq hcq hwc;obtain rfl:cq=1:=(by rw[atKey_put_same (mn _ k) (show WideAt.IsKeyLit (.int .i64 _)from trivial)]at hcq;simpa using hcq.symm);clear hcq hwc)
       |(at_lookup;refine wpList_lookup_own_int _ rfl _ _ 172 rfl 3 3 .i64 vr Tryz.underlying172 Tryz.underlying3 (vq _) w.heap.size k _ rfl HM1.out _ _ rfl hkey0 ?_;intro cq hcq hwc;obtain rfl:cq=0:=(by have:=HAt.out.symm.trans hcq;simpa using this.symm);clear hcq hwc)
       |(at_mapUpdate;refine wpList_mapUpdate_own _ rfl _ _ _ 172 rfl 3 3 vr Tryz.underlying172 _ w.heap.size k _ rfl HM1.out (by unfold maxLen;omega) _ _ _ rfl rfl hkey0 (.lit (.int .i64 1)) [] (plainElem_int Tryz.underlying3 (by decide)) ?_;intro w2 hm2 hg2;have HM2:=am hm2;have HG2:=am hg2;have BX2:Aside0 (w2.heap[wr.heap.size]? =some (.cells (eq x).toArray 151 (0,0))):=⟨(hg2.block _ (d7 BX1.out) (fun e=>by have:=HM.out.lt;injection e with e;omega)).trans BX1.out⟩;have hc2:w2.cell? ⟨wr.heap.size,0,none⟩=some (.int .i64 x.1):=(aj BX2.out 0).trans rfl;clear hm2 hg2))
      have HS1:Aside0 (w2.ownsMap Tryz.prog 3 (plainElem (H:=Unit) Tryz.prog 3) w.heap.size (k+1) (qbw (H:=Unit) (fun j=>(h.getD j zH).1) (k+1))):=⟨by
       have e:=HM2.out;rw[<-HXX.out]at e;exact e⟩
      have HBo:Aside0 (Below w.heap.size w w2):=⟨(aa HB.out HB1.out).grown HG2.out (Nat.le_trans HB.out.size HB1.out.size) (fun z hz=>by injection hz with hz;omega)⟩;have K1:Aside0 (∀ j,j<k+1->16<=(h.getD j zH).1/\(h.getD j zH).1<lines):=⟨fun j hj=>by
       by_cases e:j=k
       ·subst e;rw[HXX.out];exact⟨lo,hi⟩
       ·exact H1.out j (by omega)⟩
      have K2:Aside0 (∀ i j,i<j->j<k+1->(h.getD j zH).1≠(h.getD i zH).1):=⟨fun i j hij hj=>by
       by_cases e:j=k
       ·subst e;rw[HXX.out];exact HQ0.out rfl i hij
       ·exact H2.out i j hij (by omega)⟩
      go_roundw
      case rel=>exact⟨k+1,by go_num,by omega,HS1,HBo,K1,K2⟩
      case measure=>simp[intOf];omega
     ·have d1:decide (x.1>=lines)=true:=af (by omega);have e1:res=false:=by rw[<-HRes.out];exact qht (k:=k) (by rw[HN.out];exact hlt) (by rw[HXX.out];omega)
      subst e1;go_wp2_with (first
       |((with_reducible refine fz (.load 151 (.tmp 13)) rfl ?_);refine bc rfl 151 (.tmp 13) rfl g (k*9) rfl (eq x) _ HX.out Tryz.underlying151 rfl (by rw[dn H8.out];exact ke) ?_)
       |((with_reducible refine bp (t:=151) (p:=7) rfl ?_);refine wpList_store_row rfl 151 (.tmp 7) (.tmp 14) rfl wr.heap.size (eq x).toArray rfl rfl 151 _ (heap_alloc_new wr _) ?hi ?ho ?h1 ?_;(case hi=>rw[List.size_toArray,dn H8.out];exact ke);(case ho=>simp[dn H8.out]);(case h1=>exact o7 _);have BX1:=am (l7 wr jj (eq x).toArray 151);have HB1:=am (jv wr jj (eq x).toArray 151);generalize (wr.alloc (.cells jj 151)).setRow wr.heap.size (eq x).toArray=w1 at BX1 HB1 ⊢;have hc0:w1.cell? ⟨wr.heap.size,0,none⟩=some (.int .i64 x.1):=(aj BX1.out 0).trans rfl;have HM1:=am (sa HM.out HB1.out))
       |(at_lookup;refine il (by rfl) ?_;dsimp only;refine wpList_lookup_own_int _ rfl _ _ 172 rfl 3 3 .i64 vr Tryz.underlying172 Tryz.underlying3 (vq _) w.heap.size (k+1) _ rfl HM2.out _ _ rfl hkey0 ?_;intro cq hcq hwc;obtain rfl:cq=1:=(by rw[atKey_put_same (mn _ k) (show WideAt.IsKeyLit (.int .i64 _)from trivial)]at hcq;simpa using hcq.symm);clear hcq hwc)
       |(at_lookup;refine wpList_lookup_own_int _ rfl _ _ 172 rfl 3 3 .i64 vr Tryz.underlying172 Tryz.underlying3 (vq _) w.heap.size k _ rfl HM1.out _ _ rfl hkey0 ?_;intro cq hcq hwc;obtain rfl:cq=0:=(by have:=HAt.out.symm.trans hcq;simpa using this.symm);clear hcq hwc)
       |(at_mapUpdate;refine wpList_mapUpdate_own _ rfl _ _ _ 172 rfl 3 3 vr Tryz.underlying172 _ w.heap.size k _ rfl HM1.out (by unfold maxLen;omega) _ _ _ rfl rfl hkey0 (.lit (.int .i64 1)) [] (plainElem_int Tryz.underlying3 (by decide)) ?_;intro w2 hm2 hg2;have HM2:=am hm2;have HG2:=am hg2;have BX2:Aside0 (w2.heap[wr.heap.size]? =some (.cells (eq x).toArray 151 (0,0))):=⟨(hg2.block _ (d7 BX1.out) (fun e=>by have:=HM.out.lt;injection e with e;omega)).trans BX1.out⟩;have hc2:w2.cell? ⟨wr.heap.size,0,none⟩=some (.int .i64 x.1):=(aj BX2.out 0).trans rfl;clear hm2 hg2))
      go_ret;have HBo:=aa HB.out HB1.out;exact⟨rfl,HBo.grown HG2.out (Nat.le_trans HB.out.size (HB1.out.size)) (fun z hz=>by injection hz with hz;omega)⟩
    ·have d0:decide (x.1<16)=true:=af (by omega);have e1:res=false:=by rw[<-HRes.out];exact qht (k:=k) (by rw[HN.out];exact hlt) (by rw[HXX.out];omega)
     subst e1;go_wp2_with (first
      |((with_reducible refine fz (.load 151 (.tmp 13)) rfl ?_);refine bc rfl 151 (.tmp 13) rfl g (k*9) rfl (eq x) _ HX.out Tryz.underlying151 rfl (by rw[dn H8.out];exact ke) ?_)
      |((with_reducible refine bp (t:=151) (p:=7) rfl ?_);refine wpList_store_row rfl 151 (.tmp 7) (.tmp 14) rfl wr.heap.size (eq x).toArray rfl rfl 151 _ (heap_alloc_new wr _) ?hi ?ho ?h1 ?_;(case hi=>rw[List.size_toArray,dn H8.out];exact ke);(case ho=>simp[dn H8.out]);(case h1=>exact o7 _);have BX1:=am (l7 wr jj (eq x).toArray 151);have HB1:=am (jv wr jj (eq x).toArray 151);generalize (wr.alloc (.cells jj 151)).setRow wr.heap.size (eq x).toArray=w1 at BX1 HB1 ⊢;have hc0:w1.cell? ⟨wr.heap.size,0,none⟩=some (.int .i64 x.1):=(aj BX1.out 0).trans rfl;have HM1:=am (sa HM.out HB1.out))
      |(at_lookup;refine il (by rfl) ?_;dsimp only;refine wpList_lookup_own_int _ rfl _ _ 172 rfl 3 3 .i64 vr Tryz.underlying172 Tryz.underlying3 (vq _) w.heap.size (k+1) _ rfl HM2.out _ _ rfl hkey0 ?_;intro cq hcq hwc;obtain rfl:cq=1:=(by rw[atKey_put_same (mn _ k) (show WideAt.IsKeyLit (.int .i64 _)from trivial)]at hcq;simpa using hcq.symm);clear hcq hwc)
      |(at_lookup;refine wpList_lookup_own_int _ rfl _ _ 172 rfl 3 3 .i64 vr Tryz.underlying172 Tryz.underlying3 (vq _) w.heap.size k _ rfl HM1.out _ _ rfl hkey0 ?_;intro cq hcq hwc;obtain rfl:cq=0:=(by have:=HAt.out.symm.trans hcq;simpa using this.symm);clear hcq hwc)
      |(at_mapUpdate;refine wpList_mapUpdate_own _ rfl _ _ _ 172 rfl 3 3 vr Tryz.underlying172 _ w.heap.size k _ rfl HM1.out (by unfold maxLen;omega) _ _ _ rfl rfl hkey0 (.lit (.int .i64 1)) [] (plainElem_int Tryz.underlying3 (by decide)) ?_;intro w2 hm2 hg2;have HM2:=am hm2;have HG2:=am hg2;have BX2:Aside0 (w2.heap[wr.heap.size]? =some (.cells (eq x).toArray 151 (0,0))):=⟨(hg2.block _ (d7 BX1.out) (fun e=>by have:=HM.out.lt;injection e with e;omega)).trans BX1.out⟩;have hc2:w2.cell? ⟨wr.heap.size,0,none⟩=some (.int .i64 x.1):=(aj BX2.out 0).trans rfl;clear hm2 hg2))
     go_ret;have HBo:=aa HB.out HB1.out;exact⟨rfl,HBo.grown HG2.out (Nat.le_trans HB.out.size (HB1.out.size)) (fun z hz=>by injection hz with hz;omega)⟩
   ·obtain⟨jd,hjd,ejd⟩:=HQ1.out rfl;have HJ:=am ejd;clear ejd;have e1:res=false:=by rw[<-HRes.out];exact qnd (j:=jd) (k:=k) (by rw[HN.out];exact hlt) hjd (by rw[HXX.out];exact HJ.out)
    subst e1;by_cases lo:16<=x.1
    ·have d0:decide (x.1<16)=false:=ah (by omega);by_cases hi:x.1<lines
     ·have d1:decide (x.1>=lines)=false:=ah (by omega);go_wp2_with (first
       |((with_reducible refine fz (.load 151 (.tmp 13)) rfl ?_);refine bc rfl 151 (.tmp 13) rfl g (k*9) rfl (eq x) _ HX.out Tryz.underlying151 rfl (by rw[dn H8.out];exact ke) ?_)
       |((with_reducible refine bp (t:=151) (p:=7) rfl ?_);refine wpList_store_row rfl 151 (.tmp 7) (.tmp 14) rfl wr.heap.size (eq x).toArray rfl rfl 151 _ (heap_alloc_new wr _) ?hi ?ho ?h1 ?_;(case hi=>rw[List.size_toArray,dn H8.out];exact ke);(case ho=>simp[dn H8.out]);(case h1=>exact o7 _);have BX1:=am (l7 wr jj (eq x).toArray 151);have HB1:=am (jv wr jj (eq x).toArray 151);generalize (wr.alloc (.cells jj 151)).setRow wr.heap.size (eq x).toArray=w1 at BX1 HB1 ⊢;have hc0:w1.cell? ⟨wr.heap.size,0,none⟩=some (.int .i64 x.1):=(aj BX1.out 0).trans rfl;have HM1:=am (sa HM.out HB1.out))
       |(at_lookup;refine il (by rfl) ?_;dsimp only;refine wpList_lookup_own_int _ rfl _ _ 172 rfl 3 3 .i64 vr Tryz.underlying172 Tryz.underlying3 (vq _) w.heap.size (k+1) _ rfl HM2.out _ _ rfl hkey0 ?_;intro cq hcq hwc;obtain rfl:cq=2:=(by rw[atKey_put_same (mn _ k) (show WideAt.IsKeyLit (.int .i64 _)from trivial)]at hcq;simpa using hcq.symm);clear hcq hwc)
       |(at_lookup;refine wpList_lookup_own_int _ rfl _ _ 172 rfl 3 3 .i64 vr Tryz.underlying172 Tryz.underlying3 (vq _) w.heap.size k _ rfl HM1.out _ _ rfl hkey0 ?_;intro cq hcq hwc;obtain rfl:cq=1:=(by have:=HAt.out.symm.trans hcq;simpa using this.symm);clear hcq hwc)
       |(at_mapUpdate;refine wpList_mapUpdate_own _ rfl _ _ _ 172 rfl 3 3 vr Tryz.underlying172 _ w.heap.size k _ rfl HM1.out (by unfold maxLen;omega) _ _ _ rfl rfl hkey0 (.lit (.int .i64 2)) [] (plainElem_int Tryz.underlying3 (by decide)) ?_;intro w2 hm2 hg2;have HM2:=am hm2;have HG2:=am hg2;have BX2:Aside0 (w2.heap[wr.heap.size]? =some (.cells (eq x).toArray 151 (0,0))):=⟨(hg2.block _ (d7 BX1.out) (fun e=>by have:=HM.out.lt;injection e with e;omega)).trans BX1.out⟩;have hc2:w2.cell? ⟨wr.heap.size,0,none⟩=some (.int .i64 x.1):=(aj BX2.out 0).trans rfl;clear hm2 hg2))
      go_ret;have HBo:=aa HB.out HB1.out;exact⟨rfl,HBo.grown HG2.out (Nat.le_trans HB.out.size (HB1.out.size)) (fun z hz=>by injection hz with hz;omega)⟩
     ·have d1:decide (x.1>=lines)=true:=af (by omega);go_wp2_with (first
       |((with_reducible refine fz (.load 151 (.tmp 13)) rfl ?_);refine bc rfl 151 (.tmp 13) rfl g (k*9) rfl (eq x) _ HX.out Tryz.underlying151 rfl (by rw[dn H8.out];exact ke) ?_)
       |((with_reducible refine bp (t:=151) (p:=7) rfl ?_);refine wpList_store_row rfl 151 (.tmp 7) (.tmp 14) rfl wr.heap.size (eq x).toArray rfl rfl 151 _ (heap_alloc_new wr _) ?hi ?ho ?h1 ?_;(case hi=>rw[List.size_toArray,dn H8.out];exact ke);(case ho=>simp[dn H8.out]);(case h1=>exact o7 _);have BX1:=am (l7 wr jj (eq x).toArray 151);have HB1:=am (jv wr jj (eq x).toArray 151);generalize (wr.alloc (.cells jj 151)).setRow wr.heap.size (eq x).toArray=w1 at BX1 HB1 ⊢;have hc0:w1.cell? ⟨wr.heap.size,0,none⟩=some (.int .i64 x.1):=(aj BX1.out 0).trans rfl;have HM1:=am (sa HM.out HB1.out))
       |(at_lookup;refine il (by rfl) ?_;dsimp only;refine wpList_lookup_own_int _ rfl _ _ 172 rfl 3 3 .i64 vr Tryz.underlying172 Tryz.underlying3 (vq _) w.heap.size (k+1) _ rfl HM2.out _ _ rfl hkey0 ?_;intro cq hcq hwc;obtain rfl:cq=2:=(by rw[atKey_put_same (mn _ k) (show WideAt.IsKeyLit (.int .i64 _)from trivial)]at hcq;simpa using hcq.symm);clear hcq hwc)
       |(at_lookup;refine wpList_lookup_own_int _ rfl _ _ 172 rfl 3 3 .i64 vr Tryz.underlying172 Tryz.underlying3 (vq _) w.heap.size k _ rfl HM1.out _ _ rfl hkey0 ?_;intro cq hcq hwc;obtain rfl:cq=1:=(by have:=HAt.out.symm.trans hcq;simpa using this.symm);clear hcq hwc)
       |(at_mapUpdate;refine wpList_mapUpdate_own _ rfl _ _ _ 172 rfl 3 3 vr Tryz.underlying172 _ w.heap.size k _ rfl HM1.out (by unfold maxLen;omega) _ _ _ rfl rfl hkey0 (.lit (.int .i64 2)) [] (plainElem_int Tryz.underlying3 (by decide)) ?_;intro w2 hm2 hg2;have HM2:=am hm2;have HG2:=am hg2;have BX2:Aside0 (w2.heap[wr.heap.size]? =some (.cells (eq x).toArray 151 (0,0))):=⟨(hg2.block _ (d7 BX1.out) (fun e=>by have:=HM.out.lt;injection e with e;omega)).trans BX1.out⟩;have hc2:w2.cell? ⟨wr.heap.size,0,none⟩=some (.int .i64 x.1):=(aj BX2.out 0).trans rfl;clear hm2 hg2))
      go_ret;have HBo:=aa HB.out HB1.out;exact⟨rfl,HBo.grown HG2.out (Nat.le_trans HB.out.size (HB1.out.size)) (fun z hz=>by injection hz with hz;omega)⟩
    ·have d0:decide (x.1<16)=true:=af (by omega);go_wp2_with (first
      |((with_reducible refine fz (.load 151 (.tmp 13)) rfl ?_);refine bc rfl 151 (.tmp 13) rfl g (k*9) rfl (eq x) _ HX.out Tryz.underlying151 rfl (by rw[dn H8.out];exact ke) ?_)
      |((with_reducible refine bp (t:=151) (p:=7) rfl ?_);refine wpList_store_row rfl 151 (.tmp 7) (.tmp 14) rfl wr.heap.size (eq x).toArray rfl rfl 151 _ (heap_alloc_new wr _) ?hi ?ho ?h1 ?_;(case hi=>rw[List.size_toArray,dn H8.out];exact ke);(case ho=>simp[dn H8.out]);(case h1=>exact o7 _);have BX1:=am (l7 wr jj (eq x).toArray 151);have HB1:=am (jv wr jj (eq x).toArray 151);generalize (wr.alloc (.cells jj 151)).setRow wr.heap.size (eq x).toArray=w1 at BX1 HB1 ⊢;have hc0:w1.cell? ⟨wr.heap.size,0,none⟩=some (.int .i64 x.1):=(aj BX1.out 0).trans rfl;have HM1:=am (sa HM.out HB1.out))
      |(at_lookup;refine il (by rfl) ?_;dsimp only;refine wpList_lookup_own_int _ rfl _ _ 172 rfl 3 3 .i64 vr Tryz.underlying172 Tryz.underlying3 (vq _) w.heap.size (k+1) _ rfl HM2.out _ _ rfl hkey0 ?_;intro cq hcq hwc;obtain rfl:cq=2:=(by rw[atKey_put_same (mn _ k) (show WideAt.IsKeyLit (.int .i64 _)from trivial)]at hcq;simpa using hcq.symm);clear hcq hwc)
      |(at_lookup;refine wpList_lookup_own_int _ rfl _ _ 172 rfl 3 3 .i64 vr Tryz.underlying172 Tryz.underlying3 (vq _) w.heap.size k _ rfl HM1.out _ _ rfl hkey0 ?_;intro cq hcq hwc;obtain rfl:cq=1:=(by have:=HAt.out.symm.trans hcq;simpa using this.symm);clear hcq hwc)
      |(at_mapUpdate;refine wpList_mapUpdate_own _ rfl _ _ _ 172 rfl 3 3 vr Tryz.underlying172 _ w.heap.size k _ rfl HM1.out (by unfold maxLen;omega) _ _ _ rfl rfl hkey0 (.lit (.int .i64 2)) [] (plainElem_int Tryz.underlying3 (by decide)) ?_;intro w2 hm2 hg2;have HM2:=am hm2;have HG2:=am hg2;have BX2:Aside0 (w2.heap[wr.heap.size]? =some (.cells (eq x).toArray 151 (0,0))):=⟨(hg2.block _ (d7 BX1.out) (fun e=>by have:=HM.out.lt;injection e with e;omega)).trans BX1.out⟩;have hc2:w2.cell? ⟨wr.heap.size,0,none⟩=some (.int .i64 x.1):=(aj BX2.out 0).trans rfl;clear hm2 hg2))
     go_ret;have HBo:=aa HB.out HB1.out;exact⟨rfl,HBo.grown HG2.out (Nat.le_trans HB.out.size (HB1.out.size)) (fun z hz=>by injection hz with hz;omega)⟩
  ·have hkn:k=n:=by omega
   subst hkn;have e1:res=(decide (lines>=16)&&decide ((k:Int)>=1)&&decide ((k:Int)<=14)):=by rw[<-HRes.out,qnc (fun j hj=>H1.out j (by rw[HN.out]at hj;exact hj)) (fun i j hij hj=>H2.out i j hij (by rw[HN.out]at hj;exact hj)),HN.out]
   have E1:=am e1;clear e1;by_cases l16:lines>=16
   ·have d0:decide (lines>=16)=true:=af l16;by_cases k1:(k:Int)>=1
    ·have d1:decide ((k:Int)>=1)=true:=af k1;go_wp2;go_ret;rw[E1.out,d0,d1];exact⟨by first|rfl|simp,HB.out⟩
    ·have d1:decide ((k:Int)>=1)=false:=ah k1;go_wp2;go_ret;rw[E1.out,d0,d1];exact⟨by first|rfl|simp,HB.out⟩
   ·have d0:decide (lines>=16)=false:=ah l16;go_wp2;go_ret;rw[E1.out,d0];exact⟨by first|rfl|simp,HB.out⟩
def j7(w:World)(G M T:Nat):Prop:=w.heap[G]? =some (.cells #[.pointer (some ⟨M,0,none⟩), .pointer (some ⟨T,0,none⟩)] 129 (0,0))
theorem j7.kept{w w':World}{G M T:Nat}{S:Nat->Prop}(h:j7 w G M T)(k:aq S w w')(hS:¬ S G):j7 w' G M T:=aq.of k h hS
theorem j7.below{w w':World}{G M T:Nat}(h:j7 w G M T)(hb:Below w.heap.size w w'):j7 w' G M T:=h.kept (aq.of_below (S:=fun _=>False) hb) id
theorem j7.g0{w:World}{G M T:Nat}(h:j7 w G M T):w.cell? ⟨G,0,none⟩=some (.pointer (some ⟨M,0,none⟩)):=(aj h 0).trans rfl
theorem j7.g1{w:World}{G M T:Nat}(h:j7 w G M T):w.cell? ⟨G,1,none⟩=some (.pointer (some ⟨T,0,none⟩)):=(aj h 1).trans rfl
namespace Lg
def count(m:Mem):Int:=m.regs.getD 1 0
def idx(n:Int):Int:=(n+7) / 8
def homeAt(s:Shape)(m:Mem)(i:Nat):jw:=
 (if(Trn.get s m ((i:Int) / 8)).1.getD (i % 8) 0<s.n then(Trn.get s m ((i:Int) / 8)).1.getD (i % 8) 0 else-1,(Trn.get s m (idx (count m)+i)).1)
def homesTo(s:Shape)(m:Mem)(k:Nat):List jw:=(List.range k).map (homeAt s m)
def homes(s:Shape)(m:Mem):List jw×Int:=if m.down then([],2)else(homesTo s m (count m).toNat,0)
def Rd(s:Shape)(m:Mem):Prop:=∀ line,0<=line->line<s.n->(Trn.get s m line).2=0∧∀ x∈(Trn.get s m line).1,0<=x/\x<=18446744073709551615
end Lg
theorem qaa(s:Shape)(m:Mem)(k:Nat):Lg.homesTo s m (k+1)=Lg.homesTo s m k++[Lg.homeAt s m k]:=by simp[Lg.homesTo,List.range_succ]
theorem sh(s:Shape)(m:Mem)(k:Nat):(Lg.homesTo s m k).length=k:=by simp[Lg.homesTo]
theorem qho{n:Int}(h0:0<=n)(h1:n<=1000):pa.f n=some (Lg.idx n):=by
 unfold pa.f Lg.idx;rw[w64 (n:=n+8) (by omega),w64 (n:=n+8-1) (by omega),qds (by omega),w64 (n:=(n+8-1) / 8) (by omega)];congr 2;omega
theorem ol{w:World}{M C L T:Nat}{s:Shape}{m:Mem}{puts:Int}(h:TurnAt w M C L T s m puts)(line:Int):(Trn.get s m line).1.length=8:=by
 unfold Trn.get;split
 ·rfl
 ·exact wm h.mem _ _ _
section
variable{w:World}{M C L T G:Nat}{s:Shape}{m:Mem}{puts:Int}
theorem th(h:MemAt w M C m)(hG:j7 w G M T):Calls Tryz.prog 60 #[.pointer (some ⟨G,0,none⟩)] w fun e w'=>e=.returned (.bool ((Nvm.reg m 1).1 != 0))/\w=w':=by
 have H:=am h;have g0:=hG.g0;clear h hG;generalize hr:Nvm.reg m 1=r;have HR:=am hr;clear hr;go_enter Tryz.func60,Tryz.ntmps60;go_wp2_with (first|(go_at_call 35;(with_reducible refine(kz H.out 1).mono ?_);rintro e w1 ⟨rfl,rfl⟩;rw[HR.out]))
 go_ret;exact⟨rfl,rfl⟩
theorem yv(h:TurnAt w M C L T s m puts)(hn:17<=s.n):Calls Tryz.prog 43 #[.pointer (some ⟨M,0,none⟩), .pointer (some ⟨T,0,none⟩)] w fun e w'=>∃ G,e=.returned (.pointer (some ⟨G,0,none⟩))/\j7 w' G M T/\w.heap.size<=G/\Below w.heap.size w w':=by
 have H:=am h;have d0:decide (s.n<=16)=false:=ah (by omega);clear h;go_enter Tryz.func43,Tryz.ntmps43;go_wp2_with (first|(go_at_call 90;(with_reducible refine(gn H.out).mono ?_);rintro e w1 ⟨rfl,rfl⟩))
 go_ret;exact⟨w.heap.size,rfl,heap_alloc_new w _,an _,(ai _ _).alloc (an _) _⟩
theorem tr{ops:Array Oper}{rest:List Oper}{o:Oper}{a:Act}{w:World}{Q:Exit->Act->World->Prop}(hg:o.guard=none)(t:TypeId)(i j:Nat)(x y:Operand)(ho:o.op=.build t #[(i,x),(j,y)])(u v:Value)(hx:a.eval x=u)(hy:a.eval y=v)(cells:Array Value)(hb:Tryz.prog.built t [(i,u),(j,v)]=some cells)
  (h:wpList Tryz.prog ops Q rest (a.put o.dst (.agg cells)) w):wpList Tryz.prog ops Q (o::rest) a w:=
 q9 hg t _ ho [(i,u),(j,v)] cells (by subst hx hy;simp) hb h
theorem qbi (h : TurnAt w M C L T s m puts) (hG : j7 w G M T) (hn : 17 ≤ s.n) (hrd : m.down = false → Lg.Rd s m) (hc : Lg.count m ≤ 14) : Calls Tryz.prog 91 #[.pointer (some ⟨G, 0, none⟩)] w fun e w' => ∃ v, e = .returned (.tuple #[v, .int .i64 (Lg.homes s m).2]) ∧ Kd.R ym 151 w' w.heap.size (fun _ => True) v (Lg.homes s m).1 ∧ Below w.heap.size w w' := by
 have H:=am h;have HG:=am hG;have g0:=hG.g0;have hc0:0<=Lg.count m:=(h.regs.get 1).1;have hn2:=h.ok.n2;clear h hG;cases hd:m.down
 ·have HRd := am (hrd hd);have E := am (show Lg.homes s m = (Lg.homesTo s m (Lg.count m).toNat, 0) by unfold Lg.homes; rw [hd]; rfl);have ER := am (show Nvm.reg m 1 = (Lg.count m, 0) by unfold Nvm.reg Lg.count; rw [hd]; rfl);clear hrd hd;rw [E.out];generalize hcm : Lg.count m = cm at hc hc0 ER ⊢;have HCM := am hcm;clear hcm;have HIdx := am (qho hc0 (show cm ≤ 1000 by omega));have hix : 0 ≤ Lg.idx cm ∧ Lg.idx cm ≤ 2 := by unfold Lg.idx; omega
  have d14:decide (cm>14)=false:=ah (by omega);have W:=am (show IntKind.i64.wrap cm=cm by rw[IntKind.wrap_i64];omega);have W2:=am (show wrap64 cm=cm by unfold wrap64;omega);have HB:=am (ai w.heap.size w);go_enter Tryz.func91,Tryz.ntmps91;go_wp2_with (first|(go_at_call 35;(with_reducible refine(kz H.out.mem 1).mono ?_);rintro e w1 ⟨rfl,rfl⟩;rw[ER.out]))
  clear g0 d14;go_loopw [6,30] (fun v i wr=>∃ k:Nat,i=.int .i64 k/\k<=cm.toNat/\Aside0 (Kd.R ym 151 wr w.heap.size (fun _=>True) v (Lg.homesTo s m k))/\Aside0 (Below w.heap.size w wr)) (fun _ i _=>cm.toNat-(intOf i).toNat)
  case atStart=>exact⟨0,rfl,by omega,⟨Kd.R_nil _ _ _ _ _⟩,HB⟩
  case round =>
   clear HB;obtain⟨k,rfl,hk,HO,HB⟩:=hrel;by_cases hlt:k<cm.toNat
   ·have hlt2:(k:Int)<cm:=by omega
    have H1:=am (H.out.below HB.out);have HG1:=am (HG.out.below HB.out);have g1:=HG1.out.g1;have ha:=HRd.out ((k:Int) / 8) (by omega) (by omega);have HAL:=am (ol H.out ((k:Int) / 8));generalize hag:Trn.get s m ((k:Int) / 8)=ag at ha HAL;have HAG:=am hag;clear hag;obtain⟨al,ae⟩:=ag;obtain⟨ha0,ha1⟩:=ha;have HA1:=am ha1;simp only[]at ha0;subst ha0;clear ha1;go_wp2_with (first
     |(go_at_call 39;(with_reducible refine(nu H1.out (line:=(k:Int) / 8) (by omega) (by omega)).mono ?_);rintro e w2 ⟨rfl,hb2⟩;rw[HAG.out];have HB2:=am hb2;clear hb2)
     |((with_reducible refine bp (t:=73) (p:=8) rfl ?_);refine wpList_store_row rfl 73 (.tmp 8) (.tmp 41) rfl w2.heap.size (br al).toArray rfl rfl 73 _ (heap_alloc_new w2 _) ?hi ?ho ?h1 ?_;(case hi=>rw[List.size_toArray,au,HAL.out];exact ez);(case ho=>simp[au,HAL.out]);(case h1=>exact zy _);have BX8:=am (l7 w2 ct (br al).toArray 73);have HB3:=am (aa HB2.out (jv w2 ct (br al).toArray 73));have hb8:=HB2.out.size;generalize hg8:w2.heap.size=g8 at BX8 HB3 hb8 ⊢;generalize (w2.alloc (.cells ct 73)).setRow g8 (br al).toArray=w3 at BX8 HB3 ⊢;clear HB2 hg8))
    have hd0:=HRd.out (Lg.idx cm+(k:Int)) (by omega) (by omega);have HDL:=am (ol H.out (Lg.idx cm+(k:Int)));generalize hdg:Trn.get s m (Lg.idx cm+(k:Int))=dg at hd0 HDL;have HDG:=am hdg;clear hdg;obtain⟨dl,de⟩:=dg;obtain⟨hd0,_⟩:=hd0;simp only[]at hd0;subst hd0;have hw55:Aside0 (wrap64 (Lg.idx cm+(k:Int))=Lg.idx cm+k):=⟨by unfold wrap64;omega⟩;have H3:=am (H1.out.below HB3.out);have HG3:=am (HG1.out.below HB3.out);refine dj (n:=16) (S:=fun w'=>w'.cell? ⟨G,1,none⟩=some (.pointer (some ⟨T,0,none⟩))) (ds:=[]) (onA 16 0) (by kernel_rfl) rfl rfl HG3.out.g1 (fun hHeld=>?_);refine pu 0 (some 47) (bA 16 1) (h:=?_);refine pu 1 (some 48) (bA 16 3) (h:=?_);refine pu 2 (some 49) (bA 16 7) (h:=?_);refine pu 4 (some 51) (bA 16 23) (h:=?_);refine pu 5 (some 52) (bA 16 55) (h:=?_);refine pu 7 (some 54) (bA 16 183) (h:=?_);refine tv 3 (some 50) (bA 16 191) rfl hHeld (fun w' hs=>aw 79 (.tmp 49) rfl G 1 _ rfl hs _ Tryz.underlying79 rfl) (h:=?_);clear hHeld;have H4:=am H3.out.drew;have HG4:Aside0 (j7 w3.drew G M T):=⟨HG3.out.below (us (ai _ _))⟩;have HB4:=am (bg HB3.out);have BX84:Aside0 (w3.drew.heap[g8]? =some (.cells (br al).toArray 73 (0,0))):=⟨dp BX8.out⟩;clear H3 HG3 HB3 BX8;generalize w3.drew=w4 at H4 HG4 HB4 BX84 ⊢;refine qkc (σ:=Nat) 2 (bA 16 16383) (fun b=>[(52, .int .i64 cm),(53, .int .i64 (Lg.idx cm)),(55, .int .i64 (Lg.idx cm+(k:Int))),(56, .tuple #[iw dl, .int .i64 0]),(46, .tuple #[iw dl, .int .i64 0]),(57,iw dl),(58, .int .i64 0),(10, .pointer (some ⟨b,0,none⟩))]) (fun b w'=>Below w4.heap.size w4 w'∧w'.heap[b]? =some (.cells ct 73 (0,0))/\w4.heap.size<=b) ?_ ?_;rotate_left
    ·intro hCont;have hb_0:=ai w4.heap.size w4;refine qgo (i:=6) (j:=13) (Ni:=some 53) (Nj:=some 10) (bA 16 255) (bA 16 8383) rfl rfl rfl rfl (by kernel_rfl) (by decide) (by decide) (fun K hK=>?_) (fun K hK=>?_)
     ·skip
      first
       |refine fv Tryz.func135 (by kernel_rfl) rfl #[.int .i64 (wrap64 cm)] (by rfl) rfl rfl (by simp only[List.map_toArray,List.map_cons,List.map_nil];first|rfl|(simp only[bu];rfl)) ?_
      rw[W2.out];refine(pa.calls cm (Lg.idx cm) _ HIdx.out).mono ?_;rintro e w' ⟨rfl,⟨nd1,rfl⟩⟩;have hb_2:=bq hb_0 nd1;refine⟨_,rfl,?_⟩;refine hK.out _ _ (HG4.out.below hb_2).g1 (fun hHeld=>?_);clear hK K;refine nm ?_;refine pu 8 (some 55) (bA 16 511) (h:=?_);refine qgo (i:=9) (j:=13) (Ni:=some 56) (Nj:=some 10) (bA 16 1023) (bA 16 8703) rfl rfl rfl rfl (by kernel_rfl) (by decide) (by decide) (fun K hK=>?_) (fun K hK=>?_)
      ·skip
       first
        |refine fv Tryz.func39 (by kernel_rfl) rfl #[.pointer (some ⟨T,0,none⟩), .int .i64 (wrap64 (Lg.idx cm+(k:Int)))] (by rfl) rfl rfl (by simp only[List.map_toArray,List.map_cons,List.map_nil];first|rfl|(simp only[bu];rfl)) ?_
       rw[hw55.out];refine(nu (H4.out.below hb_2) (line:=Lg.idx cm+(k:Int)) (by omega) (by omega)).mono ?_;rintro e w_3 ⟨rfl,hc_4⟩;have hb_5:=aa hb_2 hc_4;rw[HDG.out];refine⟨_,rfl,?_⟩;refine hK.out _ _ (HG4.out.below hb_5).g1 (fun hHeld=>?_);clear hK K;refine nm ?_;refine pu 10 (some 46) (bA 16 2047) (h:=?_);refine pu 11 (some 57) (bA 16 4095) (h:=?_);refine pu 12 (some 58) (bA 16 8191) (h:=?_);refine ip (i:=13) (N:=some 10) (bA 16 16383) rfl rfl (by kernel_rfl) (by decide) (fun K hK=>?_);refine jt (w1:=w_3.alloc (.cells ct 73)) (v:=.pointer (some ⟨w_3.heap.size,0,none⟩)) (by rfl) rfl ?_ ?_
       ·first|(go_simp;done)|(go_simp;rfl)
       have bx_6:=heap_alloc_new w_3 (.cells ct 73);have hg_8:=hb_5.size;have hb_7:=aa hb_5 ((ai _ _).alloc (an _) (.cells ct 73));refine hK.out _ _ (HG4.out.below hb_7).g1 (fun hHeld=>?_);clear hK K;refine nm ?_;exact mq (by simp only[ly,Act.put,List.setIfInBounds_toArray,List.set_cons_zero,List.set_cons_succ,bu] <;> rfl) (hCont w_3.heap.size _ ⟨hb_7,bx_6,hg_8⟩)
      ·skip;refine jt (w1:=(w4.drewN nd1).alloc (.cells ct 73)) (v:=.pointer (some ⟨(w4.drewN nd1).heap.size,0,none⟩)) (by rfl) rfl ?_ ?_
       ·first|(go_simp;done)|(go_simp;rfl)
       have bx_9:=heap_alloc_new (w4.drewN nd1) (.cells ct 73);have hg_11:=hb_2.size;have hb_10:=aa hb_2 ((ai _ _).alloc (an _) (.cells ct 73));refine hK.out _ _ (HG4.out.below hb_10).g1 (fun hHeld=>?_);clear hK K;refine nm ?_;refine ip (i:=9) (N:=some 56) (bA 16 9215) rfl rfl (by kernel_rfl) (by decide) (fun K hK=>?_)
       first
        |refine fv Tryz.func39 (by kernel_rfl) rfl #[.pointer (some ⟨T,0,none⟩), .int .i64 (wrap64 (Lg.idx cm+(k:Int)))] (by rfl) rfl rfl (by simp only[List.map_toArray,List.map_cons,List.map_nil];first|rfl|(simp only[bu];rfl)) ?_
       rw[hw55.out];refine(nu (H4.out.below hb_10) (line:=Lg.idx cm+(k:Int)) (by omega) (by omega)).mono ?_;rintro e w_12 ⟨rfl,hc_13⟩;have hb_14:=aa hb_10 hc_13;rw[HDG.out];have bx_15:=ap bx_9 hc_13;refine⟨_,rfl,?_⟩;refine hK.out _ _ (HG4.out.below hb_14).g1 (fun hHeld=>?_);clear hK K;refine nm ?_;refine pu 10 (some 46) (bA 16 10239) (h:=?_);refine pu 11 (some 57) (bA 16 12287) (h:=?_);refine pu 12 (some 58) (bA 16 16383) (h:=?_);exact mq (by simp only[ly,Act.put,List.setIfInBounds_toArray,List.set_cons_zero,List.set_cons_succ,bu] <;> rfl) (hCont (w4.drewN nd1).heap.size _ ⟨hb_14,bx_15,hg_11⟩)
     ·skip;refine jt (w1:=w4.alloc (.cells ct 73)) (v:=.pointer (some ⟨w4.heap.size,0,none⟩)) (by rfl) rfl ?_ ?_
      ·first|(go_simp;done)|(go_simp;rfl)
      have bx_17:=heap_alloc_new w4 (.cells ct 73);have hg_19:=hb_0.size;have hb_18:=aa hb_0 ((ai _ _).alloc (an _) (.cells ct 73));refine hK.out _ _ (HG4.out.below hb_18).g1 (fun hHeld=>?_);clear hK K;refine nm ?_;refine ip (i:=6) (N:=some 53) (bA 16 8447) rfl rfl (by kernel_rfl) (by decide) (fun K hK=>?_)
      first
       |refine fv Tryz.func135 (by kernel_rfl) rfl #[.int .i64 (wrap64 cm)] (by rfl) rfl rfl (by simp only[List.map_toArray,List.map_cons,List.map_nil];first|rfl|(simp only[bu];rfl)) ?_
      rw[W2.out];refine(pa.calls cm (Lg.idx cm) _ HIdx.out).mono ?_;rintro e w' ⟨rfl,⟨nd20,rfl⟩⟩;have hb_21:=bq hb_18 nd20;have bx_22:=ap bx_17 (bq (ai _ _) nd20);refine⟨_,rfl,?_⟩;refine hK.out _ _ (HG4.out.below hb_21).g1 (fun hHeld=>?_);clear hK K;refine nm ?_;refine pu 8 (some 55) (bA 16 8703) (h:=?_);refine ip (i:=9) (N:=some 56) (bA 16 9215) rfl rfl (by kernel_rfl) (by decide) (fun K hK=>?_)
      first
       |refine fv Tryz.func39 (by kernel_rfl) rfl #[.pointer (some ⟨T,0,none⟩), .int .i64 (wrap64 (Lg.idx cm+(k:Int)))] (by rfl) rfl rfl (by simp only[List.map_toArray,List.map_cons,List.map_nil];first|rfl|(simp only[bu];rfl)) ?_
      rw[hw55.out];refine(nu (H4.out.below hb_21) (line:=Lg.idx cm+(k:Int)) (by omega) (by omega)).mono ?_;rintro e w_24 ⟨rfl,hc_25⟩;have hb_26:=aa hb_21 hc_25;rw[HDG.out];have bx_27:=ap bx_22 hc_25;refine⟨_,rfl,?_⟩;refine hK.out _ _ (HG4.out.below hb_26).g1 (fun hHeld=>?_);clear hK K;refine nm ?_;refine pu 10 (some 46) (bA 16 10239) (h:=?_);refine pu 11 (some 57) (bA 16 12287) (h:=?_);refine pu 12 (some 58) (bA 16 16383) (h:=?_);exact mq (by simp only[ly,Act.put,List.setIfInBounds_toArray,List.set_cons_zero,List.set_cons_succ,bu] <;> rfl) (hCont w4.heap.size _ ⟨hb_26,bx_27,hg_19⟩)
    intro b w5 hF;obtain⟨hb5,hbx,hbge⟩:=hF;clear H1 HG1 g1 HIdx W W2 hw55;refine mq (a':=?_) ?_ ?_;rotate_left
    ·simp only[ly,Act.put,List.setIfInBounds_toArray,List.set_cons_zero,List.set_cons_succ,bu,iu];rfl
    refine ip (i:=14) (N:=none) (bA 16 32767) rfl rfl (by kernel_rfl) (by decide) (fun K hK=>?_);refine su (by rfl) rfl (kj 73 (.tmp 10) (.tmp 57) rfl b 0 (br dl) rfl rfl 73 (br zL) hbx (by rw[au,HDL.out];exact ez) (by rw[au,HDL.out];decide) (kd _)) ?_;have hb6:Below w4.heap.size w4 (w5.setRow b (spl (br zL) 0 (br dl)).toArray):=gc hb5 hbge _;refine hK.out _ _ (HG4.out.below hb6).g1 (fun hHeld=>?_);clear hK K;refine pu 15 (some 9) (bA 16 65535) (h:=?_);refine fa (by kernel_rfl) ?_;rw[kf (br dl) (br zL) (by rw[au dl,HDL.out];rfl)]at hb6 ⊢;have H6:=am (H4.out.below hb6);have HG6:=am (HG4.out.below hb6);have HB6:=am (aa HB4.out hb6);have BX86:=am (ap BX84.out hb6);have BX10:Aside0 ((w5.setRow b (br dl).toArray).heap[b]? =some (.cells (br dl).toArray 73 (0,0))):=⟨setRow_heap _ _ _ _ _ _ hbx⟩;have hne:b≠g8:=by have:=d7 BX84.out;omega
    clear H4 HG4 HB4 BX84 hb5 hbx hb6 hHeld;generalize w5.setRow b (br dl).toArray=w6 at H6 HG6 HB6 BX86 BX10 ⊢;have g1:=HG6.out.g1;have hk8:(k:Int) % 8<8/\0<=(k:Int) % 8:=by omega
    have hc8:w6.cell? ⟨g8,((k:Int) % 8).toNat,none⟩=some (.int .u64 (al.getD (k % 8) 0)):=by rw[show((k:Int) % 8).toNat=k % 8 by omega,aj BX86.out];simp[br,bx (show k % 8<al.length by rw[HAL.out];omega)]
    have hc9:w6.cell? ⟨g8,k % 8,none⟩=some (.int .u64 (al.getD (k % 8) 0)):=by rw[<-hc8,show((k:Int) % 8).toNat=k % 8 by omega]
    have hx:=HA1.out (al.getD (k % 8) 0) (by rw[ax,bx (show k % 8<al.length by rw[HAL.out];omega)];exact List.getElem_mem _);have EH:Aside0 (Lg.homeAt s m k=(if al.getD (k % 8) 0<s.n then al.getD (k % 8) 0 else-1,dl)):=⟨by
     unfold Lg.homeAt;rw[HAG.out,HCM.out,HDG.out]⟩
    generalize al.getD (k % 8) 0=x at hc8 hc9 hx EH;have HO6:=am (Kd.R_below HO.out HB6.out);have HBW:=am (aa HB.out HB6.out);have LM:=am (sh s m k);by_cases hxn:x<s.n
    ·have d1:decide (x<s.n)=true:=af hxn;go_wp2_with (first
      |(go_at_call 90;(with_reducible refine(gn H6.out).mono ?_);rintro e w7 ⟨rfl,rfl⟩)
      |((with_reducible refine fz (.load 73 (.tmp 10)) rfl ?_);refine bc rfl 73 (.tmp 10) rfl b 0 rfl (br dl) _ (fun j v hv=>by rw[Nat.zero_add];exact bt BX10.out j v hv) Tryz.underlying73 rfl (by rw[au,HDL.out];exact ez) ?_)
      |((with_reducible refine b9 (N:=79) rfl ?_);refine tr rfl 151 0 1 (.tmp 77) (.tmp 78) rfl (.int .i64 (x)) (.agg (br dl).toArray) rfl rfl (eq (x,dl)).toArray ?hb ?_;(case hb=>exact y3 (x) dl HDL.out))
      |((with_reducible refine b9 (N:=80) rfl ?_);refine rf rfl (.tmp 79) rfl (x,dl) HDL.out rfl ?_)
      |((with_reducible refine di (b:=.append) (xs:=#[.tmp 76, .tmp 80]) rfl ?_);at_builtin;refine Kd.R_append ym (w0:=w) w.heap.size rfl (.tmp 76) (.tmp 80) 130 151 (.agg jj) 72 rfl Tryz.underlying130 qcb rfl (by decide) (by omega) _ (Lg.homesTo s m k) (x,dl) (eq (x,dl)) (fun _=>True) (fun _=>False) rfl rfl ?aP (fun _ hk=>hk.elim) ?aF HO6.out HBW.out (bk HBW.out) ?aL ?_;(case aP=>exact⟨rfl,HDL.out⟩);(case aF=>exact(fun _ _=>trivial));(case aL=>have:=LM.out;omega);intro v1 w8 ho hb hg hat;have HO8:=am ho;have HB8:=am hb;clear ho hb hg hat))
     have E8:Aside0 (Lg.homesTo s m k++[(x,dl)]=Lg.homesTo s m (k+1)):=⟨by rw[qaa,EH.out,if_pos hxn]⟩;go_roundw
     case rel=>exact⟨k+1,by go_num,by omega,⟨by rw[<-E8.out];exact HO8.out⟩,HB8⟩
     case measure=>simp[intOf];omega
    ·have d1:decide (x<s.n)=false:=ah hxn;go_wp2_with (first
      |(go_at_call 90;(with_reducible refine(gn H6.out).mono ?_);rintro e w7 ⟨rfl,rfl⟩)
      |((with_reducible refine fz (.load 73 (.tmp 10)) rfl ?_);refine bc rfl 73 (.tmp 10) rfl b 0 rfl (br dl) _ (fun j v hv=>by rw[Nat.zero_add];exact bt BX10.out j v hv) Tryz.underlying73 rfl (by rw[au,HDL.out];exact ez) ?_)
      |((with_reducible refine b9 (N:=79) rfl ?_);refine tr rfl 151 0 1 (.tmp 77) (.tmp 78) rfl (.int .i64 (-1)) (.agg (br dl).toArray) rfl rfl (eq (-1,dl)).toArray ?hb ?_;(case hb=>exact y3 (-1) dl HDL.out))
      |((with_reducible refine b9 (N:=80) rfl ?_);refine rf rfl (.tmp 79) rfl (-1,dl) HDL.out rfl ?_)
      |((with_reducible refine di (b:=.append) (xs:=#[.tmp 76, .tmp 80]) rfl ?_);at_builtin;refine Kd.R_append ym (w0:=w) w.heap.size rfl (.tmp 76) (.tmp 80) 130 151 (.agg jj) 72 rfl Tryz.underlying130 qcb rfl (by decide) (by omega) _ (Lg.homesTo s m k) (-1,dl) (eq (-1,dl)) (fun _=>True) (fun _=>False) rfl rfl ?aP (fun _ hk=>hk.elim) ?aF HO6.out HBW.out (bk HBW.out) ?aL ?_;(case aP=>exact⟨rfl,HDL.out⟩);(case aF=>exact(fun _ _=>trivial));(case aL=>have:=LM.out;omega);intro v1 w8 ho hb hg hat;have HO8:=am ho;have HB8:=am hb;clear ho hb hg hat))
     have E8:Aside0 (Lg.homesTo s m k++[(-1,dl)]=Lg.homesTo s m (k+1)):=⟨by rw[qaa,EH.out,if_neg (by omega)]⟩;go_roundw
     case rel=>exact⟨k+1,by go_num,by omega,⟨by rw[<-E8.out];exact HO8.out⟩,HB8⟩
     case measure=>simp[intOf];omega
   ·have hks:k=cm.toNat:=by omega
    subst hks;go_wp2;go_ret2;exact⟨_,rfl,HO.out,HB.out⟩
 ·have E:=am (show Lg.homes s m=([],2)by unfold Lg.homes;rw[hd];rfl);have ER:=am (show Nvm.reg m 1=(0,2)by unfold Nvm.reg;rw[hd];rfl);clear hrd hd;rw[E.out];go_enter Tryz.func91,Tryz.ntmps91;go_wp2_with (first|(go_at_call 35;(with_reducible refine(kz H.out.mem 1).mono ?_);rintro e w1 ⟨rfl,rfl⟩;rw[ER.out]))
  go_ret2;exact⟨_,rfl,Kd.R_nil _ _ _ _ _,ai _ _⟩
end
end Go.Proofs.YtmfhaliclnnbaaaGreat.Sys
