import Derived.Test.YtmfhaliclnnbaaaGreatZTopWholeM16
import Derived.Test.YtmfhaliclnnbaaaGreatZTopWholeM15
import Derived.Test.YtmfhaliclnnbaaaGreatZTopWholeM2
import Derived.Test.YtmfhaliclnnbaaaGreatZTopWholeM5
namespace Go.Proofs.YtmfhaliclnnbaaaGreat.Sys
open Go.RowKit Go.Proofs.YtmfhaliclnnbaaaGreatW.PrintWords Go.Proofs.YtmfhaliclnnbaaaGreatW.PrintLast Go.Proofs.YtmfhaliclnnbaaaGreatW.PrintMore
open Go.Proofs.YtmfhaliclnnbaaaGreat.XTopWhole Go.Proofs.YtmfhaliclnnbaaaGreat.Pl Go.Maps
set_option linter.unusedVariables false
set_option linter.unusedSimpArgs false
set_option maxRecDepth 100000
set_option maxHeartbeats 8000000
def TwR(p:Pn)(s:TS)(op:S39)(e off:Int)(bs:List Int)(s':TS):Prop:=
 (op.f0=7/\e=0/\off=0/\bs=[]/\s'=s.withMem (Nvm.cutAt s.mem op.f2 op.f3))∨
 (op.f0=8/\off=0/\bs=[]/\OpenOk p (Nvm.power s.mem)/\((Lg.recover p.shape (Nvm.power s.mem) 0).1=0->OpenOk2 p (Lg.recover p.shape (Nvm.power s.mem) 0).2.1)/\e=(Lg.recover p.shape (Nvm.power s.mem) 0).1∧
  s'=if(Lg.recover p.shape (Nvm.power s.mem) 0).1=0 then .on (Hp.opened p (Lg.recover p.shape (Nvm.power s.mem) 0).2.1 (Lg.recover p.shape (Nvm.power s.mem) 0).2.2)else .off (Lg.recover p.shape (Nvm.power s.mem) 0).2.1)∨
 (op.f0≠7/\op.f0≠8∧∃ m,s=.off m/\e=5/\off=0/\bs=[]/\s'=s)∨
 (op.f0≠7/\op.f0≠8∧∃ st st',s=.on st/\s'=.on st'∧StOk p st/\Hp.DoR p st op e off bs st')
theorem qp7:∀ q,q∈5::(Kd.int .u8).E->q≠104:=by
 intro q hq;rcases List.mem_cons.1 hq with rfl|h
 ·decide
 ·cases h
section
variable{w:World}{W M C:Nat}{p:Pn}{s s':TS}{cost:Int}{F:Nat->Prop}
theorem qi2(h:la w W M C p s cost F)(op:S39)(A:Option Addr)(c:Nat)(hbs:Kd.C (Kd.int .u8) w A op.f4.length op.f4)(hbc:op.f4.length<=c)(hp:p.Ok){e off:Int}{bs:List Int}(hr:TwR p s op e off bs s'):Calls Tryz.prog 63 #[.pointer (some ⟨W,0,none⟩), .agg (opV op A c).toArray] w (qbb w W M C p cost F e off bs s'):=by
 rcases hr with⟨hk,rfl,rfl,rfl,rfl⟩|⟨hk,rfl,rfl,ho,hO2,rfl,rfl⟩|⟨h7,h8,m,rfl,rfl,rfl,rfl,rfl⟩|⟨h7,h8,st,st',rfl,rfl,hs,hd⟩
 ·exact qmr h op A c hbs hbc hk
 ·exact qi3 h op A c hbs hbc hk hp ho hO2
 ·exact qk9 h op A c h7 h8
 ·exact qoy h hp hs op A c hbs hbc h7 h8 e off bs hd
theorem qem(h:la w W M C p s cost F)(op:S39)(A:Option Addr)(c:Nat)(hbs:Kd.C (Kd.int .u8) w A op.f4.length op.f4)(hbc:op.f4.length<=c)(hp:p.Ok){e off:Int}{bs:List Int}(hr:TwR p s op e off bs s'):Calls Tryz.prog 21 #[.pointer (some ⟨W,0,none⟩), .agg (opV op A c).toArray] w (qbb w W M C p (wrap64 (s'.mem.writes-s.mem.writes)) F e off bs s'):=by
 have HDs:Aside0 (∀ (w':World),la w' W M C p s cost F->Kd.C (Kd.int .u8) w' A op.f4.length op.f4->Calls Tryz.prog 63 #[.pointer (some ⟨W,0,none⟩), .agg (opV op A c).toArray] w' (qbb w' W M C p cost F e off bs s')):=⟨fun w' h1 h2=>qi2 h1 op A c h2 hbc hp hr⟩;clear hr;unfold opV at *;have H:=am h;obtain⟨k0,k1,k2,k3,k4⟩:=op;dsimp only at *;have HBs:=am hbs;have HBc:=am hbc;clear hbs hbc;have HBz:Aside0 (Below w.heap.size w ((w.alloc (.cells #[.int .i64 k0, .int .i64 k1, .int .i64 k2, .int .i64 k3, .slice A k4.length c] 39)).alloc (.cells #[.int .i64 0, .int .i64 0, .slice none 0 0] 36))):=⟨((ai _ _).alloc (an _) _).alloc (by simp) _⟩;have HOz:Aside0 (((w.alloc (.cells #[.int .i64 k0, .int .i64 k1, .int .i64 k2, .int .i64 k3, .slice A k4.length c] 39)).alloc (.cells #[.int .i64 0, .int .i64 0, .slice none 0 0] 36)).heap[w.heap.size]? =some (.cells [.int .i64 k0, .int .i64 k1, .int .i64 k2, .int .i64 k3, .slice A k4.length c].toArray 39 (0,0))):=⟨(heap_alloc_old _ _ (by simp)).trans (heap_alloc_new w _)⟩;have HGz:Aside0 (((w.alloc (.cells #[.int .i64 k0, .int .i64 k1, .int .i64 k2, .int .i64 k3, .slice A k4.length c] 39)).alloc (.cells #[.int .i64 0, .int .i64 0, .slice none 0 0] 36)).heap[w.heap.size+1]? =some (.cells (fq 0 0 (.slice none 0 0)).toArray 36 (0,0))):=⟨heap_alloc2_new w _ _⟩;have HZ:=am (h.below HBz.out);have HLt:=am h.lt;have HF:=am h.inW;obtain⟨hv,hbx⟩:=h.box;have HX:=am (hbx.below HBz.out);have km:((w.alloc (.cells #[.int .i64 k0, .int .i64 k1, .int .i64 k2, .int .i64 k3, .slice A k4.length c] 39)).alloc (.cells #[.int .i64 0, .int .i64 0, .slice none 0 0] 36)).cell? ⟨W,4,none⟩=some (.pointer (some ⟨M,0,none⟩)):=(aj HX.out 4).trans rfl;have HnG:¬ F (w.heap.size+1):=fun e=>by have:=HLt.out _ e;omega
 have hWl:=HLt.out _ HF.out.1;obtain⟨n0,hn0⟩:∃ n0,s.mem.writes=n0:=⟨_,rfl⟩;obtain⟨n1,hn1⟩:∃ n1,s'.mem.writes=n1:=⟨_,rfl⟩;have HN0:=am hn0;have HN1:=am hn1;rw[hn0,hn1];clear h hbx hn0 hn1;go_enter Tryz.func21,Tryz.ntmps21;go_wp2_with (first
  |((with_reducible refine fz (.load 39 (.tmp 3)) rfl ?_);refine bc rfl 39 (.tmp 3) rfl w.heap.size 0 rfl [.int .i64 k0, .int .i64 k1, .int .i64 k2, .int .i64 k3, .slice A k4.length c] _ (fun j v hv=>by rw[Nat.zero_add];exact bt HOz.out j v hv) Tryz.underlying39 rfl qgk ?_)
  |(go_at_call 62;first|((with_reducible refine(zx HZ.out.memAt).mono ?_);rintro x w' ⟨rfl,rfl⟩;rw[HN0.out])|((with_reducible refine(zx HT3.out.memAt).mono ?_);rintro x w' ⟨rfl,rfl⟩;rw[HN1.out]))
  |(go_at_call 63;refine(HDs.out _ HZ.out (Kd.C_below HBs.out HBz.out)).mono ?_;rintro x w2 ⟨d,F',rfl,ho,ht,kk,hf⟩;obtain⟨Ad,cd,ed⟩:=Kd.R_slice ho;subst ed;have HT2:=am ht;have HO2:=am (Kd.R_lower ho HBz.out.size);have K2:=am ((aq.of_below HBz.out:aq F w _).step kk);have HG2:=am (kk.of HGz.out HnG);have HFf:Aside0 (∀ j,F' j->F j\/w.heap.size+2<=j):=⟨fun j hj=>(hf j hj).imp_right (fun h=>by simpa using h)⟩;clear ho ht kk hf)
  |((with_reducible refine bp (t:=36) (p:=6) rfl ?_);refine dx rfl 36 (.tmp 6) (.tmp 17) rfl _ (fq e off (.slice Ad bs.length cd)) rfl rfl gj rfl rfl ?_;intro w3 BZ HZb;have HT3:=am (HT2.out.below HZb.out);have HO3:=am (Kd.R_below HO2.out HZb.out);have K3:=am (aq.step K2.out (aq.of_below HZb.out));have HG3:=am (ap HG2.out HZb.out);obtain⟨hv3,hb3⟩:=HT3.out.box;have km3:w3.cell? ⟨W,4,none⟩=some (.pointer (some ⟨M,0,none⟩)):=(aj hb3 4).trans rfl;have kc3:w3.cell? ⟨W,6,none⟩=some (.int .i64 cost):=(aj hb3 6).trans rfl;have kf3:w3.frozen? ⟨W,6,none⟩=false:=ak hb3 6;have HX3:=am hb3;clear hb3)
  |((with_reducible refine fz (.load 36 (.tmp 6)) rfl ?_);refine bc rfl 36 (.tmp 6) rfl w2.heap.size 0 rfl (fq e off (.slice Ad bs.length cd)) _ (fun j v hv=>by rw[Nat.zero_add];exact bt ((Below.heap_setCell _ _ _ _ (by have:=K2.out.size;dsimp only;omega)).trans BZ.out) j v hv) Tryz.underlying36 rfl gj ?_)
  |((with_reducible refine bp (t:=36) (p:=4) rfl ?_);refine ff rfl 36 (.tmp 4) (.tmp 28) rfl (w.heap.size+1) 0 (fq e off (.slice Ad bs.length cd)) rfl rfl 36 (fq 0 0 (.slice none 0 0)) ((Below.heap_setCell _ _ _ _ (by dsimp only;omega)).trans HG3.out) gj (an _) ld ?_;rw[kf (fq e off (.slice Ad bs.length cd)) (fq 0 0 (.slice none 0 0)) rfl]))
 have hG4:(w3.setCell ⟨W,6,none⟩ (.int .i64 (wrap64 (n1-n0)))).heap[w.heap.size+1]? =some (.cells (fq 0 0 (.slice none 0 0)).toArray 36 (0,0)):=(Below.heap_setCell _ _ _ _ (by dsimp only;omega)).trans HG3.out;have hn':¬ F' (w.heap.size+1):=fun e=>by rcases HFf.out _ e with e|e;exact HnG e;omega
 exact vk rfl (w.heap.size+1) 36 (fq e off (.slice Ad bs.length cd)) _ rfl (setRow_heap _ _ _ _ _ _ hG4) Tryz.underlying36 rfl gj rfl ⟨_,F',rfl,qel (Kd.R_set HO3.out HX3.out qp7 6 _) hG4 rfl,(HT3.out.costs _).awayRow hn' _,(K3.out.set (p:=⟨W,6,none⟩) (.inl HF.out.1) _).setRow (.inr (by omega)) _,fun j hj=>(HFf.out j hj).imp_right (fun h=>by omega)⟩
end
def Pn.device(p:Pn):Nat:=(16+p.lines+1+p.spare).toNat
theorem qk2(M:Nat)(p:Pn):Tryz.prog.built 104 [(0, .agg (fk p).toArray),(1, .pointer (some ⟨M,0,none⟩))]=some (qib p M (.pointer none) 0).toArray:=by kernel_rfl
def qso(w:World)(p:Pn)(fm rc:Int×Mem×Int)(e:Ending)(w':World):Prop:=
 Below w.heap.size w w'∧
 (fm.1=0->rc.1=0→∃ W M C F,e=.returned (.tuple #[.pointer (some ⟨W,0,none⟩), .int .i64 0])/\la w' W M C p (.on (Hp.opened p rc.2.1 rc.2.2)) 0 F/\(∀ j,F j->w.heap.size<=j))∧
 (fm.1=0->rc.1≠0->e=.returned (.tuple #[.pointer none, .int .i64 rc.1]))/\(fm.1≠0->e=.returned (.tuple #[.pointer none, .int .i64 fm.1]))
section
variable{w:World}{p:Pn}
theorem qg5(hp:p.Ok)(A:Option Addr)(c:Nat)(limits:List Int)(hl:Kd.C (Kd.int .i64) w A limits.length limits)(hc:limits.length<=c)(hf:FmtOk p (Nvm.fresh p.device limits))(ho:(Hp.fmtAt p (Nvm.fresh p.device limits) p.lines.toNat).1=0->(Hp.fmtAt p (Nvm.fresh p.device limits) p.lines.toNat).2.1.down=false/\OpenOk p (Hp.fmtAt p (Nvm.fresh p.device limits) p.lines.toNat).2.1/\((Lg.recover p.shape (Hp.fmtAt p (Nvm.fresh p.device limits) p.lines.toNat).2.1 0).1=0->OpenOk2 p (Lg.recover p.shape (Hp.fmtAt p (Nvm.fresh p.device limits) p.lines.toNat).2.1 0).2.1)):Calls Tryz.prog 17 #[oz p, .slice A limits.length c] w (qso w p (Hp.fmtAt p (Nvm.fresh p.device limits) p.lines.toNat) (Lg.recover p.shape (Hp.fmtAt p (Nvm.fresh p.device limits) p.lines.toNat).2.1 0)):=by
 have HMay:=am (uy hp);have HDev:=am (qdi hp);have hdv:(16+p.lines+1+p.spare)=(p.device:Int):=by have:=hp.l1;have:=hp.s1;unfold Pn.device;omega
 rw[hdv]at HDev;have hd1:1<=p.device:=by have:=hp.l1;have:=hp.s1;unfold Pn.device;omega
 have hd2:p.device<=200:=by have:=hp.l2;have:=hp.s2;unfold Pn.device;omega
 have HL:=am hl;have HC:=am hc;have HFm:Aside0 (∀ (w':World) (M C:Nat),MemAt w' M C (Nvm.fresh p.device limits)->Calls Tryz.prog 10 #[.pointer (some ⟨M,0,none⟩),oz p] w' fun e w''=>e=.returned (.int .i64 (Hp.fmtAt p (Nvm.fresh p.device limits) p.lines.toNat).1)/\MemAt w'' M C (Hp.fmtAt p (Nvm.fresh p.device limits) p.lines.toNat).2.1/\aq (MC M C) w' w''):=⟨fun w' M C h=>qfk h hp hf⟩;have HNw:Aside0 (∀ (w':World),Kd.C (Kd.int .i64) w' A limits.length limits->Calls Tryz.prog 8 #[.int .i64 p.device, .slice A limits.length c] w' fun e w''=>∃ M C,e=.returned (.pointer (some ⟨M,0,none⟩))/\MemAt w'' M C (Nvm.fresh p.device limits)/\w'.heap.size<=M/\w'.heap.size<=C/\Below w'.heap.size w' w''):=⟨fun w' h=>qkv w' p.device A c limits hd1 hd2 h hc⟩;have HO:=am ho;have HP:=am hp;clear hl hc hf ho hp hd1 hd2 hdv;generalize Nvm.fresh p.device limits=m0 at HFm HNw HO ⊢;generalize Hp.fmtAt p m0 p.lines.toNat=fm at HFm HO ⊢;generalize p.device=dv at HDev HNw;have HOpen:Aside0 (fm.1=0→∀ (w':World) (W M C:Nat),nh w' W p M (.pointer none) 0->MemAt w' M C fm.2.1->W≠M->W≠C->Calls Tryz.prog 59 #[.pointer (some ⟨W,0,none⟩)] w' (qcn w' W M C p 0 (Lg.recover p.shape fm.2.1 0))):=⟨fun h0 w' W M C h1 h2 h3 h4=>qbu h1 h2 h3 h4 HP.out (HO.out h0).1 (HO.out h0).2.1 (HO.out h0).2.2⟩;generalize Lg.recover p.shape fm.2.1 0=rc at HOpen ⊢;clear HO;have BX:Aside0 ((w.alloc (.cells (fk p).toArray 23)).heap[w.heap.size]? =some (.cells (fk p).toArray 23 (0,0))):=⟨heap_alloc_new w _⟩;have HBx:Aside0 (Below w.heap.size w (w.alloc (.cells (fk p).toArray 23))):=⟨(ai _ _).alloc (an _) _⟩;go_enter Tryz.func17,Tryz.ntmps17;go_wp2_with (first
  |((with_reducible refine fz (.load 23 (.tmp 2)) rfl ?_);refine bc rfl 23 (.tmp 2) rfl w.heap.size 0 rfl (fk p) _ (fun j v hv=>by rw[Nat.zero_add];exact bt BX.out j v hv) Tryz.underlying23 rfl jh ?_)
  |(go_at_call 32;refine(gi.calls p.lines p.spare p.period p.batch true _ HMay.out).mono ?_;rintro e w1 ⟨rfl,hb⟩;have HB1:=am (aa HBx.out hb);have BX1:=am (ap BX.out hb);clear hb))
 refine dj (n:=8) (S:=fun w'=>w'.heap[w.heap.size]? =some (.cells (fk p).toArray 23 (0,0))) (ds:=[]) (onA 8 0) (by kernel_rfl) rfl rfl BX1.out (fun hHeld=>?_);refine pu 3 (some 15) (bA 8 8) (h:=?_);refine tv 0 (some 12) (bA 8 9) rfl hHeld (fun w' hs=>dh 23 (.tmp 2) rfl w.heap.size 0 rfl (fk p) _ (fun j v hv=>by rw[Nat.zero_add];exact bt hs j v hv) Tryz.underlying23 rfl jh) (h:=?_);refine tv 1 (some 13) (bA 8 11) rfl hHeld (fun w' hs=>dh 23 (.tmp 2) rfl w.heap.size 0 rfl (fk p) _ (fun j v hv=>by rw[Nat.zero_add];exact bt hs j v hv) Tryz.underlying23 rfl jh) (h:=?_);refine ip (i:=2) (N:=some 14) (bA 8 15) rfl rfl (by kernel_rfl) (by decide) (fun K hK=>?_);refine fv Tryz.func9 (by kernel_rfl) rfl #[oz p] (by rfl) rfl rfl (by simp only[List.map_toArray,List.map_cons,List.map_nil];rfl) ?_;refine(oh.calls p.lines p.spare p.period p.batch _ _ HDev.out).mono ?_;rintro e w2 ⟨rfl,hb⟩;refine⟨_,rfl,?_⟩;have hb2:=aa (bg (ai w1.heap.size w1)) hb;have BX2:=am (ap BX1.out hb2);have HB2:=am (aa HB1.out hb2);refine hK.out _ _ BX2.out (fun hHeld=>?_);clear hK K hb hb2 hHeld;refine nm ?_;refine ip (i:=4) (N:=some 16) (bA 8 31) rfl rfl (by kernel_rfl) (by decide) (fun K hK=>?_);refine fv Tryz.func8 (by kernel_rfl) rfl #[.int .i64 dv, .slice A limits.length c] (by rfl) rfl rfl (by simp only[List.map_toArray,List.map_cons,List.map_nil];rfl) ?_;refine(HNw.out _ (Kd.C_below HL.out HB2.out)).mono ?_;rintro e w3 ⟨M,C,rfl,hm,hM,hC,hb⟩;refine⟨_,rfl,?_⟩;have BX3:=am (ap BX2.out hb);have HB3:=am (aa HB2.out hb);have HM3:=am hm;have hw2:=d7 BX2.out;have hMw:w.heap.size<M:=Nat.lt_of_lt_of_le hw2 hM;have hCw:w.heap.size<C:=Nat.lt_of_lt_of_le hw2 hC;refine hK.out _ _ BX3.out (fun hHeld=>?_);clear hK K hb hHeld hm hM hC hw2;refine nm ?_;refine ip (i:=5) (N:=some 17) (bA 8 63) rfl rfl (by kernel_rfl) (by decide) (fun K hK=>?_);refine jt (by rfl) rfl (yg 104 _ rfl [(0, .agg (fk p).toArray),(1, .pointer (some ⟨M,0,none⟩))] (by simp;exact⟨rfl,rfl⟩) _ (qk2 M p)) ?_;refine hK.out _ _ BX3.out (fun hHeld=>?_);clear hK K hHeld;refine nm ?_;refine ip (i:=6) (N:=some 18) (bA 8 127) rfl rfl (by kernel_rfl) (by decide) (fun K hK=>?_);refine jt (w1:=w3.alloc (.cells (qib p M (.pointer none) 0).toArray 104)) (v:=.pointer (some ⟨w3.heap.size,0,none⟩)) (by rfl) rfl ?_ ?_
 ·first|(go_simp;done)|(go_simp;rfl)
 have hb4:Below w3.heap.size w3 (w3.alloc (.cells (qib p M (.pointer none) 0).toArray 104)):=(ai _ _).alloc (an _) _;have BX4:=am (ap BX3.out hb4);have HB4:=am (aa HB3.out hb4);have HM4:=am (HM3.out.below hb4);have HX4:Aside0 (nh (w3.alloc (.cells (qib p M (.pointer none) 0).toArray 104)) w3.heap.size p M (.pointer none) 0):=⟨heap_alloc_new w3 _⟩;have hMW:M<w3.heap.size/\C<w3.heap.size:=HM3.out.lt;refine hK.out _ _ BX4.out (fun hHeld=>?_);clear hK K hb4 hHeld;generalize w3.alloc (.cells (qib p M (.pointer none) 0).toArray 104)=w4 at BX4 HB4 HM4 HX4 ⊢;have hWw:=HB3.out.size;generalize w3.heap.size=Wn at HX4 hMW hWw ⊢;refine nm ?_;refine pu 7 (some 6) (bA 8 255) (h:=?_);refine fa (by kernel_rfl) ?_;go_wp2;refine dj (n:=7) (S:=fun w'=>nh w' Wn p M (.pointer none) 0/\w'.heap[w.heap.size]? =some (.cells (fk p).toArray 23 (0,0))) (ds:=[5]) (onA 7 0) (by kernel_rfl) rfl rfl ⟨HX4.out,BX4.out⟩ (fun hHeld=>?_);refine pu 0 (some 19) (bA 7 1) (h:=?_);refine pu 1 (some 20) (bA 7 3) (h:=?_);refine pu 2 (some 21) (bA 7 7) (h:=?_);refine tv 3 (some 22) (bA 7 15) rfl hHeld (fun w' hs=>aw 26 (.tmp 21) rfl Wn 4 (.pointer (some ⟨M,0,none⟩)) rfl ((aj hs.1 4).trans rfl) _ Tryz.underlying26 rfl) (h:=?_);refine tv 4 (some 23) (bA 7 31) rfl hHeld (fun w' hs=>dh 23 (.tmp 2) rfl w.heap.size 0 rfl (fk p) _ (fun j v hv=>by rw[Nat.zero_add];exact bt hs.2 j v hv) Tryz.underlying23 rfl jh) (h:=?_);refine ko (i:=5) (N:=some 24) (bA 7 63) rfl rfl (by kernel_rfl) (by decide) (fun K hK=>?_);refine fv Tryz.func10 (by kernel_rfl) rfl #[.pointer (some ⟨M,0,none⟩),oz p] (by rfl) rfl rfl (by simp only[List.map_toArray,List.map_cons,List.map_nil];rfl) ?_;have HM4d:=am (HM4.out.below (bg (ai _ _)));refine(HFm.out _ M C HM4d.out).mono ?_;rintro e w5 ⟨rfl,hm,kk⟩;refine⟨_,rfl,?_⟩;have HM5:=am hm;have HX5:=am (nh.kept (w:=w4.drew) HX4.out kk (sq (by omega) (by omega)));have HB5:Aside0 (Below w.heap.size w w5):=⟨(aa HB4.out (bg (ai _ _))).trans (kk.below (by have:=HB4.out.size;exact this) (fun j hj e=>by rcases e with e|e <;> omega))⟩;refine hK.out _ _ ?_;clear hK K hm kk hHeld HM4d;refine nm ?_;refine pu 6 (some 7) (bA 7 127) (h:=?_);refine fa (by kernel_rfl) ?_;by_cases c0:fm.1=0
 ·have HO:=am (HOpen.out c0);have b0:(fm.1 != 0)=false:=bne_eq_false_iff_eq.2 c0;have C0:=am c0;clear c0;by_cases c1:rc.1=0
  ·have C1:=am c1;clear c1;go_wp2_with (first
    |(go_at_call 59;(with_reducible refine(HO.out _ Wn M C HX5.out HM5.out (Nat.ne_of_gt hMW.1) (Nat.ne_of_gt hMW.2)).mono ?_);rintro e w6 hq;have hret:e=.returned (.int .i64 0):=(by rw[<-C1.out];exact hq.ret);subst hret;have HQ:=am hq;clear hq))
   go_ret2;obtain⟨F',hT,hF'⟩:=HQ.out.state (Nat.ne_of_gt hMW.1) (Nat.ne_of_gt hMW.2) (F:=fun j=>MC M C j\/j=Wn) (fun j hj=>hj);rw[if_pos C1.out]at hT;have hs5:=HB5.out.size;refine⟨HB5.out.trans (HQ.out.2.2.below hs5 (fun j hj e=>by rcases e with (e|e)|e <;> omega)),fun _ _=>⟨Wn,M,C,F',rfl,hT,fun j hj=>?_⟩,fun _ h=>absurd C1.out h,fun h=>absurd C0.out h⟩;rcases hF' j hj with ((e|e)|e)|e <;> omega
  ·have C1:=am c1;have b1:(rc.1 != 0)=true:=bne_iff_ne.2 c1;clear c1;go_wp2_with (first
    |(go_at_call 59;(with_reducible refine(HO.out _ Wn M C HX5.out HM5.out (Nat.ne_of_gt hMW.1) (Nat.ne_of_gt hMW.2)).mono ?_);rintro e w6 hq;have hret:=hq.ret;subst hret;have HQ:=am hq;clear hq))
   go_ret2;have hs5:=HB5.out.size;exact⟨HB5.out.trans (HQ.out.2.2.below hs5 (fun j hj e=>by rcases e with (e|e)|e <;> omega)),fun _ h=>absurd h C1.out,fun _ _=>rfl,fun h=>absurd C0.out h⟩
 ·have b0:(fm.1 != 0)=true:=bne_iff_ne.2 c0;have C0:=am c0;clear c0;go_wp2;go_ret2;exact⟨HB5.out,fun h=>absurd h C0.out,fun h=>absurd h C0.out,fun _=>rfl⟩
end
structure MInv (p:Pn) (m:Mem) (l:List S116) (v:List Int) (r:Int):Prop where
 inv:LInv p.shape m
 wd:wv p m p.lines.toNat=v
 hv:HV l v (p.lines*8)
 rt:m.regs.getD 2 0=r
 ri:uq l r
section
variable{p:Pn}{st:St}{m:Mem}{l:List S116}{v:List Int}{r:Int}
theorem HInv.mem(h:HInv p st l v r):MInv p st.m l v r:=⟨h.inv,h.wd,h.hv,h.rt,h.ri⟩
theorem MInv.heap(h:MInv p m l v r){puts:Int}{now kept:List Int}{f:Bool}(hn:now.length=((p.lines+3) / 4).toNat):HInv p ⟨m,puts,now,kept,f⟩ l v r:=⟨h.inv,h.wd,h.hv,h.rt,h.ri,hn⟩
theorem MInv.rd(h:MInv p m l v r)(hu:m.down=false):Lg.Rd p.shape m:=(h.heap (puts:=0) (now:=List.replicate ((p.lines+3) / 4).toNat 0) (kept:=[]) (f:=false) (by simp)).rd hu
theorem MInv.openOk(h:MInv p m l v r)(hp:p.Ok)(hu:m.down=false)(hb:Trn.moves m<=1099511627776):OpenOk p m:=
 ⟨by have:=h.inv.ok.l.len;have:p.shape.n=16+p.lines:=rfl;have:p.shape.spares=p.spare.toNat:=rfl;have:=hp.s1;omega,h.inv.ok.l.regs,h.inv.ok.l.may,hb,h.rd hu,h.inv.c14.2⟩
theorem MInv.openOk2(h:MInv p m l v r)(hp:p.Ok)(hu:m.down=false):OpenOk2 p m:=by
 have hws:Hp.wordsTo p m p.lines.toNat=v:=by rw[<-h.wd];exact qdz h.inv hu _ (by have:=hp.l1;omega)
 have hr:=(h.heap (puts:=0) (now:=List.replicate ((p.lines+3) / 4).toNat 0) (kept:=[]) (f:=false) (by simp)).rr hp;refine⟨hu,h.rd hu,h.inv.c14.2,⟨l,by rw[hws];exact rq h.hv⟩,?_⟩;rw[h.rt];by_cases c:r=0
 ·exact .inl c
 ·refine .inr ⟨c,by omega,?_⟩;rw[hws];rcases qqd (off:=r) h.hv with⟨_,b⟩|⟨a,b⟩
  ·exact b
  ·rcases h.ri with e|e
   ·exact absurd e c
   ·exact absurd e a
structure OpnR (p:Pn) (m:Mem) (rc:Int×Mem×Int) (l:List S116) (v:List Int) (r:Int):Prop where
 inv:MInv p rc.2.1 l v r
 lim:∀ j,gp rc.2.1 j=gp m j
 cut:m.cut<0->rc.2.1.cut=m.cut
 mv:Trn.moves m<=Trn.moves rc.2.1/\Trn.moves rc.2.1<=Trn.moves m+14
 cln:rc.2.1.down=false->Lg.count rc.2.1=0∨∃ j,0<=gp m j
 res:(rc.1=0/\rc.2.1.down=false)\/(rc.1=2/\rc.2.1.down=true/\0<=m.cut)
theorem xu(h:MInv p m l v r)(hp:p.Ok)(hu:m.down=false)(hb:Trn.moves m<=1099511627776)(puts:Int):OpnR p m (Lg.recover p.shape m puts) l v r:=by
 obtain⟨a,b,c⟩:=qjx h.inv hu puts (by omega);refine⟨⟨a.inv,?_,h.hv,by rw[a.regs 2 (by omega)];exact h.rt,h.ri⟩,a.lim,a.cut,a.mv,a.cln,c⟩;rw[<-h.wd];exact qar h.inv a.inv (by have:=hp.l1;omega) b
theorem zf(h:MInv p m l v r)(puts:Int):HInv p (Hp.opened p m puts) l v r:=h.heap (by simp[Hp.keptTo,Hp.pages])
end
section
variable{p:Pn}{limits:List Int}
theorem ro(n:Nat)(i:Nat):(Nvm.fresh n limits).regs.getD i 0=0:=by
 show(List.replicate 35 (0:Int)).getD i 0=0;rw[ax,List.getElem?_replicate];split <;> rfl
theorem qc2(n i:Nat):lnC (Nvm.fresh n limits) i=zL:=by
 unfold lnC;rw[ax];by_cases hi:i<n
 ·rw[show(Nvm.fresh n limits).cells[i]? =_ from od n limits n i hi];rfl
 ·rw[List.getElem?_eq_none (by rw[show(Nvm.fresh n limits).cells.length=n from ik n limits n];omega)];rfl
theorem qax(n i:Nat):0<=gp (Nvm.fresh n limits) i->limits≠[]:=by
 rintro h rfl;unfold gp at h;rw[ax]at h;by_cases hi:i<n
 ·rw[show(Nvm.fresh n []).cells[i]? =_ from od n [] n i hi,if_pos hi]at h;have e:Nvm.lim [] i= -1:=by unfold Nvm.lim;simp
  have h:0<=Nvm.lim [] i:=h;omega
 ·rw[List.getElem?_eq_none (by rw[show(Nvm.fresh n []).cells.length=n from ik n [] n];omega)]at h;exact absurd h (by decide)
theorem qc3(hp:p.Ok):MOk p.shape (Nvm.fresh p.device limits):=by
 have h1:=hp.l1;have h2:=hp.l2;have h3:=hp.s1;have h4:=hp.s2;have hd:(Nvm.fresh p.device limits).cells.length=p.device:=ik _ _ _;have hn:p.shape.n=16+p.lines:=rfl;have hs:p.shape.spares=p.spare.toNat:=rfl;refine⟨hp.shape,⟨by omega,by omega,by omega,by rw[hd];unfold Pn.device;omega,fun i _=>by rw[qc2];exact qqs,rfl,fun x hx=>?_,⟨by omega,fun j j0 j1=>?_⟩⟩,?_⟩
 ·have:x∈List.replicate 35 (0:Int):=hx;rw[(List.mem_replicate.1 this).2];decide
 ·have hz:∀ j:Int,0<=j->rd (Lns.tableTo (Nvm.fresh p.device limits) p.shape.spares) j=0:=fun j j0=>by
   unfold rd Lns.tableTo;rw[ax,List.getElem?_map];by_cases c:j.toNat<p.shape.spares
   ·rw[List.getElem?_range c];exact ro _ _
   ·rw[List.getElem?_eq_none (by simpa using c)];rfl
  refine⟨by rw[hz j j0];omega,fun _ h=>absurd (hz j j0) h⟩
 ·show(Nvm.fresh p.device limits).regs.getD 0 0<=_;rw[ro];decide
structure FmtI (p:Pn) (m0:Mem) (k:Nat) (x:Int×Mem×Int):Prop where
 ok:MOk p.shape x.2.1
 lim:∀ j,gp x.2.1 j=gp m0 j
 cut:x.2.1.cut= -1
 up:x.2.1.down=false
 cnt:Lg.count x.2.1=0
 regs:∀ j,((1<=j/\j<3)\/19<=j)->x.2.1.regs.getD j 0=0
 mv:Trn.moves x.2.1<=1
 mv0:k=0->Trn.moves x.2.1=0
 res:(x.1=0∧∀ line:Nat,(line:Int)<p.lines->lgc p.shape x.2.1 (16+(line:Int))=if line<k then fd (Hp.firstW p) line else zL)\/(x.1=3∧∃ j,0<=gp m0 j)
theorem qss{a b:List Int}(ha:a.length=8)(hb:b.length=8)(h:∀ j,j<8->a.getD j 0=b.getD j 0):a=b:=by
 refine List.ext_getElem (by rw[ha,hb]) (fun j h1 h2=>?_);have:=h j (by omega);rw[ax,bx h1,ax,bx h2]at this;exact this
theorem y7(p:Pn){k:Nat}(hp:p.Ok)(hk:(k:Int)<p.lines):fd (Hp.firstW p) k=if k=0 then[2*(p.lines*8),0,0,0,0,0,0,0]else zL:=by
 have hl:=hp.l1;have hlen:=po p;refine qss (ii (by omega)) (by split <;> rfl) (fun j hj=>?_);rw[wq hj];unfold Hp.firstW;by_cases c:k*8+j=0
 ·obtain rfl:k=0:=by omega
  obtain rfl:j=0:=by omega
  rw[ax,List.getElem?_set_self (by rw[List.length_replicate];omega)];rfl
 ·rw[ax,List.getElem?_set_ne (by omega),List.getElem?_replicate];have hz:(if k*8+j<(p.lines*8).toNat then some (0:Int)else none).getD 0=0:=by split <;> rfl
  rw[hz];rcases j with _|_|_|_|_|_|_|_|j
  ·rw[if_neg (by omega)];rfl
  all_goals first|omega|(split <;> rfl)
theorem qlf(p:Pn)(hp:p.Ok):W64 [2*(p.lines*8),0,0,0,0,0,0,0]:=by
 have h1:=hp.l1;have h2:=hp.l2;refine⟨rfl,fun x hx=>?_⟩;simp only[List.mem_cons,List.not_mem_nil,or_false]at hx;omega
end
section
variable{p:Pn}{limits:List Int}
theorem qlh(s:Shape)(n:Nat)(line:Int):lgc s (Nvm.fresh n limits) line=zL:=by
 unfold lgc slc;exact qc2 _ _
theorem qmz(hp:p.Ok):zL≠[2*(p.lines*8),0,0,0,0,0,0,0]:=by
 intro h;have:=hp.l1;have h2:(0:Int)=2*(p.lines*8):=(List.cons.inj h).1;omega
theorem qi7(hp:p.Ok):∀ k:Nat,(k:Int)<=p.lines->FmtI p (Nvm.fresh p.device limits) k (Hp.fmtAt p (Nvm.fresh p.device limits) k)
 |0,_=>by
  have hz:Trn.moves (Nvm.fresh p.device limits)=0:=ro _ 0
  exact⟨qc3 hp,fun _=>rfl,rfl,rfl,ro _ 1,fun j _=>ro _ j,by show Trn.moves (Nvm.fresh p.device limits)<=1;omega,fun _=>hz, .inl ⟨rfl,fun line _=>qlh _ _ _⟩⟩
 | k + 1, hk => by
  have ih:=qi7 hp k (by omega)
  have hl1:=hp.l1
  rw[Hp.fmtAt]
  generalize Hp.fmtAt p (Nvm.fresh p.device limits) k=x at ih
  obtain⟨e,m,puts⟩:=x
  have iok:=ih.ok
  have icut:=ih.cut
  have iup:=ih.up
  have imv:=ih.mv
  have imv0:=ih.mv0
  have icnt:=ih.cnt
  have ilim:=ih.lim
  have iregs:=ih.regs
  dsimp only at *
  rcases ih.res with⟨e0,hl⟩|⟨e3,hj⟩
  ·dsimp only at e0 hl
   rw[if_pos e0,vn iok iup]
   dsimp only
   have hz:=hl k (by omega)
   rw[if_neg (by omega)]at hz
   rw[hz,y7 p hp (by omega)]
   by_cases c:k=0
   ·rw [if_pos c, if_neg (qmz hp)]
    have hP:=(qgn (s:=p.shape) (line:=16+(k:Int)) (d:=[2*(p.lines*8),0,0,0,0,0,0,0]) iok iup (by omega) puts (by omega) (by show 16+(k:Int)<16+p.lines;omega) (qlf p hp)).1
    generalize Trn.put p.shape m puts (16+(k:Int)) [2*(p.lines*8),0,0,0,0,0,0,0]=y at hP
    obtain⟨e2,m2,puts2⟩:=y
    dsimp only at hP ⊢
    have hm:=hP.mv
    have h0:=imv0 c
    have hup:m2.down=false:=by
     rcases hP.res with⟨_,a,_⟩|⟨_,a,_⟩|⟨_,_,a⟩
     ·exact a
     ·exact a
     ·omega
    refine⟨⟨iok.ok,hP.l,by dsimp only;omega⟩,fun j=>by rw[<-ilim j];exact hP.lim j,by show m2.cut= -1;rw[hP.cut (by omega)];exact icut,hup,?_,fun j hj=>(hP.regs j hj).trans (iregs j hj),by dsimp only;omega,fun h=>absurd h (by omega),?_⟩
    ·show m2.regs.getD 1 0=0
     rw[hP.regs 1 (by omega)]
     exact icnt
    ·rcases hP.res with⟨a,_,b⟩|⟨a,_,_,b⟩|⟨_,_,a⟩
     ·refine .inl ⟨a,fun line hline=>?_⟩
      dsimp only
      by_cases e:line=k
      ·rw[if_pos (by omega),y7 p hp hline,if_pos (by omega),e]
       exact b
      ·rw[if_neg (by omega),hP.oth _ (by omega) (by show 16+(line:Int)<16+p.lines;omega) (by omega),hl line hline,if_neg (by omega)]
     ·obtain⟨j,hj⟩:=b
      exact .inr ⟨a,j,by rw[<-ilim j];exact hj⟩
     ·omega
   ·rw[if_neg c,if_pos rfl]
    refine⟨iok,ilim,icut,iup,icnt,iregs,imv,fun h=>absurd h (by omega), .inl ⟨e0,fun line hline=>?_⟩⟩
    dsimp only
    rw[hl line hline]
    by_cases e:line=k
    ·rw[if_neg (by omega),if_pos (by omega),y7 p hp hline,if_neg (by omega)]
    ·by_cases e2:line<k
     ·rw[if_pos e2,if_pos (by omega)]
     ·rw[if_neg e2,if_neg (by omega)]
  ·dsimp only at e3
   rw[if_neg (by omega)]
   exact⟨iok,ilim,icut,iup,icnt,iregs,imv,fun h=>absurd h (by omega), .inr ⟨e3,hj⟩⟩
theorem qq1(hp:p.Ok):FmtOk p (Nvm.fresh p.device limits):=by
 have h0:=qc3 (limits:=limits) hp;refine⟨rfl,?_,h0.l.regs,h0.l.may,fun i _=>ro _ i,fun k hk _=>?_⟩
 ·have:=h0.l.len;have:p.shape.n=16+p.lines:=rfl;have:p.shape.spares=p.spare.toNat:=rfl;have:=hp.s1;omega
 ·have h:=qi7 (limits:=limits) hp k (by omega);have hm:=h.mv;unfold Trn.moves at hm;refine⟨h.up,fun line _ _=>?_,by omega⟩;rw[vn h.ok h.up];exact⟨rfl,(h.ok.lineW line).2⟩
theorem qo1(hp:p.Ok){x:Int×Mem×Int}(h:FmtI p (Nvm.fresh p.device limits) p.lines.toNat x)(h0:x.1=0):MInv p x.2.1 [⟨0,p.lines*8,false⟩] (Hp.firstW p) 0:=by
 have hl1:=hp.l1;have hl2:=hp.l2;have hI:LInv p.shape x.2.1:=⟨h.ok, .inl h.cnt⟩;refine⟨hI,?_,?_,h.regs 2 (by omega), .inl rfl⟩
 ·symm;refine qkp hI _ (by rw[po];omega) (fun i hi=>?_);rw[te h.cnt];rcases h.res with⟨_,a⟩|⟨a,_⟩
  ·rw[a i (by omega),if_pos (by omega)]
  ·omega
 ·exact qm5 (W:=p.lines*8) (by unfold sx;omega)
end
section
variable{p:Pn}{st:St}{m:Mem}{s:Shape}{l:List S116}{v:List Int}{r:Int}
theorem qrw(hc:m.cut=0):(Nvm.write m).2.down=true:=by unfold Nvm.write;rw[if_pos hc]
theorem qsf{i:Int}{d:List Int}(hd:m.down=false)(hc:m.cut=0)(h0:0<=i)(h1:i<m.cells.length):(Nvm.put m i d).1=2:=by
 have hh:Nvm.has m i=true:=by unfold Nvm.has;simp;omega
 have hw:=qrw hc;unfold Nvm.put;rw[if_pos hh,hd];simp only[Bool.false_eq_true,if_false];by_cases cw:Nvm.worn m i.toNat=true
 ·rw[if_pos cw];unfold Nvm.told;rw[hw];rfl
 ·rw[if_neg cw];unfold Nvm.told;rw[show(Nvm.hit (Nvm.write m).2 i.toNat d (Nvm.write m).1).down=(Nvm.write m).2.down from rfl,hw];rfl
theorem qqh{slots slot:Int}{spares:Nat}{d:List Int}(h:LOk slots spares m)(hd:m.down=false)(hc:m.cut=0)(h0:0<=slot)(h1:slot<slots):(Lns.put m slots spares slot d).1=2:=by
 have hp:=h.place h0 h1;have:=qsf (d:=d) hd hc hp.1 hp.2;unfold Lns.put;rw[hd];simp only[Bool.false_eq_true,if_false];rw[if_neg (by omega)];exact this
theorem qsc(h:MOk s m):(0<=(Trn.moveS s.n (Trn.moves m)).1/\(Trn.moveS s.n (Trn.moves m)).1<s.n+1)/\0<=(Trn.moveS s.n (Trn.moves m)).2/\(Trn.moveS s.n (Trn.moves m)).2<s.n+1:=by
 have hg:=h.g;have hgr:=vz hg;have hn1:=h.ok.n1;unfold Trn.moveS;by_cases c:ku s.n (Trn.moves m)=0
 ·rw[if_pos c];dsimp only;omega
 ·rw[if_neg c];dsimp only;omega
theorem qsk{line:Int}{d:List Int}(h:MOk s m)(hd:m.down=false)(hc:m.cut=0)(puts:Int):(Trn.put s m puts line d).1=2:=by
 have hs:=h.slotR line;have hp:=qqh (d:=d) h.l hd hc hs.1 hs.2;unfold Trn.put;rw[hd];simp only[Bool.false_eq_true,if_false];by_cases c:wrap64 (puts+1)=s.period
 ·rw[if_pos c];have hm:(Trn.move s m).1=2:=by
   have hr:=qsc h;have hg:=qf6 h.l hd hr.1.1 hr.1.2;have hq:=qqh (d:=(Lns.get m (s.n+1) s.spares (Trn.moveS s.n (Trn.moves m)).1).1) h.l hd hc hr.2.1 hr.2.2;unfold Trn.move;rw[if_pos (by rw[hg]),if_neg (by omega)];exact hq
  rw[if_neg (by omega)];exact hm
 ·rw[if_neg c];exact hp
theorem qot{hs:List jw}(h:LInv s m)(hu:m.down=false)(hc:Lg.count m=0)(h0:m.cut=0)(hm:Lg.mayH s.n hs=true)(hn:17<=s.n)(hv:∀ x∈hs,W64 x.2)(puts:Int)(hb:Trn.moves m+40<=4611686018427387903):(Lg.commit s hs m puts).1=2∧∀ line,16<=line->line<s.n->vw s (Lg.commit s hs m puts).2.1 line=vw s m line:=by
 have hl:=pb hm;have hlen:=qad hm;have hn2:=h.ok.ok.n2;have hreg:(Nvm.reg m 1).1=0:=by unfold Nvm.reg;rw[hu];exact hc
 unfold Lg.commit;rw[hm,hu,if_neg (by decide),if_neg (by decide),if_neg (by rw[hreg];exact fun h=>h rfl)];have hvv:∀ x∈hs,(0<=x.1/\x.1<=18446744073709551615)/\W64 x.2:=fun x hx=>⟨by have:=hl x hx;omega,hv x hx⟩;obtain⟨hrv,hri⟩:=qgh hlen.2 hvv hs.length (an _);have hrl:=Lg.rowsTo_length hs hs.length;have hI:(hs.length:Int)<=8*Lg.idx hs.length/\0<=Lg.idx hs.length/\Lg.idx hs.length<=2:=by unfold Lg.idx;omega
 have hR:=zi (s:=s) (Lg.rowsTo hs hs.length) 0 m puts h.ok hu (by omega) hrv (by omega);have he:(Lg.putRows s (Lg.rowsTo hs hs.length) 0 m puts).1=2:=by
  match hq:Lg.rowsTo hs hs.length,hrl with
  |[],hrl=>rw[List.length_nil]at hrl;omega
  |d::rs,_=>
   have:=qsk (line:=((0:Nat):Int)) (d:=d) h.ok hu h0 puts;rw[Lg.putRows,if_neg (by omega)];exact this
 rw[if_neg (by omega)];refine⟨he,fun line l0 l1=>?_⟩;generalize Lg.rowsTo hs hs.length=R at hR hri hrl;generalize Lg.putRows s R 0 m puts=r1 at hR;obtain⟨e1,m1,p1⟩:=r1;dsimp only at hR ⊢;have hc1:Lg.count m1=0:=by rw[<-hc];exact hR.regs 1 (by omega)
 rw[te hc1,te hc,hR.oth line (by omega) l1 (by omega)]
theorem qsq{es:List S160}{l':List S116}(h:HInv p st l v r)(hp:p.Ok)(hu:st.m.down=false)(hw:Hp.isWorn st.worn st.m=false)(h0:st.m.cut=0)(hb:Trn.moves st.m+40<=4611686018427387903)(he:EdFit p es):(Hp.commit p st v es).1=2/\wv p (Hp.commit p st v es).2.m p.lines.toNat=v:=by
 obtain⟨hw1,hw2⟩:=(lz hu).1 hw;have hl1:=hp.l1;have hl2:=hp.l2;obtain⟨l1,l2,l3⟩:=he.lines;have hwl:=sb h.inv p.lines.toNat;have hm:=wb hp he (Sp.apply v es);have hvals:∀ x∈Hp.homesOf (Sp.lines es) (Sp.apply v es),W64 x.2:=fun x hx=>by obtain⟨i,hi,rfl⟩:=List.mem_map.1 hx;have:=l3 i hi;rw[<-h.wd];exact qdb (by rw[xl,hwl];omega) (yz es _ (qgs h.inv _) he.val)
 obtain⟨a,b⟩:=qot h.inv hu hw2 h0 hm (by show 17<=16+p.lines;omega) hvals st.puts hb;have hC:=qeo h.inv hu hw2 hm (by show 17<=16+p.lines;omega) hvals st.puts hb;unfold Hp.commit;rw[if_neg (by omega)];refine⟨a,?_⟩;refine(qar h.inv hC.same.inv (by omega) b).trans h.wd
end
section
variable{p:Pn}{st:St}{m m':Mem}{s:Shape}{l:List S116}{v:List Int}{r:Int}
theorem MOk.re(h:MOk s m)(hc:m'.cells=m.cells)(hr:m'.regs=m.regs):MOk s m':=by
 obtain⟨c,g,w,k,a,d⟩:=m;obtain⟨c',g',w',k',a',d'⟩:=m';dsimp only at hc hr;subst hc hr;exact⟨h.ok,⟨h.l.s1,h.l.s2,h.l.sp,h.l.len,h.l.val,h.l.rlen,h.l.regs,h.l.may⟩,h.mv⟩
theorem qsl(hc:m'.cells=m.cells)(hr:m'.regs=m.regs)(line:Int):vw s m' line=vw s m line:=by
 obtain⟨c,g,w,k,a,d⟩:=m;obtain⟨c',g',w',k',a',d'⟩:=m';dsimp only at hc hr;subst hc hr;rfl
theorem qqt(hc:m'.cells=m.cells)(hr:m'.regs=m.regs):∀ k,wv p m' k=wv p m k
 |0=>rfl
 |k+1=>by rw[wv,wv,qqt hc hr k,qsl hc hr]
theorem MInv.re(h:MInv p m l v r)(hc:m'.cells=m.cells)(hr:m'.regs=m.regs):MInv p m' l v r:=by
 have hv:=qqt (p:=p) hc hr p.lines.toNat;refine⟨⟨h.inv.ok.re hc hr,?_⟩,by rw[hv];exact h.wd,h.hv,by rw[hr];exact h.rt,h.ri⟩;obtain⟨c,g,w,k,a,d⟩:=m;obtain⟨c',g',w',k',a',d'⟩:=m';dsimp only at hc hr;subst hc hr;exact h.inv.cnt
theorem qiq{n:Int}(h:HInv p st l v r)(hp:p.Ok)(hb:Trn.moves st.m+40<=4611686018427387903)(hu:st.m.down=false)(hw:Hp.isWorn st.worn st.m=false)(hz:df n≠0){j:Int}(j0:0<=j)(j1:j<l.length)(hj:OkB l (df n) j):∃ c e off st',zp l c (df n)/\Hp.AllocR p st n e off st'∧ComO p st e st' l v r (crv l c (df n)) (app v (eds (ab l c) (df n)))/\off=if e=0 then((ab l c).f0+1)*8 else 0:=by
 have hws:=h.ws hp hu;obtain⟨es_,of_,er_,ha,hr⟩:=qer n st.now h.hv;rcases hr with⟨e,_⟩|⟨_,hno,rfl,rfl,rfl⟩|⟨_,c,can,hbst,rfl,rfl,rfl⟩
 ·exact absurd e hz
 ·exact absurd hj (hno j j0 j1)
 ·have hg:=fh h.hv (jl can.2.1 can.2.2.1);have hnr:=qa3 n;have hin:=qmu (b:=ab l c) can.2.2.2.2 hg.2.1 (need:=df n) (by omega);have htk:=qb1 can.2.2.2.2 hg.2.1;have hel:=qfx (b:=ab l c) (need:=df n) htk.1;have hef:EdFit p (eds (ab l c) (df n)):=vx (by unfold eds;simp) (by split at hel <;> omega) _ hg.1 (fun e he=>by have:=hin e he;omega) (qfz _ _);have hC:=qcw h hp hu hw hb hef (qjc h.hv can) (qdo can h.ri);exact⟨c,_,_,_,can, .inr (.inr (.inr (.inr ⟨_,_,_,hu,uv _,hz,hw,hef.ok,by rw[hws];exact ha,by rw[hws],by rw[hws],rfl⟩))),hC,rfl⟩
theorem ComO.quiet{e:Int}{st':St}{l':List S116}{v':List Int}(h:ComO p st e st' l v r l' v')(hc:st.m.cut<0)(hl:∀ j,gp st.m j<0):e=0/\st'.m.down=false/\HInv p st' l' v' r:=by
 have h0:e=0:=by
  rcases h.kind with e|e|e
  ·exact e
  ·have:=h.cutd (h.two.1 e);omega
  ·obtain⟨j,hj⟩:=h.three e;have:=hl j;omega
 refine⟨h0,?_,?_⟩
 ·by_cases c:st'.m.down=true
  ·have:=h.two.2 c;omega
  ·exact y6 c
 ·rcases h.eff with⟨_,a⟩|⟨a,_⟩|⟨a,_⟩
  ·exact a
  ·exact absurd h0 a
  ·omega
structure Quiet (st:St):Prop where
 up:st.m.down=false
 cut:st.m.cut<0
 lim:∀ j,gp st.m j<0
 fr:Hp.isWorn st.worn st.m=false
theorem Kp.quiet{st':St}(h:Kp st st')(q:Quiet st)(hu:st'.m.down=false):Quiet st':=by
 refine⟨hu,by rw[h.cut q.cut];exact q.cut,fun j=>by rw[h.lim];exact q.lim j,?_⟩;rcases h.fresh q.fr hu with e|⟨j,hj⟩
 ·exact e
 ·have:=q.lim j;omega
def opA:S39:=⟨1,0,9,0,[]⟩
def opC:S39:=⟨7,0,0,0,[]⟩
def opF:S39:=⟨2,8,0,0,[]⟩
def opS:S39:=⟨8,0,0,0,[]⟩
def opR:S39:=⟨3,8,9,0,[]⟩
theorem qg9{W:Int}(hp:p.Ok){st0:St}(h0:HInv p st0 [⟨0,W,false⟩] v 0)(q0:Quiet st0)(hm:Trn.moves st0.m<=1000):∃ st1 st2 st3 bs,TwR p (.on st0) opA 0 8 [] (.on st1)/\TwR p (.on st1) opC 0 0 [] (.on {st1 with m:=Nvm.cutAt st1.m 0 0})/\TwR p (.on {st1 with m:=Nvm.cutAt st1.m 0 0}) opF 2 0 [] (.on st2)/\TwR p (.on st2) opS 0 0 [] (.on st3)/\TwR p (.on st3) opR 0 0 bs (.on st3)/\bs.length=9:=by
 have hW:W=p.lines*8:=by have:=h0.hv.1.2;have h:(0:Int)+W=p.lines*8:=this.2.2.2.2.2;omega
 have hl1:=hp.l1;obtain⟨c,e1,off,st1,can,hA,hC,hoff⟩:=qiq (n:=9) h0 hp (by omega) q0.up q0.fr (by decide) (j:=0) (by omega) (by simp) ⟨rfl,by show df 9<=W;rw[show df 9=3 from by decide];omega⟩;obtain⟨rfl,hu1,h1⟩:=hC.quiet q0.cut q0.lim;have hc:c=0:=by have h2:=can.2.1;have h3:=can.2.2.1;simp at h3;omega
 subst hc;rw[if_pos rfl]at hoff;have hoff:off=8:=hoff;subst hoff;have hq1:=hC.kp.quiet q0 hu1;have hmv1:=hC.kp.mv;rw[show df 9=3 from by decide]at *;have htk:=qb1 can.2.2.2.2 (by show 2<=W;omega);have hb:(⟨0,tk W 3,true⟩:S116)∈crv [⟨0,W,false⟩] 0 3:=(qi1 (by omega) (by simp)).2 (.inr (.inl List.mem_cons_self));have htk3:3<=tk W 3:=htk.2.2.2.2;generalize crv [⟨0,W,false⟩] 0 3=l1 at h1 hb;generalize app v _=v1 at h1;have hw2:HInv p {st1 with m:=Nvm.cutAt st1.m 0 0} l1 v1 0:=(MInv.re (m':=Nvm.cutAt st1.m 0 0) h1.mem rfl rfl).heap h1.now;have hu2:(Nvm.cutAt st1.m 0 0).down=false:=hu1;have hmv2:Trn.moves (Nvm.cutAt st1.m 0 0)=Trn.moves st1.m:=rfl;have hfr2:Hp.isWorn st1.worn (Nvm.cutAt st1.m 0 0)=false:=(lz hu2).2 ((lz hu1).1 hq1.fr);obtain⟨i,i0,i1,hi⟩:=qa1 hb;have hcu:(ab l1 i).f2=true:=by rw[hi]
 have ho:(8:Int)=((ab l1 i).f0+1)*8:=by rw[hi];rfl
 have hlen:=j6 h1.hv.1;have ha:=qes h1.hv (by omega) i0 i1 hcu ho;have can2:=qcr h1.hv.1 ⟨i0,i1⟩ hcu;have ft:=mw (l:=l1) (i:=i) ⟨i0,i1⟩;have hg:=fh h1.hv (jl ft.1 (by omega));have hcg:=fh h1.hv (jl i0 i1);have hef:EdFit p [⟨(ab l1 (cz l1 i)).f0,j8 (dq (mM l1 i)) false⟩]:=vx (by simp) (by simp) (ab l1 (cz l1 i)).f0 hg.1 (fun e he=>by rw[List.mem_singleton.1 he];dsimp only;omega) (fun e he=>by rw[List.mem_singleton.1 he];exact qhl _);have hC2:=qcw hw2 hp hu2 hfr2 (by dsimp only;omega) hef (qkb h1.hv can2) (.inl rfl);obtain⟨z1,z2⟩:=qsq (l':=l1) hw2 hp hu2 hfr2 rfl (by dsimp only;omega) hef;have hws:=hw2.ws hp hu2;generalize hst2:Hp.commit p {st1 with m:=Nvm.cutAt st1.m 0 0} v1 [⟨(ab l1 (cz l1 i)).f0,j8 (dq (mM l1 i)) false⟩]=cm at hC2 z1 z2;obtain⟨e2,st2⟩:=cm;dsimp only at hC2 z1 z2;subst z1;have hM2:MInv p st2.m l1 v1 0:=by
  have hx:LInv p.shape st2.m/\st2.m.regs.getD 2 0=0:=by
   rcases hC2.eff with⟨e,_⟩|⟨_,e⟩|⟨_,e⟩
   ·omega
   ·exact⟨e.inv,e.rt⟩
   ·exact⟨e.inv,e.rt⟩
  exact⟨hx.1,z2,h1.hv,hx.2, .inl rfl⟩
 have hM2p:MInv p (Nvm.power st2.m) l1 v1 0:=hM2.re rfl rfl;have hmv3:=hC2.kp.mv;dsimp only at hmv3;have hmp:Trn.moves (Nvm.power st2.m)=Trn.moves st2.m:=rfl;have hO:=xu hM2p hp rfl (by omega) 0;have hOk:=hM2p.openOk hp rfl (by omega);generalize hrc:Lg.recover p.shape (Nvm.power st2.m) 0=rc at hO;have hr0:rc.1=0/\rc.2.1.down=false:=by
  rcases hO.res with e|⟨_,_,e⟩
  ·exact e
  ·exact absurd (show(0:Int)<= -1 from e) (by decide)
 have h3:=zf hO.inv rc.2.2;have hu3:(Hp.opened p rc.2.1 rc.2.2).m.down=false:=hr0.2;have hws3:=h3.ws hp hu3;refine⟨st1,st2,Hp.opened p rc.2.1 rc.2.2,rdB v1 8 (9:Int).toNat, .inr (.inr (.inr ⟨by decide,by decide,_,_,rfl,rfl,h0.stOk (by omega), .inl ⟨rfl,rfl,hA⟩⟩)), .inl ⟨rfl,rfl,rfl,rfl,rfl⟩,
  .inr (.inr (.inr ⟨by decide,by decide,_,_,rfl,rfl,hw2.stOk (by dsimp only;omega), .inr (.inl ⟨rfl,rfl,rfl, .inr (.inr (.inr (.inr ⟨_,hu2,?_,hfr2,hef.ok,by rw[hws];exact ha,by rw[hws,hst2],by rw[hws,hst2]⟩)))⟩)⟩)),
  .inr (.inl ⟨rfl,rfl,rfl,hOk,fun _=>?_,?_,?_⟩),
  .inr (.inr (.inr ⟨by decide,by decide,_,_,rfl,rfl,h3.stOk ?_, .inr (.inr (.inl ⟨rfl,rfl,rfl, .inr (.inr ⟨hu3,rfl,?_⟩)⟩))⟩)),qcd _ _ _⟩
 ·rw[qdy hw2 hp];decide
 ·rw[show(TS.on st2).mem=st2.m from rfl,hrc];exact hO.inv.openOk2 hp hr0.2
 ·rw[show(TS.on st2).mem=st2.m from rfl,hrc];exact hr0.1.symm
 ·rw[show(TS.on st2).mem=st2.m from rfl,hrc,if_pos hr0.1]
 ·have:=hO.mv;show Trn.moves rc.2.1+40<=_;omega
 ·rw[hws3];exact qkj h1.hv (by decide) ⟨_,hb,rfl,Int.le_refl 8,by show(8:Int)<=(0+tk W 3)*8-9;omega⟩
end
structure NewS (p:Pn) (limits:List Int) (st:St):Prop where
 inv:HInv p st [⟨0,p.lines*8,false⟩] (Hp.firstW p) 0
 up:st.m.down=false
 cut:st.m.cut= -1
 mv:Trn.moves st.m<=15
 lim:∀ j,0<=gp st.m j->limits≠[]
 fr:Hp.isWorn st.worn st.m=false\/limits≠[]
def qrz(w:World)(p:Pn)(limits:List Int)(e:Ending)(w':World):Prop:=
 Below w.heap.size w w'∧((∃ W M C F st,e=.returned (.tuple #[.pointer (some ⟨W,0,none⟩), .int .i64 0])/\la w' W M C p (.on st) 0 F/\(∀ j,F j->w.heap.size<=j)/\NewS p limits st)\/(∃ n:Int,n≠0/\e=.returned (.tuple #[.pointer none, .int .i64 n])/\limits≠[]))
section
variable{w:World}{p:Pn}{limits:List Int}
theorem NewS.quiet{st:St}(h:NewS p [] st):Quiet st:=
 ⟨h.up,by rw[h.cut];decide,fun j=>by
  rcases Int.lt_or_le (gp st.m j) 0 with e|e
  ·exact e
  ·exact absurd rfl (h.lim j e),h.fr.resolve_right (fun e=>e rfl)⟩
theorem qj3(hp:p.Ok)(A:Option Addr)(c:Nat)(hl:Kd.C (Kd.int .i64) w A limits.length limits)(hc:limits.length<=c):Calls Tryz.prog 17 #[oz p, .slice A limits.length c] w (qrz w p limits):=by
 have hF:=qi7 (limits:=limits) hp p.lines.toNat (by have:=hp.l1;omega);have hmv:=hF.mv;have hi:=qo1 (limits:=limits) hp hF;refine(qg5 hp A c limits hl hc (qq1 hp) (fun h0=>⟨hF.up,(hi h0).openOk hp hF.up (by omega),fun hr=>(xu (hi h0) hp hF.up (by omega) 0).inv.openOk2 hp ?_⟩)).mono ?_
 ·rcases (xu (hi h0) hp hF.up (by omega) 0).res with e|⟨e,_⟩
  ·exact e.2
  ·omega
 ·intro e w' h;obtain⟨hb,k1,k2,k3⟩:=h;refine⟨hb,?_⟩;generalize Hp.fmtAt p (Nvm.fresh p.device limits) p.lines.toNat=fm at *;by_cases h0:fm.1=0
  ·left;have hO:=xu (hi h0) hp hF.up (by omega) 0;generalize Lg.recover p.shape fm.2.1 0=rc at *;have hr:rc.1=0/\rc.2.1.down=false:=by
    rcases hO.res with e|⟨_,_,e⟩
    ·exact e
    ·have:=hF.cut;omega
   obtain⟨W,M,C,F,a,b,c⟩:=k1 h0 hr.1;have hcut:=hF.cut;have hm:=hO.mv;have hlim:∀ j,0<=gp rc.2.1 j->limits≠[]:=fun j hj=>by rw[hO.lim,hF.lim]at hj;exact qax _ _ hj
   refine⟨W,M,C,F,_,a,b,c,zf hO.inv _,hr.2,?_,?_,hlim,?_⟩
   ·show rc.2.1.cut= -1;rw[hO.cut (by omega)];exact hcut
   ·show Trn.moves rc.2.1<=15;omega
   ·rcases hO.cln hr.2 with e|⟨j,hj⟩
    ·exact .inl ((lz hr.2).2 ⟨rfl,e⟩)
    ·exact .inr (by rw[hF.lim]at hj;exact qax _ _ hj)
  ·right;refine⟨fm.1,h0,k3 h0,?_⟩;rcases hF.res with⟨e,_⟩|⟨_,j,hj⟩
   ·exact absurd e h0
   ·exact qax _ _ hj
end
def pnA:Pn:=⟨4,1,2,2⟩
theorem zh:pnA.Ok:=⟨by decide,by decide,by decide,by decide,by decide,by decide,by decide,by decide⟩
theorem qrd(w:World):Kd.C (Kd.int .u8) w none 0 []:=⟨rfl,by decide,fun h=>absurd h (Nat.lt_irrefl 0)⟩
theorem qsd(w:World):Kd.C (Kd.int .i64) w none 0 []:=⟨rfl,by decide,fun h=>absurd h (Nat.lt_irrefl 0)⟩
theorem qrr{w:World}{W M C:Nat}{s s':TS}{cost:Int}{F:Nat->Prop}{p:Pn}(h:la w W M C p s cost F)(hp:p.Ok)(op:S39)(h4:op.f4=[]){e off:Int}{bs:List Int}(hr:TwR p s op e off bs s'):Calls Tryz.prog 21 #[.pointer (some ⟨W,0,none⟩), .agg #[.int .i64 op.f0, .int .i64 op.f1, .int .i64 op.f2, .int .i64 op.f3, .slice none 0 0]] w (qbb w W M C p (wrap64 (s'.mem.writes-s.mem.writes)) F e off bs s'):=by
 have:=qem h op none 0 (by rw[h4];exact qrd w) (by rw[h4];exact an 0) hp hr;unfold opV at this;rw[h4]at this;exact this
structure Stands (w0 w:World) (W M C:Nat) (p:Pn) (s:TS) (F:Nat->Prop):Prop where
 tw:∃ cost,la w W M C p s cost F
 far:∀ j,F j->w0.heap.size<=j
 below:Below w0.heap.size w0 w
theorem Stands.step{w0 w w':World}{W M C:Nat}{p:Pn}{s s':TS}{F F':Nat->Prop}{cost:Int}(h:Stands w0 w W M C p s F)(ht:la w' W M C p s' cost F')(kk:aq F w w')(hf:∀ j,F' j->F j\/w.heap.size<=j):Stands w0 w' W M C p s' F':=
 ⟨⟨_,ht⟩,fun j hj=>(hf j hj).elim (h.far j) (fun e=>Nat.le_trans h.below.size e),h.below.trans (kk.below h.below.size (fun j hj e=>by have:=h.far j e;omega))⟩
theorem Stands.on{w0 w w':World}{W M C:Nat}{p:Pn}{s:TS}{F:Nat->Prop}(h:Stands w0 w W M C p s F)(hb:Below w.heap.size w w'):Stands w0 w' W M C p s F:=by
 obtain⟨c,ht⟩:=h.tw;exact h.step (ht.below hb) (aq.of_below hb) (fun j hj=>.inl hj)
def qq(w:World)(F:Nat->Prop)(g:Nat)(cs:List Value):Prop:=w.heap[g]? =some (.cells cs.toArray 36 (0,0))∧¬ F g
theorem qq.step{w w':World}{F F':Nat->Prop}{g:Nat}{cs:List Value}(h:qq w F g cs)(kk:aq F w w')(hf:∀ j,F' j->F j\/w.heap.size<=j):qq w' F' g cs:=
 ⟨kk.of h.1 h.2,fun e=>(hf g e).elim h.2 (fun e=>by have:=d7 h.1;omega)⟩
theorem qq.on{w w':World}{F:Nat->Prop}{g:Nat}{cs:List Value}(h:qq w F g cs)(hb:Below w.heap.size w w'):qq w' F g cs:=⟨ap h.1 hb,h.2⟩
theorem qq.new{w w':World}{W M C:Nat}{p:Pn}{s:TS}{F:Nat->Prop}{cs:List Value}{w0:World}(h:Stands w0 w W M C p s F)(hb:w'.heap[w.heap.size]? =some (.cells cs.toArray 36 (0,0))):qq w' F w.heap.size cs:=by
 obtain⟨c,ht⟩:=h.tw;exact⟨hb,fun e=>by have:=ht.lt _ e;omega⟩
theorem qoe{w0 w:World}{W M C:Nat}{s s':TS}{F:Nat->Prop}{p:Pn}(h:Stands w0 w W M C p s F)(hp:p.Ok)(op:S39)(h4:op.f4=[]){e off:Int}{bs:List Int}(hr:TwR p s op e off bs s'):Calls Tryz.prog 21 #[.pointer (some ⟨W,0,none⟩), .agg #[.int .i64 op.f0, .int .i64 op.f1, .int .i64 op.f2, .int .i64 op.f3, .slice none 0 0]] w fun x w'=>∃ A c F',x=.returned (.agg #[.int .i64 e, .int .i64 off, .slice A bs.length c])/\Stands w0 w' W M C p s' F'∧aq F w w'∧∀ j,F' j->F j\/w.heap.size<=j:=by
 obtain⟨c,ht⟩:=h.tw;refine(qrr ht hp op h4 hr).mono ?_;rintro x w' ⟨d,F',rfl,ho,ht',kk,hf⟩;obtain⟨A,c',rfl⟩:=Kd.R_slice ho;exact⟨A,c',F',rfl,h.step ht' kk hf,kk,hf⟩
theorem vu(w:World):Calls Tryz.prog 15 #[] w fun e w'=>e=.returned (.bool true)/\Below w.heap.size w w':=by
 have HN:Aside0 (∀ w',Calls Tryz.prog 17 #[.agg #[.int .i64 4, .int .i64 1, .int .i64 2, .int .i64 2], .slice none 0 0] w' (qrz w' pnA [])):=⟨fun w'=>qj3 (p:=pnA) zh none 0 (qsd w') (an 0)⟩;go_enter Tryz.func15,Tryz.ntmps15;go_wp2_with (first
  |(go_at_call 17;(with_reducible refine(HN.out _).mono ?_);rintro e w1 ⟨hb,⟨W,M,C,F,st0,rfl,ht,hF,hs⟩|⟨n,hn,rfl,hl⟩⟩)
  )
 ·obtain⟨st1,st2,st3,bs,r1,r2,r3,r4,r5,hbs⟩:=qg9 zh hs.inv hs.quiet (by have:=hs.mv;omega);have S1:=am (Stands.mk (w0:=w) ⟨_,ht⟩ hF hb);have A1:Aside0 (∀ w' F',Stands w w' W M C pnA (.on st0) F'→Calls Tryz.prog 21 #[.pointer (some ⟨W,0,none⟩), .agg #[.int .i64 1, .int .i64 0, .int .i64 9, .int .i64 0, .slice none 0 0]] w' fun x w''=>∃ A c F'',x=.returned (.agg #[.int .i64 0, .int .i64 8, .slice A 0 c])/\Stands w w'' W M C pnA (.on st1) F''∧aq F' w' w''∧∀ j,F'' j->F' j\/w'.heap.size<=j):=⟨fun w' F' h=>qoe h zh opA rfl r1⟩;have A2:Aside0 (∀ w' F',Stands w w' W M C pnA (.on st1) F'→Calls Tryz.prog 21 #[.pointer (some ⟨W,0,none⟩), .agg #[.int .i64 7, .int .i64 0, .int .i64 0, .int .i64 0, .slice none 0 0]] w' fun x w''=>∃ A c F'',x=.returned (.agg #[.int .i64 0, .int .i64 0, .slice A 0 c])/\Stands w w'' W M C pnA (.on {st1 with m:=Nvm.cutAt st1.m 0 0}) F''∧aq F' w' w''∧∀ j,F'' j->F' j\/w'.heap.size<=j):=⟨fun w' F' h=>qoe h zh opC rfl r2⟩;generalize TS.on {st1 with m:=Nvm.cutAt st1.m 0 0}=s2 at A2 r3;have A3:Aside0 (∀ w' F',Stands w w' W M C pnA s2 F'→Calls Tryz.prog 21 #[.pointer (some ⟨W,0,none⟩), .agg #[.int .i64 2, .int .i64 8, .int .i64 0, .int .i64 0, .slice none 0 0]] w' fun x w''=>∃ A c F'',x=.returned (.agg #[.int .i64 2, .int .i64 0, .slice A 0 c])/\Stands w w'' W M C pnA (.on st2) F''∧aq F' w' w''∧∀ j,F'' j->F' j\/w'.heap.size<=j):=⟨fun w' F' h=>qoe h zh opF rfl r3⟩;have A4:Aside0 (∀ w' F',Stands w w' W M C pnA (.on st2) F'→Calls Tryz.prog 21 #[.pointer (some ⟨W,0,none⟩), .agg #[.int .i64 8, .int .i64 0, .int .i64 0, .int .i64 0, .slice none 0 0]] w' fun x w''=>∃ A c F'',x=.returned (.agg #[.int .i64 0, .int .i64 0, .slice A 0 c])/\Stands w w'' W M C pnA (.on st3) F''∧aq F' w' w''∧∀ j,F'' j->F' j\/w'.heap.size<=j):=⟨fun w' F' h=>qoe h zh opS rfl r4⟩;have A5:Aside0 (∀ w' F',Stands w w' W M C pnA (.on st3) F'→Calls Tryz.prog 21 #[.pointer (some ⟨W,0,none⟩), .agg #[.int .i64 3, .int .i64 8, .int .i64 9, .int .i64 0, .slice none 0 0]] w' fun x w''=>∃ A c F'',x=.returned (.agg #[.int .i64 0, .int .i64 0, .slice A 9 c])/\Stands w w'' W M C pnA (.on st3) F''∧aq F' w' w''∧∀ j,F'' j->F' j\/w'.heap.size<=j):=⟨fun w' F' h=>by have:=qoe h zh opR rfl r5;rw[hbs]at this;exact this⟩;clear ht hF hb hs r1 r2 r3 r4 r5 hbs;go_wp2_with (first
   |(go_at_call 21;(with_reducible refine(A1.out _ _ S1.out).mono ?_);rintro x w2 ⟨A,c,F2,rfl,hs,hk,hf⟩;have S2:=am hs;clear hs hk hf)
   |((with_reducible refine bp (t:=36) (p:=3) rfl ?_);refine dx rfl 36 (.tmp 3) (.tmp 20) rfl _ (fq 0 8 (.slice A 0 c)) rfl rfl gj rfl rfl ?_;intro w3 BZ HZb;have S3:=am (S2.out.on HZb.out);have B1:=am (qq.new S2.out BZ.out);generalize w2.heap.size=g1 at B1 ⊢;clear S2 BZ HZb)
   |(go_at_call 21;(with_reducible refine(A2.out _ _ S3.out).mono ?_);rintro x w4 ⟨A,c,F4,rfl,hs,hk,hf⟩;have S4:=am hs;have B2:=am (B1.out.step hk hf);clear hs hk hf B1)
   |(go_at_call 21;(with_reducible refine(A3.out _ _ S4.out).mono ?_);rintro x w5 ⟨A,c,F5,rfl,hs,hk,hf⟩;have S5:=am hs;have B3:=am (B2.out.step hk hf);clear hs hk hf B2)
   |((with_reducible refine bp (t:=36) (p:=4) rfl ?_);refine dx rfl 36 (.tmp 4) (.tmp 26) rfl _ (fq 2 0 (.slice A 0 c)) rfl rfl gj rfl rfl ?_;intro w6 BZ HZb;have S6:=am (S5.out.on HZb.out);have B4:=am (B3.out.on HZb.out);have D4:=am (qq.new S5.out BZ.out);generalize w5.heap.size=g2 at D4 ⊢;clear S5 BZ HZb B3)
   |(go_at_call 21;(with_reducible refine(A4.out _ _ S6.out).mono ?_);rintro x w7 ⟨A,c,F7,rfl,hs,hk,hf⟩;have S7:=am hs;have B5:=am (B4.out.step hk hf);have D5:=am (D4.out.step hk hf);clear hs hk hf B4 D4)
   |((with_reducible refine bp (t:=36) (p:=5) rfl ?_);refine dx rfl 36 (.tmp 5) (.tmp 29) rfl _ (fq 0 0 (.slice A 0 c)) rfl rfl gj rfl rfl ?_;intro w8 BZ HZb;have S8:=am (S7.out.on HZb.out);have B6:=am (B5.out.on HZb.out);have D6:=am (D5.out.on HZb.out);have E6:=am (qq.new S7.out BZ.out);generalize w7.heap.size=g3 at E6 ⊢;clear S7 BZ HZb B5 D5)
   |(go_at_call 21;(with_reducible refine(A5.out _ _ S8.out).mono ?_);rintro x w9 ⟨A,c,F9,rfl,hs,hk,hf⟩;have S9:=am hs;have B7:=am (B6.out.step hk hf);have D7:=am (D6.out.step hk hf);have E7:=am (E6.out.step hk hf);clear hs hk hf B6 D6 E6)
   |((with_reducible refine bp (t:=36) (p:=6) rfl ?_);refine dx rfl 36 (.tmp 6) (.tmp 32) rfl _ (fq 0 0 (.slice A 9 c)) rfl rfl gj rfl rfl ?_;intro w10 BZ HZb;have S10:=am (S9.out.on HZb.out);have B8:=am (B7.out.on HZb.out);have D8:=am (D7.out.on HZb.out);have E8:=am (E7.out.on HZb.out);have G8:=am (qq.new S9.out BZ.out);generalize w9.heap.size=g4 at G8 ⊢;clear S9 BZ HZb B7 D7 E7;have k1:w10.cell? ⟨g1,1,none⟩=some (.int .i64 8):=(aj B8.out.1 1).trans rfl;have k2:w10.cell? ⟨g2,0,none⟩=some (.int .i64 2):=(aj D8.out.1 0).trans rfl;have k3:w10.cell? ⟨g3,0,none⟩=some (.int .i64 0):=(aj E8.out.1 0).trans rfl;have k4:w10.cell? ⟨g4,2,none⟩=some (.slice A 9 c):=(aj G8.out.1 2).trans rfl))
  go_ret;exact⟨rfl,S10.out.below⟩
 ·exact absurd rfl hl

section
variable{w0 w:World}{W M C:Nat}{p:Pn}{st:St}{F:Nat->Prop}{l:List S116}{v:List Int}{r:Int}
theorem qid(h:HInv p st l v r)(hp:p.Ok)(hu:st.m.down=false):Hp.words p st.m=(v,0):=by
 unfold Hp.words;rw[hu,if_neg (by decide)];exact congrArg (fun x=>(x,(0:Int))) (h.ws hp hu)
end
theorem qp2{xs ys:List Int}(hx:∀ x∈xs,0<=x/\x<256)(hy:∀ y∈ys,0<=y/\y<256)(h:(strOfNums xs).toList=(strOfNums ys).toList):xs=ys:=by
 have key:∀ (xs ys:List Int),(∀ x∈xs,0<=x/\x<256)->(∀ y∈ys,0<=y/\y<256)->xs.map (fun n=>UInt8.ofNat n.toNat)=ys.map (fun n=>UInt8.ofNat n.toNat)->xs=ys:=by
  intro xs
  induction xs with
  |nil=>intro ys _ _ h;cases ys with
   |nil=>rfl
   |cons y ys=>cases h
  |cons x xs ih=>
   intro ys hx hy h;cases ys with
   |nil=>cases h
   |cons y ys=>
    simp only[List.map_cons,List.cons.injEq]at h;have h1:=hx x List.mem_cons_self;have h2:=hy y List.mem_cons_self;have h3:x.toNat % 256=y.toNat % 256:=by have:=congrArg UInt8.toNat h.1;simpa using this
    rw[ih ys (fun z hz=>hx z (List.mem_cons_of_mem _ hz)) (fun z hz=>hy z (List.mem_cons_of_mem _ hz)) h.2,show x=y by omega]
 refine key xs ys hx hy ?_;rw[ByteArray.toList_eq,ByteArray.toList_eq]at h;simpa[strOfNums]using h
theorem qge(v:List Int):∀ (o:Int) (n:Nat),∀ x∈rdB v o n,0<=x/\x<256
 |o,0,x,h=>(by cases h)
 |o,n+1,x,h=>by
  rcases List.mem_cons.1 h with rfl|h
  ·unfold jr;omega
  ·exact qge v (o+1) n x h
theorem qr3{w:World}{g:Nat}{x y:Int}{z:Bool}(h:w.heap[g]? =some (.cells [.int .i64 x, .int .i64 y, .bool z].toArray 116 (0,0))):w.cell? ⟨g,0,none⟩=some (.int .i64 x)/\w.cell? ⟨g,1,none⟩=some (.int .i64 y)/\w.cell? ⟨g,2,none⟩=some (.bool z):=
 ⟨(aj h 0).trans rfl,(aj h 1).trans rfl,(aj h 2).trans rfl⟩
theorem qmo{w:World}{g:Nat}{e off:Int}{d:Value}(h:w.heap[g]? =some (.cells (fq e off d).toArray 36 (0,0))):w.cell? ⟨g,0,none⟩=some (.int .i64 e)/\w.cell? ⟨g,1,none⟩=some (.int .i64 off)/\w.cell? ⟨g,2,none⟩=some d:=
 ⟨(aj h 0).trans rfl,(aj h 1).trans rfl,(aj h 2).trans rfl⟩
def o4(b:S116):Int:=min 448 ((b.f1-1)*8)
def ur(v v':List Int)(b:S116):Prop:=rdB v ((b.f0+1)*8) (o4 b).toNat=rdB v' ((b.f0+1)*8) (o4 b).toNat
def tt(l:List S116)(v v':List Int):Prop:=∀ b∈l,b.f2=true->ur v v' b
structure SyS (w w':World) (b:Bl) (p:Pn) (st:St) (Mm gm cm:Nat) (vm:List Int) (rm:Int) (A:Option Addr) (c:Nat) (l:List S116):Prop where
 h:HeapAt w' b p st
 m:Md w' Mm gm cm vm rm
 g:gm<w'.heap.size
 k:aq b.W w w'
 o:Kd.R e6 116 w' w.heap.size (fun _=>True) (.slice A l.length c) l
section
variable{w w' w'':World}{b:Bl}{p:Pn}{st:St}{Mm gm cm:Nat}{vm:List Int}{rm:Int}{A:Option Addr}{c:Nat}{l lm:List S116}{v:List Int}{r:Int}
theorem SyS.on(h:SyS w w' b p st Mm gm cm vm rm A c l)(hb:Below w'.heap.size w' w''):SyS w w'' b p st Mm gm cm vm rm A c l:=
 ⟨h.h.below hb,h.m.below hb,Nat.lt_of_lt_of_le h.g hb.size,h.k.step (aq.of_below hb),Kd.R_below h.o hb⟩
theorem SyS.did(h:SyS w w' b p st Mm gm cm vm rm A c l)(hh:HeapAt w'' b p st)(k:aq b.W w' w'')(h0:HeapAt w b p st)(hM:¬ b.All Mm)(hg:¬ b.All gm):SyS w w'' b p st Mm gm cm vm rm A c l:=
 ⟨hh,h.m.kept h.g k (fun e=>hM (.inl e)) (fun e=>hg (.inl e)),Nat.lt_of_lt_of_le h.g k.size,h.k.step k,oq h.o k (fun j hj e=>h0.lt j hj (.inl e))⟩
theorem qim(h:HeapAt w b p st)(hp:p.Ok)(hi:HInv p st l v r)(hu:st.m.down=false)(hmv:Trn.moves st.m+40<=4611686018427387903)(hm:Md w Mm gm cm vm rm)(hgm:gm<w.heap.size)(hM:¬ b.All Mm)(hG:¬ b.All gm)(hVm:HV lm vm (p.lines*8)):Calls Tryz.prog 28 #[.pointer (some ⟨b.H,0,none⟩), .pointer (some ⟨Mm,0,none⟩)] w fun e w'=>∃ n:Int,e=.returned (.int .i64 n)/\(n=0<->(l=lm/\r=rm/\tt l v vm))/\HeapAt w' b p st/\aq b.W w w':=by
 have hp1:=wh hi.hv;have HWo:Aside0 (Calls Tryz.prog 20 #[.pointer (some ⟨b.H,0,none⟩)] w fun e w'=>∃ A c,e=.returned (.tuple #[.slice A v.length c, .int .i64 0])/\Kd.R (Kd.int .u64) 25 w' w.heap.size (fun _=>True) (.slice A v.length c) v/\Below w.heap.size w w'):=⟨by
  have hW:=pw h.tur h.log h.box hp (fun _=>hi.rd hu) hi.inv.c14.2;rw[qid hi hp hu]at hW;refine hW.mono ?_;rintro e w' ⟨x,rfl,ho,hb⟩;obtain⟨A,c',rfl⟩:=Kd.R_slice ho;exact⟨A,c',rfl,ho,hb⟩⟩
 have HBl:Aside0 (∀ w' A c,Kd.C (Kd.int .u64) w' A v.length v->v.length<=c->Calls Tryz.prog 45 #[.slice A v.length c] w' fun e w''=>∃ A' c',e=.returned (.tuple #[.slice A' l.length c', .bool true])/\Kd.R e6 116 w'' w'.heap.size (fun _=>True) (.slice A' l.length c') l/\Below w'.heap.size w' w''):=⟨fun w' A c h1 h2=>zo hi.hv h1 h2⟩;have HDo:Aside0 (∀ (op:S39) w' bs off,op.f4=[]->HeapAt w' b p st->Hp.DoR p st op 0 off bs st->Calls Tryz.prog 12 #[.pointer (some ⟨b.H,0,none⟩), .agg #[.int .i64 op.f0, .int .i64 op.f1, .int .i64 op.f2, .int .i64 op.f3, .slice none 0 0]] w' fun e w''=>∃ A c,e=.returned (.agg #[.int .i64 0, .int .i64 off, .slice A bs.length c])/\Kd.R (Kd.int .u8) 5 w'' w'.heap.size (fun _=>True) (.slice A bs.length c) bs/\HeapAt w'' b p st/\aq b.W w' w''):=⟨fun op w' bs off h4 hh hd=>by
  have:=qeq hh hp (hi.stOk hmv) op none 0 (by rw[h4];exact qrd w') (by rw[h4];exact an 0) 0 off bs st hd;unfold opV at this;rw[h4]at this;refine this.mono ?_;rintro e w'' ⟨d,rfl,ho,hh',hk⟩;obtain⟨A,c,rfl⟩:=Kd.R_slice ho;exact⟨A,c,rfl,ho,hh',hk⟩⟩
 have HGe:Aside0 (Hp.DoR p st ⟨6,0,0,0,[]⟩ 0 r [] st):=⟨.inr (.inr (.inr (.inr (.inr (.inl ⟨rfl,rfl,rfl, .inr ⟨hu,rfl,(qdy hi hp).symm⟩⟩)))))⟩;have HRe:Aside0 (∀ off n,ma l off n->Hp.DoR p st ⟨3,off,n,0,[]⟩ 0 0 (rdB v off n.toNat) st):=⟨fun off n hin=>.inr (.inr (.inl ⟨rfl,rfl,rfl, .inr (.inr ⟨hu,rfl,by
  rw[hi.ws hp hu];rcases qh5 (o:=off) (n:=n) hi.hv with⟨_,h⟩|⟨h,_⟩
  ·exact h
  ·exact absurd hin h⟩)⟩))⟩
 have HMB:Aside0 (∀ w',Md w' Mm gm cm vm rm->Calls Tryz.prog 78 #[.pointer (some ⟨Mm,0,none⟩)] w' fun e w''=>∃ A' c',e=.returned (.slice A' lm.length c')/\Kd.R e6 116 w'' w'.heap.size (fun _=>True) (.slice A' lm.length c') lm/\Below w'.heap.size w' w''):=⟨fun w' h=>tg h hVm⟩;have HGood:Aside0 (∀ x∈l,0<=x.f0/\2<=x.f1/\x.f0+x.f1<=512):=⟨fun x hx=>by have:=fh hi.hv hx;omega⟩;have H0:=am h;have HM:=am hm;have HGm:=am hgm;have HN:=am (And.intro hM hG);have hll:l.length<=1000:=by omega
 have HLl:=am hll;have HVm:=am hVm;clear h hi hm hgm hM hG hmv hp1 hVm;by_cases hl:l=lm
 ·subst hl;by_cases hrr:r=rm
  case' pos=>have HSn:Aside0 (gq.f 0 r [] 0 rm []=some true):=⟨by unfold gq.f;rw[if_pos rfl,if_pos hrr,beq_self_eq_true]⟩
  case' neg=>have HSn:Aside0 (gq.f 0 r [] 0 rm []=some false):=⟨by unfold gq.f;rw[if_pos rfl,if_neg hrr]⟩
  all_goals have HRr:=am hrr
  all_goals clear hrr
  all_goals go_enter Tryz.func28,Tryz.ntmps28
  all_goals go_wp2_with (first
   |(go_at_call 20;refine HWo.out.mono ?_;rintro e w1 ⟨A1,c1,rfl,ho,hb⟩;have HO1:=am (Kd.R_reads' ho);have HB1:=am hb;clear ho hb HWo)
   |(go_at_call 45;refine(HBl.out _ _ _ HO1.out.2.2 HO1.out.2.1).mono ?_;rintro e w2 ⟨A2,c2,rfl,ho,hb⟩;have HY2:=am (SyS.mk (H0.out.below (aa HB1.out hb)) (HM.out.below (aa HB1.out hb)) (Nat.lt_of_lt_of_le HGm.out (aa HB1.out hb).size) (aq.of_below (aa HB1.out hb)) (Kd.R_lower ho HB1.out.size));clear ho hb HO1 HB1 HBl))
  all_goals refine dj (n:=25) (S:=fun w'=>SyS w w' b p st Mm gm cm vm rm A2 c2 l) (ds:=[]) (onA 25 0) (by kernel_rfl) rfl rfl (HY2.out.on (bg (ai _ _))) (fun hHeld=>?_)
  all_goals refine ps 0 25 ?_
  all_goals refine ps 1 26 ?_
  all_goals refine ps 2 27 ?_
  all_goals refine ps 3 28 ?_
  all_goals refine ps 4 29 ?_
  all_goals refine ps 5 30 ?_
  all_goals refine ps 6 31 ?_
  all_goals refine ps 7 32 ?_
  all_goals refine ps 8 33 ?_
  all_goals refine os 9 34 Tryz.func78 #[.pointer (some ⟨Mm,0,none⟩)] ?_
  all_goals refine(HMB.out _ hHeld.m).mono ?_
  all_goals rintro e w3 ⟨A3,c3,rfl,ho,hb⟩
  all_goals have HO3:=am (Kd.R_reads' ho)
  all_goals refine⟨_,rfl,hHeld.on hb,fun hHeld=>nz ?_⟩
  all_goals clear ho hb
  all_goals refine os 10 35 Tryz.func77 #[.slice A2 l.length c2, .slice A3 l.length c3] ?_
  all_goals refine(qbd (by have:=HLl.out;omega) (Kd.R_reads' hHeld.o).2.2 (Kd.R_reads' hHeld.o).2.1 HO3.out.2.2 HO3.out.2.1).mono ?_
  all_goals rintro e w4 ⟨s,rfl,hs,hb⟩
  all_goals obtain rfl:s=true:=hs.2 rfl
  all_goals refine⟨_,rfl,hHeld.on hb,fun hHeld=>nz ?_⟩
  all_goals clear hb hs HO3
  all_goals refine ps 11 36 ?_
  all_goals refine ps 12 37 ?_
  all_goals refine ps 13 38 ?_
  all_goals refine ps 14 39 ?_
  all_goals refine ps 17 42 ?_
  all_goals refine ps 18 43 ?_
  all_goals refine ps 19 44 ?_
  all_goals refine vs 20 45 hHeld (fun w' hs=>aw 3 (.tmp 44) rfl Mm 1 _ rfl ((aj hs.m.box 1).trans rfl) _ Tryz.underlying3 rfl) ?_
  all_goals refine ps 15 40 ?_
  all_goals refine ps 21 46 ?_
  all_goals refine os 16 41 Tryz.func12 #[.pointer (some ⟨b.H,0,none⟩), .agg #[.int .i64 6, .int .i64 0, .int .i64 0, .int .i64 0, .slice none 0 0]] ?_
  all_goals refine(HDo.out ⟨6,0,0,0,[]⟩ _ _ _ rfl hHeld.h HGe.out).mono ?_
  all_goals rintro e w5 ⟨A5,c5,rfl,ho,hh,hk⟩
  all_goals have HO5:=am (Kd.R_reads' ho)
  all_goals refine⟨_,rfl,hHeld.did hh hk H0.out HN.out.1 HN.out.2,fun hHeld=>nz ?_⟩
  all_goals clear ho hh hk
  all_goals refine os 22 47 Tryz.func79 #[.agg #[.int .i64 0, .int .i64 r, .slice A5 0 c5], .agg #[.int .i64 0, .int .i64 rm, .slice none 0 0]] ?_
  all_goals refine(gq.calls 0 r A5 c5 [] 0 rm none 0 [] _ _ HO5.out.2.2 HO5.out.2.1 (qrd _) (an 0) HSn.out).mono ?_
  all_goals rintro e w6 ⟨rfl,hb⟩
  all_goals refine⟨_,rfl,hHeld.on hb,fun hHeld=>nz ?_⟩
  all_goals clear hb HO5
  all_goals refine ps 23 48 ?_
  all_goals refine ps 24 49 ?_
  all_goals refine fa (by kernel_rfl) ?_
  all_goals have HY6:=am hHeld
  all_goals clear hHeld
  ·go_wp2;go_ret;exact⟨1,rfl,⟨fun h=>absurd h (by decide),fun h=>absurd h.2.1 HRr.out⟩,HY6.out.h,HY6.out.k⟩
  ·go_wp2;go_loopw [52] (fun i wr=>∃ k:Nat,i=.int .i64 k/\k<=l.length/\Aside0 (∀ j:Nat,j<k->(ab l (j:Int)).f2=true->ur v vm (ab l (j:Int)))/\Aside0 (SyS w wr b p st Mm gm cm vm rm A2 c2 l)) (fun i _=>l.length-(intOf i).toNat)
   case atStart=>exact⟨0,rfl,by omega,⟨fun j h=>absurd h (by omega)⟩,HY6⟩
   case round=>
    clear HY6;obtain⟨k,rfl,hk,HSe,HY⟩:=hrel;by_cases hlt:k<l.length
    ·have d3:decide ((k:Int)<l.length)=true:=af (by omega);obtain⟨ad,ea,hx0,hx1,hx2⟩:=fj (Kd.R_reads' HY.out.o).2.2 (k:Int) (by omega) (by omega);cases ea;rw[Int.toNat_natCast]at hx0 hx1 hx2;have p0:(0<=(k:Int))=True:=eq_true (by omega);have p1:((k:Int)<l.length)=True:=eq_true (by omega);have HWk:=am (wk1 k (by have:=HLl.out;omega));have HMs:=am (wk2 hlt (by have:=HLl.out;omega));have HLt:=am hlt;have hmem:ab l (k:Int)∈l:=jl (by omega) (by omega);have hgx:=HGood.out _ hmem;have HNx:Aside0 (((ab l (k:Int)).f2=true->ur v vm (ab l (k:Int)))→∀ j:Nat,j<k+1->(ab l (j:Int)).f2=true->ur v vm (ab l (j:Int))):=⟨fun h j hj=>by
      by_cases e:j=k
      ·subst e;exact h
      ·exact HSe.out j (by omega)⟩
     generalize hxx:ab l (k:Int)=x at hx0 hx1 hx2 hgx HNx hmem;have HMem:=am hmem;have HGx:=am hgx;have HZ:Aside0 (Below wr.heap.size wr (wr.alloc (.cells #[.int .i64 x.f0, .int .i64 x.f1, .bool x.f2] 116))):=⟨(ai _ _).alloc (an _) _⟩;have HBx:Aside0 ((wr.alloc (.cells #[.int .i64 x.f0, .int .i64 x.f1, .bool x.f2] 116)).heap[wr.heap.size]? =some (.cells (ov x) 116 (0,0))):=⟨heap_alloc_new wr _⟩;have HYz:=am (HY.out.on HZ.out);clear hmem hgx hlt hk hxx;have hb2:x.f2=true\/x.f2=false:=by cases x.f2;exact .inr rfl;exact .inl rfl
     rcases hb2 with e|e
     ·rw[e]at hx2;have HE:=am e;rw[e]at HYz;have HBx:Aside0 ((wr.alloc (.cells #[.int .i64 x.f0, .int .i64 x.f1, .bool true] 116)).heap[wr.heap.size]? =some (.cells [.int .i64 x.f0, .int .i64 x.f1, .bool true].toArray 116 (0,0))):=⟨heap_alloc_new wr _⟩;have hsn:min 448 (wrap64 (wrap64 (x.f1-1)*8))=o4 x:=by have:=HGx.out;unfold o4;rw[w64 (n:=x.f1-1) (by omega),w64 (by omega)]
      clear e;go_upto_region 10 with (fail)
      first|rw[hsn]|skip
      clear hsn;have HIn:Aside0 (ma l ((x.f0+1)*8) (o4 x)):=⟨by have:=HGx.out;unfold o4;omega,by unfold o4;omega,x,HMem.out,HE.out,Int.le_refl _,by unfold o4;omega⟩;have HEq:Aside0 ((strOfNums (rdB v ((x.f0+1)*8) (o4 x).toNat)).toList=(strOfNums (rdB vm ((x.f0+1)*8) (o4 x).toNat)).toList<->ur v vm x):=⟨⟨fun h=>qp2 (qge _ _ _) (qge _ _ _) h,fun h=>by unfold ur at h;rw[h]⟩⟩;have HOf:Aside0 (dz.f x.f0 x.f1 true=some ((x.f0+1)*8)):=⟨qgf (by have:=HGx.out;omega)⟩;have HRd:=am (HRe.out _ _ HIn.out);have HMr:Aside0 (∀ w',Md w' Mm gm cm vm rm->Calls Tryz.prog 80 #[.pointer (some ⟨Mm,0,none⟩), .int .i64 ((x.f0+1)*8), .int .i64 (o4 x)] w' fun e w''=>∃ u,e=.returned (.tuple #[u, .int .i64 0])/\Kd.R (Kd.int .u8) 5 w'' w'.heap.size (fun _=>True) u (rdB vm ((x.f0+1)*8) (o4 x).toNat)/\Below w'.heap.size w' w''):=⟨fun w' h=>qgx h HVm.out HGood.out (fun b hb=>by have:=fh HVm.out hb;have:=HVm.out.2.2.1;omega) HLl.out (by have:=wh HVm.out;omega) HIn.out⟩;have HLn:Aside0 ((rdB v ((x.f0+1)*8) (o4 x).toNat).length=(rdB vm ((x.f0+1)*8) (o4 x).toNat).length):=⟨by rw[qcd,qcd]⟩;generalize (x.f0+1)*8=off at *;generalize rdB v off (o4 x).toNat=xs at *;generalize rdB vm off (o4 x).toNat=ys at *;generalize o4 x=nn at *;by_cases hs:(strOfNums xs).toList=(strOfNums ys).toList
      case' pos=>have HS:=am (HEq.out.1 hs);have hb1:((strOfNums xs).toList==(strOfNums ys).toList)=true:=beq_iff_eq.mpr hs;have hb3:((strOfNums xs).toList != (strOfNums ys).toList)=false:=bne_eq_false_iff_eq.mpr hs
      case' neg=>have HS:=am (fun h=>hs (HEq.out.2 h));have hb1:((strOfNums xs).toList==(strOfNums ys).toList)=false:=beq_eq_false_iff_ne.mpr hs;have hb3:((strOfNums xs).toList != (strOfNums ys).toList)=true:=bne_iff_ne.mpr hs
      all_goals clear hs
      all_goals go_wp2_with (first
       |(go_at_call 75;(with_reducible refine(dz.calls x.f0 x.f1 true _ _ HOf.out).mono ?_);rintro e w3 ⟨rfl,hb⟩;have HY3:=am (HYz.out.on hb);have HB3:=am (ap HBx.out hb);clear hb HYz HBx)
       |(go_at_call 12;refine(HDo.out ⟨3,off,nn,0,[]⟩ _ _ _ rfl HY3.out.h HRd.out).mono ?_;rintro e w4 ⟨A4,c4,rfl,ho,hh,hk⟩;have HO4:=am ho;have HY4:=am (HY3.out.did hh hk H0.out HN.out.1 HN.out.2);have HB4:=am (hk.of HB3.out (fun e=>H0.out.lt _ HY.out.k.size (.inl e)));clear ho hh hk HY3 HB3)
       |((with_reducible refine bp (t:=36) (p:=12) rfl ?_);refine dx rfl 36 (.tmp 12) (.tmp 69) rfl _ (fq 0 0 (.slice A4 xs.length c4)) rfl rfl gj rfl rfl ?_;intro w5 BZ HZb;have HY5:=am (HY4.out.on HZb.out);have HB5:=am (ap HB4.out HZb.out);have HO5:=am (Kd.R_below HO4.out HZb.out);have HA5:=BZ;clear HY4 HB4 HO4 BZ HZb;obtain⟨a0,a1,a2⟩:=qr3 HB5.out)
       |(go_at_call 75;(with_reducible refine(dz.calls x.f0 x.f1 true _ _ HOf.out).mono ?_);rintro e w6 ⟨rfl,hb⟩;have HY6:=am (HY5.out.on hb);have HA6:=am (ap HA5.out hb);have HO6:=am (Kd.R_below HO5.out hb);clear hb HY5 HA5 HO5 HB5 a0 a1 a2)
       |(go_at_call 80;refine(HMr.out _ HY6.out.m).mono ?_;rintro e w7 ⟨u,rfl,ho,hb⟩;obtain⟨Au,cu,rfl⟩:=Kd.R_slice ho;have HY7:=am (HY6.out.on hb);have HA7:=am (ap HA6.out hb);have hcv1:=Kd.C_string (P:=Tryz.prog) (src:=34) (dst:=9) (c:=c4) Tryz.underlying34 Tryz.underlying5 Tryz.underlying9 (Kd.R_reads' (Kd.R_below HO6.out hb)).2.2;have hcv2:=Kd.C_string (P:=Tryz.prog) (src:=34) (dst:=9) (c:=cu) Tryz.underlying34 Tryz.underlying5 Tryz.underlying9 (Kd.R_reads' ho).2.2;obtain⟨b0,b1,b2⟩:=qmo HA7.out;clear ho hb HY6 HA6 HO6))
      ·go_ret;exact⟨2,rfl,⟨fun h=>absurd h (by decide),fun h=>absurd (h.2.2 x HMem.out HE.out) HS.out⟩,HY7.out.h,HY7.out.k⟩
      ·exact⟨⟨_,_,_,_,_,_,_,_,_,_,_,_,_,_,_,_,_,_,_,_,_,_,_,_,_,_,_,_,_,_,_,_,_,_,_,_,_,_,_,_,_,_,_,_,⟨k+1,HWk.out,HLt.out,⟨HNx.out (fun _=>HS.out)⟩,HY7⟩,rfl⟩,HMs.out⟩
     ·rw[e]at hx2;have HE:=am e;rw[e]at HYz;clear e;go_wp2;exact⟨⟨k+1,HWk.out,HLt.out,⟨HNx.out (fun h=>by rw[HE.out]at h;cases h)⟩,HYz⟩,HMs.out⟩
    ·have hkk:k=l.length:=by omega
     subst hkk;have d3:decide ((l.length:Int)<l.length)=false:=ah (by omega);clear hlt;go_wp2;go_ret;refine⟨0,rfl,⟨fun _=>⟨(by first|trivial|rfl),HRr.out,fun x hx hu=>?_⟩,fun _=>rfl⟩,HY.out.h,HY.out.k⟩;obtain⟨j,j0,j1,rfl⟩:=qa1 hx;obtain⟨n,rfl⟩:=Int.eq_ofNat_of_zero_le j0;exact HSe.out n (by omega) hu
 ·have HNl:=am hl;clear hl;go_enter Tryz.func28,Tryz.ntmps28;go_wp2_with (first
   |(go_at_call 20;refine HWo.out.mono ?_;rintro e w1 ⟨A1,c1,rfl,ho,hb⟩;have HO1:=am (Kd.R_reads' ho);have HB1:=am hb;clear ho hb HWo)
   |(go_at_call 45;refine(HBl.out _ _ _ HO1.out.2.2 HO1.out.2.1).mono ?_;rintro e w2 ⟨A2,c2,rfl,ho,hb⟩;have HY2:=am (SyS.mk (H0.out.below (aa HB1.out hb)) (HM.out.below (aa HB1.out hb)) (Nat.lt_of_lt_of_le HGm.out (aa HB1.out hb).size) (aq.of_below (aa HB1.out hb)) (Kd.R_lower ho HB1.out.size));clear ho hb HO1 HB1 HBl))
  refine dj (n:=25) (S:=fun w'=>SyS w w' b p st Mm gm cm vm rm A2 c2 l) (ds:=[]) (onA 25 0) (by kernel_rfl) rfl rfl (HY2.out.on (bg (ai _ _))) (fun hHeld=>?_);refine ps 0 25 ?_;refine ps 1 26 ?_;refine ps 2 27 ?_;refine ps 3 28 ?_;refine ps 4 29 ?_;refine ps 5 30 ?_;refine ps 6 31 ?_;refine ps 7 32 ?_;refine ps 8 33 ?_;refine os 9 34 Tryz.func78 #[.pointer (some ⟨Mm,0,none⟩)] ?_;refine(HMB.out _ hHeld.m).mono ?_;rintro e w3 ⟨A3,c3,rfl,ho,hb⟩;have HO3:=am (Kd.R_reads' ho);refine⟨_,rfl,hHeld.on hb,fun hHeld=>nz ?_⟩;clear ho hb;refine os 10 35 Tryz.func77 #[.slice A2 l.length c2, .slice A3 lm.length c3] ?_;refine(qbd (by have:=HLl.out;omega) (Kd.R_reads' hHeld.o).2.2 (Kd.R_reads' hHeld.o).2.1 HO3.out.2.2 HO3.out.2.1).mono ?_;rintro e w4 ⟨s,rfl,hs,hb⟩;obtain rfl:s=false:=by
   cases s with
   |false=>rfl
   |true=>exact absurd (hs.1 rfl) HNl.out
  refine⟨_,rfl,hHeld.on hb,fun hHeld=>nz ?_⟩;clear hb hs HO3;refine ps 11 36 ?_;refine ps 12 37 ?_;refine ps 13 38 ?_;refine pg 14 39 ?_;refine pg 17 42 ?_;refine pg 18 43 ?_;refine pg 19 44 ?_;refine pg 15 40 ?_;refine pg 20 45 ?_;refine pg 21 46 ?_;refine pg 16 41 ?_;refine pg 22 47 ?_;refine pg 23 48 ?_;refine ps 24 49 ?_;refine fa (by kernel_rfl) ?_;have HY4:=am hHeld;clear hHeld;go_wp2;go_ret;exact⟨1,rfl,⟨fun h=>absurd h (by decide),fun h=>absurd h.1 HNl.out⟩,HY4.out.h,HY4.out.k⟩
end
theorem qe6{v u:List Int}:∀ (n:Nat) (o:Int),rdB v o n=rdB u o n→∀ j:Int,o<=j->j<o+n->jr v j=jr u j
 |0,o,_,j,h1,h2=>by omega
 |n+1,o,h,j,h1,h2=>by
  have h3:=List.cons.inj (show jr v o::rdB v (o+1) n=jr u o::rdB u (o+1) n from h)
  by_cases e:j=o
  ·subst e;exact h3.1
  ·exact qe6 n (o+1) h3.2 j (by omega) (by omega)
theorem qk3{v u:List Int}{j:Int}(h:rd v (j / 8)=rd u (j / 8)):jr v j=jr u j:=by
 unfold jr;rw[h]
theorem vl{v u:List Int}{x:S116}(hx:0<=x.f0/\2<=x.f1)(h:∀ q:Int,x.f0<q->q<x.f0+x.f1->rd v q=rd u q):ur v u x:=by
 refine qe7 _ _ (fun j j1 j2=>qk3 (h _ (by omega) ?_));unfold o4 at j2;omega
theorem tt.refl(l:List S116)(v:List Int):tt l v v:=fun _ _ _=>rfl
theorem qip{l l1:List S116}{v vm v1 now:List Int}{r r1 W off:Int}{op:S39}(hV:HV l v W)(hVm:HV l vm W)(ha:tt l v vm)(hB:Bys op.f4)(hn:qfo l v r now op off l1 v1 r1):∃ vm1,qfo l vm r now op off l1 vm1 r1/\tt l1 v1 vm1:=by
 rcases hn with⟨hk,rfl,c,can,hz,hbst,ho,rfl,rfl⟩|⟨hk,rfl,ho,c,h0,h1,hu,hoff,hr,rfl,rfl⟩|⟨hk,rfl,ho,hne,hin,rfl,rfl⟩|⟨hk,rfl,ho,hri,rfl,rfl⟩
 ·refine⟨_, .inl ⟨hk,rfl,c,can,hz,hbst,ho,rfl,rfl⟩,?_⟩;obtain⟨k1,h0,h1,hf,k5⟩:=can;have hbl:ab l c∈l:=jl h0 h1;have hg:=fh hV hbl;have hlen:=hV.2.2.1;have hlenm:=hVm.2.2.1;have ht:=qb1 k5 hg.2.1;generalize hb:ab l c=b at *;have hr:∀ u:List Int,(u.length:Int)=W→∀ j:Int,0<=j->(j<b.f0\/b.f0+b.f1<=j)->rd (app u (eds b (df op.f2))) j=rd u j:=fun u hu j j0 hj=>by rw[qfy hg.1 (by omega) ht.1 ht.2.1 j0,if_neg (by omega),if_neg (by omega),if_neg (by omega)]
  have old:∀ x∈l,x.f2=true->ur (app v (eds b (df op.f2))) (app vm (eds b (df op.f2))) x:=fun x hx hu=>by
   have hx2:=fh hV hx;have ho:x.f0+x.f1<=b.f0\/b.f0+b.f1<=x.f0:=by
    rcases qgp hV.1 hx hbl with e|e
    ·rw[e,hf]at hu;cases hu
    ·exact e
   exact(vl ⟨hx2.1,hx2.2.1⟩ (fun q q1 q2=>hr v hlen q (by omega) (by omega))).trans ((ha x hx hu).trans (vl ⟨hx2.1,hx2.2.1⟩ (fun q q1 q2=>(hr vm hlenm q (by omega) (by omega)).symm)))
  intro x hx hu;rcases (qi1 h0 h1).1 hx with hx|hx|hx
  ·exact old x (List.mem_of_mem_take hx) hu
  ·rw[hb]at hx;rw[qrq hx hu];refine vl ⟨hg.1,ht.1⟩ (fun q q1 q2=>?_);dsimp only at q1 q2;rw[qfy hg.1 (by omega) ht.1 ht.2.1 (by omega),qfy hg.1 (by omega) ht.1 ht.2.1 (by omega),if_neg (by omega),if_pos (by omega),if_neg (by omega),if_pos (by omega)]
  ·exact old x (List.mem_of_mem_drop hx) hu
 ·refine⟨_, .inr (.inl ⟨hk,rfl,ho,c,h0,h1,hu,hoff,hr,rfl,rfl⟩),?_⟩;have ft:=mw (l:=l) (i:=c) ⟨h0,h1⟩;have hp:ab l (cz l c)∈l:=jl ft.1 (by omega);have hc:ab l c∈l:=jl h0 h1;have hpg:=fh hV hp;have hlen:=hV.2.2.1;have hlenm:=hVm.2.2.1;have hpc:ab l (cz l c)=ab l c\/(ab l (cz l c)).f2=false:=by
   unfold cz;split
   ·case isTrue e=>exact .inr e.2
   ·exact .inl rfl
  intro x hx hxu;obtain⟨hxl,hne⟩:=(qhw hV.1 h0 h1 hu hxu).1 hx;have hxg:=fh hV hxl;have hap:x.f0+x.f1<=(ab l (cz l c)).f0\/(ab l (cz l c)).f0+(ab l (cz l c)).f1<=x.f0:=by
   rcases qgp hV.1 hxl hp with e|e
   ·rcases hpc with e2|e2
    ·exact absurd (e.trans e2) hne
    ·rw[e,e2]at hxu;cases hxu
   ·exact e
  have keep:∀ (u:List Int) z,(u.length:Int)=W->ur (u.set (ab l (cz l c)).f0.toNat z) u x:=fun u z hu=>vl ⟨hxg.1,hxg.2.1⟩ (fun q q1 q2=>by rw[mc _ _ (by omega),if_neg (by omega)]);exact(keep v _ hlen).trans ((ha x hxl hxu).trans (keep vm _ hlenm).symm)
 ·refine⟨_, .inr (.inr (.inl ⟨hk,rfl,ho,hne,hin,rfl,rfl⟩)),?_⟩;intro x hx hu;have hxg:=fh hV hx;obtain⟨n0,n1,b,hb,_,h3,h4⟩:=hin;have hbg:=fh hV hb;have hlen:=hV.2.2.1;have hlenm:=hVm.2.2.1;refine qe7 _ _ (fun j j1 j2=>?_);have h5:=qe6 _ _ (ha x hx hu) j j1 j2;rw[qbn hV.2.1 hB (by omega) _ (by omega) j (by omega),qbn hVm.2.1 hB (by omega) _ (by omega) j (by omega),h5]
 ·exact⟨_, .inr (.inr (.inr ⟨hk,rfl,ho,hri,rfl,rfl⟩)),ha⟩
theorem qn7(a b c d:Int):∃ p:Pn,p.Ok/\p.lines<=24/\p.period<=30/\lc.f a b c d=some (p.lines,p.spare,p.period,p.batch):=by
 refine⟨⟨1+a % 18446744073709551616 % 24,b % 18446744073709551616 % 17,1+c % 18446744073709551616 % 30,1+d % 18446744073709551616 % 10⟩,⟨by dsimp only;omega,by dsimp only;omega,by dsimp only;omega,by dsimp only;omega,by dsimp only;omega,by dsimp only;omega,by dsimp only;omega,by dsimp only;omega⟩,by dsimp only;omega,by dsimp only;omega,?_⟩;unfold lc.f jk.f;rw[qpf a 24 (by decide) (by decide),qpf b 17 (by decide) (by decide),qpf c 30 (by decide) (by decide),qpf d 10 (by decide) (by decide),w64 (n:=1+a % 18446744073709551616 % 24) (by omega),w64 (n:=1+c % 18446744073709551616 % 30) (by omega),w64 (n:=1+d % 18446744073709551616 % 10) (by omega)];rfl
theorem qm3(ops:List S39)(hl:ops.length<=4611686018427387904)(d:Nat):∀ i:Int,0<=i->i<=80->i+d=ops.length→∃ r,Ev (fun k=>cx.l0 k ops (ops.length:Int) i) r/\(0<r\/(r=0/\ops.length<=80)):=by
 induction d with
 |zero=>intro i h0 h1 h2;exact⟨0,Ev.step (fun k=>by rw[cx.l0]) (dw (by omega) (Ev.now _)), .inr ⟨rfl,by omega⟩⟩
 |succ d ih=>
  intro i h0 h1 h2;have hw:wrap64 (i+1)=i+1:=w64 (by omega);by_cases c:i>=80
  ·refine⟨i+1,Ev.step (fun k=>by rw[cx.l0,hw]) ?_, .inl (by omega)⟩;exact ba (by omega) (ba h0 (ba (by omega) (ba c (Ev.now _))))
  ·by_cases c2:(((jg ops i).f4).length:Int)>500
   ·refine⟨i+1,Ev.step (fun k=>by rw[cx.l0,hw]) ?_, .inl (by omega)⟩;exact ba (by omega) (ba h0 (ba (by omega) (dw c (ba c2 (Ev.now _)))))
   ·obtain⟨r,h3,h4⟩:=ih (i+1) (by omega) (by omega) (by omega);refine⟨r,Ev.step (fun k=>by rw[cx.l0,hw]) ?_,h4⟩;exact ba (by omega) (ba h0 (ba (by omega) (dw c (dw c2 h3))))
theorem qm2(ops:List S39)(limits:List Int)(hl:ops.length<=4611686018427387904):∃ r,Ev (fun k=>cx.f k ops limits) r/\(0<r\/(r=0/\ops.length<=80)):=by
 unfold cx.f;by_cases c:(limits.length:Int)>200
 ·exact⟨1,ba c (Ev.now _), .inl (by decide)⟩
 ·obtain⟨r,h1,h2⟩:=qm3 ops hl ops.length 0 (by omega) (by omega) (by omega);exact⟨r,dw c h1,h2⟩
section
variable{p:Pn}{st:St}{l:List S116}{v vm:List Int}{r:Int}{op:S39}
def Duo(p:Pn)(st:St)(l:List S116)(vm:List Int)(r:Int):Prop:=HV l vm (p.lines*8)∧∃ v,HInv p st l v r/\tt l v vm
theorem qq3{l l':List S116}{v:List Int}{W:Int}(h:HV l v W)(h':HV l' v W):l=l':=by
 obtain⟨k,hk⟩:=rq h;obtain⟨k',hk'⟩:=rq h';have e:=(hk (max k k') (Nat.le_max_left _ _)).symm.trans (hk' (max k k') (Nat.le_max_right _ _));exact(Prod.mk.inj (az e)).1
theorem qmt{l2:List S116}{v2:List Int}{r2:Int}(hi:HInv p st l2 v2 r2)(hV:HV l vm (p.lines*8)):Duo p st l vm r<->(l2=l/\r2=r/\tt l2 v2 vm):=by
 constructor
 ·rintro⟨_,v,hi',ha⟩;obtain rfl:v2=v:=hi.wd.symm.trans hi'.wd;obtain rfl:r2=r:=hi.rt.symm.trans hi'.rt;obtain rfl:=qq3 hi.hv hi'.hv;exact⟨rfl,rfl,ha⟩
 ·rintro⟨rfl,rfl,ha⟩;exact⟨hV,v2,hi,ha⟩
theorem qn9(h:HInv p st l v r)(hp:p.Ok)(hb:Trn.moves st.m<=1000000)(hk:op.f0=8):∃ st2,TwR p (.on st) op 0 0 [] (.on st2)/\(∀ l' v' r',HInv p st l' v' r'→HInv p st2 l' v' r')/\st2.m.down=false/\st2.m.cut<0/\(∀ j,gp st2.m j=gp st.m j)/\(Hp.isWorn st2.worn st2.m=false∨∃ j,0<=gp st.m j)/\Trn.moves st2.m<=Trn.moves st.m+40:=by
 have hM2p:MInv p (Nvm.power st.m) l v r:=h.mem.re rfl rfl;have hmp:Trn.moves (Nvm.power st.m)=Trn.moves st.m:=rfl;have hO:=xu hM2p hp rfl (by omega) 0;have hOk:=hM2p.openOk hp rfl (by omega);have hcut:(Nvm.power st.m).cut<0:=by show(-1:Int)<0;decide
 have hlim:∀ j,gp (Nvm.power st.m) j=gp st.m j:=fun j=>rfl;generalize hrc:Lg.recover p.shape (Nvm.power st.m) 0=rc at hO;have hr0:rc.1=0/\rc.2.1.down=false:=by
  rcases hO.res with e|⟨_,_,e⟩
  ·exact e
  ·omega
 have hmv:=hO.mv;refine⟨Hp.opened p rc.2.1 rc.2.2, .inr (.inl ⟨hk,rfl,rfl,hOk,fun _=>?_,?_,?_⟩),fun l' v' r' h'=>?_,hr0.2,?_,fun j=>?_,?_,?_⟩
 ·rw[show(TS.on st).mem=st.m from rfl,hrc];exact hO.inv.openOk2 hp hr0.2
 ·rw[show(TS.on st).mem=st.m from rfl,hrc];exact hr0.1.symm
 ·rw[show(TS.on st).mem=st.m from rfl,hrc,if_pos hr0.1]
 ·have hM':MInv p (Nvm.power st.m) l' v' r':=h'.mem.re rfl rfl;have hO':=xu hM' hp rfl (by omega) 0;rw[hrc]at hO';exact zf hO'.inv rc.2.2
 ·show rc.2.1.cut<0;rw[hO.cut hcut];exact hcut
 ·show gp rc.2.1 j=_;rw[hO.lim,hlim]
 ·rcases hO.cln hr0.2 with e|⟨j,hj⟩
  ·exact .inl ((lz (m:=rc.2.1) hr0.2).2 ⟨rfl,e⟩)
  ·exact .inr ⟨j,by rw[hlim]at hj;exact hj⟩
 ·show Trn.moves rc.2.1<=_;omega
theorem qox(h:HInv p st l v r)(hd:st.m.down=true)(op:S39):∃ e,Hp.DoR p st op e 0 [] st:=by
 by_cases k1:op.f0=1
 ·exact⟨2, .inl ⟨k1,rfl, .inl ⟨hd,rfl,rfl,rfl⟩⟩⟩
 by_cases k2:op.f0=2
 ·exact⟨2, .inr (.inl ⟨k2,rfl,rfl, .inl ⟨hd,rfl,rfl⟩⟩)⟩
 by_cases k3:op.f0=3
 ·exact⟨2, .inr (.inr (.inl ⟨k3,rfl,rfl, .inl ⟨hd,rfl,rfl⟩⟩))⟩
 by_cases k4:op.f0=4
 ·exact⟨2, .inr (.inr (.inr (.inl ⟨k4,rfl,rfl, .inl ⟨hd,rfl,rfl⟩⟩)))⟩
 by_cases k5:op.f0=5
 ·exact⟨2, .inr (.inr (.inr (.inr (.inl ⟨k5,rfl,rfl, .inl ⟨hd,rfl,rfl⟩⟩))))⟩
 by_cases k6:op.f0=6
 ·exact⟨2, .inr (.inr (.inr (.inr (.inr (.inl ⟨k6,rfl,rfl, .inl ⟨hd,rfl,rfl⟩⟩)))))⟩
 ·exact⟨1, .inr (.inr (.inr (.inr (.inr (.inr ⟨by omega,rfl,rfl,rfl,rfl⟩)))))⟩
theorem qms(hd:Duo p st l vm r)(hB:Bys op.f4){v:List Int}(hi:HInv p st l v r)(ha:tt l v vm){e off:Int}{st':St}(hD:DoneR p st op e off st' l v r){off2:Int}(h2:op.f0=1→∀ o l1 v1 r1,qfo l v r st.now op o l1 v1 r1->(e=0/\o=off)\/e=2->off2=o){l':List S116}{vm':List Int}{r':Int}(hV':HV l' vm' (p.lines*8))(hn:zt l vm r op off2 l' vm' r'):(e=0->Duo p st' l' vm' r')/\(e≠0->e≠2->Duo p st' l vm r)/\(e=2->Duo p st' l vm r\/Duo p st' l' vm' r'):=by
 have new:∀ o l1 v1 r1,qfo l v r st.now op o l1 v1 r1->(op.f0=1->off2=o)->HInv p st' l1 v1 r1->Duo p st' l' vm' r':=fun o l1 v1 r1 hnr ho hi1=>by obtain⟨vm1,hm1,ha1⟩:=qip hi.hv hd.1 ha hB hnr;obtain⟨rfl,rfl,rfl⟩:=hn.1 _ _ _ _ _ hm1 ho;exact⟨hV',v1,hi1,ha1⟩
 refine⟨fun e0=>?_,fun n0 n2=>?_,fun e2=>?_⟩
 ·rcases hD.eff with⟨_,hid,rfl⟩|⟨_,l1,v1,r1,hnr,hi1⟩|⟨a,_⟩|⟨a,_⟩
  ·obtain⟨rfl,rfl,rfl⟩:=hn.2 hid;exact hd
  ·exact new _ _ _ _ hnr (fun k=>h2 k _ _ _ _ hnr (.inl ⟨e0,rfl⟩)) hi1
  ·exact absurd e0 a
  ·omega
 ·rcases hD.eff with⟨a,_⟩|⟨a,_⟩|⟨_,a⟩|⟨a,_⟩
  ·exact absurd a n0
  ·exact absurd a n0
  ·exact⟨hd.1,v,a,ha⟩
  ·exact absurd a n2
 ·rcases hD.eff with⟨a,_⟩|⟨a,_⟩|⟨_,a⟩|⟨_,o,l1,v1,r1,hnr,hi1⟩
  ·omega
  ·omega
  ·exact .inl ⟨hd.1,v,a,ha⟩
  ·exact .inr (new _ _ _ _ hnr (fun k=>h2 k _ _ _ _ hnr (.inr e2)) hi1)
end
def MB(w:World)(F:Nat->Prop)(M:Nat)(v:List Int)(r:Int):Prop:=∃ g c,Md w M g c v r/\g<w.heap.size∧¬ F M∧¬ F g
section
variable{w0 w w':World}{W M C:Nat}{p:Pn}{F F':Nat->Prop}{Mm:Nat}{vm:List Int}{rm:Int}
theorem MB.on(h:MB w F Mm vm rm)(hb:Below w.heap.size w w'):MB w' F Mm vm rm:=by
 obtain⟨g,c,a,b,d,e⟩:=h;exact⟨g,c,a.below hb,Nat.lt_of_lt_of_le b hb.size,d,e⟩
theorem MB.step(h:MB w F Mm vm rm)(kk:aq F w w')(hf:∀ j,F' j->F j\/w.heap.size<=j):MB w' F' Mm vm rm:=by
 obtain⟨g,c,a,b,d,e⟩:=h;have hM:=d7 a.box;exact⟨g,c,a.kept b kk d e,Nat.lt_of_lt_of_le b kk.size,fun h=>by rcases hf _ h with x|x;exact d x;omega,fun h=>by rcases hf _ h with x|x;exact e x;omega⟩
theorem MB.new{s:TS}(hs:Stands w0 w W M C p s F)(h:MdO w w' Mm vm rm):MB w' F Mm vm rm:=by
 obtain⟨g,c,a,b,d,e,f⟩:=h;obtain⟨_,ht⟩:=hs.tw;exact⟨g,c,a,e,fun x=>by have:=ht.lt _ x;omega,fun x=>by have:=ht.lt _ x;omega⟩
theorem qrs{s s':TS}{op:S39}{e off:Int}{bs:List Int}(hp:p.Ok)(hr:TwR p s op e off bs s')(w0 w:World)(W M C:Nat)(F:Nat->Prop)(A:Option Addr)(c:Nat)(h:Stands w0 w W M C p s F)(hb:Kd.C (Kd.int .u8) w A op.f4.length op.f4)(hc:op.f4.length<=c):Calls Tryz.prog 21 #[.pointer (some ⟨W,0,none⟩), .agg #[.int .i64 op.f0, .int .i64 op.f1, .int .i64 op.f2, .int .i64 op.f3, .slice A op.f4.length c]] w fun x w'=>∃ A' c' F',x=.returned (.agg #[.int .i64 e, .int .i64 off, .slice A' bs.length c'])/\Stands w0 w' W M C p s' F'∧aq F w w'∧∀ j,F' j->F j\/w.heap.size<=j:=by
 obtain⟨cst,ht⟩:=h.tw;refine(qem ht op A c hb hc hp hr).mono ?_;rintro x w' ⟨d,F',rfl,ho,ht',kk,hf⟩;obtain⟨A',c',rfl⟩:=Kd.R_slice ho;exact⟨A',c',F',rfl,h.step ht' kk hf,kk,hf⟩
variable{st:St}{l lm:List S116}{v:List Int}{r:Int}
theorem Stands.mem{s:TS}(h:Stands w0 w W M C p s F):Calls Tryz.prog 29 #[.pointer (some ⟨W,0,none⟩)] w (fun e w'=>e=.returned (.pointer (some ⟨M,0,none⟩))/\w=w')/\Calls Tryz.prog 30 #[.pointer (some ⟨M,0,none⟩)] w (fun e w'=>e=.returned (.bool s.mem.down)/\w=w'):=by
 obtain⟨_,ht⟩:=h.tw;obtain⟨_,hb⟩:=ht.box;exact⟨qd8 hb,ll ht.memAt⟩
theorem Stands.asks(h:Stands w0 w W M C p (.on st) F)(hi:HInv p st l v r)(hp:p.Ok)(hmv:Trn.moves st.m+40<=4611686018427387903):∃ H:Nat,(Calls Tryz.prog 18 #[.pointer (some ⟨W,0,none⟩)] w fun e w'=>e=.returned (.pointer (some ⟨H,0,none⟩))/\w=w')/\(st.m.down=false->Calls Tryz.prog 20 #[.pointer (some ⟨H,0,none⟩)] w fun e w'=>∃ A c,e=.returned (.tuple #[.slice A v.length c, .int .i64 0])/\Kd.R (Kd.int .u64) 25 w' w.heap.size (fun _=>True) (.slice A v.length c) v/\Below w.heap.size w w')/\(∀ w1,Below w.heap.size w w1->Calls Tryz.prog 27 #[.pointer (some ⟨H,0,none⟩)] w1 fun e w'=>∃ A c,e=.returned (.slice A st.now.length c)/\Kd.R (Kd.int .i64) 3 w' w1.heap.size (fun _=>True) (.slice A st.now.length c) st.now/\Below w1.heap.size w1 w')/\(st.m.down=false→∀ Mm vm rm lm,MB w F Mm vm rm->HV lm vm (p.lines*8)->Calls Tryz.prog 28 #[.pointer (some ⟨H,0,none⟩), .pointer (some ⟨Mm,0,none⟩)] w fun e w'=>∃ n:Int,e=.returned (.int .i64 n)/\(n=0<->(l=lm/\r=rm/\tt l v vm))/\Stands w0 w' W M C p (.on st) F/\aq F w w'):=by
 have hh0:=h;obtain⟨c,ht⟩:=h.tw;obtain⟨b,h1,h2,hh,hx,hn,hF⟩:=ht;refine⟨b.H,qg4 hx,fun hu=>?_,fun w1 hb1=>?_,fun hu Mm vm rm lm hm hV=>?_⟩
 ·have hW:=pw hh.tur hh.log hh.box hp (fun _=>hi.rd hu) hi.inv.c14.2;rw[qid hi hp hu]at hW;refine hW.mono ?_;rintro e w' ⟨x,rfl,ho,hb⟩;obtain⟨A,c',rfl⟩:=Kd.R_slice ho;exact⟨A,c',rfl,ho,hb⟩
 ·have hh1:=hh.below hb1;have hl1:=hp.l1;have hl2:=hp.l2;refine(qfj hh1.box hh1.cnt (by rw[hi.now];omega) (by rw[hi.now];omega)).mono ?_;rintro e w' ⟨x,rfl,ho,hb⟩;obtain⟨A,c',rfl⟩:=Kd.R_slice ho;exact⟨A,c',rfl,ho,hb⟩
 ·obtain⟨g,cm,a,b1,b2,b3⟩:=hm;refine(qim hh hp hi hu hmv a b1 (fun e=>b2 ((hF _).2 (.inl e))) (fun e=>b3 ((hF _).2 (.inl e))) hV).mono ?_;rintro e w' ⟨n,rfl,hs,hh',hk⟩;have hkF:aq F w w':=hk.mono (fun j _ e=>(hF j).2 (.inl (.inl e)));have ht':la w' W M C p (.on st) c F:=⟨b,h1,h2,hh',hx.kept hk (fun e=>hn (.inl e)),hn,hF⟩;exact⟨n,rfl,hs,hh0.step ht' hkF (fun j hj=>.inl hj),hkF⟩
end
def qqm(a b c d:Int):List Value:=[.int .i64 a, .int .i64 b, .int .i64 c, .int .i64 d]
theorem qnj(p:Pn):∀ v∈[Value.int .i64 p.lines, .int .i64 p.spare, .int .i64 p.period, .int .i64 p.batch],v.oneCell'=true:=by
 intro v hv;simp only[List.mem_cons,List.not_mem_nil,or_false]at hv;rcases hv with rfl|rfl|rfl|rfl <;> rfl
theorem ql5{p:Pn}(h:p.Ok):kc.f (p.lines*8)=some (Hp.firstW p):=qhi h
theorem qn2{p:Pn}(h:p.Ok):dr.f (p.lines*8)=some true:=by
 rw[qh8,ua];have:=h.l1;have:=h.l2;exact congrArg some (af (by omega))
theorem qny{ops:List S39}{k:Nat}(h:k<ops.length):jg ops (k:Int)∈ops:=by
 unfold jg;rw[Int.toNat_natCast,ax,bx h];exact List.getElem_mem h
abbrev qsg(op:S39)(A:Option Addr)(c:Nat):Array Value:=[Value.int .i64 op.f0, .int .i64 op.f1, .int .i64 op.f2, .int .i64 op.f3, .slice A op.f4.length c].toArray
def OpB(w:World)(g:Nat)(op:S39)(A:Option Addr)(c:Nat):Prop:=w.heap[g]? =some (.cells (qsg op A c) 39 (0,0))/\Kd.C (Kd.int .u8) w A op.f4.length op.f4/\op.f4.length<=c
theorem OpB.on{w w':World}{g:Nat}{op:S39}{A:Option Addr}{c:Nat}(h:OpB w g op A c)(hb:Below w.heap.size w w'):OpB w' g op A c:=⟨ap h.1 hb,Kd.C_below h.2.1 hb,h.2.2⟩
theorem qsh{w:World}{A:Option Addr}{ops:List S39}(h:Kd.C k39 w A ops.length ops){k:Nat}(hk:k<ops.length):∃ ad A4 c4,A=some ad/\(jg ops (k:Int)).f4.length<=c4∧∀ w',Below w.heap.size w w'→w'.cell? (ad.add (k*5))=some (.int .i64 (jg ops (k:Int)).f0)/\w'.cell? ⟨(ad.add (k*5)).block,(ad.add (k*5)).off+1,none⟩=some (.int .i64 (jg ops (k:Int)).f1)/\w'.cell? ⟨(ad.add (k*5)).block,(ad.add (k*5)).off+2,none⟩=some (.int .i64 (jg ops (k:Int)).f2)/\w'.cell? ⟨(ad.add (k*5)).block,(ad.add (k*5)).off+3,none⟩=some (.int .i64 (jg ops (k:Int)).f3)/\w'.cell? ⟨(ad.add (k*5)).block,(ad.add (k*5)).off+4,none⟩=some (.slice A4 (jg ops (k:Int)).f4.length c4)/\Kd.C (Kd.int .u8) w' A4 (jg ops (k:Int)).f4.length (jg ops (k:Int)).f4:=by
 obtain⟨ad,A4,c4,ea,hx0,hx1,hx2,hx3,hx4,hl4,hi4⟩:=qfs h (k:Int) (by omega) (by omega);rw[Int.toNat_natCast]at hx0 hx1 hx2 hx3 hx4;exact⟨ad,A4,c4,ea,hl4,fun w' hb=>⟨l9 hx0 hb,l9 hx1 hb,l9 hx2 hb,l9 hx3 hb,l9 hx4 hb,Kd.C_below hi4 hb⟩⟩
theorem MdO.below{W0 w:World}{M:Nat}{v:List Int}{r:Int}(h:MdO W0 w M v r):Below W0.heap.size W0 w:=by
 obtain⟨_,_,_,_,_,_,h⟩:=h;exact h
structure SmQ (w wr:World) (W M C:Nat) (p:Pn) (j:Int) (st:St) (F:Nat->Prop) (Mm:Nat) (l:List S116) (vm:List Int) (r:Int):Prop where
 s:Stands w wr W M C p (.on st) F
 q:Quiet st
 mv:Trn.moves st.m<=1000+40*j
 d:Duo p st l vm r
 m:MB wr F Mm vm r
theorem SmQ.on{w wr w':World}{W M C:Nat}{p:Pn}{j:Int}{st:St}{F:Nat->Prop}{Mm:Nat}{l:List S116}{vm:List Int}{r:Int}(h:SmQ w wr W M C p j st F Mm l vm r)(hb:Below wr.heap.size wr w'):SmQ w w' W M C p j st F Mm l vm r:=⟨h.s.on hb,h.q,h.mv,h.d,h.m.on hb⟩
theorem Duo.moved{p:Pn}{st st2:St}{l:List S116}{vm:List Int}{r:Int}(h:Duo p st l vm r)(hm:∀ l' v' r',HInv p st l' v' r'→HInv p st2 l' v' r'):Duo p st2 l vm r:=by
 obtain⟨a,v,b,c⟩:=h;exact⟨a,v,hm _ _ _ b,c⟩
end Go.Proofs.YtmfhaliclnnbaaaGreat.Sys
