import Derived.Test.YtmfhaliclnnbaaaGreatZTopWholeM14
import Derived.Defers
import Derived.Recover
import Derived.Laws.Panics
import Derived.RegionDies
import Derived.Test.YtmfhaliclnnbaaaGreatZTopWholeM6
import Derived.Test.YtmfhaliclnnbaaaGreatZTopWholeM12
namespace Go.Proofs.YtmfhaliclnnbaaaGreat.Sys
open Go.RowKit Go.Proofs.YtmfhaliclnnbaaaGreatW.PrintWords Go.Proofs.YtmfhaliclnnbaaaGreatW.PrintLast Go.Proofs.YtmfhaliclnnbaaaGreatW.PrintMore
open Go.Proofs.YtmfhaliclnnbaaaGreat.XTopWhole Go.Proofs.YtmfhaliclnnbaaaGreat.Pl Go.Maps
set_option linter.unusedVariables false
set_option linter.unusedSimpArgs false
set_option maxRecDepth 100000
set_option maxHeartbeats 8000000
section
variable{p:Pn}{m m':Mem}{s:Shape}{st:St}
theorem LInv.setReg(h:LInv s m){i:Nat}{v e:Int}(hs:SetR m m' i v e)(hi:i=2\/19<=i)(h0:0<=v)(h1:v<=18446744073709551615):LInv s m'∧(∀ line,vw s m' line=vw s m line)/\Trn.moves m'=Trn.moves m/\Lg.count m'=Lg.count m/\(∀ j,j≠i->m'.regs.getD j 0=m.regs.getD j 0):=by
 obtain⟨a,b,c,d⟩:=h.ok.setReg hs (by omega) h0 h1;have hc:Lg.count m'=Lg.count m:=d 1 (by omega);have hh:hms s m'=hms s m:=by unfold hms;rw[hc];refine List.map_congr_left (fun i _=>?_);unfold qlj;rw[hc,b,b]
 have hv:∀ line,vw s m' line=vw s m line:=fun line=>by
  unfold vw;rw[hh];have:nv (hms s m) (lgc s m') line=nv (hms s m) (lgc s m) line:=by unfold nv;rw[b]
  rw[this,b]
 refine⟨⟨a,?_⟩,hv,c,hc,d⟩;rw[hc,hh];exact h.cnt
structure NoteR (p:Pn) (st st':St) (e:Int):Prop where
 inv:LInv p.shape st'.m
 view:∀ line,vw p.shape st'.m line=vw p.shape st.m line
 lim:∀ j,gp st'.m j=gp st.m j
 cut:st.m.cut<0->st'.m.cut=st.m.cut
 regs:∀ j,j<19->st'.m.regs.getD j 0=st.m.regs.getD j 0
 now:st'.now.length=st.now.length
 kept:st'.kept.length=st.kept.length
 worn:st'.worn=st.worn
 puts:st'.puts=st.puts
 res:(e=0/\st'.m.down=false)\/(e=2/\st'.m.down=true/\0<=st.m.cut)
theorem qls(b:Int)(now kept:List Int)(q:Nat):(Cnt.note b now kept q).2.2.1.length=now.length/\(Cnt.note b now kept q).2.2.2.length=kept.length:=by
 unfold Cnt.note;dsimp only;refine⟨List.length_set,?_⟩;split
 ·exact List.length_set
 ·rfl
theorem y9(b:Int):∀ (ls:List Int) (st:St),LInv p.shape st.m->st.m.down=false->(∀ i∈ls,0<=i/\i<64)->NoteR p st (Hp.noteAll b ls st).2 (Hp.noteAll b ls st).1
 |[],st,h,hu,hl=>⟨h,fun _=>rfl,fun _=>rfl,fun _=>rfl,fun _ _=>rfl,rfl,rfl,rfl,rfl, .inl ⟨rfl,hu⟩⟩
 | i :: ls, st, h, hu, hl => by
  have hi:=hl i List.mem_cons_self
  have hls:∀ j∈ls,0<=j/\j<64:=fun j hj=>hl j (List.mem_cons_of_mem _ hj)
  obtain⟨n1,n2⟩:=qls b st.now st.kept (i / 4).toNat
  unfold Hp.noteAll
  generalize Cnt.note b st.now st.kept (i / 4).toNat=nt at n1 n2
  obtain⟨nn,kp,now1,kept1⟩:=nt
  dsimp only at n1 n2 ⊢
  cases kp
  ·rw[if_neg (by decide)]
   have ih:=y9 b ls {st with now:=now1,kept:=kept1} h hu hls
   exact⟨ih.inv,ih.view,ih.lim,ih.cut,ih.regs,by rw[ih.now];exact n1,by rw[ih.kept];exact n2,ih.worn,ih.puts,ih.res⟩
  ·rw[if_pos rfl]
   have hS:=zm (m:=st.m) (i:=19+i / 4) (v:=IntKind.u64.wrap nn) hu (by omega) (by omega)
   generalize Nvm.set st.m (19+i / 4) (IntKind.u64.wrap nn)=r at hS
   obtain⟨e,m1⟩:=r
   dsimp only at hS ⊢
   obtain⟨a,v,mv,cn,ot⟩:=h.setReg hS (by omega) (om nn).1 (om nn).2
   by_cases c0:e=0
   ·rw[if_pos c0]
    have hy:m1.down=false:=by
     rcases hS.res with⟨_,e,_⟩|⟨e,_⟩
     ·exact e
     ·omega
    have ih:=y9 b ls {st with m:=m1,now:=now1,kept:=kept1} a hy hls
    refine⟨ih.inv,fun line=>by rw[ih.view];exact v line,fun j=>by rw[ih.lim];exact mo hS.cells j,fun hc=>?_,fun j hj=>by rw[ih.regs j hj];exact ot j (by omega),by rw[ih.now];exact n1,by rw[ih.kept];exact n2,ih.worn,ih.puts,?_⟩
    ·have h1:=hS.cut hc
     have h2:=ih.cut (by show m1.cut<0;rw[h1];exact hc)
     rw[h2]
     exact h1
    ·rcases ih.res with x|⟨x,y,z⟩
     ·exact .inl x
     ·exact .inr ⟨x,y,sd hS.cut z⟩
   ·rw[if_neg c0]
    dsimp only
    have hy:e=2/\m1.down=true/\0<=st.m.cut:=by
     rcases hS.res with⟨e,_⟩|⟨e,u,_,c⟩
     ·exact absurd e c0
     ·exact⟨e,u,c⟩
    exact⟨a,v,mo hS.cells,hS.cut,fun j hj=>ot j (by omega),n1,n2,rfl,rfl, .inr hy⟩
theorem wb{es:List S160}(hp:p.Ok)(he:EdFit p es)(ws:List Int):Lg.mayH p.shape.n (Hp.homesOf (Sp.lines es) ws)=true:=by
 obtain⟨l1,l2,l3⟩:=he.lines;have hn:p.shape.n=16+p.lines:=rfl;have hl1:=hp.l1;unfold Lg.mayH Hp.homesOf;simp only[Bool.and_eq_true,List.all_eq_true,decide_eq_true_eq];refine⟨⟨fun x hx=>?_,?_⟩,⟨by omega,by rw[List.length_map];omega⟩,by rw[List.length_map];omega⟩
 ·obtain⟨i,hi,rfl⟩:=List.mem_map.1 hx;have:=l3 i hi;dsimp only;omega
 ·rw[List.map_map];have hu:=qhs es;refine List.Pairwise.imp (R:=fun a b:Int=>a<b) (fun h e=>by omega) ?_;rw[List.pairwise_map];exact hu.imp (fun h=>by dsimp only[Function.comp];omega)
theorem xl(es:List S160)(ws:List Int):(Sp.apply ws es).length=ws.length:=Sp.apply_length es ws
theorem yz:∀ (es:List S160) (ws:List Int),(∀ x∈ws,0<=x/\x<=18446744073709551615)->(∀ e∈es,0<=e.f1/\e.f1<=18446744073709551615)→∀ x∈Sp.apply ws es,0<=x/\x<=18446744073709551615
 |[],ws,h,_=>h
 |e::es,ws,h,he=>by
  refine yz es (Sp.apply1 ws e) (fun x hx=>?_) (fun y hy=>he y (List.mem_cons_of_mem _ hy))
  unfold Sp.apply1 at hx
  split at hx
  ·rcases List.mem_or_eq_of_mem_set hx with h1|h1
   ·exact h x h1
   ·rw[h1];exact he e List.mem_cons_self
  ·exact h x hx
theorem qdb{ws:List Int}{i:Nat}(hi:i*8+8<=ws.length)(h:∀ x∈ws,0<=x/\x<=18446744073709551615):W64 (fd ws i):=⟨ii hi,fun x hx=>h x (List.mem_of_mem_drop (List.mem_of_mem_take hx))⟩
theorem qgs(h:LInv p.shape m):∀ k,∀ x∈wv p m k,0<=x/\x<=18446744073709551615
 |0,x,hx=>by cases hx
 |k+1,x,hx=>by
  rcases List.mem_append.1 hx with h1|h1
  ·exact qgs h k x h1
  ·exact(qjz h _).2 x h1
theorem qmg{es:List S160}(hp:p.Ok)(h:LInv p.shape m)(h':LInv p.shape m')(he:EdFit p es)(hv:∀ line,16<=line->line<p.shape.n->vw p.shape m' line=nv (Hp.homesOf (Sp.lines es) (Sp.apply (wv p m p.lines.toNat) es)) (vw p.shape m) line):wv p m' p.lines.toNat=Sp.apply (wv p m p.lines.toNat) es:=by
 have hl1:=hp.l1;have hwl:=sb h p.lines.toNat;obtain⟨l1,l2,l3⟩:=he.lines;symm;refine qkp h' _ (by rw[xl,hwl]) (fun i hi=>?_);rw[hv _ (by omega) (by show 16+(i:Int)<16+p.lines;omega)];by_cases c:(i:Int)∈Sp.lines es
 ·have hm:(16+(i:Int),fd (Sp.apply (wv p m p.lines.toNat) es) i)∈Hp.homesOf (Sp.lines es) (Sp.apply (wv p m p.lines.toNat) es):=List.mem_map.2 ⟨(i:Int),c,by rw[Int.toNat_natCast]⟩;exact(qf9 hm (uu (wb hp he _))).symm
 ·rw[qcc (fun x hx=>by
   obtain⟨j,hj,rfl⟩:=List.mem_map.1 hx;intro e;dsimp only at e;exact c (by rw[show(i:Int)=j by omega];exact hj)),←qgr h _ hi]
  refine qjg (by rw[xl,hwl];omega) (by rw[hwl];omega) (fun j hj=>qg8 es _ _ (fun e hx e2=>c ?_));have:=qez hx (by omega);rw[show(i:Int)=e.f0 / 8 by omega];exact this
structure HComR (p:Pn) (st st':St) (es:List S160) (e:Int):Prop where
 inv:LInv p.shape st'.m
 lim:∀ j,gp st'.m j=gp st.m j
 cut:st.m.cut<0->st'.m.cut=st.m.cut
 root:st'.m.regs.getD 2 0=st.m.regs.getD 2 0
 mv:Trn.moves st.m<=Trn.moves st'.m/\Trn.moves st'.m<=Trn.moves st.m+40
 now:st'.now.length=st.now.length
 kept:st'.kept.length=st.kept.length
 worn:st'.worn=true->st.worn=true∨∃ j,0<=gp st.m j
 cln:st'.m.down=false->Lg.count st'.m=0∨∃ j,0<=gp st.m j
 res:(e=0/\st'.m.down=false/\wv p st'.m p.lines.toNat=Sp.apply (wv p st.m p.lines.toNat) es)\/(e=3/\st'.m.down=false/\wv p st'.m p.lines.toNat=wv p st.m p.lines.toNat∧∃ j,0<=gp st.m j)∨
  (e=2/\st'.m.down=true/\0<=st.m.cut/\(wv p st'.m p.lines.toNat=wv p st.m p.lines.toNat\/wv p st'.m p.lines.toNat=Sp.apply (wv p st.m p.lines.toNat) es))
theorem qi9{es:List S160}(hp:p.Ok)(h:LInv p.shape st.m)(hu:st.m.down=false)(hc:Lg.count st.m=0)(he:EdFit p es)(hb:Trn.moves st.m+40<=4611686018427387903):HComR p st (Hp.commit p st (wv p st.m p.lines.toNat) es).2 es (Hp.commit p st (wv p st.m p.lines.toNat) es).1:=by
 have hl1:=hp.l1;have hl2:=hp.l2;obtain⟨l1,l2,l3⟩:=he.lines;have hwl:=sb h p.lines.toNat;have hC:=qeo (s:=p.shape) (hs:=Hp.homesOf (Sp.lines es) (Sp.apply (wv p st.m p.lines.toNat) es)) h hu hc (wb hp he _) (by show 17<=16+p.lines;omega) (fun x hx=>by
  obtain⟨i,hi,rfl⟩:=List.mem_map.1 hx;have:=l3 i hi;exact qdb (by rw[xl,hwl];omega) (yz es _ (qgs h _) he.val)) st.puts hb
 unfold Hp.commit;generalize Lg.commit p.shape (Hp.homesOf (Sp.lines es) (Sp.apply (wv p st.m p.lines.toNat) es)) st.m st.puts=r at hC;obtain⟨e,m1,p1⟩:=r;dsimp only at hC ⊢;have hS:=hC.same;have old:(∀ line,16<=line->line<p.shape.n->vw p.shape m1 line=vw p.shape st.m line)->wv p m1 p.lines.toNat=wv p st.m p.lines.toNat:=fun hv=>qar h hS.inv (by omega) hv;have new:(∀ line,16<=line->line<p.shape.n->vw p.shape m1 line=nv (Hp.homesOf (Sp.lines es) (Sp.apply (wv p st.m p.lines.toNat) es)) (vw p.shape st.m) line)->wv p m1 p.lines.toNat=Sp.apply (wv p st.m p.lines.toNat) es:=fun hv=>qmg hp h hS.inv he hv;by_cases c0:e=0
 ·rw[if_pos c0];have hy:m1.down=false/\wv p m1 p.lines.toNat=Sp.apply (wv p st.m p.lines.toNat) es:=by
   rcases hC.res with⟨_,u,v⟩|⟨e,_⟩|⟨e,_⟩
   ·exact⟨u,new v⟩
   ·omega
   ·omega
  have hN:=y9 (p:=p) p.batch (Sp.lines es) {st with m:=m1,puts:=p1} hS.inv hy.1 (fun i hi=>by have:=l3 i hi;omega);have hwn:wv p (Hp.noteAll p.batch (Sp.lines es) {st with m:=m1,puts:=p1}).2.m p.lines.toNat=Sp.apply (wv p st.m p.lines.toNat) es:=by rw[<-hy.2];exact qar hS.inv hN.inv (by omega) (fun line _ _=>hN.view line)
  have hm0:Trn.moves (Hp.noteAll p.batch (Sp.lines es) {st with m:=m1,puts:=p1}).2.m=Trn.moves m1:=hN.regs 0 (by omega);have hmv:=hS.mv;refine⟨hN.inv,fun j=>by rw[hN.lim];exact hS.lim j,fun hc=>?_,by rw[hN.regs 2 (by omega)];exact hS.regs 2 (by omega),by rw[hm0];exact hmv,hN.now,hN.kept,fun hw=>.inl (by rw[<-hN.worn];exact hw),fun hu=>?_,?_⟩
  ·have h1:=hS.cut hc;have h2:=hN.cut (by show m1.cut<0;rw[h1];exact hc);rw[h2];exact h1
  ·have:Lg.count (Hp.noteAll p.batch (Sp.lines es) {st with m:=m1,puts:=p1}).2.m=Lg.count m1:=hN.regs 1 (by omega);rw[this];exact hS.cln hy.1
  ·rcases hN.res with⟨x,y⟩|⟨x,y,z⟩
   ·exact .inl ⟨x,y,hwn⟩
   ·exact .inr (.inr ⟨x,y,sd hS.cut z, .inr hwn⟩)
 ·rw[if_neg c0];dsimp only;refine⟨hS.inv,hS.lim,hS.cut,hS.regs 2 (by omega),hS.mv,rfl,rfl,?_,hS.cln,?_⟩
  ·intro hw;rcases hC.res with⟨e,_⟩|⟨_,_,_,_,x⟩|⟨e,_⟩
   ·exact absurd e c0
   ·exact .inr x
   ·left;subst e;simpa using hw
  rcases hC.res with⟨e,_⟩|⟨e,u,_,v,x⟩|⟨e,u,c,v|v⟩
  ·exact absurd e c0
  ·exact .inr (.inl ⟨e,u,old v,x⟩)
  ·exact .inr (.inr ⟨e,u,c, .inl (old v)⟩)
  ·exact .inr (.inr ⟨e,u,c, .inr (new v)⟩)
end
def fq(e off:Int)(d:Value):List Value:=[.int .i64 e, .int .i64 off,d]
theorem gj:(Tryz.prog.info? 36).map (·.size)=some 3:=by kernel_rfl
theorem tq{ops:Array Oper}{rest:List Oper}{o:Oper}{a:Act}{w:World}{Q:Exit->Act->World->Prop}(hg:o.guard=none)(t:TypeId)(i:Nat)(x:Operand)(ho:o.op=.build t #[(i,x)])(u:Value)(hx:a.eval x=u)(cells:Array Value)(hb:Tryz.prog.built t [(i,u)]=some cells)
  (h:wpList Tryz.prog ops Q rest (a.put o.dst (.agg cells)) w):wpList Tryz.prog ops Q (o::rest) a w:=
 q9 hg t _ ho [(i,u)] cells (by subst hx;simp) hb h
theorem qat(n:Int):Tryz.prog.built 36 [(0, .int .i64 n)]=some (fq n 0 (.slice none 0 0)).toArray:=by kernel_rfl
theorem ld{e off:Int}{A:Option Addr}{n c:Nat}:∀ v∈fq e off (.slice A n c),v.oneCell'=true:=by
 intro v hv;unfold fq at hv;simp only[List.mem_cons,List.not_mem_nil,or_false]at hv;rcases hv with rfl|rfl|rfl <;> rfl
theorem qiy(p:Addr)(w:World):CallsD Tryz.prog 49 #[.pointer (some p)] .returning w fun e u' w'=>e=.returned (.tuple #[])/\u'=.returning/\w'=w:=by
 refine callsD_of_wpS Tryz.func49 rfl fun c₀ cs hu=>?_;apply wpS_seq;apply wpS_region;simp[wpOpsS,go_sem,recoverD,hu,Tryz.ntmps49,Exit.thenS];apply wpS_seq;apply wpS_region;simp[wpOpsS,go_sem,hu,Tryz.ntmps49,Exit.thenS];refine wpS_cond (t:=false) (by simp[Act.eval,Array.replicate]) ?_;simp only[Bool.false_eq_true,if_false];refine wpS_of_wp (wp_skip ?_);cases c₀;simp_all [bodyPostS,results,Tryz.results49]
theorem qbx(g:Nat)(cur:List Value)(n:Int)(older:List PanicEntry)(w:World)(hb:w.heap[g]? =some (.cells cur.toArray 36 (0,0)))(h3:cur.length=3):CallsD Tryz.prog 49 #[.pointer (some ⟨g,0,none⟩)] (.panicking ({v:=.iface 29 (.int .i64 n),recovered:=false}::older)) w fun e u' w'=>e=.returned (.tuple #[])/\u'=.panicking ({v:=.iface 29 (.int .i64 n),recovered:=true}::older)/\w'=w.setRow g (fq n 0 (.slice none 0 0)).toArray:=by
 refine callsD_of_wpS Tryz.func49 rfl fun c₀ cs hu=>?_;apply wpS_seq;apply wpS_region;simp[wpOpsS,go_sem,recoverD,hu,Tryz.ntmps49,Exit.thenS];apply wpS_seq;apply wpS_region;simp[wpOpsS,go_sem,hu,Tryz.ntmps49,Exit.thenS];refine wpS_cond (t:=true) (by simp[Act.eval,Array.replicate]) ?_;simp only[if_true];have hta:(Instr.typeAssert (.iface 29 (.int .i64 n)) 20 29 true).run Tryz.prog w=.ok (.tuple #[.int .i64 n, .bool true]) w:=by unfold Instr.typeAssert;rw[Sem.run_bind,run_underlying Tryz.underlying29 w];simp
 have HB:=am hb;have H3:=am h3;have HU:=am hu;clear hb h3 hu;refine wpS_of_wp ?_;generalize hT:(#[Value.pointer (some {block:=g,off:=0})]++_:Array Value)=T;have hT2:T=#[.pointer (some ⟨g,0,none⟩), .iface 29 (.int .i64 n),undef,undef, .iface 29 (.int .i64 n), .iface 29 (.int .i64 n), .bool true,undef,undef,undef,undef,undef,undef,undef,undef,undef,undef]:=by rw[<-hT];simp[Array.replicate]
 subst hT2;clear hT;go_wp2_with (first
  |((with_reducible refine b9 (N:=16) rfl ?_);refine tq rfl 36 0 (.tmp 15) rfl (.int .i64 n) rfl _ (qat n) ?_;refine ff rfl 36 (.tmp 0) (.tmp 16) rfl g 0 (fq n 0 (.slice none 0 0)) rfl rfl 36 cur HB.out gj (by rw[H3.out];exact an 3) ld ?_))
 rw[kf _ _ (by rw[H3.out];rfl)];simp[bodyPostS,results,Tryz.results49]
theorem qpx{w:World}{H M C T:Nat}{p:Pn}{lv cv:Value}{worn:Bool}{m:Mem}(hH:oa w H M p T lv cv worn)(h:MemAt w M C m)(hd:m.down=true):Calls Tryz.prog 55 #[.pointer (some ⟨H,0,none⟩)] w fun e w'=>Leaves 2 e/\Below w.heap.size w w':=by
 have k1:w.cell? ⟨H,0,none⟩=some (.pointer (some ⟨M,0,none⟩)):=(aj hH 0).trans rfl;have HW:=am (kz h 2);have E:Nvm.reg m 2=(0,2):=by unfold Nvm.reg;rw[hd];rfl
 rw[E]at HW;clear h hH hd E;go_enter Tryz.func55,Tryz.ntmps55;go_wp2_with (first
  |(go_at_call 35;(with_reducible refine HW.out.mono ?_);rintro e w1 ⟨rfl,rfl⟩)
  |(go_at_call 102;(with_reducible refine(m6 (by decide) _).mono ?_);rintro e w2 ⟨rfl,hb⟩))
 exact⟨rfl,rfl,hb⟩
namespace Hp
def qsn(st:St)(e off:Int):Prop:=(st.m.down=true/\e=2/\off=0)\/(st.m.down=false/\e=0/\off=wrap64 (st.m.regs.getD 2 0))
def DoR(p:Pn)(st:St)(op:S39)(e off:Int)(bs:List Int)(st':St):Prop:=
 (op.f0=1/\bs=[]/\AllocR p st op.f2 e off st')∨
 (op.f0=2/\off=0/\bs=[]/\FreeR p st op.f1 e st')∨
 (op.f0=3/\off=0/\st'=st/\ReadR p st op.f1 op.f2 e bs)∨
 (op.f0=4/\off=0/\bs=[]/\WriteR p st op.f1 op.f4 e st')∨
 (op.f0=5/\off=0/\bs=[]/\RootR p st op.f1 e st')∨
 (op.f0=6/\bs=[]/\st'=st/\qsn st e off)∨
 ((op.f0<1\/6<op.f0)/\e=1/\off=0/\bs=[]/\st'=st)
end Hp
theorem ny{R:Ending->World->Prop}{tmps:Array Value}{w:World}{g:Nat}{e off:Int}{d:Value}(hp:tmps.getD 4 undef=.pointer (some ⟨g,0,none⟩))(hb:w.heap[g]? =some (.cells (fq e off d).toArray 36 (0,0)))(hR:R (.returned (.agg (fq e off d).toArray)) w):_root_.Go.Leaves Tryz.prog Tryz.f12 tmps R [{target:=.fn (.func 49) #[.pointer (some ⟨g,0,none⟩)],args:=#[]}] .returning w:=by
 refine leaves_cons (f:=49) (args:=#[.pointer (some ⟨g,0,none⟩)]) (by simp) (by simp[go_sem]) ?_;refine(qiy ⟨g,0,none⟩ _).mono ?_;rintro e u' w'' ⟨rfl,rfl,rfl⟩;exact⟨_,wx (fn:=Tryz.f12) (p:=4) (ty:=36) rfl _ _ g _ _ hp (bt hb) Tryz.underlying36 rfl gj,hR⟩
theorem rn{R:Ending->World->Prop}{tmps:Array Value}{w:World}{g:Nat}{cur:List Value}{n:Int}(hp:tmps.getD 4 undef=.pointer (some ⟨g,0,none⟩))(hb:w.heap[g]? =some (.cells cur.toArray 36 (0,0)))(h3:cur.length=3)(hR:R (.returned (.agg (fq n 0 (.slice none 0 0)).toArray)) (w.setRow g (fq n 0 (.slice none 0 0)).toArray)):_root_.Go.Leaves Tryz.prog Tryz.f12 tmps R [{target:=.fn (.func 49) #[.pointer (some ⟨g,0,none⟩)],args:=#[]}] (.panicking [{v:=.iface 29 (.int .i64 n),recovered:=false}]) w:=by
 refine leaves_cons (f:=49) (args:=#[.pointer (some ⟨g,0,none⟩)]) (by simp) (by simp[go_sem]) ?_;refine(qbx g cur n [] _ hb h3).mono ?_;rintro e u' w'' ⟨rfl,rfl,rfl⟩;exact⟨_,wx (fn:=Tryz.f12) (p:=4) (ty:=36) rfl _ _ g _ _ hp (bt (setRow_heap _ _ _ _ _ _ hb)) Tryz.underlying36 rfl gj,hR⟩
theorem qrt:∀ q,q∈5::(Kd.int .u8).E->q≠36:=by
 intro q hq;rcases List.mem_cons.1 hq with rfl|h
 ·decide
 ·cases h
theorem qsi{w:World}{g:Nat}{e:Int}{d:Value}(h:w.heap[g]? =some (.cells (fq e 0 d).toArray 36 (0,0)))(off:Int):(w.setCell ⟨g,1,none⟩ (.int .i64 off)).heap[g]? =some (.cells (fq e off d).toArray 36 (0,0)):=by
 rw[heap_setCell_same _ _ _ _ _ _ h];rfl
theorem qsv{w:World}{g:Nat}{e off:Int}{d:Value}(h:w.heap[g]? =some (.cells (fq e off d).toArray 36 (0,0)))(d':Value):(w.setCell ⟨g,2,none⟩ d').heap[g]? =some (.cells (fq e off d').toArray 36 (0,0)):=by
 rw[heap_setCell_same _ _ _ _ _ _ h];rfl
theorem HeapAt.away{w:World}{b:Bl}{p:Pn}{st:St}(h:HeapAt w b p st){g:Nat}(hg:¬ b.All g)(i:Nat)(v:Value):HeapAt (w.setCell ⟨g,i,none⟩ v) b p st:=
 h.step (S:=fun k=>k=g) ((aq.refl (fun k=>k=g) w).set (p:=⟨g,i,none⟩) (.inl rfl) v) (fun j hj e=>hg (by rw[<-e];exact hj))
theorem HeapAt.awayRow{w:World}{b:Bl}{p:Pn}{st:St}(h:HeapAt w b p st){g:Nat}(hg:¬ b.All g)(cs:Array Value):HeapAt (w.setRow g cs) b p st:=
 h.step (S:=fun k=>k=g) ((aq.refl (fun k=>k=g) w).setRow (.inl rfl) cs) (fun j hj e=>hg (by rw[<-e];exact hj))
theorem Hp.AllocR.off{p:Pn}{st st':St}{n e off:Int}(h:Hp.AllocR p st n e off st')(he:e≠0):off=0:=by
 rcases h with⟨_,_,h,_⟩|⟨_,_,_,h,_⟩|⟨_,_,_,_,_,_,h,_⟩|⟨_,_,_,_,_,_,_,_,h,_⟩|⟨_,_,_,_,_,_,_,_,_,_,_,h⟩ <;> first|exact h|(rw[h,if_neg he])
theorem Hp.ReadR.bs{p:Pn}{st:St}{off n e:Int}{bs:List Int}(h:Hp.ReadR p st off n e bs)(he:e≠0):bs=[]:=by
 rcases h with⟨_,_,h⟩|⟨_,_,_,h,_⟩|⟨_,h,_⟩
 ·exact h
 ·exact h
 ·exact absurd h he
def opV(op:S39)(A:Option Addr)(c:Nat):List Value:=[.int .i64 op.f0, .int .i64 op.f1, .int .i64 op.f2, .int .i64 op.f3, .slice A op.f4.length c]
def qsp(w:World)(b:Bl)(p:Pn)(e off:Int)(bs:List Int)(st':St)(x:Ending)(w':World):Prop:=
 ∃ d,x=.returned (.agg (fq e off d).toArray)/\Kd.R (Kd.int .u8) 5 w' w.heap.size (fun _=>True) d bs/\HeapAt w' b p st'∧aq b.W w w'
section
variable{w:World}{b:Bl}{p:Pn}{st:St}
theorem qeq(h:HeapAt w b p st)(hp:p.Ok)(hs:StOk p st)(op:S39)(A:Option Addr)(c:Nat)(hbs:Kd.C (Kd.int .u8) w A op.f4.length op.f4)(hbc:op.f4.length<=c)(e off:Int)(bs:List Int)(st':St)(hr:Hp.DoR p st op e off bs st'):Calls Tryz.prog 12 #[.pointer (some ⟨b.H,0,none⟩), .agg (opV op A c).toArray] w (qsp w b p e off bs st'):=by
 have hmf:∀ (fn:Fn) (first cap:Array Value) (w:World),(Instr.makeFunc fn first cap).run Tryz.prog w=.ok (.func fn first cap) w:=fun _ _ _ _=>rfl;have H0:=am h;have HLt:=am h.lt;have HBs:=am hbs;have HBc:=am hbc;have HP:=am hp;have HS:=am hs;clear h hbs hbc hp hs;unfold opV;obtain⟨k0,k1,k2,k3,k4⟩:=op;dsimp only at *;unfold Hp.DoR at hr;dsimp only at hr;have HBz:Aside0 (Below w.heap.size w ((w.alloc (.cells #[.int .i64 k0, .int .i64 k1, .int .i64 k2, .int .i64 k3, .slice A k4.length c] 39)).alloc (.cells #[.int .i64 0, .int .i64 0, .slice none 0 0] 36))):=⟨((ai _ _).alloc (an _) _).alloc (by simp) _⟩;have HGz:Aside0 (((w.alloc (.cells #[.int .i64 k0, .int .i64 k1, .int .i64 k2, .int .i64 k3, .slice A k4.length c] 39)).alloc (.cells #[.int .i64 0, .int .i64 0, .slice none 0 0] 36)).heap[w.heap.size+1]? =some (.cells (fq 0 0 (.slice none 0 0)).toArray 36 (0,0))):=⟨heap_alloc2_new w _ _⟩;have HNot:Aside0 (¬ b.W (w.heap.size+1)):=⟨fun e=>HLt.out (w.heap.size+1) (by omega) (.inl e)⟩;rcases hr with⟨hk,hb,ha⟩|⟨hk,ho,hb,ha⟩|⟨hk,ho,hst,ha⟩|⟨hk,ho,hb,ha⟩|⟨hk,ho,hb,ha⟩|⟨hk,hb,hst,ha⟩|⟨hk,he,ho,hb,hst⟩
 ·subst hk;subst hb;have hoff:=ha.off;have HA:=am ha;clear ha;by_cases c0:e=0
  ·subst c0;clear hoff;go_enter_defers Tryz.func12,Tryz.ntmps12;go_wp2_with (first
    |(go_at_call 50;(with_reducible refine(qbe (H0.out.below HBz.out) HP.out HS.out k2 0 off st' HA.out).mono ?_);rintro x w1 ⟨h1,kk1,hE⟩;obtain rfl:=hE.1 rfl;have G1:=am (kk1.of HGz.out HNot.out);have GX:=am (qsi G1.out off);have c1:w1.cell? ⟨w.heap.size+1,1,none⟩=some (.int .i64 0):=(aj G1.out 1).trans rfl;have f1:w1.frozen? ⟨w.heap.size+1,1,none⟩=false:=ak G1.out 1;have K1:=am (aq.step (aq.of_below HBz.out) kk1);have HA1:=am h1;clear h1 kk1 hE)
    |((with_reducible refine fz (.load 36 (.tmp 4)) rfl ?_);refine bc rfl 36 (.tmp 4) rfl (w.heap.size+1) 0 rfl (fq 0 off (.slice none 0 0)) _ (fun j v hv=>by rw[Nat.zero_add];exact bt GX.out j v hv) Tryz.underlying36 rfl gj ?_)
    |((with_reducible refine bp (t:=36) (p:=4) rfl ?_);refine ff rfl 36 (.tmp 4) (.tmp 53) rfl (w.heap.size+1) 0 (fq 0 off (.slice none 0 0)) rfl rfl 36 (fq 0 off (.slice none 0 0)) GX.out gj (an _) ld ?_;rw[kf _ _ rfl,lh _ _ _ _ _ GX.out]))
   exact ny rfl GX.out ⟨_,rfl,Kd.R_nil _ _ _ _ _,HA1.out.away (HLt.out _ (by omega)) 1 _,K1.out.set (p:=⟨w.heap.size+1,1,none⟩) (.inr (by simp)) _⟩
  ·have E0:=am c0;clear c0;obtain rfl:=hoff E0.out;go_enter_defers Tryz.func12,Tryz.ntmps12;go_wp2_with (first
    |(go_at_call 50;(with_reducible refine(qbe (H0.out.below HBz.out) HP.out HS.out k2 e 0 st' HA.out).mono ?_);rintro x w1 ⟨h1,kk1,hE⟩;obtain rfl:=hE.2 E0.out;have G1:=am (kk1.of HGz.out HNot.out);have K1:=am (aq.step (aq.of_below HBz.out) kk1);have HA1:=am h1;clear h1 kk1 hE))
   exact rn rfl G1.out rfl ⟨_,rfl,Kd.R_nil _ _ _ _ _,HA1.out.awayRow (HLt.out _ (by omega)) _,K1.out.setRow (.inr (by omega)) _⟩
 ·subst hk;subst hb;subst ho;have HA:=am ha;clear ha;by_cases c0:e=0
  ·subst c0;go_enter_defers Tryz.func12,Tryz.ntmps12;go_wp2_with (first
    |(go_at_call 51;(with_reducible refine(qc1 (H0.out.below HBz.out) HP.out HS.out k1 0 st' HA.out).mono ?_);rintro x w1 ⟨h1,kk1,hE⟩;obtain rfl:=hE.1 rfl;have G1:=am (kk1.of HGz.out HNot.out);have GX:=G1;have K1:=am (aq.step (aq.of_below HBz.out) kk1);have HA1:=am h1;clear h1 kk1 hE)
    |((with_reducible refine fz (.load 36 (.tmp 4)) rfl ?_);refine bc rfl 36 (.tmp 4) rfl (w.heap.size+1) 0 rfl (fq 0 0 (.slice none 0 0)) _ (fun j v hv=>by rw[Nat.zero_add];exact bt GX.out j v hv) Tryz.underlying36 rfl gj ?_)
    |((with_reducible refine bp (t:=36) (p:=4) rfl ?_);refine ff rfl 36 (.tmp 4) (.tmp 53) rfl (w.heap.size+1) 0 (fq 0 0 (.slice none 0 0)) rfl rfl 36 (fq 0 0 (.slice none 0 0)) GX.out gj (an _) ld ?_;rw[kf _ _ rfl,lh _ _ _ _ _ GX.out]))
   exact ny rfl GX.out ⟨_,rfl,Kd.R_nil _ _ _ _ _,HA1.out,K1.out⟩
  ·have E0:=am c0;clear c0;go_enter_defers Tryz.func12,Tryz.ntmps12;go_wp2_with (first
    |(go_at_call 51;(with_reducible refine(qc1 (H0.out.below HBz.out) HP.out HS.out k1 e st' HA.out).mono ?_);rintro x w1 ⟨h1,kk1,hE⟩;obtain rfl:=hE.2 E0.out;have G1:=am (kk1.of HGz.out HNot.out);have K1:=am (aq.step (aq.of_below HBz.out) kk1);have HA1:=am h1;clear h1 kk1 hE))
   exact rn rfl G1.out rfl ⟨_,rfl,Kd.R_nil _ _ _ _ _,HA1.out.awayRow (HLt.out _ (by omega)) _,K1.out.setRow (.inr (by omega)) _⟩
 ·subst hk;subst hst;subst ho;have HA:=am ha;have hbs:=ha.bs;clear ha;by_cases c0:e=0
  ·subst c0;clear hbs;go_enter_defers Tryz.func12,Tryz.ntmps12;go_wp2_with (first
    |(go_at_call 52;(with_reducible refine(qdl (H0.out.below HBz.out) HP.out HS.out k1 k2 0 bs HA.out).mono ?_);rintro x w1 ⟨h1,kk0,v,hE,ho⟩;have kk1:=aq.of_below (S:=b.W) kk0;obtain rfl:=hE.1 rfl;have G1:=am (kk1.of HGz.out HNot.out);obtain⟨Av,cv,ev⟩:=Kd.R_slice ho;subst ev;have GX:=am (qsv G1.out (.slice Av bs.length cv));have HO:=am (Kd.R_lower (Kd.R_set ho G1.out qrt 2 (.slice Av bs.length cv)) (show w.heap.size<=_ by simp;omega));have c1:w1.cell? ⟨w.heap.size+1,2,none⟩=some (.slice none 0 0):=(aj G1.out 2).trans rfl;have f1:w1.frozen? ⟨w.heap.size+1,2,none⟩=false:=ak G1.out 2;have K1:=am (aq.step (aq.of_below HBz.out) kk1);have HA1:=am h1;clear h1 kk1 hE kk0 ho)
    |((with_reducible refine fz (.load 36 (.tmp 4)) rfl ?_);refine bc rfl 36 (.tmp 4) rfl (w.heap.size+1) 0 rfl (fq 0 0 (.slice Av bs.length cv)) _ (fun j v hv=>by rw[Nat.zero_add];exact bt GX.out j v hv) Tryz.underlying36 rfl gj ?_)
    |((with_reducible refine bp (t:=36) (p:=4) rfl ?_);refine ff rfl 36 (.tmp 4) (.tmp 53) rfl (w.heap.size+1) 0 (fq 0 0 (.slice Av bs.length cv)) rfl rfl 36 (fq 0 0 (.slice Av bs.length cv)) GX.out gj (an _) ld ?_;rw[kf _ _ rfl,lh _ _ _ _ _ GX.out]))
   exact ny rfl GX.out ⟨_,rfl,HO.out,HA1.out.away (HLt.out _ (by omega)) 2 _,K1.out.set (p:=⟨w.heap.size+1,2,none⟩) (.inr (by simp)) _⟩
  ·have E0:=am c0;obtain rfl:=hbs c0;clear c0 hbs;go_enter_defers Tryz.func12,Tryz.ntmps12;go_wp2_with (first
    |(go_at_call 52;(with_reducible refine(qdl (H0.out.below HBz.out) HP.out HS.out k1 k2 e [] HA.out).mono ?_);rintro x w1 ⟨h1,kk0,v,hE,ho⟩;have kk1:=aq.of_below (S:=b.W) kk0;obtain rfl:=hE.2 E0.out;have G1:=am (kk1.of HGz.out HNot.out);have K1:=am (aq.step (aq.of_below HBz.out) kk1);have HA1:=am h1;clear h1 kk1 hE kk0 ho))
   exact rn rfl G1.out rfl ⟨_,rfl,Kd.R_nil _ _ _ _ _,HA1.out.awayRow (HLt.out _ (by omega)) _,K1.out.setRow (.inr (by omega)) _⟩
 ·subst hk;subst hb;subst ho;have HA:=am ha;clear ha;by_cases c0:e=0
  ·subst c0;go_enter_defers Tryz.func12,Tryz.ntmps12;go_wp2_with (first
    |(go_at_call 53;(with_reducible refine(qab (H0.out.below HBz.out) HP.out HS.out k1 0 A c k4 (Kd.C_below HBs.out HBz.out) HBc.out st' HA.out).mono ?_);rintro x w1 ⟨h1,kk1,hE⟩;obtain rfl:=hE.1 rfl;have G1:=am (kk1.of HGz.out HNot.out);have GX:=G1;have K1:=am (aq.step (aq.of_below HBz.out) kk1);have HA1:=am h1;clear h1 kk1 hE)
    |((with_reducible refine fz (.load 36 (.tmp 4)) rfl ?_);refine bc rfl 36 (.tmp 4) rfl (w.heap.size+1) 0 rfl (fq 0 0 (.slice none 0 0)) _ (fun j v hv=>by rw[Nat.zero_add];exact bt GX.out j v hv) Tryz.underlying36 rfl gj ?_)
    |((with_reducible refine bp (t:=36) (p:=4) rfl ?_);refine ff rfl 36 (.tmp 4) (.tmp 53) rfl (w.heap.size+1) 0 (fq 0 0 (.slice none 0 0)) rfl rfl 36 (fq 0 0 (.slice none 0 0)) GX.out gj (an _) ld ?_;rw[kf _ _ rfl,lh _ _ _ _ _ GX.out]))
   exact ny rfl GX.out ⟨_,rfl,Kd.R_nil _ _ _ _ _,HA1.out,K1.out⟩
  ·have E0:=am c0;clear c0;go_enter_defers Tryz.func12,Tryz.ntmps12;go_wp2_with (first
    |(go_at_call 53;(with_reducible refine(qab (H0.out.below HBz.out) HP.out HS.out k1 e A c k4 (Kd.C_below HBs.out HBz.out) HBc.out st' HA.out).mono ?_);rintro x w1 ⟨h1,kk1,hE⟩;obtain rfl:=hE.2 E0.out;have G1:=am (kk1.of HGz.out HNot.out);have K1:=am (aq.step (aq.of_below HBz.out) kk1);have HA1:=am h1;clear h1 kk1 hE))
   exact rn rfl G1.out rfl ⟨_,rfl,Kd.R_nil _ _ _ _ _,HA1.out.awayRow (HLt.out _ (by omega)) _,K1.out.setRow (.inr (by omega)) _⟩
 ·subst hk;subst hb;subst ho;have HA:=am ha;clear ha;by_cases c0:e=0
  ·subst c0;go_enter_defers Tryz.func12,Tryz.ntmps12;go_wp2_with (first
    |(go_at_call 54;(with_reducible refine(yq (H0.out.below HBz.out) HP.out HS.out k1 0 st' HA.out).mono ?_);rintro x w1 ⟨h1,kk1,hE⟩;obtain rfl:=hE.1 rfl;have G1:=am (kk1.of HGz.out HNot.out);have GX:=G1;have K1:=am (aq.step (aq.of_below HBz.out) kk1);have HA1:=am h1;clear h1 kk1 hE)
    |((with_reducible refine fz (.load 36 (.tmp 4)) rfl ?_);refine bc rfl 36 (.tmp 4) rfl (w.heap.size+1) 0 rfl (fq 0 0 (.slice none 0 0)) _ (fun j v hv=>by rw[Nat.zero_add];exact bt GX.out j v hv) Tryz.underlying36 rfl gj ?_)
    |((with_reducible refine bp (t:=36) (p:=4) rfl ?_);refine ff rfl 36 (.tmp 4) (.tmp 53) rfl (w.heap.size+1) 0 (fq 0 0 (.slice none 0 0)) rfl rfl 36 (fq 0 0 (.slice none 0 0)) GX.out gj (an _) ld ?_;rw[kf _ _ rfl,lh _ _ _ _ _ GX.out]))
   exact ny rfl GX.out ⟨_,rfl,Kd.R_nil _ _ _ _ _,HA1.out,K1.out⟩
  ·have E0:=am c0;clear c0;go_enter_defers Tryz.func12,Tryz.ntmps12;go_wp2_with (first
    |(go_at_call 54;(with_reducible refine(yq (H0.out.below HBz.out) HP.out HS.out k1 e st' HA.out).mono ?_);rintro x w1 ⟨h1,kk1,hE⟩;obtain rfl:=hE.2 E0.out;have G1:=am (kk1.of HGz.out HNot.out);have K1:=am (aq.step (aq.of_below HBz.out) kk1);have HA1:=am h1;clear h1 kk1 hE))
   exact rn rfl G1.out rfl ⟨_,rfl,Kd.R_nil _ _ _ _ _,HA1.out.awayRow (HLt.out _ (by omega)) _,K1.out.setRow (.inr (by omega)) _⟩
 ·subst hk;subst hb;subst hst;rcases ha with⟨hd,he,ho⟩|⟨hd,he,ho⟩
  ·subst he;subst ho;have HA:=am hd;clear hd;go_enter_defers Tryz.func12,Tryz.ntmps12;go_wp2_with (first
    |(go_at_call 55;(with_reducible refine(qpx (H0.out.below HBz.out).box (H0.out.below HBz.out).tur.mem HA.out).mono ?_);rintro x w1 ⟨rfl,kk0⟩;have kk1:=aq.of_below (S:=b.W) kk0;have h1:=(H0.out.below HBz.out).below kk0;have G1:=am (kk1.of HGz.out HNot.out);have K1:=am (aq.step (aq.of_below HBz.out) kk1);have HA1:=am h1;clear h1 kk1 kk0))
   exact rn rfl G1.out rfl ⟨_,rfl,Kd.R_nil _ _ _ _ _,HA1.out.awayRow (HLt.out _ (by omega)) _,K1.out.setRow (.inr (by omega)) _⟩
  ·subst he;subst ho;have HA:=am hd;clear hd;obtain⟨rv,hrv⟩:∃ rv,wrap64 (st'.m.regs.getD 2 0)=rv:=⟨_,rfl⟩;have HRv:=am hrv;rw[hrv];clear hrv;go_enter_defers Tryz.func12,Tryz.ntmps12;go_wp2_with (first
    |(go_at_call 55;(with_reducible refine(qcf (H0.out.below HBz.out).box (H0.out.below HBz.out).tur.mem HA.out).mono ?_);rintro x w1 ⟨rfl,kk0⟩;rw[HRv.out];have kk1:=aq.of_below (S:=b.W) kk0;have h1:=(H0.out.below HBz.out).below kk0;have G1:=am (kk1.of HGz.out HNot.out);have GX:=am (qsi G1.out rv);have c1:w1.cell? ⟨w.heap.size+1,1,none⟩=some (.int .i64 0):=(aj G1.out 1).trans rfl;have f1:w1.frozen? ⟨w.heap.size+1,1,none⟩=false:=ak G1.out 1;have K1:=am (aq.step (aq.of_below HBz.out) kk1);have HA1:=am h1;clear h1 kk1 kk0)
    |((with_reducible refine fz (.load 36 (.tmp 4)) rfl ?_);refine bc rfl 36 (.tmp 4) rfl (w.heap.size+1) 0 rfl (fq 0 rv (.slice none 0 0)) _ (fun j v hv=>by rw[Nat.zero_add];exact bt GX.out j v hv) Tryz.underlying36 rfl gj ?_)
    |((with_reducible refine bp (t:=36) (p:=4) rfl ?_);refine ff rfl 36 (.tmp 4) (.tmp 53) rfl (w.heap.size+1) 0 (fq 0 rv (.slice none 0 0)) rfl rfl 36 (fq 0 rv (.slice none 0 0)) GX.out gj (an _) ld ?_;rw[kf _ _ rfl,lh _ _ _ _ _ GX.out]))
   exact ny rfl GX.out ⟨_,rfl,Kd.R_nil _ _ _ _ _,HA1.out.away (HLt.out _ (by omega)) 1 _,K1.out.set (p:=⟨w.heap.size+1,1,none⟩) (.inr (by simp)) _⟩
 ·subst he;subst ho;subst hb;subst hst;have b1:(k0==1)=false:=beq_eq_false_iff_ne.2 (by omega);have b2:(k0==2)=false:=beq_eq_false_iff_ne.2 (by omega);have b3:(k0==3)=false:=beq_eq_false_iff_ne.2 (by omega);have b4:(k0==4)=false:=beq_eq_false_iff_ne.2 (by omega);have b5:(k0==5)=false:=beq_eq_false_iff_ne.2 (by omega);have b6:(k0==6)=false:=beq_eq_false_iff_ne.2 (by omega);clear hk;have HBy:Aside0 (Below w.heap.size w ((w.alloc (.cells #[.int .i64 k0, .int .i64 k1, .int .i64 k2, .int .i64 k3, .slice A k4.length c] 39)).alloc (.cells #[.int .i64 1, .int .i64 0, .slice none 0 0] 36))):=⟨((ai _ _).alloc (an _) _).alloc (by simp) _⟩;have GX:Aside0 (((w.alloc (.cells #[.int .i64 k0, .int .i64 k1, .int .i64 k2, .int .i64 k3, .slice A k4.length c] 39)).alloc (.cells #[.int .i64 1, .int .i64 0, .slice none 0 0] 36)).heap[w.heap.size+1]? =some (.cells (fq 1 0 (.slice none 0 0)).toArray 36 (0,0))):=⟨heap_alloc2_new w _ _⟩;go_enter_defers Tryz.func12,Tryz.ntmps12;go_wp2_with (first
   |((with_reducible refine fz (.load 36 (.tmp 4)) rfl ?_);refine bc rfl 36 (.tmp 4) rfl (w.heap.size+1) 0 rfl (fq 1 0 (.slice none 0 0)) _ (fun j v hv=>by rw[Nat.zero_add];exact bt GX.out j v hv) Tryz.underlying36 rfl gj ?_)
   |((with_reducible refine bp (t:=36) (p:=4) rfl ?_);refine ff rfl 36 (.tmp 4) (.tmp 53) rfl (w.heap.size+1) 0 (fq 1 0 (.slice none 0 0)) rfl rfl 36 (fq 1 0 (.slice none 0 0)) GX.out gj (an _) ld ?_;rw[kf _ _ rfl,lh _ _ _ _ _ GX.out]))
  exact ny rfl GX.out ⟨_,rfl,Kd.R_nil _ _ _ _ _,H0.out.below HBy.out,aq.of_below HBy.out⟩
end
theorem xk(es:List S160):∀ ws,Sp.apply ws es=app ws es:=by
 induction es with
 |nil=>intro ws;rfl
 |cons e es ih=>intro ws;exact ih (Sp.apply1 ws e)
def uq(l:List S116)(r:Int):Prop:=r=0\/qgy l r
structure HInv (p:Pn) (st:St) (l:List S116) (v:List Int) (r:Int):Prop where
 inv:LInv p.shape st.m
 wd:wv p st.m p.lines.toNat=v
 hv:HV l v (p.lines*8)
 rt:st.m.regs.getD 2 0=r
 ri:uq l r
 now:st.now.length=((p.lines+3) / 4).toNat
def qfo(l:List S116)(v:List Int)(r:Int)(now:List Int)(op:S39)(off:Int)(l':List S116)(v':List Int)(r':Int):Prop:=
 (op.f0=1/\r'=r∧∃ c,zp l c (df op.f2)/\df op.f2≠0/\ul l now (df op.f2) c/\off=((ab l c).f0+1)*8/\l'=crv l c (df op.f2)/\v'=app v (eds (ab l c) (df op.f2)))∨
 (op.f0=2/\r'=r/\off=0∧∃ c:Int,0<=c/\c<l.length/\(ab l c).f2=true/\op.f1=((ab l c).f0+1)*8/\r≠op.f1/\l'=mrg l c/\v'=v.set (ab l (cz l c)).f0.toNat (j8 (dq (mM l c)) false))∨
 (op.f0=4/\r'=r/\off=0/\op.f4≠[]/\ma l op.f1 op.f4.length/\l'=l/\v'=j9 v op.f4 op.f1 op.f4.length)∨
 (op.f0=5/\r'=op.f1/\off=0/\uq l op.f1/\l'=l/\v'=v)
def qom(op:S39):Prop:=op.f0=3\/op.f0=6\/(op.f0=4/\op.f4=[])
structure Kp (st st':St):Prop where
 lim:∀ j,gp st'.m j=gp st.m j
 cut:st.m.cut<0->st'.m.cut=st.m.cut
 mv:Trn.moves st.m<=Trn.moves st'.m/\Trn.moves st'.m<=Trn.moves st.m+40
 fresh:Hp.isWorn st.worn st.m=false->st'.m.down=false->Hp.isWorn st'.worn st'.m=false∨∃ j,0<=gp st.m j
theorem Kp.refl(st:St):Kp st st:=⟨fun _=>rfl,fun _=>rfl,by omega,fun h _=>.inl h⟩
structure DoneR (p:Pn) (st:St) (op:S39) (e off:Int) (st':St) (l:List S116) (v:List Int) (r:Int):Prop where
 kp:Kp st st'
 stuck:Hp.isWorn st.worn st.m=true->st'=st/\(e=0->qom op)
 two:(e=2->st'.m.down=true)/\(st.m.down=false->st'.m.down=true->e=2)
 cutd:st.m.down=false->st'.m.down=true->0<=st.m.cut
 three:e=3->Hp.isWorn st.worn st.m=true∨∃ j,0<=gp st.m j
 err:e≠0->off=0
 eff:(e=0/\qom op/\st'=st)\/(e=0∧∃ l' v' r',qfo l v r st.now op off l' v' r'∧HInv p st' l' v' r')\/(e≠0/\HInv p st' l v r)\/(e=2∧∃ o l' v' r',qfo l v r st.now op o l' v' r'∧HInv p st' l' v' r')
section
variable{p:Pn}{st:St}{l:List S116}{v:List Int}{r:Int}
theorem HInv.rd(h:HInv p st l v r)(hu:st.m.down=false):Lg.Rd p.shape st.m:=fun line _ _=>by
 rw[vn h.inv.ok hu];exact⟨rfl,(h.inv.ok.lineW line).2⟩
theorem LInv.c14{s:Shape}{m:Mem}(h:LInv s m):0<=Lg.count m/\Lg.count m<=14:=by rcases h.cnt with c|⟨a,b,_⟩ <;> omega
theorem HInv.stOk(h:HInv p st l v r)(hb:Trn.moves st.m+40<=4611686018427387903):StOk p st:=
 ⟨h.rd,h.inv.c14.2,h.now,by unfold Trn.moves at hb;omega⟩
theorem HInv.ws(h:HInv p st l v r)(hp:p.Ok)(hu:st.m.down=false):Hp.ws p st=v:=by
 rw[<-h.wd];exact qdz h.inv hu _ (by have:=hp.l1;omega)
theorem HInv.rr(h:HInv p st l v r)(hp:p.Ok):0<=r/\r<=4104:=by
 have:=hp.l2;rcases h.ri with e|⟨b,hb,_,e⟩
 ·omega
 ·have:=fh h.hv hb;omega
theorem lz{f:Bool}{m:Mem}(hu:m.down=false):Hp.isWorn f m=false<->f=false/\Lg.count m=0:=by
 unfold Hp.isWorn Nvm.reg;rw[hu];show(f||(m.regs.getD 1 0 != 0))=false<->_;rw[Bool.or_eq_false_iff,bne_eq_false_iff_eq];rfl
theorem vx{es:List S160}(hne:es≠[])(hlen:es.length<=1000)(a:Int)(a0:0<=a)(h:∀ e∈es,a<=e.f0/\e.f0<a+64/\e.f0<p.lines*8)(hv:∀ e∈es,0<=e.f1/\e.f1<=18446744073709551615):EdFit p es:=by
 refine⟨⟨hlen,?_,fun e he=>by have:=h e he;omega⟩,⟨a,a0,fun e he=>by have:=h e he;omega⟩,hv⟩;obtain⟨e,he⟩:=List.exists_mem_of_ne_nil es hne;refine List.length_pos_iff.2 (List.ne_nil_of_mem (a:=e.f0 / 8) ?_);unfold Sp.linesTo;exact List.mem_map.2 ⟨e,List.mem_filter.2 ⟨he,by have:=h e he;simp;omega⟩,rfl⟩
structure ComO (p:Pn) (st:St) (e:Int) (st':St) (l:List S116) (v:List Int) (r:Int) (l':List S116) (v':List Int):Prop where
 kp:Kp st st'
 two:e=2<->st'.m.down=true
 cutd:st'.m.down=true->0<=st.m.cut
 three:e=3→∃ j,0<=gp st.m j
 kind:e=0\/e=2\/e=3
 eff:(e=0/\HInv p st' l' v' r)\/(e≠0/\HInv p st' l v r)\/(e=2/\HInv p st' l' v' r)
theorem qcw{es:List S160}{l':List S116}(h:HInv p st l v r)(hp:p.Ok)(hu:st.m.down=false)(hw:Hp.isWorn st.worn st.m=false)(hb:Trn.moves st.m+40<=4611686018427387903)(he:EdFit p es)(hn:HV l' (app v es) (p.lines*8))(hr:uq l' r):ComO p st (Hp.commit p st v es).1 (Hp.commit p st v es).2 l v r l' (app v es):=by
 obtain⟨hw1,hw2⟩:=(lz hu).1 hw;have hC:=qi9 hp h.inv hu hw2 he hb;rw[h.wd]at hC;have hres:=hC.res;rw[h.wd,xk]at hres;generalize Hp.commit p st v es=c at hC hres;obtain⟨e,st'⟩:=c;dsimp only at hC hres ⊢;have old:wv p st'.m p.lines.toNat=v->HInv p st' l v r:=fun e=>⟨hC.inv,e,h.hv,by rw[hC.root];exact h.rt,h.ri,by rw[hC.now];exact h.now⟩;have new:wv p st'.m p.lines.toNat=app v es->HInv p st' l' (app v es) r:=fun e=>⟨hC.inv,e,hn,by rw[hC.root];exact h.rt,hr,by rw[hC.now];exact h.now⟩;refine⟨⟨hC.lim,hC.cut,hC.mv,fun _ hd=>?_⟩,?_,fun hd=>?_,fun e3=>?_,?_,?_⟩
 ·rcases hC.cln hd with c|c
  ·by_cases hf:st'.worn=true
   ·rcases hC.worn hf with e|e
    ·rw[hw1]at e;cases e
    ·exact .inr e
   ·exact .inl ((lz hd).2 ⟨by simpa using hf,c⟩)
  ·exact .inr c
 ·rcases hres with⟨a,b,_⟩|⟨a,b,_⟩|⟨a,b,_⟩
  ·rw[a,b];exact⟨fun h=>absurd h (by decide),fun h=>(by cases h)⟩
  ·rw[a,b];exact⟨fun h=>absurd h (by decide),fun h=>(by cases h)⟩
  ·exact⟨fun _=>b,fun _=>a⟩
 ·rcases hres with⟨a,b,_⟩|⟨a,b,_⟩|⟨a,b,c,_⟩
  ·rw[b]at hd;cases hd
  ·rw[b]at hd;cases hd
  ·exact c
 ·rcases hres with⟨a,b,_⟩|⟨a,b,_,c⟩|⟨a,b,c,_⟩
  ·omega
  ·exact c
  ·omega
 ·rcases hres with⟨a,_⟩|⟨a,_⟩|⟨a,_⟩ <;> omega
 ·rcases hres with⟨a,b,c⟩|⟨a,b,c,_⟩|⟨a,b,_,c|c⟩
  ·exact .inl ⟨a,new c⟩
  ·exact .inr (.inl ⟨by omega,old c⟩)
  ·exact .inr (.inl ⟨by omega,old c⟩)
  ·exact .inr (.inr ⟨a,new c⟩)
theorem DoneR.same{op:S39}{e off:Int}(h:HInv p st l v r)(h2:e=2->st.m.down=true)(h3:e=3->Hp.isWorn st.worn st.m=true)(h0:e=0->qom op)(he:e≠0->off=0):DoneR p st op e off st l v r:=by
 refine⟨Kp.refl st,fun _=>⟨rfl,h0⟩,⟨h2,fun a b=>(by rw[a]at b;cases b)⟩,fun a b=>(by rw[a]at b;cases b),fun e=>.inl (h3 e),he,?_⟩;by_cases c:e=0
 ·exact .inl ⟨c,h0 c,rfl⟩
 ·exact .inr (.inr (.inl ⟨c,h⟩))
theorem DoneR.com{op:S39}{e off o:Int}{st':St}{l':List S116}{v':List Int}(hu:st.m.down=false)(hw:Hp.isWorn st.worn st.m=false)(h:ComO p st e st' l v r l' v')(hn:qfo l v r st.now op o l' v' r)(h0:off=if e=0 then o else 0):DoneR p st op e off st' l v r:=by
 refine⟨h.kp,fun e=>(by rw[hw]at e;cases e),⟨h.two.1,fun _=>h.two.2⟩,fun _=>h.cutd,fun e=>.inr (h.three e),fun e=>by rw[h0,if_neg e],?_⟩;rcases h.eff with⟨a,b⟩|⟨a,b⟩|⟨a,b⟩
 ·rw[if_pos a]at h0;exact .inr (.inl ⟨a,l',v',r,by rw[h0];exact hn,b⟩)
 ·exact .inr (.inr (.inl ⟨a,b⟩))
 ·exact .inr (.inr (.inr ⟨a,o,l',v',r,hn,b⟩))
end
section
variable{p:Pn}{st:St}{l:List S116}{v:List Int}{r:Int}{op:S39}
theorem y6{b:Bool}(h:¬ b=true):b=false:=by simpa using h
theorem qdo{l:List S116}{c need r:Int}(can:zp l c need)(h:uq l r):uq (crv l c need) r:=by
 obtain⟨_,h0,h1,hf,_⟩:=can;rcases h with e|⟨b,hb,hu,ho⟩
 ·exact .inl e
 ·refine .inr ⟨b,(qi1 h0 h1).2 ?_,hu,ho⟩;rcases (qsu h0 h1).1 hb with hx|hx|hx
  ·exact .inl hx
  ·rw[hx,hf]at hu;cases hu
  ·exact .inr (.inr hx)
theorem qdy(h:HInv p st l v r)(hp:p.Ok):wrap64 (st.m.regs.getD 2 0)=r:=by
 have:=h.rr hp;rw[h.rt,w64 (by omega)]
theorem qmj(h:HInv p st l v r)(hp:p.Ok)(hb:Trn.moves st.m+40<=4611686018427387903)(hk:op.f0=1):∃ e off st',Hp.AllocR p st op.f2 e off st'∧DoneR p st op e off st' l v r:=by
 by_cases hd:st.m.down=true
 ·exact⟨2,0,st, .inl ⟨hd,rfl,rfl,rfl⟩,DoneR.same h (by simp[hd]) (fun e=>absurd e (by decide)) (fun e=>absurd e (by decide)) (fun _=>rfl)⟩
 ·have hu:=y6 hd;have hws:=h.ws hp hu;by_cases hz:df op.f2=0
  ·exact⟨1,0,st, .inr (.inl ⟨hu,by rw[uv,hz],rfl,rfl,rfl⟩),DoneR.same h (by simp[hu]) (fun e=>absurd e (by decide)) (fun e=>absurd e (by decide)) (fun _=>rfl)⟩
  ·by_cases hw:Hp.isWorn st.worn st.m=true
   ·exact⟨3,0,st, .inr (.inr (.inl ⟨_,hu,uv _,hz,hw,rfl,rfl,rfl⟩)),DoneR.same h (by simp[hu]) (fun _=>hw) (fun e=>absurd e (by decide)) (fun _=>rfl)⟩
   ·have hw:=y6 hw;obtain⟨es_,of_,er_,ha,hr⟩:=qer op.f2 st.now h.hv;rcases hr with⟨e,_⟩|⟨_,_,rfl,rfl,rfl⟩|⟨_,c,can,hbst,rfl,rfl,rfl⟩
    ·exact absurd e hz
    ·exact⟨4,0,st, .inr (.inr (.inr (.inl ⟨_,[],0,hu,uv _,hz,hw,by decide,rfl,rfl,by rw[hws];exact ha⟩))),DoneR.same h (by simp[hu]) (fun e=>absurd e (by decide)) (fun e=>absurd e (by decide)) (fun _=>rfl)⟩
    ·have hg:=fh h.hv (jl can.2.1 can.2.2.1);have hnr:=qa3 op.f2;have hin:=qmu (b:=ab l c) can.2.2.2.2 hg.2.1 (need:=df op.f2) (by omega);have htk:=qb1 can.2.2.2.2 hg.2.1;have hel:=qfx (b:=ab l c) (need:=df op.f2) htk.1;have hef:EdFit p (eds (ab l c) (df op.f2)):=vx (by unfold eds;simp) (by split at hel <;> omega) _ hg.1 (fun e he=>by have:=hin e he;omega) (qfz _ _);have hC:=qcw h hp hu hw hb hef (qjc h.hv can) (qdo can h.ri);refine⟨_,_,_, .inr (.inr (.inr (.inr ⟨_,_,_,hu,uv _,hz,hw,hef.ok,by rw[hws];exact ha,by rw[hws],by rw[hws],rfl⟩))),DoneR.com hu hw hC (.inl ⟨hk,rfl,c,can,hz,hbst,rfl,rfl,rfl⟩) rfl⟩
theorem qkb{l:List S116}{v:List Int}{words i:Int}(h:HV l v words)(hc:Pl.Can l i):HV (mrg l i) (app v [⟨(ab l (cz l i)).f0,j8 (dq (mM l i)) false⟩]) words:=by
 have hi:0<=i/\i<l.length:=⟨hc.2.1,hc.2.2.1⟩;have ft:=mw hi;have hg:=fh h (jl ft.1 (by omega));have hlen:=h.2.2.1;have:app v [⟨(ab l (cz l i)).f0,j8 (dq (mM l i)) false⟩]=v.set (ab l (cz l i)).f0.toNat (j8 (dq (mM l i)) false):=by show(if 0<=(ab l (cz l i)).f0/\(ab l (cz l i)).f0<v.length then _ else _)=_;rw[if_pos (by omega)]
 rw[this];exact qm6 h hc
theorem qhl(n:Int):0<=j8 n false/\j8 n false<=18446744073709551615:=by
 unfold j8;split
 ·simp only[Bool.false_eq_true,if_false];omega
 ·omega
theorem qo2(h:HInv p st l v r)(hp:p.Ok)(hb:Trn.moves st.m+40<=4611686018427387903)(hk:op.f0=2):∃ e st',Hp.FreeR p st op.f1 e st'∧DoneR p st op e 0 st' l v r:=by
 by_cases hd:st.m.down=true
 ·exact⟨2,st, .inl ⟨hd,rfl,rfl⟩,DoneR.same h (by simp[hd]) (fun e=>absurd e (by decide)) (fun e=>absurd e (by decide)) (fun _=>rfl)⟩
 ·have hu:=y6 hd;have hws:=h.ws hp hu;have hl:=j6 h.hv.1;rcases qjn (off:=op.f1) h.hv with⟨c,c0,c1,hcu,ho⟩|⟨hno,hno2⟩
  ·have ha:=qes h.hv (by omega) c0 c1 hcu ho;by_cases hr:r=op.f1
   ·exact⟨5,st, .inr (.inr (.inl ⟨_,hu,rfl,rfl,by rw[qdy h hp];exact hr,by rw[hws];exact ha⟩)),DoneR.same h (by simp[hu]) (fun e=>absurd e (by decide)) (fun e=>absurd e (by decide)) (fun _=>rfl)⟩
   ·by_cases hw:Hp.isWorn st.worn st.m=true
    ·exact⟨3,st, .inr (.inr (.inr (.inl ⟨_,hu,rfl,rfl,by rw[qdy h hp];exact hr,hw,by rw[hws];exact ha⟩))),DoneR.same h (by simp[hu]) (fun _=>hw) (fun e=>absurd e (by decide)) (fun _=>rfl)⟩
    ·have hw:=y6 hw;have can:=qcr h.hv.1 ⟨c0,c1⟩ hcu;have ft:=mw (l:=l) (i:=c) ⟨c0,c1⟩;have hg:=fh h.hv (jl ft.1 (by omega));have hcg:=fh h.hv (jl c0 c1);have hef:EdFit p [⟨(ab l (cz l c)).f0,j8 (dq (mM l c)) false⟩]:=vx (by simp) (by simp) (ab l (cz l c)).f0 hg.1 (fun e he=>by rw[List.mem_singleton.1 he];dsimp only;omega) (fun e he=>by rw[List.mem_singleton.1 he];exact qhl _);have hri:uq (mrg l c) r:=by
      rcases h.ri with e|⟨b,hbl,hbu,hbo⟩
      ·exact .inl e
      ·exact .inr ⟨b,(qhw h.hv.1 c0 c1 hcu hbu).2 ⟨hbl,fun e=>hr (by rw[hbo,ho,e])⟩,hbu,hbo⟩
     have hC:=qcw h hp hu hw hb hef (qkb h.hv can) hri;refine⟨_,_, .inr (.inr (.inr (.inr ⟨_,hu,by rw[qdy h hp];exact hr,hw,hef.ok,by rw[hws];exact ha,by rw[hws],by rw[hws]⟩))),DoneR.com hu hw hC (o:=0) (.inr (.inl ⟨hk,rfl,rfl,c,c0,c1,hcu,ho,hr,rfl,?_⟩)) (by split <;> rfl)⟩;have hlen:=h.hv.2.2.1;show(if 0<=(ab l (cz l c)).f0/\(ab l (cz l c)).f0<v.length then _ else _)=_;rw[if_pos (by omega)]
  ·exact⟨1,st, .inr (.inl ⟨_,hu,by decide,rfl,by rw[hws];exact qm8 h.hv (by omega) hno2⟩),DoneR.same h (by simp[hu]) (fun e=>absurd e (by decide)) (fun e=>absurd e (by decide)) (fun _=>rfl)⟩
theorem qpu(h:HInv p st l v r)(hp:p.Ok)(hk:op.f0=3):∃ e bs,Hp.ReadR p st op.f1 op.f2 e bs/\DoneR p st op e 0 st l v r:=by
 by_cases hd:st.m.down=true
 ·exact⟨2,[], .inl ⟨hd,rfl,rfl⟩,DoneR.same h (by simp[hd]) (fun e=>absurd e (by decide)) (fun e=>absurd e (by decide)) (fun _=>rfl)⟩
 ·have hu:=y6 hd;have hws:=h.ws hp hu;rcases qh5 (o:=op.f1) (n:=op.f2) h.hv with⟨_,ha⟩|⟨_,ha⟩
  ·exact⟨0,_, .inr (.inr ⟨hu,rfl,by rw[hws];exact ha⟩),DoneR.same h (by simp[hu]) (fun e=>absurd e (by decide)) (fun _=>.inl hk) (fun _=>rfl)⟩
  ·exact⟨1,[], .inr (.inl ⟨_,hu,by decide,rfl,by rw[hws];exact ha⟩),DoneR.same h (by simp[hu]) (fun e=>absurd e (by decide)) (fun e=>absurd e (by decide)) (fun _=>rfl)⟩
theorem qe4(h:HV l v (p.lines*8)){B:List Int}(hB:Bys B){o:Int}(hi:ma l o B.length):HV l (j9 v B o B.length) (p.lines*8):=by
 obtain⟨n0,n1,b,hb,hu,h3,h4⟩:=hi;have hg:=fh h hb;have hlen:=h.2.2.1;refine⟨h.1,zj h.2.1 hB _,by rw[uz];exact hlen,fun x hx=>?_⟩;have hxg:=fh h hx;rw[<-h.2.2.2 x hx];refine qe5 h.2.1 hB (by omega) _ (by omega) _ (by omega) ?_;rcases qgp h.1 hx hb with e|e|e
 ·left;rw[e];omega
 ·left;omega
 ·right;omega
theorem qoj(h:HInv p st l v r)(hp:p.Ok)(hb:Trn.moves st.m+40<=4611686018427387903)(hk:op.f0=4)(hB:Bys op.f4):∃ e st',Hp.WriteR p st op.f1 op.f4 e st'∧DoneR p st op e 0 st' l v r:=by
 by_cases hd:st.m.down=true
 ·exact⟨2,st, .inl ⟨hd,rfl,rfl⟩,DoneR.same h (by simp[hd]) (fun e=>absurd e (by decide)) (fun e=>absurd e (by decide)) (fun _=>rfl)⟩
 ·have hu:=y6 hd;have hws:=h.ws hp hu;rcases qmf (o:=op.f1) h.hv hB with⟨_,ha⟩|⟨hin,es,ha,hap,hlen,hnil,hed⟩
  ·exact⟨1,st, .inr (.inl ⟨_,hu,by decide,rfl,by rw[hws];exact ha⟩),DoneR.same h (by simp[hu]) (fun e=>absurd e (by decide)) (fun e=>absurd e (by decide)) (fun _=>rfl)⟩
  ·by_cases hn:op.f4=[]
   ·have he:es=[]:=hnil.2 hn;subst he;exact⟨0,st, .inr (.inr (.inl ⟨hu,rfl,rfl,by rw[hws];exact ha⟩)),DoneR.same h (by simp[hu]) (fun e=>absurd e (by decide)) (fun _=>.inr (.inr ⟨hk,hn⟩)) (fun _=>rfl)⟩
   ·have hne:es≠[]:=fun e=>hn (hnil.1 e);by_cases hw:Hp.isWorn st.worn st.m=true
    ·exact⟨3,st, .inr (.inr (.inr (.inl ⟨es,hu,rfl,rfl,hne,hw,by omega,by rw[hws];exact ha⟩))),DoneR.same h (by simp[hu]) (fun _=>hw) (fun e=>absurd e (by decide)) (fun _=>rfl)⟩
    ·have hw:=y6 hw;obtain⟨e0,he0⟩:=List.exists_mem_of_ne_nil es hne;have h00:=hed e0 he0;have hef:EdFit p es:=vx hne (by omega) (op.f1 / 8) h00.1 (fun e he=>by have:=hed e he;omega) (fun e he=>by have:=hed e he;omega);have hC:=qcw h hp hu hw hb hef (l':=l) (by rw[hap];exact qe4 h.hv hB hin) h.ri;exact⟨_,_, .inr (.inr (.inr (.inr ⟨es,hu,hw,hef.ok,by rw[hws];exact ha,by rw[hws],by rw[hws]⟩))),DoneR.com hu hw hC (o:=0) (.inr (.inr (.inl ⟨hk,rfl,rfl,hn,hin,rfl,hap⟩))) (by split <;> rfl)⟩
theorem qpw(h:HInv p st l v r)(hp:p.Ok)(hk:op.f0=5):∃ e st',Hp.RootR p st op.f1 e st'∧DoneR p st op e 0 st' l v r:=by
 by_cases hd:st.m.down=true
 ·exact⟨2,st, .inl ⟨hd,rfl,rfl⟩,DoneR.same h (by simp[hd]) (fun e=>absurd e (by decide)) (fun e=>absurd e (by decide)) (fun _=>rfl)⟩
 ·have hu:=y6 hd;have hws:=h.ws hp hu;have hi:uq l op.f1/\(op.f1=0\/Ev (fun k=>jn.f k (Hp.ws p st) op.f1) true)\/(op.f1≠0/\Ev (fun k=>jn.f k (Hp.ws p st) op.f1) false):=by
   rw[hws];by_cases c:op.f1=0
   ·exact .inl ⟨.inl c, .inl c⟩
   ·rcases qqd (off:=op.f1) h.hv with⟨a,b⟩|⟨a,b⟩
    ·exact .inl ⟨.inr a, .inr b⟩
    ·exact .inr ⟨c,b⟩
  rcases hi with⟨hri,hi⟩|⟨h0,hi⟩
  ·by_cases hw:Hp.isWorn st.worn st.m=true
   ·exact⟨3,st, .inr (.inr (.inl ⟨hu,rfl,rfl,hi,hw⟩)),DoneR.same h (by simp[hu]) (fun _=>hw) (fun e=>absurd e (by decide)) (fun _=>rfl)⟩
   ·have hw:=y6 hw;refine⟨_,_, .inr (.inr (.inr ⟨hu,hi,hw,rfl,rfl⟩)),?_⟩;have hor:0<=op.f1/\op.f1<=4104:=by
     have:=hp.l2;rcases hri with e|⟨b,hb,_,e⟩
     ·omega
     ·have:=fh h.hv hb;omega
    have hwu:IntKind.u64.wrap op.f1=op.f1:=by rw[Pl.u64w];omega
    rw[hwu];have hS:=zm (m:=st.m) (i:=2) (v:=op.f1) hu (by omega) (by omega);generalize Nvm.set st.m 2 op.f1=c at hS;obtain⟨e,m1⟩:=c;dsimp only at hS ⊢;rw[show(2:Int).toNat=2 from rfl]at hS;obtain⟨a,vw1,mv,cn,ot⟩:=h.inv.setReg hS (.inl rfl) hor.1 (by omega);obtain⟨hw1,hw2⟩:=(lz hu).1 hw;have hwv:wv p m1 p.lines.toNat=v:=by rw[<-h.wd];exact qar h.inv a (by have:=hp.l1;omega) (fun line _ _=>vw1 line)
    have new:m1.regs=st.m.regs.set 2 op.f1->HInv p {st with m:=m1} l v op.f1:=fun hr=>⟨a,hwv,h.hv,by
     show m1.regs.getD 2 0=_;rw[hr,ax,List.getElem?_set_self (by have:=h.inv.ok.l.rlen;omega)];rfl,hri,h.now⟩
    have old:m1.regs=st.m.regs->HInv p {st with m:=m1} l v r:=fun hr=>⟨a,hwv,h.hv,by
     show m1.regs.getD 2 0=_;rw[hr];exact h.rt,h.ri,h.now⟩
    have hn:qfo l v r st.now op 0 l v op.f1:=.inr (.inr (.inr ⟨hk,rfl,rfl,hri,rfl,rfl⟩));refine⟨⟨mo hS.cells,hS.cut,by show Trn.moves st.m<=Trn.moves m1/\Trn.moves m1<=_;rw[mv];omega,fun _ hd1=>.inl ((lz hd1).2 ⟨hw1,by show Lg.count m1=0;rw[cn];exact hw2⟩)⟩,fun e=>(by rw[hw]at e;cases e),?_,fun _ hd1=>?_,fun e3=>?_,fun _=>rfl,?_⟩
    ·rcases hS.res with⟨a,b,_⟩|⟨a,b,_⟩
     ·exact⟨fun e=>by omega,fun _ h=>absurd h (by show ¬ m1.down=true;rw[b];decide)⟩
     ·exact⟨fun _=>b,fun _ _=>a⟩
    ·rcases hS.res with⟨a,b,_⟩|⟨a,b,_,c⟩
     ·exact absurd hd1 (by show ¬ m1.down=true;rw[b];decide)
     ·exact c
    ·rcases hS.res with⟨a,_⟩|⟨a,_⟩
     ·omega
     ·omega
    ·rcases hS.res with⟨a,_,b⟩|⟨a,_,b|b,_⟩
     ·exact .inr (.inl ⟨a,l,v,op.f1,hn,new b⟩)
     ·exact .inr (.inr (.inl ⟨by omega,old b⟩))
     ·exact .inr (.inr (.inr ⟨a,0,l,v,op.f1,hn,new b⟩))
  ·exact⟨1,st, .inr (.inl ⟨hu,rfl,rfl,h0,hi⟩),DoneR.same h (by simp[hu]) (fun e=>absurd e (by decide)) (fun e=>absurd e (by decide)) (fun _=>rfl)⟩
theorem qr4(h:HInv p st l v r)(hp:p.Ok)(hb:Trn.moves st.m+40<=4611686018427387903)(hB:Bys op.f4):∃ e off bs st',Hp.DoR p st op e off bs st'∧DoneR p st op e off st' l v r:=by
 by_cases k1:op.f0=1
 ·obtain⟨e,off,st',a,b⟩:=qmj h hp hb k1;exact⟨e,off,[],st', .inl ⟨k1,rfl,a⟩,b⟩
 by_cases k2:op.f0=2
 ·obtain⟨e,st',a,b⟩:=qo2 h hp hb k2;exact⟨e,0,[],st', .inr (.inl ⟨k2,rfl,rfl,a⟩),b⟩
 by_cases k3:op.f0=3
 ·obtain⟨e,bs,a,b⟩:=qpu h hp k3;exact⟨e,0,bs,st, .inr (.inr (.inl ⟨k3,rfl,rfl,a⟩)),b⟩
 by_cases k4:op.f0=4
 ·obtain⟨e,st',a,b⟩:=qoj h hp hb k4 hB;exact⟨e,0,[],st', .inr (.inr (.inr (.inl ⟨k4,rfl,rfl,a⟩))),b⟩
 by_cases k5:op.f0=5
 ·obtain⟨e,st',a,b⟩:=qpw h hp k5;exact⟨e,0,[],st', .inr (.inr (.inr (.inr (.inl ⟨k5,rfl,rfl,a⟩)))),b⟩
 by_cases k6:op.f0=6
 ·by_cases hd:st.m.down=true
  ·exact⟨2,0,[],st, .inr (.inr (.inr (.inr (.inr (.inl ⟨k6,rfl,rfl, .inl ⟨hd,rfl,rfl⟩⟩))))),DoneR.same h (by simp[hd]) (fun e=>absurd e (by decide)) (fun e=>absurd e (by decide)) (fun _=>rfl)⟩
  ·have hu:=y6 hd;exact⟨0,_,[],st, .inr (.inr (.inr (.inr (.inr (.inl ⟨k6,rfl,rfl, .inr ⟨hu,rfl,rfl⟩⟩))))),DoneR.same h (by simp[hu]) (fun e=>absurd e (by decide)) (fun _=>.inr (.inl k6)) (fun e=>absurd rfl e)⟩
 ·exact⟨1,0,[],st, .inr (.inr (.inr (.inr (.inr (.inr ⟨by omega,rfl,rfl,rfl,rfl⟩))))),DoneR.same h (fun e=>absurd e (by decide)) (fun e=>absurd e (by decide)) (fun e=>absurd e (by decide)) (fun _=>rfl)⟩
end
theorem Md.words{w:World}{M g c:Nat}{v:List Int}{r:Int}(h:Md w M g c v r){g2 cap:Nat}{v':List Int}(hr:Kd.C (Kd.int .u64) w (some ⟨g2,0,none⟩) v'.length v')(hc:v'.length<=cap)(hne:g2≠M):
  Md (w.setCell ⟨M,0,none⟩ (.slice (some ⟨g2,0,none⟩) v'.length cap)) M g2 cap v' r:=
 ⟨by rw[heap_setCell_same _ _ _ _ _ _ h.box];rfl,qok hr (heap_setCell_other _ _ _ _ hne),hc,hne⟩
def MdO(W0 w:World)(M:Nat)(v:List Int)(r:Int):Prop:=∃ g c,Md w M g c v r/\W0.heap.size<=M/\W0.heap.size<=g/\g<w.heap.size/\Below W0.heap.size W0 w
theorem MdO.on{W0 w w':World}{M:Nat}{v:List Int}{r:Int}(h:MdO W0 w M v r)(hb:Below w.heap.size w w'):MdO W0 w' M v r:=by
 obtain⟨g,c,a,b,d,e,f⟩:=h;exact⟨g,c,a.below hb,b,d,Nat.lt_of_lt_of_le e hb.size,aa f hb⟩
theorem MdO.put{W0 w w1:World}{M:Nat}{v v':List Int}{r:Int}(h:MdO W0 w M v r)(hb:Below w.heap.size w w1){g2 cap:Nat}(hR:Kd.R (Kd.int .u64) 25 w1 w.heap.size (fun _=>True) (.slice (some ⟨g2,0,none⟩) v'.length cap) v')(h1:w.heap.size<=g2)(h2:g2<w1.heap.size):MdO W0 (w1.setCell ⟨M,0,none⟩ (.slice (some ⟨g2,0,none⟩) v'.length cap)) M v' r:=by
 obtain⟨g,c,a,b,d,e,f⟩:=h;have hM:=d7 a.box;obtain⟨_,q1,q2⟩:=Kd.R_reads' hR;exact⟨g2,cap,(a.below hb).words q2 q1 (by omega),b,Nat.le_trans f.size h1,by simpa[World.setCell]using h2,bj (aa f hb) b⟩
theorem wh{l:List S116}{v:List Int}{words:Int}(hV:HV l v words):0<v.length/\v.length<=512/\words<=512/\l.length<=256:=by
 have:=hV.1.1;have:=hV.2.2.1;have:=j6 hV.1;unfold sx at *;omega
section
variable{W0 w:World}{M:Nat}{v:List Int}{r:Int}{l:List S116}{words:Int}
theorem qgw(h:MdO W0 w M v r)(hV:HV l v words)(off:Int):Calls Tryz.prog 68 #[.pointer (some ⟨M,0,none⟩), .int .i64 off] w fun e w'=>∃ n l' v',e=.returned (.int .i64 n)/\MdO W0 w' M v' r/\HV l' v' words∧∀ i:Int,0<=i->i<l.length->(ab l i).f2=true->off=((ab l i).f0+1)*8->r≠off->l'=mrg l i/\v'=v.set (ab l (cz l i)).f0.toNat (j8 (dq (mM l i)) false):=by
 have HMo:=am h;have HVV:=am hV;obtain⟨g,c,hm,hM0,hg0,hg1,hw0⟩:=h;have hp:=wh hV;have k0:w.cell? ⟨M,0,none⟩=some (.slice (some ⟨g,0,none⟩) v.length c):=(aj hm.box 0).trans rfl;have HM:=am hm;rcases qjn (off:=off) hV with⟨i,i0,i1,hu,ho⟩|⟨hno,hno2⟩
 ·have HF:=am (qij hV i0 i1 hu ho hm.row hm.cap);have HI:Aside0 (∀ j:Int,0<=j->j<l.length->(ab l j).f2=true->off=((ab l j).f0+1)*8->j=i):=⟨fun j j0 j1 ju jo=>by rw[<-ud hV.1 j0 j1 ju jo,←ud hV.1 i0 i1 hu ho]⟩;by_cases hr:r=off
  ·have d1:(r==off)=true:=beq_iff_eq.mpr hr;have d2:decide (r=off)=true:=af hr;have HRo:=am hr;clear hm hV hu ho hr hw0;go_enter Tryz.func68,Tryz.ntmps68;go_wp2_with (first
    |(go_at_call 114;refine HF.out.mono ?_;rintro e w1 ⟨u,rfl,ho,hb⟩;have HB1:=am hb;have k1:w1.cell? ⟨M,1,none⟩=some (.int .i64 r):=(aj (HM.out.below hb).box 1).trans rfl;clear ho hb))
   go_ret;exact⟨5,l,v,rfl,HMo.out.on HB1.out,HVV.out,fun j _ _ _ _ h=>absurd HRo.out h⟩
  ·have d1:(r==off)=false:=beq_eq_false_iff_ne.mpr hr;have d2:decide (r=off)=false:=ah hr;have can:=qcr hV.1 ⟨i0,i1⟩ hu;have hft:=mw (l:=l) (i:=i) ⟨i0,i1⟩;have hgd:=fh hV (jl hft.1 (by omega));have hlen:=hV.2.2.1;have HN:Aside0 (app v [⟨(ab l (cz l i)).f0,iz (dq (mM l i)) false⟩]=v.set (ab l (cz l i)).f0.toNat (j8 (dq (mM l i)) false)):=⟨by
    show(if 0<=(ab l (cz l i)).f0/\(ab l (cz l i)).f0<v.length then _ else _)=_;rw[if_pos (by omega)];rfl⟩
   have HH:=am (qm6 hV can);have HAp:Aside0 (∀ w' A' c' u,Kd.C (Kd.int .u64) w' A' v.length v→∀ base,Kd.R jp 160 w' base (fun _=>True) u [⟨(ab l (cz l i)).f0,iz (dq (mM l i)) false⟩]->Calls Tryz.prog 113 #[.slice A' v.length c',u] w' fun e w''=>∃ g2 cap,e=.returned (.slice (some ⟨g2,0,none⟩) (v.set (ab l (cz l i)).f0.toNat (j8 (dq (mM l i)) false)).length cap)/\Kd.R (Kd.int .u64) 25 w'' w'.heap.size (fun _=>True) (.slice (some ⟨g2,0,none⟩) (v.set (ab l (cz l i)).f0.toNat (j8 (dq (mM l i)) false)).length cap) (v.set (ab l (cz l i)).f0.toNat (j8 (dq (mM l i)) false))/\w'.heap.size<=g2/\g2<w''.heap.size/\Below w'.heap.size w' w''):=⟨fun w' A' c' u h1 base h2=>by
    obtain⟨Au,cu,rfl⟩:=Kd.R_slice h2;refine(um w' A' c' v h1 hp.1 (by omega) _ _ Au cu _ h2 (by simp)).mono ?_;rintro e w'' ⟨y,rfl,ho,hb⟩;rw[xk,HN.out]at ho;obtain⟨g2,cap,rfl,h3,h4,_⟩:=Kd.R_form ho (by rw[List.length_set];exact hp.1);exact⟨g2,cap,rfl,ho,h3,h4,hb⟩⟩
   have HV2:Aside0 (∃ z,z=v.set (ab l (cz l i)).f0.toNat (j8 (dq (mM l i)) false)):=⟨_,rfl⟩;obtain⟨v',hv'⟩:=HV2.out;rw[<-hv']at HAp HH;have HV2:=am hv';clear hm hV hu ho hr hw0 hft hgd hlen can hv';generalize [(⟨(ab l (cz l i)).f0,iz (dq (mM l i)) false⟩:S160)]=ys at HF HAp;go_enter Tryz.func68,Tryz.ntmps68;go_wp2_with (first
    |(go_at_call 114;refine HF.out.mono ?_;rintro e w1 ⟨u,rfl,ho,hb⟩;have HO1:=am ho;have HB1:=am hb;have HM1:=am (HM.out.below hb);have k1:w1.cell? ⟨M,1,none⟩=some (.int .i64 r):=(aj HM1.out.box 1).trans rfl;have k2:w1.cell? ⟨M,0,none⟩=some (.slice (some ⟨g,0,none⟩) v.length c):=(aj HM1.out.box 0).trans rfl;clear ho hb)
    |(go_at_call 113;refine(HAp.out _ _ _ _ HM1.out.row _ HO1.out).mono ?_;rintro e w2 ⟨g2,cap,rfl,ho,h3,h4,hb⟩;have HO2:=am ho;have HB2:=am hb;have HG2:=am (And.intro h3 h4);have HM2:=am (HM1.out.below hb);have k3:w2.cell? ⟨M,0,none⟩=some (.slice (some ⟨g,0,none⟩) v.length c):=(aj HM2.out.box 0).trans rfl;have f3:w2.frozen? ⟨M,0,none⟩=false:=ak HM2.out.box 0;clear ho hb h3 h4))
   go_ret;exact⟨0,mrg l i,v',rfl,(HMo.out.on HB1.out).put HB2.out HO2.out HG2.out.1 HG2.out.2,HH.out,fun j j0 j1 ju jo _=>by rw[HI.out j j0 j1 ju jo];exact⟨rfl,HV2.out⟩⟩
 ·have HF:=am (qkw hV hno2 hm.row hm.cap);have HNo:Aside0 (∀ j:Int,0<=j->j<l.length->(ab l j).f2=true->off≠((ab l j).f0+1)*8):=⟨fun j j0 j1 ju jo=>hno ⟨_,jl j0 j1,ju,jo⟩⟩;clear hm hV hno hno2 hw0;go_enter Tryz.func68,Tryz.ntmps68;go_wp2_with (first
   |(go_at_call 114;refine HF.out.mono ?_;rintro e w1 ⟨u,rfl,hb⟩;have HB1:=am hb;clear hb))
  go_ret;exact⟨1,l,v,rfl,HMo.out.on HB1.out,HVV.out,fun j j0 j1 ju jo _=>absurd jo (HNo.out j j0 j1 ju)⟩
theorem qfn{p:Pn}{B:List Int}{A2:Option Addr}{c2:Nat}(h:MdO W0 w M v r)(hV:HV l v (p.lines*8))(hB:Bys B)(off:Int)(hr2:Kd.C (Kd.int .u8) w A2 B.length B)(hc2:B.length<=c2):Calls Tryz.prog 69 #[.pointer (some ⟨M,0,none⟩), .int .i64 off, .slice A2 B.length c2] w fun e w'=>∃ n v',e=.returned (.int .i64 n)/\MdO W0 w' M v' r/\HV l v' (p.lines*8)/\(ma l off B.length->v'=j9 v B off B.length)/\(¬ ma l off B.length->v'=v):=by
 have HMo:=am h;have HVV:=am hV;obtain⟨g,c,hm,hM0,hg0,hg1,hw0⟩:=h;have hp:=wh hV;have hgd:∀ b∈l,0<=b.f0/\2<=b.f1/\b.f0+b.f1<=512:=fun b hb=>by have:=fh hV hb;omega
 have hgv:∀ b∈l,b.f0+b.f1<=v.length:=fun b hb=>by have:=fh hV hb;have:=hV.2.2.1;omega
 have k0:w.cell? ⟨M,0,none⟩=some (.slice (some ⟨g,0,none⟩) v.length c):=(aj hm.box 0).trans rfl;have HM:=am hm;by_cases hin:ma l off B.length
 ·have HF:=am (qg0 hV hB hgd hgv (by omega) hin hm.row hm.cap hr2 hc2);have HPu:=am (qe4 hV hB hin);have HAp:Aside0 (∀ w' A' c' u,Kd.C (Kd.int .u64) w' A' v.length v→∀ base ys,Kd.R jp 160 w' base (fun _=>True) u ys->yf v B off ys B.length->Calls Tryz.prog 113 #[.slice A' v.length c',u] w' fun e w''=>∃ g2 cap,e=.returned (.slice (some ⟨g2,0,none⟩) (j9 v B off B.length).length cap)/\Kd.R (Kd.int .u64) 25 w'' w'.heap.size (fun _=>True) (.slice (some ⟨g2,0,none⟩) (j9 v B off B.length).length cap) (j9 v B off B.length)/\w'.heap.size<=g2/\g2<w''.heap.size/\Below w'.heap.size w' w''):=⟨fun w' A' c' u h1 base ys h2 h3=>by
   obtain⟨Au,cu,rfl⟩:=Kd.R_slice h2;have hyl:=h3.1.2.1;have hB4:=hin.2.1;refine(um w' A' c' v h1 hp.1 (by omega) _ _ Au cu _ h2 (by omega)).mono ?_;rintro e w'' ⟨y,rfl,ho,hb⟩;rw[xk,h3.1.1]at ho;obtain⟨g2,cap,rfl,h4,h5,_⟩:=Kd.R_form ho (by rw[uz];exact hp.1);exact⟨g2,cap,rfl,ho,h4,h5,hb⟩⟩
  generalize j9 v B off B.length=v' at *;have HIn:=am hin;clear hm hV hw0 hgd hgv hin;go_enter Tryz.func69,Tryz.ntmps69;go_wp2_with (first
   |(go_at_call 115;refine HF.out.mono ?_;rintro e w1 ⟨u,ys,rfl,ho,he,hb⟩;have HO1:=am ho;have HE1:=am he;have HB1:=am hb;have HM1:=am (HM.out.below hb);have k2:w1.cell? ⟨M,0,none⟩=some (.slice (some ⟨g,0,none⟩) v.length c):=(aj HM1.out.box 0).trans rfl;clear ho he hb)
   |(go_at_call 113;refine(HAp.out _ _ _ _ HM1.out.row _ _ HO1.out HE1.out).mono ?_;rintro e w2 ⟨g2,cap,rfl,ho,h3,h4,hb⟩;have HO2:=am ho;have HB2:=am hb;have HG2:=am (And.intro h3 h4);have HM2:=am (HM1.out.below hb);have k3:w2.cell? ⟨M,0,none⟩=some (.slice (some ⟨g,0,none⟩) v.length c):=(aj HM2.out.box 0).trans rfl;have f3:w2.frozen? ⟨M,0,none⟩=false:=ak HM2.out.box 0;clear ho hb h3 h4))
  go_ret;exact⟨0,v',rfl,(HMo.out.on HB1.out).put HB2.out HO2.out HG2.out.1 HG2.out.2,HPu.out,fun _=>rfl,fun h=>absurd HIn.out h⟩
 ·have HF:=am (qik (A2:=A2) (c2:=c2) hV hgd hin hm.row hm.cap);have HNo:=am hin;clear hm hV hw0 hgd hgv hin;go_enter Tryz.func69,Tryz.ntmps69;go_wp2_with (first
   |(go_at_call 115;refine HF.out.mono ?_;rintro e w1 ⟨u,rfl,hb⟩;have HB1:=am hb;clear hb))
  go_ret;exact⟨1,v,rfl,HMo.out.on HB1.out,HVV.out,fun h=>absurd h HNo.out,fun _=>rfl⟩
end
theorem qpy:(Tryz.prog.info? 51).map (·.size)=some 1:=by kernel_rfl
theorem lw{ops:Array Oper}{Q:Exit->Act->World->Prop}{md:Region.Mode}{ds:List Nat}{S:World->Prop}{oi:Oper}{fuel:Nat}{l:Array Bool}{a:Act}{w w1:World}(i:Nat)(hi:ops[i]? =some oi)(hrun:(execOp a.eval oi).run Tryz.prog w=.ok .skip w1)(h:bf Tryz.prog md ops Q S ds fuel (stp l i) a w1)
  (hN:oi.dst=none:=by rfl) (hc:n9 md ops l (stp l i) i=true:=by kernel_rfl) (hd:i∈ds:=by decide) (hw:Region.wanted oi (yielded ops a.tmps)=true:=by rfl):bf Tryz.prog md ops Q S ds (fuel+1) l a w:=
 ko (stp l i) hi hN hc hd (fun K hK=>su hw hN hrun (hK.out _ _ h))
theorem qh7{w:World}{A:Option Addr}{n c:Nat}{need:Int}(hn:need<2):Calls Tryz.prog 112 #[.slice A n c, .int .i64 need] w fun e w'=>e=.returned (.slice none 0 0)/\Below w.heap.size w w':=by
 have n2:decide (need<2)=true:=af hn;clear hn;go_enter Tryz.func112,Tryz.ntmps112;go_wp2;go_ret;exact⟨rfl,ai _ _⟩
section
variable{W0 w:World}{M:Nat}{v:List Int}{r:Int}{l:List S116}{words:Int}
theorem qsb(hV:HV l v words)(n:Int)(w':World)(A':Option Addr)(c':Nat)(h1:Kd.C e6 w' A' l.length l)(h2:l.length<=c'):Calls Tryz.prog 112 #[.slice A' l.length c', .int .i64 (df n)] w' fun e w''=>∃ A2 c2 out,e=.returned (.slice A2 (out:List Int).length c2)/\Kd.C (Kd.int .i64) w'' A2 out.length out/\out.length<=1000/\(∀ x∈out,0<=x/\x<l.length/\zp l x (df n))/\(∀ counts ch,df n≠0->ul l counts (df n) ch->ch∈out)/\Below w'.heap.size w' w'':=by
 by_cases hz:df n=0
 ·refine(qh7 (by omega)).mono ?_;rintro e w'' ⟨rfl,hb⟩;exact⟨none,0,[],rfl,⟨rfl,by decide,fun h=>absurd h (Nat.lt_irrefl 0)⟩,by simp,fun x hx=>(by cases hx),fun _ _ h=>absurd hz h,hb⟩
 ·have hn:2<=df n:=by have:=qa3 n;omega
  have hp:=wh hV;refine(qbc (qj0 hV.1 (by have:=j6 hV.1;omega)) hn h1 h2).mono ?_;rintro e w'' ⟨u,out,rfl,ho,hf,hl,hb⟩;obtain⟨A2,c2,rfl⟩:=Kd.R_slice ho;refine⟨A2,c2,out,rfl,(Kd.R_reads' ho).2.2,by omega,fun x hx=>?_,fun counts ch _ hb2=>?_,hb⟩
  ·obtain⟨a,b,c,_⟩:=hf.ok x hx;exact⟨a,b,(qb7 hV.1 a b hn).2 c⟩
  ·refine hf.all ch hb2.1 hb2.2.1 hb2.2.2.1 (fun j j0 j1 jo=>?_);rcases hb2.2.2.2 j j0 j1 jo with h|⟨h,_⟩ <;> omega
theorem qfl(h:MdO W0 w M v r)(hV:HV l v words)(n off:Int):Calls Tryz.prog 67 #[.pointer (some ⟨M,0,none⟩), .int .i64 n, .int .i64 off] w fun e w'=>∃ b l' v',e=.returned (.bool b)/\MdO W0 w' M v' r/\HV l' v' words∧∀ counts ch,df n≠0->ul l counts (df n) ch->off=((ab l ch).f0+1)*8->l'=crv l ch (df n)/\v'=app v (eds (ab l ch) (df n)):=by
 have HMo:=am h;have HVV:=am hV;obtain⟨g,c,hm,hM0,hg0,hg1,hw0⟩:=h;have hp:=wh hV;have HM:=am hm;have HBl:=am (tg hm hV);have HFt:=am (qsb hV n);have HNd:=am (qdn n);have HGd:Aside0 (∀ x:Int,0<=x->x<l.length->0<=(ab l x).f0/\(ab l x).f0<=510):=⟨fun x x0 x1=>by have:=fh hV (jl x0 x1);omega⟩;have HOne:Aside0 (∀ x y:Int,0<=x->x<l.length->0<=y->y<l.length->(ab l x).f0=(ab l y).f0->x=y):=⟨fun x y x0 x1 y0 y1 e=>by
  rcases Int.lt_trichotomy x y with h|h|h
  ·have:=tz hV.1.2 x0 h y1;have:=ni hV.1.2 x0 x1;omega
  ·exact h
  ·have:=tz hV.1.2 y0 h x1;have:=ni hV.1.2 y0 y1;omega⟩
 have HAp:Aside0 (∀ x:Int,zp l x (df n)->HV (crv l x (df n)) (app v (eds (ab l x) (df n))) words∧∀ w' A' c' u,Kd.C (Kd.int .u64) w' A' v.length v→∀ base,Kd.R jp 160 w' base (fun _=>True) u (eds (ab l x) (df n))->Calls Tryz.prog 113 #[.slice A' v.length c',u] w' fun e w''=>∃ g2 cap,e=.returned (.slice (some ⟨g2,0,none⟩) (app v (eds (ab l x) (df n))).length cap)/\Kd.R (Kd.int .u64) 25 w'' w'.heap.size (fun _=>True) (.slice (some ⟨g2,0,none⟩) (app v (eds (ab l x) (df n))).length cap) (app v (eds (ab l x) (df n)))/\w'.heap.size<=g2/\g2<w''.heap.size/\Below w'.heap.size w' w''):=⟨fun x can=>⟨qjc hV can,fun w' A' c' u h1 base h2=>by
  obtain⟨Au,cu,rfl⟩:=Kd.R_slice h2;have hx:=si can.1 can.2.1 can.2.2.1;have htk:=qb1 can.2.2.2.2 hx.2.1;have hel:=qfx (b:=ab l x) (need:=df n) htk.1;refine(um w' A' c' v h1 hp.1 (by omega) _ _ Au cu _ h2 (by split at hel <;> omega)).mono ?_;rintro e w'' ⟨y,rfl,ho,hb⟩;rw[xk]at ho;obtain⟨g2,cap,rfl,h4,h5,_⟩:=Kd.R_form ho (by rw[xj];exact hp.1);exact⟨g2,cap,rfl,ho,h4,h5,hb⟩⟩⟩
 generalize hnd:df n=nd at *;have hpl:=hp.2.2.2;have HPl:=am hpl;clear hm hV hw0 hp hpl hnd;go_enter Tryz.func67,Tryz.ntmps67;go_wp2_with (first
  |(go_at_call 78;refine HBl.out.mono ?_;rintro e w1 ⟨Al,cl,rfl,ho,hb⟩;have HL:=am (Kd.R_reads' ho);have HB1:=am hb;clear ho hb HBl)
  |(go_at_call 71;(with_reducible refine(fe.calls n _ _ HNd.out).mono ?_);rintro e w2 ⟨rfl,hd⟩;have HB2:=am (aa HB1.out hd.below);have HL2:=am (Kd.C_below HL.out.2.2 hd.below);clear hd HB1)
  |(go_at_call 112;refine(HFt.out _ Al cl HL2.out HL.out.2.1).mono ?_;rintro e w3 ⟨A2,c2,out,rfl,ho,hol,ha,hall,hb⟩;have HB3:=am (aa HB2.out hb);have HO3:=am ho;have HL3:=am (Kd.C_below HL2.out hb);have HOl:=am hol;have HA:=am ha;have HAll:=am hall;clear ho hol ha hall hb HB2 HL2))
 go_loopw [17] (fun i wr=>∃ k:Nat,i=.int .i64 k/\k<=out.length/\Aside0 (∀ j:Nat,j<k->off≠((ab l (rd out (j:Int))).f0+1)*8)/\Aside0 (Below w3.heap.size w3 wr)) (fun i _=>out.length-(intOf i).toNat)
 case atStart=>exact⟨0,rfl,by omega,⟨fun j h=>absurd h (by omega)⟩,⟨ai _ _⟩⟩
 case round=>
  obtain⟨k,rfl,hk,HNo,HB⟩:=hrel;by_cases hlt:k<out.length
  ·have d3:decide ((k:Int)<out.length)=true:=af (by omega);obtain⟨ad2,ea2,hy⟩:=Kd.at_int (Kd.C_below HO3.out HB.out) (k:Int) (by omega) (by omega);cases ea2;simp only[Int.toNat_natCast]at hy;have p3:(0<=(k:Int))=True:=eq_true (by omega);have p4:((k:Int)<(out.length:Int))=True:=eq_true (by omega);have HWk:=am (wk1 k (by have:=HOl.out;omega));have HMs:=am (wk2 hlt (by have:=HOl.out;omega));have HLt:=am hlt;have hmem:rd out (k:Int)∈out:=by unfold rd;rw[Int.toNat_natCast,ax,bx hlt];exact List.getElem_mem hlt
   obtain⟨x0,x1,xc⟩:=HA.out _ hmem;have HNx:Aside0 (off≠((ab l (rd out (k:Int))).f0+1)*8→∀ j:Nat,j<k+1->off≠((ab l (rd out (j:Int))).f0+1)*8):=⟨fun h j hj=>by
    by_cases e:j=k
    ·subst e;exact h
    ·exact HNo.out j (by omega)⟩
   generalize rd out (k:Int)=xi at *;obtain⟨x,rfl⟩:=Int.eq_ofNat_of_zero_le x0;have q0:(0<=(x:Int))=True:=eq_true (by omega);have q1:((x:Int)<l.length)=True:=eq_true (by omega);obtain⟨ad,ea,hX⟩:=mg (Kd.C_below HL3.out HB.out) (i:=x) (by omega);cases ea;have hgx:=HGd.out (x:Int) (by omega) (by omega);have HEd:Aside0 (∀ w',Kd.C e6 w' (some ad) l.length l->Calls Tryz.prog 74 #[.slice (some ad) l.length cl, .int .i64 x, .int .i64 nd] w' fun e w''=>∃ v,e=.returned v/\Kd.R jp 160 w'' w'.heap.size (fun _=>True) v (eds (ab l (x:Int)) nd)/\Below w'.heap.size w' w''):=⟨fun w' h'=>zv xc h' HL.out.2.1⟩;have HApx:=am (HAp.out _ xc);have HX1:=am (And.intro x0 x1);have HFin:Aside0 (off=((ab l (x:Int)).f0+1)*8→∀ counts ch,nd≠0->ul l counts nd ch->off=((ab l ch).f0+1)*8->crv l (x:Int) nd=crv l ch nd/\app v (eds (ab l (x:Int)) nd)=app v (eds (ab l ch) nd)):=⟨fun h counts ch _ hb h2=>by
    have e:=HOne.out (x:Int) ch (by omega) (by omega) hb.1 hb.2.1 (by omega);rw[e];exact⟨rfl,rfl⟩⟩
   generalize eds (ab l (x:Int)) nd=ys at HEd HApx HFin;generalize app v ys=v' at HApx HFin;generalize crv l (x:Int) nd=l' at HApx HFin;generalize ab l (x:Int)=b at hX hgx HNx HFin;obtain⟨a0,a1,a2⟩:=hX;have HOf:Aside0 (dz.f b.f0 b.f1 b.f2=some ((b.f0+1)*8)):=⟨qgf (by omega)⟩;clear hmem x0 x1 xc hgx hlt hk;by_cases he:off=(b.f0+1)*8
   ·have d5:((b.f0+1)*8==off)=true:=beq_iff_eq.mpr he.symm;have d6:decide ((b.f0+1)*8=off)=true:=af he.symm;have HFe:=am (HFin.out he);clear he;go_wp2_with (first
     |(go_at_call 75;(with_reducible refine(dz.calls b.f0 b.f1 b.f2 _ _ HOf.out).mono ?_);rintro e w4 ⟨rfl,hb⟩;have HB4:=am (aa HB.out hb);clear hb a0 a1 a2))
    refine dj (n:=14) (S:=fun w'=>Below w3.heap.size w3 w') (ds:=[13]) (onA 14 0) (by kernel_rfl) rfl rfl (bg HB4.out) (fun hHeld=>?_);refine ps 0 28 ?_;refine ps 1 29 ?_;refine ps 2 30 ?_;refine ps 3 31 ?_;refine ps 5 33 ?_;refine ps 6 34 ?_;refine ps 7 35 ?_;refine vs 4 32 hHeld (fun w' hs=>aw 51 (.tmp 31) rfl M 0 _ rfl ((aj (HM.out.below (aa HB3.out hs)).box 0).trans rfl) _ Tryz.underlying51 rfl) ?_;refine os 8 36 Tryz.func71 #[.int .i64 n] ?_;refine(fe.calls n _ _ HNd.out).mono ?_;rintro e w5 ⟨rfl,hd⟩;refine⟨_,rfl,aa hHeld hd.below,fun hHeld=>nz ?_⟩;clear hd;refine os 9 37 Tryz.func74 #[.slice (some ad) l.length cl, .int .i64 x, .int .i64 nd] ?_;refine(HEd.out _ (Kd.C_below HL3.out hHeld)).mono ?_;rintro e w6 ⟨u,rfl,ho,hb⟩;have HO6:=am ho;refine⟨_,rfl,aa hHeld hb,fun hHeld=>nz ?_⟩;clear ho hb;refine os 10 38 Tryz.func113 #[.slice (some ⟨g,0,none⟩) v.length c,u] ?_;refine(HApx.out.2 _ _ _ _ (HM.out.below (aa HB3.out hHeld)).row _ HO6.out).mono ?_;rintro e w7 ⟨g2,cap,rfl,ho,h3,h4,hb⟩;have HB6:=am (aa HB3.out hHeld);have HO7:=am ho;have HB7:=am hb;have HG7:=am (And.intro h3 h4);have HM7:=am ((HM.out.below HB6.out).below hb);refine⟨_,rfl,aa hHeld hb,fun hHeld=>nz ?_⟩;clear ho hb h3 h4 hHeld;refine ps 11 39 ?_;refine ps 12 40 ?_;refine lw 13 rfl (mi 51 (.tmp 40) (.tmp 38) rfl M 0 (.slice (some ⟨g2,0,none⟩) v'.length cap) rfl rfl rfl rfl (by rw[(aj HM7.out.box 0)];rfl) (ak HM7.out.box 0) qpy) ?_;refine fa (by kernel_rfl) ?_;go_wp2;go_ret;exact⟨true,l',v',rfl,(HMo.out.on HB6.out).put HB7.out HO7.out HG7.out.1 HG7.out.2,HApx.out.1,HFe.out⟩
   ·have d5:((b.f0+1)*8==off)=false:=beq_eq_false_iff_ne.mpr (fun h=>he h.symm);have d6:decide ((b.f0+1)*8=off)=false:=ah (fun h=>he h.symm);have HNe:=am he;clear he;go_wp2_with (first
     |(go_at_call 75;(with_reducible refine(dz.calls b.f0 b.f1 b.f2 _ _ HOf.out).mono ?_);rintro e w4 ⟨rfl,hb⟩;have HB4:=am (aa HB.out hb);clear hb a0 a1 a2))
    exact⟨⟨k+1,HWk.out,HLt.out,⟨HNx.out HNe.out⟩,HB4⟩,HMs.out⟩
  ·have hkk:k=out.length:=by omega
   subst hkk;have d3:decide ((out.length:Int)<out.length)=false:=ah (by omega);clear hlt;go_wp2;go_ret;refine⟨false,l,v,rfl,(HMo.out.on HB3.out).on HB.out,HVV.out,fun counts ch h0 hb ho=>?_⟩;obtain⟨j,hj,e⟩:=List.mem_iff_getElem.1 (HAll.out counts ch h0 hb);refine absurd ?_ (HNo.out j hj);unfold rd;rw[Int.toNat_natCast,ax,bx hj];show off=((ab l (out[j])).f0+1)*8;rw[e];exact ho
end
def zt(l:List S116)(v:List Int)(r:Int)(op:S39)(off:Int)(l':List S116)(v':List Int)(r':Int):Prop:=(∀ now o l1 v1 r1,qfo l v r now op o l1 v1 r1->(op.f0=1->off=o)->l'=l1/\v'=v1/\r'=r1)/\(qom op->l'=l/\v'=v/\r'=r)
theorem ql6{l:List S116}{v:List Int}{words r off:Int}(hV:HV l v words)(h:uq l off):wy l r off=off:=by
 unfold wy;rw[if_neg];rintro⟨h0,h1⟩;rcases h with e|⟨b,hb,hu,ho⟩
 ·exact h0 e
 ·obtain⟨c,c0,c1,rfl⟩:=qa1 hb;rw[ud hV.1 c0 c1 hu ho]at h1;omega
section
variable{w:World}{M0 g0 c0:Nat}{v:List Int}{r:Int}{l:List S116}
theorem qih{p:Pn}(h:Md w M0 g0 c0 v r)(hV:HV l v (p.lines*8))(op:S39)(A:Option Addr)(c:Nat)(hB:Bys op.f4)(hr:Kd.C (Kd.int .u8) w A op.f4.length op.f4)(hc:op.f4.length<=c)(off:Int):Calls Tryz.prog 25 #[.pointer (some ⟨M0,0,none⟩), .agg (opV op A c).toArray, .int .i64 off] w fun e w'=>∃ M l' v' r',e=.returned (.pointer (some ⟨M,0,none⟩))/\MdO w w' M v' r'∧HV l' v' (p.lines*8)/\zt l v r op off l' v' r':=by
 have hp:=wh hV;unfold opV;obtain⟨f0,f1,f2,f3,f4⟩:=op;dsimp only at *;have BX:Aside0 ((w.alloc (.cells [.int .i64 f0, .int .i64 f1, .int .i64 f2, .int .i64 f3, .slice A f4.length c].toArray 39)).heap[w.heap.size]? =some (.cells [.int .i64 f0, .int .i64 f1, .int .i64 f2, .int .i64 f3, .slice A f4.length c].toArray 39 (0,0))):=⟨heap_alloc_new w _⟩;have HB0:Aside0 (Below w.heap.size w (w.alloc (.cells [.int .i64 f0, .int .i64 f1, .int .i64 f2, .int .i64 f3, .slice A f4.length c].toArray 39))):=⟨(ai _ _).alloc (an _) _⟩;have HCl:Aside0 (∀ w',Below w.heap.size w w'→Calls Tryz.prog 66 #[.pointer (some ⟨M0,0,none⟩)] w' fun e w''=>∃ M,e=.returned (.pointer (some ⟨M,0,none⟩))/\MdO w w'' M v r/\Below w'.heap.size w' w''):=⟨fun w' hb=>by
  refine(qfm (h.below hb) hp.1 (by omega)).mono ?_;rintro e w'' ⟨M,g,c',rfl,a,b1,b2,b3,b4,b5⟩;exact⟨M,rfl,⟨g,c',a,Nat.le_trans hb.size b1,Nat.le_trans hb.size b2,b4,aa hb b5⟩,b5⟩⟩
 have HR:=am hr;have HBy:=am hB;have HV1:=am hV;have HSr:Aside0 (∀ w' M,MdO w w' M v r->Calls Tryz.prog 70 #[.pointer (some ⟨M,0,none⟩), .int .i64 f1] w' fun e w''=>∃ n:Int,e=.returned (.int .i64 n)/\MdO w w'' M v (wy l r f1)):=⟨fun w' M hm=>by
  obtain⟨g,c',a,b1,b2,b3,b4⟩:=hm;refine(qcj a hV (by omega) f1).mono ?_;rintro e w'' ⟨n,w1,rfl,hb,hm,hw⟩;refine⟨n,rfl,g,c',hm,b1,b2,?_,?_⟩
  ·have:=hb.size;rcases hw with rfl|rfl
   ·omega
   ·simp[World.setCell];omega
  ·rcases hw with rfl|rfl
   ·exact aa b4 hb
   ·exact bj (aa b4 hb) b1⟩
 clear h hr hB hp;by_cases k1:f0=1
 case' pos=>
  have d1:(f0==1)=true:=beq_iff_eq.mpr k1;have HQ:Aside0 (∀ l' v',(∀ counts ch,df f2≠0->ul l counts (df f2) ch->off=((ab l ch).f0+1)*8->l'=crv l ch (df f2)/\v'=app v (eds (ab l ch) (df f2)))->zt l v r ⟨f0,f1,f2,f3,f4⟩ off l' v' r):=⟨fun l' v' h=>⟨fun now o l1 v1 r1 hn h1=>by
   rcases hn with⟨_,rfl,ch,can,hz,hbst,ho,rfl,rfl⟩|⟨e,_⟩|⟨e,_⟩|⟨e,_⟩
   ·obtain⟨a,b⟩:=h now ch hz hbst ((h1 k1).trans ho);exact⟨a,b,rfl⟩
   all_goals (dsimp only at e;omega),fun hid=>by rcases hid with e|e|⟨e,_⟩ <;> (dsimp only at e;omega)⟩⟩
  clear hV
 case' neg=>
  have d1:(f0==1)=false:=beq_eq_false_iff_ne.mpr k1;by_cases k2:f0=2
  case' pos=>
   have d2:(f0==2)=true:=beq_iff_eq.mpr k2;have HQ:Aside0 (∀ l' v',(∀ i:Int,0<=i->i<l.length->(ab l i).f2=true->f1=((ab l i).f0+1)*8->r≠f1->l'=mrg l i/\v'=v.set (ab l (cz l i)).f0.toNat (j8 (dq (mM l i)) false))->zt l v r ⟨f0,f1,f2,f3,f4⟩ off l' v' r):=⟨fun l' v' h=>⟨fun now o l1 v1 r1 hn _=>by
    rcases hn with⟨e,_⟩|⟨_,rfl,_,ch,h0,h1,hu,ho,hr,rfl,rfl⟩|⟨e,_⟩|⟨e,_⟩
    ·dsimp only at e;omega
    ·obtain⟨a,b⟩:=h ch h0 h1 hu ho hr;exact⟨a,b,rfl⟩
    all_goals (dsimp only at e;omega),fun hid=>by rcases hid with e|e|⟨e,_⟩ <;> (dsimp only at e;omega)⟩⟩
   clear hV
  case' neg=>
   have d2:(f0==2)=false:=beq_eq_false_iff_ne.mpr k2;by_cases k4:f0=4
   case' pos=>
    have d4:(f0==4)=true:=beq_iff_eq.mpr k4;have HQ:Aside0 (∀ v',((ma l f1 f4.length->v'=j9 v f4 f1 f4.length)/\(¬ ma l f1 f4.length->v'=v))->zt l v r ⟨f0,f1,f2,f3,f4⟩ off l v' r):=⟨fun v' h=>⟨fun now o l1 v1 r1 hn _=>by
     rcases hn with⟨e,_⟩|⟨e,_⟩|⟨_,rfl,_,_,hin,rfl,rfl⟩|⟨e,_⟩
     ·dsimp only at e;omega
     ·dsimp only at e;omega
     ·exact⟨rfl,h.1 hin,rfl⟩
     all_goals (dsimp only at e;omega),fun hid=>by
     rcases hid with e|e|⟨_,e⟩
     ·dsimp only at e;omega
     ·dsimp only at e;omega
     ·dsimp only at e;subst e;exact⟨rfl,(Classical.byCases (fun hin=>h.1 hin) (fun hin=>h.2 hin)),rfl⟩⟩⟩
    clear hV
   case' neg=>
    have d4:(f0==4)=false:=beq_eq_false_iff_ne.mpr k4;by_cases k5:f0=5
    case' pos=>
     have d5:(f0==5)=true:=beq_iff_eq.mpr k5;have HQ:Aside0 (zt l v r ⟨f0,f1,f2,f3,f4⟩ off l v (wy l r f1)):=⟨fun now o l1 v1 r1 hn _=>by
      rcases hn with⟨e,_⟩|⟨e,_⟩|⟨e,_⟩|⟨_,rfl,_,hri,rfl,rfl⟩
      ·dsimp only at e;omega
      ·dsimp only at e;omega
      ·dsimp only at e;omega
      ·exact⟨rfl,rfl,ql6 hV hri⟩,fun hid=>by rcases hid with e|e|⟨e,_⟩ <;> (dsimp only at e;omega)⟩
     clear hV
    case' neg=>
     have d5:(f0==5)=false:=beq_eq_false_iff_ne.mpr k5;have HQ:Aside0 (zt l v r ⟨f0,f1,f2,f3,f4⟩ off l v r):=⟨fun now o l1 v1 r1 hn _=>by
      rcases hn with⟨e,_⟩|⟨e,_⟩|⟨e,_⟩|⟨e,_⟩ <;> (dsimp only at e;omega),fun _=>⟨rfl,rfl,rfl⟩⟩
     clear hV
 all_goals (try clear k5)
 all_goals (try clear k4)
 all_goals (try clear k2)
 all_goals clear k1
 all_goals go_enter Tryz.func25,Tryz.ntmps25
 all_goals go_wp2_with (first
  |(go_at_call 66;refine(HCl.out _ HB0.out).mono ?_;rintro e w1 ⟨M,rfl,hm,hb⟩;have HM1:=am hm;have HB1:=am (aa HB0.out hb);have BX1:=am (ap BX.out hb);have z0:w1.cell? ⟨w.heap.size,0,none⟩=some (.int .i64 f0):=(aj BX1.out 0).trans rfl;have z1:w1.cell? ⟨w.heap.size,1,none⟩=some (.int .i64 f1):=(aj BX1.out 1).trans rfl;have z2:w1.cell? ⟨w.heap.size,2,none⟩=some (.int .i64 f2):=(aj BX1.out 2).trans rfl;have z4:w1.cell? ⟨w.heap.size,4,none⟩=some (.slice A f4.length c):=(aj BX1.out 4).trans rfl;clear hm hb)
  |(go_at_call 67;refine(qfl HM1.out HV1.out f2 off).mono ?_;rintro e w2 ⟨bb,l',v',rfl,hm,hh,hn⟩;have HD:=am hm;have HH:=am hh;have HN:=am (HQ.out _ _ hn);clear hm hh hn)
  |(go_at_call 68;refine(qgw HM1.out HV1.out f1).mono ?_;rintro e w2 ⟨bb,l',v',rfl,hm,hh,hn⟩;have HD:=am hm;have HH:=am hh;have HN:=am (HQ.out _ _ hn);clear hm hh hn)
  |(go_at_call 69;refine(qfn HM1.out HV1.out HBy.out f1 (Kd.C_below HR.out HB1.out) hc).mono ?_;rintro e w2 ⟨bb,v',rfl,hm,hh,hn⟩;have HD:=am hm;have HH:=am hh;have HN:=am (HQ.out _ hn);clear hm hh hn)
  |(go_at_call 70;refine(HSr.out _ _ HM1.out).mono ?_;rintro e w2 ⟨bb,rfl,hm⟩;have HD:=am hm;have HH:=HV1;have HN:=HQ;clear hm))
 all_goals go_ret
 all_goals first|exact⟨M,l',v',_,rfl,HD.out,HH.out,HN.out⟩|exact⟨M,l,v',_,rfl,HD.out,HH.out,HN.out⟩|exact⟨M,l,v,_,rfl,HD.out,HH.out,HN.out⟩|exact⟨M,l,v,_,rfl,HM1.out,HV1.out,HQ.out⟩
end
end Go.Proofs.YtmfhaliclnnbaaaGreat.Sys
