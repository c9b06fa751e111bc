import Derived.Test.YtmfhaliclnnbaaaGreatZTopWholeM13
import Derived.Test.YtmfhaliclnnbaaaGreatZTopWholeM10
namespace Go.Proofs.YtmfhaliclnnbaaaGreat.Sys
open Go.RowKit Go.Proofs.YtmfhaliclnnbaaaGreatW.PrintWords Go.Proofs.YtmfhaliclnnbaaaGreatW.PrintLast Go.Proofs.YtmfhaliclnnbaaaGreatW.PrintMore
open Go.Proofs.YtmfhaliclnnbaaaGreat.XTopWhole Go.Proofs.YtmfhaliclnnbaaaGreat.Pl Go.Maps
set_option linter.unusedVariables false
set_option linter.unusedSimpArgs false
set_option maxRecDepth 100000
set_option maxHeartbeats 8000000
namespace Hp
def homesOf(ls:List Int)(ws:List Int):List jw:=ls.map fun i=>(16+i,fd ws i.toNat)
def noteAll (b : Int) : List Int → St → Int × St
 |[],st=>(0,st)
 |i::ls,st=>
  if(Cnt.note b st.now st.kept (i / 4).toNat).2.1=true then
   if(Nvm.set st.m (19+i / 4) (IntKind.u64.wrap (Cnt.note b st.now st.kept (i / 4).toNat).1)).1=0 then
    noteAll b ls {st with m:=(Nvm.set st.m (19+i / 4) (IntKind.u64.wrap (Cnt.note b st.now st.kept (i / 4).toNat).1)).2,now:=(Cnt.note b st.now st.kept (i / 4).toNat).2.2.1,kept:=(Cnt.note b st.now st.kept (i / 4).toNat).2.2.2}
   else((Nvm.set st.m (19+i / 4) (IntKind.u64.wrap (Cnt.note b st.now st.kept (i / 4).toNat).1)).1,{st with m:=(Nvm.set st.m (19+i / 4) (IntKind.u64.wrap (Cnt.note b st.now st.kept (i / 4).toNat).1)).2,now:=(Cnt.note b st.now st.kept (i / 4).toNat).2.2.1,kept:=(Cnt.note b st.now st.kept (i / 4).toNat).2.2.2})
  else noteAll b ls {st with now:=(Cnt.note b st.now st.kept (i / 4).toNat).2.2.1,kept:=(Cnt.note b st.now st.kept (i / 4).toNat).2.2.2}
def commit(p:Pn)(st:St)(ws:List Int)(es:List S160):Int×St:=
 if(Lg.commit p.shape (homesOf (Sp.lines es) (Sp.apply ws es)) st.m st.puts).1=0 then
  noteAll p.batch (Sp.lines es) {st with m:=(Lg.commit p.shape (homesOf (Sp.lines es) (Sp.apply ws es)) st.m st.puts).2.1,puts:=(Lg.commit p.shape (homesOf (Sp.lines es) (Sp.apply ws es)) st.m st.puts).2.2}
 else((Lg.commit p.shape (homesOf (Sp.lines es) (Sp.apply ws es)) st.m st.puts).1,{st with m:=(Lg.commit p.shape (homesOf (Sp.lines es) (Sp.apply ws es)) st.m st.puts).2.1,puts:=(Lg.commit p.shape (homesOf (Sp.lines es) (Sp.apply ws es)) st.m st.puts).2.2,worn:=st.worn||(Lg.commit p.shape (homesOf (Sp.lines es) (Sp.apply ws es)) st.m st.puts).1==3})
end Hp
theorem qa0{es:List S160}{i:Int}(h:i∈Sp.lines es):∃ e,e∈es/\0<=e.f0/\i=e.f0 / 8:=by
 unfold Sp.lines Go.Lib.compact Go.Lib.compactUpTo at h;obtain⟨j,hj,rfl⟩:=List.mem_map.1 h;have hj2:=(List.mem_filter.1 hj).1;have hj3:=List.mem_range.1 hj2;rw[getElem!_pos _ j (by simpa using hj3)];have hm:((Sp.linesTo es).mergeSort fun x y=>decide (x<=y)).toArray[j]'(by simpa using hj3)∈Sp.linesTo es:=by rw[<-List.mem_mergeSort (le:=fun x y=>decide (x<=y))];simp
 generalize ((Sp.linesTo es).mergeSort fun x y=>decide (x<=y)).toArray[j]'(by simpa using hj3)=z at hm;unfold Sp.linesTo at hm;obtain⟨e,he,rfl⟩:=List.mem_map.1 hm;obtain⟨h1,h2⟩:=List.mem_filter.1 he;exact⟨e,h1,by simpa using h2,rfl⟩
theorem qf7(es:List S160):(Sp.lines es).length<=es.length:=by
 unfold Sp.lines Go.Lib.compact Go.Lib.compactUpTo Sp.linesTo;rw[List.length_map];refine Nat.le_trans (List.length_filter_le _ _) ?_;rw[List.length_range,List.length_mergeSort,List.length_map];exact List.length_filter_le _ _
theorem qjp{i:Int}(h0:0<=i)(h1:i<64):jm.f i=some (i / 4):=by
 unfold jm.f;rw[show mx i 0=i by unfold mx;split <;> omega,w64 (n:=i / 4) (by omega)]
theorem qf4{ls:List Int}{ws:List Int}{k:Nat}(hk:k<ls.length):Hp.homesOf (ls.take (k+1)) ws=Hp.homesOf (ls.take k) ws++[(16+ls.getD k 0,fd ws (ls.getD k 0).toNat)]:=by
 unfold Hp.homesOf;rw[List.take_succ_eq_append_getElem hk,ax,bx hk,List.map_append];rfl
theorem om(n:Int):0<=IntKind.u64.wrap n/\IntKind.u64.wrap n<=18446744073709551615:=by
 rw[IntKind.wrap_u64];omega
theorem HeapAt.regset{w:World}{b:Bl}{p:Pn}{st:St}(h:HeapAt w b p st)(i v:Int)(hi:i.toNat≠0)(h0:0<=v)(h1:v<=18446744073709551615){w':World}(hm:MemAt w' b.M b.C (Nvm.set st.m i v).2)(k:aq (MC b.M b.C) w w'):HeapAt w' b p {st with m:=(Nvm.set st.m i v).2}:=
 h.turned (h.tur.step hm k (s9 h.tur.regs i h0 h1) (by rw[pc _ _ _ 0 hi];exact h.tur.mv)) k.MCT
theorem tf{w:World}{b:Bl}{p:Pn}{st:St}(h:HeapAt w b p st)(i v:Int)(hi:i.toNat≠0)(h0:0<=v)(h1:v<=18446744073709551615):Calls Tryz.prog 107 #[.pointer (some ⟨b.M,0,none⟩), .int .i64 i, .int .u64 v] w fun e w'=>e=.returned (.int .i64 (Nvm.set st.m i v).1)/\HeapAt w' b p {st with m:=(Nvm.set st.m i v).2}/\aq b.W w w':=by
 refine(ob h.tur.mem i v).mono ?_;rintro e w' ⟨rfl,hm,k⟩;exact⟨rfl,h.regset i v hi h0 h1 hm k,h.w_of_mct k.MCT⟩
section
variable{w:World}{b:Bl}{p:Pn}{st:St}
theorem qec (h : HeapAt w b p st) (hp : p.Ok) (base : Nat) (ok : Nat → Prop) (A : Option Addr) (c : Nat) (ws : List Int) (hr : Kd.R (Kd.int .u64) 25 w base ok (.slice A ws.length c) ws) (hwl : ws.length = p.lines.toNat * 8) (base' : Nat) (ok' : Nat → Prop) (A' : Option Addr) (c' : Nat) (es : List S160) (he : Kd.R jp 160 w base' ok' (.slice A' es.length c') es) (hel : es.length ≤ 1000000) (hne : 0 < (Sp.linesTo es).length) (hbd : ∀ e ∈ es, 0 ≤ e.f0 ∧ e.f0 < p.lines * 8) (hbe : ∀ j, base' ≤ j → ¬ b.All j) (hlen : st.now.length = ((p.lines + 3) / 4).toNat) (hv : st.m.regs.getD 0 0 + 40 ≤ 4611686018427387904) : Calls Tryz.prog 103 #[.pointer (some ⟨b.H, 0, none⟩), .slice A ws.length c, .slice A' es.length c'] w fun e w' => HeapAt w' b p (Hp.commit p st ws es).2 ∧ aq b.W w w' ∧ ((Hp.commit p st ws es).1 = 0 → e = .returned (.tuple #[])) ∧ ((Hp.commit p st ws es).1 ≠ 0 → Leaves (Hp.commit p st ws es).1 e) := by
 have H0:=am h;have HE:=am he;have HBe:=am hbe;have hl1:=hp.l1;have hl2:=hp.l2;have HP:=am hp;have HLt:=am h.lt;have HMem:Aside0 (∀ i∈Sp.lines es,0<=i/\i<p.lines):=⟨fun i hi=>by
  obtain⟨e,h1,h2,rfl⟩:=qa0 hi;have:=hbd e h1;omega⟩
 have HAp:=am (qgt w base ok A c ws hr (by omega) (by omega) base' ok' A' c' es he hel);have HAl:=am (Sp.apply_length es ws);have HLs:Aside0 (∀ w',Kd.R jp 160 w' base' ok' (.slice A' es.length c') es->Calls Tryz.prog 142 #[.slice A' es.length c'] w' fun e w''=>∃ v,e=.returned v/\Kd.R (Kd.int .i64) 3 w'' w'.heap.size (fun _=>True) v (Sp.lines es)/\Below w'.heap.size w' w''):=⟨fun w' hw=>qd7 w' base' ok' A' c' es hw hel hne (fun e he=>by have:=hbd e he;omega)⟩;have HV:=am hv;have HNl:=am hlen;clear h hr he hbd hbe hp hv hlen;have hwb:ws.length<=512:=by omega
 have hll:(Sp.lines es).length<=1000000:=Nat.le_trans (qf7 es) hel;have HWL:=am hwl;clear hwl;generalize hRR:Hp.commit p st ws es=RR;have HRR:=am hRR;clear hRR;go_enter Tryz.func103,Tryz.ntmps103;go_wp2_with (first
  |(go_at_call 141;(with_reducible refine HAp.out.mono ?_);rintro e w1 ⟨v,rfl,ho,hb⟩;obtain⟨Aw,cw,ew⟩:=Kd.R_slice ho;subst ew;have HW1:=am ho;have HB1:=am hb;have HE1:=am (Kd.R_below HE.out hb);clear ho hb)
  |(go_at_call 142;(with_reducible refine(HLs.out _ HE1.out).mono ?_);rintro e w2 ⟨v2,rfl,ho,hb⟩;have HL2:=am ho;have HB2:=am (aa HB1.out hb);have HE2:=am (Kd.R_below HE1.out hb);have HW2:=am (Kd.R_below HW1.out hb);obtain⟨Al,cl,el⟩:=Kd.R_slice ho;subst el;clear ho hb))
 have HRW:=am (show Hp.commit p st ws es=Hp.commit p st ws es from rfl);go_loopw [6,21] (fun v i wr=>∃ k:Nat,i=.int .i64 k/\k<=(Sp.lines es).length/\Aside0 (Kd.R ym 151 wr w2.heap.size (fun _=>True) v (Hp.homesOf ((Sp.lines es).take k) (Sp.apply ws es)))/\Aside0 (Below w2.heap.size w2 wr)) (fun _ i _=>(Sp.lines es).length-(intOf i).toNat)
 case atStart=>exact⟨0,rfl,by omega,⟨Kd.R_nil _ _ _ _ _⟩,⟨ai _ _⟩⟩
 case round =>
  obtain⟨k,rfl,hk,HO,HB⟩:=hrel;by_cases hlt:k<(Sp.lines es).length
  ·have d3:decide ((k:Int)<(Sp.lines es).length)=true:=af (by omega);have hmk:=HMem.out ((Sp.lines es).getD k 0) (by rw[ax,bx hlt];exact List.getElem_mem _);have HLT:=am hlt;have HSu:=am (qf4 (ws:=Sp.apply ws es) hlt);have HLr:=am (Kd.R_below HL2.out HB.out);obtain⟨gl,cap,ev,_⟩:=Kd.R_form HLr.out (by omega);injection ev with e1 _ e2;subst e1;subst e2;have hcell:=(i8 HLr.out k hlt).1;generalize (Sp.lines es).getD k 0=i at hcell hmk HSu;obtain⟨iN,hi⟩:∃ iN:Nat,i=iN:=⟨i.toNat,by omega⟩;subst hi;have HHm:=am (qdj HP.out hmk.1 hmk.2);have HWr:=am (Kd.R_below HW2.out HB.out);have HX:=am (H0.out.below (aa HB2.out HB.out)).box;have hil:iN*8+8<=(Sp.apply ws es).length:=by rw[HAl.out,HWL.out];omega
   have H8:=am (ii hil);have hwl2:(Sp.apply ws es).length<=1000000:=by rw[HAl.out];omega
   have HLine:Aside0 (∀ w',Kd.R (Kd.int .u64) 25 w' w.heap.size (fun _=>True) (.slice Aw (Sp.apply ws es).length cw) (Sp.apply ws es)->Calls Tryz.prog 41 #[.slice Aw (Sp.apply ws es).length cw, .int .i64 iN] w' fun e w''=>e=.returned (iw (fd (Sp.apply ws es) iN))/\Below w'.heap.size w' w''):=⟨fun w' hw=>ml w.heap.size _ Aw cw (Sp.apply ws es) hw iN hil hwl2⟩;have hln:(Hp.homesOf ((Sp.lines es).take k) (Sp.apply ws es)).length<=1000000:=by unfold Hp.homesOf;rw[List.length_map,List.length_take];omega
   rw[Int.toNat_natCast]at HSu;generalize fd (Sp.apply ws es) iN=l at H8 HLine HSu;generalize Hp.homesOf ((Sp.lines es).take k) (Sp.apply ws es)=hs0 at HO HSu hln;go_wp2_with (first
    |((with_reducible refine fz (.load 23 (.tmp 28)) rfl ?_);refine bc rfl 23 (.tmp 28) rfl b.H 1 rfl (fk p) _ (fun j v hv=>by rw[Nat.add_comm 1 j];exact bt HX.out (j+1) v (qgc hv)) Tryz.underlying23 rfl jh ?_)
    |(go_at_call 40;(refine(it.calls p.lines p.spare p.period p.batch (iN:Int) (16+(iN:Int)) _ HHm.out).mono ?_);rintro e w3 ⟨rfl,hb⟩;have HB3:=am (aa HB.out hb);have HO3:=am (Kd.R_below HO.out hb);have HW3:=am (Kd.R_below HWr.out hb);clear hb)
    |(go_at_call 41;(with_reducible refine(HLine.out _ HW3.out).mono ?_);rintro e w4 ⟨rfl,hb⟩;have HB4:=am (aa HB3.out hb);have HO4:=am (Kd.R_below HO3.out hb);clear hb)
    |((with_reducible refine b9 (N:=35) rfl ?_);refine tr rfl 151 0 1 (.tmp 31) (.tmp 34) rfl (.int .i64 (16+(iN:Int))) (.agg (br l).toArray) rfl rfl (eq (16+(iN:Int),l)).toArray ?hb ?_;(case hb=>exact y3 (16+(iN:Int)) l H8.out))
    |((with_reducible refine b9 (N:=36) rfl ?_);refine rf rfl (.tmp 35) rfl (16+(iN:Int),l) H8.out rfl ?_)
    |((with_reducible refine di (b:=.append) (xs:=#[.tmp 25, .tmp 36]) rfl ?_);at_builtin;refine Kd.R_append ym (w0:=w2) w2.heap.size rfl (.tmp 25) (.tmp 36) 130 151 (.agg jj) 72 rfl Tryz.underlying130 qcb rfl (by decide) (by omega) _ hs0 (16+(iN:Int),l) (eq (16+(iN:Int),l)) (fun _=>True) (fun _=>False) rfl rfl ?aP (fun _ hk=>hk.elim) ?aF HO4.out HB4.out (bk HB4.out) ?aL ?_;(case aP=>exact⟨rfl,H8.out⟩);(case aF=>exact(fun _ _=>trivial));(case aL=>omega);intro v1 w8 ho hb hg hat;have HO8:=am ho;have HB8:=am hb;clear ho hb hg hat))
   go_roundw
   case rel=>exact⟨k+1,by go_num,HLT.out,⟨by rw[HSu.out];exact HO8.out⟩,HB8⟩
   case measure=>have:=HLT.out;simp[intOf];omega
  ·have hkk : k = (Sp.lines es).length := by omega
   subst hkk;rw[List.take_length]at HO;have d3:decide (((Sp.lines es).length:Int)<(Sp.lines es).length)=false:=ah (by omega);have HA:=am (H0.out.below (aa HB2.out HB.out));have g6:wr.cell? ⟨b.H,6,none⟩=some (.pointer (some ⟨b.G,0,none⟩)):=(aj HA.out.box 6).trans rfl;have HEr:=am (Kd.R_below HE2.out HB.out);have KW:Aside0 (aq b.W w wr):=⟨aq.of_below (aa HB2.out HB.out)⟩;have hhl:(Hp.homesOf (Sp.lines es) (Sp.apply ws es)).length<=1000000:=by unfold Hp.homesOf;rw[List.length_map];exact hll
   have HHb:Aside0 (∀ x∈Hp.homesOf (Sp.lines es) (Sp.apply ws es),-1<=x.1/\x.1<=1000000):=⟨fun x hx=>by
    unfold Hp.homesOf at hx;obtain⟨i,hi,rfl⟩:=List.mem_map.1 hx;have:=HMem.out i hi;constructor <;> (dsimp only;omega)⟩
   obtain⟨Ah,ch,eh⟩:=Kd.R_slice HO.out;subst eh;have hnM:∀ j,w2.heap.size<=j→¬ MCT b.M b.C b.T j:=fun j hj e=>HLt.out j (by have:=HB2.out.size;omega) (.inl (.inl e));have HCm:=am (qfh HA.out.tur HA.out.log HA.out.ng (by show 17<=16+p.lines;omega) (Hp.homesOf (Sp.lines es) (Sp.apply ws es)) hhl HHb.out (by have:=HV.out;omega) w2.heap.size (fun _=>True) Ah ch HO.out hnM);clear hnM;generalize hrc:Lg.commit p.shape (Hp.homesOf (Sp.lines es) (Sp.apply ws es)) st.m st.puts=rc at HCm;have HRC:=am hrc;clear hrc;obtain⟨ce,m1,p1⟩:=rc;by_cases c0:ce=0
   ·subst c0;have E1 : Aside0 (RR = Hp.noteAll p.batch (Sp.lines es) { st with m := m1, puts := p1 }) := ⟨by rw [← HRR.out, Hp.commit, HRC.out]; rfl⟩;obtain ⟨fw, hfw⟩ : ∃ fw, st.worn = fw := ⟨_, rfl⟩;have HWf := am hfw;clear hfw;cases fw
    ·skip;have g8:wr.cell? ⟨b.H,8,none⟩=some (.bool false):=(aj HA.out.box 8).trans (by rw[HWf.out];rfl);go_wp2_with (first
      |(go_at_call 143;(with_reducible refine HCm.out.mono ?_);rintro e w5 ⟨rfl,h5_,k5_⟩;have HA5:=am (HA.out.turned h5_ k5_);have K5:Aside0 (aq b.W w w5):=⟨KW.out.step (HA.out.w_of_mct k5_)⟩;have KR5:Aside0 (aq b.W wr w5):=⟨HA.out.w_of_mct k5_⟩;have g5:w5.cell? ⟨b.H,8,none⟩=some (.bool false):=(aj HA5.out.box 8).trans (by rw[HWf.out];rfl);have f5:w5.frozen? ⟨b.H,8,none⟩=false:=ak HA5.out.box 8;clear h5_ k5_ g8)
      |(go_at_call 102;(with_reducible refine(js _).mono ?_);rintro e w6 ⟨rfl,hb⟩;have HA6:=am ((HA5.out.flag false).below hb);have K6:Aside0 (aq b.W w w6):=⟨(K5.out.set (p:=⟨b.H,8,none⟩) (.inl (.inr (.inl rfl))) (.bool false)).step (aq.of_below hb)⟩;have KR6:Aside0 (aq b.W wr w6):=⟨(KR5.out.set (p:=⟨b.H,8,none⟩) (.inl (.inr (.inl rfl))) (.bool false)).step (aq.of_below hb)⟩;have HE6:=am (oq HEr.out KR6.out (fun j hj e=>HBe.out j hj (.inl e)));clear hb g5 f5)
      |(go_at_call 142;(with_reducible refine(HLs.out _ HE6.out).mono ?_);rintro e w7 ⟨v7,rfl,ho,hb⟩;obtain⟨A7,c7,e7⟩:=Kd.R_slice ho;subst e7;have HL7:=am ho;have HA7:=am (HA6.out.below hb);have K7:Aside0 (aq b.W w w7):=⟨K6.out.step (aq.of_below hb)⟩;have hs6:=K6.out.size;clear ho hb))
     have E2:Aside0 (Hp.noteAll p.batch (Sp.lines es) {m:=m1,puts:=p1,now:=st.now,kept:=st.kept,worn:=false}=RR):=⟨by rw[E1.out,HWf.out]⟩;obtain⟨wo,hwo⟩:∃ z,z=wr:=⟨_,rfl⟩;subst hwo;go_loopw [61] (fun i wr2=>∃ (k:Nat) (s7:St),i=.int .i64 k/\k<=(Sp.lines es).length/\Aside0 (HeapAt wr2 b p s7)/\Aside0 (aq b.W w7 wr2)/\Aside0 (s7.now.length=st.now.length)/\Aside0 (Hp.noteAll p.batch ((Sp.lines es).drop k) s7=RR)) (fun i _=>(Sp.lines es).length-(intOf i).toNat)
     case atStart=>exact⟨0,_,rfl,by omega,HA7,⟨aq.refl _ _⟩,⟨rfl⟩,E2⟩
     case round =>
      clear HA7 E2;obtain⟨k,s7,rfl,hk,HA8,K8,HN8,E8⟩:=hrel;by_cases hlt:k<(Sp.lines es).length
      ·have d4:decide ((k:Int)<(Sp.lines es).length)=true:=af (by omega);have hmk:=HMem.out ((Sp.lines es).getD k 0) (by rw[ax,bx hlt];exact List.getElem_mem _);have HDr:Aside0 ((Sp.lines es).drop k=(Sp.lines es).getD k 0::(Sp.lines es).drop (k+1)):=⟨by rw[List.drop_eq_getElem_cons hlt,ax,bx hlt];rfl⟩;have HLr:=am (oq HL7.out K8.out (fun j hj e=>HLt.out j (by omega) (.inl e)));obtain⟨gl,cap,ev,_⟩:=Kd.R_form HLr.out (by omega);injection ev with e1 _ e2;subst e1;subst e2;have hcell:=(i8 HLr.out k hlt).1;have HLT:=am hlt;generalize (Sp.lines es).getD k 0=i at hcell hmk HDr;obtain⟨iN,hi⟩:∃ iN:Nat,i=iN:=⟨i.toNat,by omega⟩;subst hi;have HPg:=am (qjp (i:=(iN:Int)) (by omega) (by omega));have hpl:iN / 4<s7.now.length:=by rw[HN8.out,HNl.out];omega
       have hpq:((iN:Int) / 4)=((iN / 4:Nat):Int):=by omega
       rw[hpq]at HPg;have HPq:=am hpq;have HPt:Aside0 (((iN:Int) / 4).toNat=iN / 4):=⟨by omega⟩;clear hpq;have hp16:iN / 4<=16:=by omega
       obtain⟨pg,hpg⟩:∃ pg,iN / 4=pg:=⟨_,rfl⟩;rw[hpg]at HPg HPq HPt hpl hp16;clear hpg;have HNt:=am (show Cnt.note p.batch s7.now s7.kept pg=Cnt.note p.batch s7.now s7.kept pg from rfl);obtain⟨nt,hnt⟩:∃ nt,Cnt.note p.batch s7.now s7.kept pg=nt:=⟨_,rfl⟩;obtain⟨n1,kp,now1,kept1⟩:=nt;have HN:=am hnt;have HNL:Aside0 (now1.length=s7.now.length):=⟨by
        have e:=congrArg (fun x=>x.2.2.1.length) hnt;simp only[Cnt.note,List.length_set]at e;exact e.symm⟩
       clear HNt hnt;have HNote:Aside0 (∀ w',CntAt w' b.q p.batch s7.now s7.kept->Calls Tryz.prog 144 #[.pointer (some ⟨b.q.K,0,none⟩), .int .i64 pg] w' fun e w''=>e=.returned (.tuple #[.int .i64 n1, .bool kp])/\CntAt w'' b.q p.batch now1 kept1/\aq b.q.At w' w''):=⟨fun w' hw'=>by
        have hh:=qcm hw' pg hpl;rw[HN.out]at hh;exact hh⟩
       cases kp
       ·go_wp2_with (first
         |(go_at_call 97;(with_reducible refine(jm.calls (iN:Int) (pg:Int) _ HPg.out).mono ?_);rintro e w9 ⟨rfl,hb⟩;have HA9:=am (HA8.out.below hb);have K9:Aside0 (aq b.W w7 w9):=⟨K8.out.step (aq.of_below hb)⟩;have g7:w9.cell? ⟨b.H,7,none⟩=some (.pointer (some ⟨b.q.K,0,none⟩)):=(aj HA9.out.box 7).trans rfl;clear hb)
         |(go_at_call 144;(with_reducible refine(HNote.out _ HA9.out.cnt).mono ?_);rintro e w10 ⟨rfl,hc_,k_⟩;have HA10:=am (HA9.out.counted hc_ k_);have K10:Aside0 (aq b.W w7 w10):=⟨K9.out.step (k_.mono (fun _ _ e=>.inr (.inr e)))⟩;clear hc_ k_ g7))
        go_roundw
        case rel=>exact⟨k+1,_,by go_num,HLT.out,HA10,K10,⟨by rw[<-HN8.out,←HNL.out]⟩,⟨by
         rw[<-E8.out,HDr.out,Hp.noteAll,HPt.out,HN.out];rfl⟩⟩
        case measure=>have:=HLT.out;simp[intOf];omega
       ·have HSt:=am (show Nvm.set s7.m (19+(pg:Int)) (IntKind.u64.wrap n1)=Nvm.set s7.m (19+(pg:Int)) (IntKind.u64.wrap n1)from rfl);obtain⟨ns,hns⟩:∃ ns,Nvm.set s7.m (19+(pg:Int)) (IntKind.u64.wrap n1)=ns:=⟨_,rfl⟩;obtain⟨se,sm⟩:=ns;have HS:=am hns;clear HSt hns;have HSet:Aside0 (∀ w',HeapAt w' b p {s7 with now:=now1,kept:=kept1}->Calls Tryz.prog 107 #[.pointer (some ⟨b.M,0,none⟩), .int .i64 (19+(pg:Int)), .int .u64 (IntKind.u64.wrap n1)] w' fun e w''=>e=.returned (.int .i64 se)/\HeapAt w'' b p {s7 with m:=sm,now:=now1,kept:=kept1}/\aq b.W w' w''):=⟨fun w' hw'=>by
         have hh:=tf hw' (19+(pg:Int)) (IntKind.u64.wrap n1) (by omega) (om n1).1 (om n1).2;dsimp only at hh;rw[HS.out]at hh;exact hh⟩
        by_cases s0:se=0
        ·subst s0;go_wp2_with (first
          |(go_at_call 97;(with_reducible refine(jm.calls (iN:Int) (pg:Int) _ HPg.out).mono ?_);rintro e w9 ⟨rfl,hb⟩;have HA9:=am (HA8.out.below hb);have K9:Aside0 (aq b.W w7 w9):=⟨K8.out.step (aq.of_below hb)⟩;have g7:w9.cell? ⟨b.H,7,none⟩=some (.pointer (some ⟨b.q.K,0,none⟩)):=(aj HA9.out.box 7).trans rfl;clear hb)
          |(go_at_call 144;(with_reducible refine(HNote.out _ HA9.out.cnt).mono ?_);rintro e w10 ⟨rfl,hc_,k_⟩;have HA10:=am (HA9.out.counted hc_ k_);have K10:Aside0 (aq b.W w7 w10):=⟨K9.out.step (k_.mono (fun _ _ e=>.inr (.inr e)))⟩;have g0:w10.cell? ⟨b.H,0,none⟩=some (.pointer (some ⟨b.M,0,none⟩)):=(aj HA10.out.box 0).trans rfl;clear hc_ k_ g7)
          |(go_at_call 107;(with_reducible refine(HSet.out _ HA10.out).mono ?_);rintro e w11 ⟨rfl,ha_,k_⟩;have HA11:=am ha_;have K11:Aside0 (aq b.W w7 w11):=⟨K10.out.step k_⟩;clear ha_ k_ g0)
          |(go_at_call 102;(with_reducible refine(js _).mono ?_);rintro e w12 ⟨rfl,hb⟩;have HA12:=am (HA11.out.below hb);have K12:Aside0 (aq b.W w7 w12):=⟨K11.out.step (aq.of_below hb)⟩;clear hb))
         go_roundw
         case rel=>exact⟨k+1,_,by go_num,HLT.out,HA12,K12,⟨by rw[<-HN8.out,←HNL.out]⟩,⟨by
          rw[<-E8.out,HDr.out,Hp.noteAll,HPt.out,HN.out];dsimp only;rw[HPq.out,HS.out];rfl⟩⟩
         case measure=>have:=HLT.out;simp[intOf];omega
        ·have E9:Aside0 (RR=(se,{s7 with m:=sm,now:=now1,kept:=kept1})):=⟨by
          rw[<-E8.out,HDr.out,Hp.noteAll,HPt.out,HN.out];dsimp only;rw[HPq.out,HS.out];simp[s0]⟩
         go_wp2_with (first
          |(go_at_call 97;(with_reducible refine(jm.calls (iN:Int) (pg:Int) _ HPg.out).mono ?_);rintro e w9 ⟨rfl,hb⟩;have HA9:=am (HA8.out.below hb);have K9:Aside0 (aq b.W w7 w9):=⟨K8.out.step (aq.of_below hb)⟩;have g7:w9.cell? ⟨b.H,7,none⟩=some (.pointer (some ⟨b.q.K,0,none⟩)):=(aj HA9.out.box 7).trans rfl;clear hb)
          |(go_at_call 144;(with_reducible refine(HNote.out _ HA9.out.cnt).mono ?_);rintro e w10 ⟨rfl,hc_,k_⟩;have HA10:=am (HA9.out.counted hc_ k_);have K10:Aside0 (aq b.W w7 w10):=⟨K9.out.step (k_.mono (fun _ _ e=>.inr (.inr e)))⟩;have g0:w10.cell? ⟨b.H,0,none⟩=some (.pointer (some ⟨b.M,0,none⟩)):=(aj HA10.out.box 0).trans rfl;clear hc_ k_ g7)
          |(go_at_call 107;(with_reducible refine(HSet.out _ HA10.out).mono ?_);rintro e w11 ⟨rfl,ha_,k_⟩;have HA11:=am ha_;have K11:Aside0 (aq b.W w7 w11):=⟨K10.out.step k_⟩;clear ha_ k_ g0)
          |(go_at_call 102;(with_reducible refine(m6 s0 _).mono ?_);rintro e w12 ⟨rfl,hb⟩;have HA12:=am (HA11.out.below hb);have K12:Aside0 (aq b.W w7 w12):=⟨K11.out.step (aq.of_below hb)⟩;clear hb))
         refine⟨rfl,?_⟩;rw[E9.out];exact⟨HA12.out,K7.out.step K12.out,fun h=>absurd h s0,fun _=>rfl⟩
      ·have hkk:k=(Sp.lines es).length:=by omega
       subst hkk;have d4:decide (((Sp.lines es).length:Int)<(Sp.lines es).length)=false:=ah (by omega);have E9:Aside0 (RR=(0,s7)):=⟨by rw[<-E8.out,List.drop_length];rfl⟩;go_wp2;go_end0;rw[E9.out];exact⟨HA8.out,K7.out.step K8.out,fun _=>rfl,fun h=>absurd rfl h⟩
    ·skip;have g8:wr.cell? ⟨b.H,8,none⟩=some (.bool true):=(aj HA.out.box 8).trans (by rw[HWf.out];rfl);go_wp2_with (first
      |(go_at_call 143;(with_reducible refine HCm.out.mono ?_);rintro e w5 ⟨rfl,h5_,k5_⟩;have HA5:=am (HA.out.turned h5_ k5_);have K5:Aside0 (aq b.W w w5):=⟨KW.out.step (HA.out.w_of_mct k5_)⟩;have KR5:Aside0 (aq b.W wr w5):=⟨HA.out.w_of_mct k5_⟩;have g5:w5.cell? ⟨b.H,8,none⟩=some (.bool true):=(aj HA5.out.box 8).trans (by rw[HWf.out];rfl);have f5:w5.frozen? ⟨b.H,8,none⟩=false:=ak HA5.out.box 8;clear h5_ k5_ g8)
      |(go_at_call 102;(with_reducible refine(js _).mono ?_);rintro e w6 ⟨rfl,hb⟩;have HA6:=am ((HA5.out.flag true).below hb);have K6:Aside0 (aq b.W w w6):=⟨(K5.out.set (p:=⟨b.H,8,none⟩) (.inl (.inr (.inl rfl))) (.bool true)).step (aq.of_below hb)⟩;have KR6:Aside0 (aq b.W wr w6):=⟨(KR5.out.set (p:=⟨b.H,8,none⟩) (.inl (.inr (.inl rfl))) (.bool true)).step (aq.of_below hb)⟩;have HE6:=am (oq HEr.out KR6.out (fun j hj e=>HBe.out j hj (.inl e)));clear hb g5 f5)
      |(go_at_call 142;(with_reducible refine(HLs.out _ HE6.out).mono ?_);rintro e w7 ⟨v7,rfl,ho,hb⟩;obtain⟨A7,c7,e7⟩:=Kd.R_slice ho;subst e7;have HL7:=am ho;have HA7:=am (HA6.out.below hb);have K7:Aside0 (aq b.W w w7):=⟨K6.out.step (aq.of_below hb)⟩;have hs6:=K6.out.size;clear ho hb))
     have E2:Aside0 (Hp.noteAll p.batch (Sp.lines es) {m:=m1,puts:=p1,now:=st.now,kept:=st.kept,worn:=true}=RR):=⟨by rw[E1.out,HWf.out]⟩;obtain⟨wo,hwo⟩:∃ z,z=wr:=⟨_,rfl⟩;subst hwo;go_loopw [61] (fun i wr2=>∃ (k:Nat) (s7:St),i=.int .i64 k/\k<=(Sp.lines es).length/\Aside0 (HeapAt wr2 b p s7)/\Aside0 (aq b.W w7 wr2)/\Aside0 (s7.now.length=st.now.length)/\Aside0 (Hp.noteAll p.batch ((Sp.lines es).drop k) s7=RR)) (fun i _=>(Sp.lines es).length-(intOf i).toNat)
     case atStart=>exact⟨0,_,rfl,by omega,HA7,⟨aq.refl _ _⟩,⟨rfl⟩,E2⟩
     case round =>
      clear HA7 E2;obtain⟨k,s7,rfl,hk,HA8,K8,HN8,E8⟩:=hrel;by_cases hlt:k<(Sp.lines es).length
      ·have d4:decide ((k:Int)<(Sp.lines es).length)=true:=af (by omega);have hmk:=HMem.out ((Sp.lines es).getD k 0) (by rw[ax,bx hlt];exact List.getElem_mem _);have HDr:Aside0 ((Sp.lines es).drop k=(Sp.lines es).getD k 0::(Sp.lines es).drop (k+1)):=⟨by rw[List.drop_eq_getElem_cons hlt,ax,bx hlt];rfl⟩;have HLr:=am (oq HL7.out K8.out (fun j hj e=>HLt.out j (by omega) (.inl e)));obtain⟨gl,cap,ev,_⟩:=Kd.R_form HLr.out (by omega);injection ev with e1 _ e2;subst e1;subst e2;have hcell:=(i8 HLr.out k hlt).1;have HLT:=am hlt;generalize (Sp.lines es).getD k 0=i at hcell hmk HDr;obtain⟨iN,hi⟩:∃ iN:Nat,i=iN:=⟨i.toNat,by omega⟩;subst hi;have HPg:=am (qjp (i:=(iN:Int)) (by omega) (by omega));have hpl:iN / 4<s7.now.length:=by rw[HN8.out,HNl.out];omega
       have hpq:((iN:Int) / 4)=((iN / 4:Nat):Int):=by omega
       rw[hpq]at HPg;have HPq:=am hpq;have HPt:Aside0 (((iN:Int) / 4).toNat=iN / 4):=⟨by omega⟩;clear hpq;have hp16:iN / 4<=16:=by omega
       obtain⟨pg,hpg⟩:∃ pg,iN / 4=pg:=⟨_,rfl⟩;rw[hpg]at HPg HPq HPt hpl hp16;clear hpg;have HNt:=am (show Cnt.note p.batch s7.now s7.kept pg=Cnt.note p.batch s7.now s7.kept pg from rfl);obtain⟨nt,hnt⟩:∃ nt,Cnt.note p.batch s7.now s7.kept pg=nt:=⟨_,rfl⟩;obtain⟨n1,kp,now1,kept1⟩:=nt;have HN:=am hnt;have HNL:Aside0 (now1.length=s7.now.length):=⟨by
        have e:=congrArg (fun x=>x.2.2.1.length) hnt;simp only[Cnt.note,List.length_set]at e;exact e.symm⟩
       clear HNt hnt;have HNote:Aside0 (∀ w',CntAt w' b.q p.batch s7.now s7.kept->Calls Tryz.prog 144 #[.pointer (some ⟨b.q.K,0,none⟩), .int .i64 pg] w' fun e w''=>e=.returned (.tuple #[.int .i64 n1, .bool kp])/\CntAt w'' b.q p.batch now1 kept1/\aq b.q.At w' w''):=⟨fun w' hw'=>by
        have hh:=qcm hw' pg hpl;rw[HN.out]at hh;exact hh⟩
       cases kp
       ·go_wp2_with (first
         |(go_at_call 97;(with_reducible refine(jm.calls (iN:Int) (pg:Int) _ HPg.out).mono ?_);rintro e w9 ⟨rfl,hb⟩;have HA9:=am (HA8.out.below hb);have K9:Aside0 (aq b.W w7 w9):=⟨K8.out.step (aq.of_below hb)⟩;have g7:w9.cell? ⟨b.H,7,none⟩=some (.pointer (some ⟨b.q.K,0,none⟩)):=(aj HA9.out.box 7).trans rfl;clear hb)
         |(go_at_call 144;(with_reducible refine(HNote.out _ HA9.out.cnt).mono ?_);rintro e w10 ⟨rfl,hc_,k_⟩;have HA10:=am (HA9.out.counted hc_ k_);have K10:Aside0 (aq b.W w7 w10):=⟨K9.out.step (k_.mono (fun _ _ e=>.inr (.inr e)))⟩;clear hc_ k_ g7))
        go_roundw
        case rel=>exact⟨k+1,_,by go_num,HLT.out,HA10,K10,⟨by rw[<-HN8.out,←HNL.out]⟩,⟨by
         rw[<-E8.out,HDr.out,Hp.noteAll,HPt.out,HN.out];rfl⟩⟩
        case measure=>have:=HLT.out;simp[intOf];omega
       ·have HSt:=am (show Nvm.set s7.m (19+(pg:Int)) (IntKind.u64.wrap n1)=Nvm.set s7.m (19+(pg:Int)) (IntKind.u64.wrap n1)from rfl);obtain⟨ns,hns⟩:∃ ns,Nvm.set s7.m (19+(pg:Int)) (IntKind.u64.wrap n1)=ns:=⟨_,rfl⟩;obtain⟨se,sm⟩:=ns;have HS:=am hns;clear HSt hns;have HSet:Aside0 (∀ w',HeapAt w' b p {s7 with now:=now1,kept:=kept1}->Calls Tryz.prog 107 #[.pointer (some ⟨b.M,0,none⟩), .int .i64 (19+(pg:Int)), .int .u64 (IntKind.u64.wrap n1)] w' fun e w''=>e=.returned (.int .i64 se)/\HeapAt w'' b p {s7 with m:=sm,now:=now1,kept:=kept1}/\aq b.W w' w''):=⟨fun w' hw'=>by
         have hh:=tf hw' (19+(pg:Int)) (IntKind.u64.wrap n1) (by omega) (om n1).1 (om n1).2;dsimp only at hh;rw[HS.out]at hh;exact hh⟩
        by_cases s0:se=0
        ·subst s0;go_wp2_with (first
          |(go_at_call 97;(with_reducible refine(jm.calls (iN:Int) (pg:Int) _ HPg.out).mono ?_);rintro e w9 ⟨rfl,hb⟩;have HA9:=am (HA8.out.below hb);have K9:Aside0 (aq b.W w7 w9):=⟨K8.out.step (aq.of_below hb)⟩;have g7:w9.cell? ⟨b.H,7,none⟩=some (.pointer (some ⟨b.q.K,0,none⟩)):=(aj HA9.out.box 7).trans rfl;clear hb)
          |(go_at_call 144;(with_reducible refine(HNote.out _ HA9.out.cnt).mono ?_);rintro e w10 ⟨rfl,hc_,k_⟩;have HA10:=am (HA9.out.counted hc_ k_);have K10:Aside0 (aq b.W w7 w10):=⟨K9.out.step (k_.mono (fun _ _ e=>.inr (.inr e)))⟩;have g0:w10.cell? ⟨b.H,0,none⟩=some (.pointer (some ⟨b.M,0,none⟩)):=(aj HA10.out.box 0).trans rfl;clear hc_ k_ g7)
          |(go_at_call 107;(with_reducible refine(HSet.out _ HA10.out).mono ?_);rintro e w11 ⟨rfl,ha_,k_⟩;have HA11:=am ha_;have K11:Aside0 (aq b.W w7 w11):=⟨K10.out.step k_⟩;clear ha_ k_ g0)
          |(go_at_call 102;(with_reducible refine(js _).mono ?_);rintro e w12 ⟨rfl,hb⟩;have HA12:=am (HA11.out.below hb);have K12:Aside0 (aq b.W w7 w12):=⟨K11.out.step (aq.of_below hb)⟩;clear hb))
         go_roundw
         case rel=>exact⟨k+1,_,by go_num,HLT.out,HA12,K12,⟨by rw[<-HN8.out,←HNL.out]⟩,⟨by
          rw[<-E8.out,HDr.out,Hp.noteAll,HPt.out,HN.out];dsimp only;rw[HPq.out,HS.out];rfl⟩⟩
         case measure=>have:=HLT.out;simp[intOf];omega
        ·have E9:Aside0 (RR=(se,{s7 with m:=sm,now:=now1,kept:=kept1})):=⟨by
          rw[<-E8.out,HDr.out,Hp.noteAll,HPt.out,HN.out];dsimp only;rw[HPq.out,HS.out];simp[s0]⟩
         go_wp2_with (first
          |(go_at_call 97;(with_reducible refine(jm.calls (iN:Int) (pg:Int) _ HPg.out).mono ?_);rintro e w9 ⟨rfl,hb⟩;have HA9:=am (HA8.out.below hb);have K9:Aside0 (aq b.W w7 w9):=⟨K8.out.step (aq.of_below hb)⟩;have g7:w9.cell? ⟨b.H,7,none⟩=some (.pointer (some ⟨b.q.K,0,none⟩)):=(aj HA9.out.box 7).trans rfl;clear hb)
          |(go_at_call 144;(with_reducible refine(HNote.out _ HA9.out.cnt).mono ?_);rintro e w10 ⟨rfl,hc_,k_⟩;have HA10:=am (HA9.out.counted hc_ k_);have K10:Aside0 (aq b.W w7 w10):=⟨K9.out.step (k_.mono (fun _ _ e=>.inr (.inr e)))⟩;have g0:w10.cell? ⟨b.H,0,none⟩=some (.pointer (some ⟨b.M,0,none⟩)):=(aj HA10.out.box 0).trans rfl;clear hc_ k_ g7)
          |(go_at_call 107;(with_reducible refine(HSet.out _ HA10.out).mono ?_);rintro e w11 ⟨rfl,ha_,k_⟩;have HA11:=am ha_;have K11:Aside0 (aq b.W w7 w11):=⟨K10.out.step k_⟩;clear ha_ k_ g0)
          |(go_at_call 102;(with_reducible refine(m6 s0 _).mono ?_);rintro e w12 ⟨rfl,hb⟩;have HA12:=am (HA11.out.below hb);have K12:Aside0 (aq b.W w7 w12):=⟨K11.out.step (aq.of_below hb)⟩;clear hb))
         refine⟨rfl,?_⟩;rw[E9.out];exact⟨HA12.out,K7.out.step K12.out,fun h=>absurd h s0,fun _=>rfl⟩
      ·have hkk:k=(Sp.lines es).length:=by omega
       subst hkk;have d4:decide (((Sp.lines es).length:Int)<(Sp.lines es).length)=false:=ah (by omega);have E9:Aside0 (RR=(0,s7)):=⟨by rw[<-E8.out,List.drop_length];rfl⟩;go_wp2;go_end0;rw[E9.out];exact⟨HA8.out,K7.out.step K8.out,fun _=>rfl,fun h=>absurd rfl h⟩
   ·have E1:Aside0 (RR=(ce,{st with m:=m1,puts:=p1,worn:=st.worn||ce==3})):=⟨by rw[<-HRR.out,Hp.commit,HRC.out];simp[c0]⟩;have C0:=am c0;clear c0;obtain⟨fw,hfw⟩:∃ fw,st.worn=fw:=⟨_,rfl⟩;have HWf:=am hfw;clear hfw;cases fw
    ·by_cases c3:ce=3
     ·subst c3;have E3:Aside0 ((3:Int)=3):=⟨rfl⟩;have g8:wr.cell? ⟨b.H,8,none⟩=some (.bool false):=(aj HA.out.box 8).trans (by rw[HWf.out];rfl);have E2:Aside0 (RR=(3,{m:=m1,puts:=p1,now:=st.now,kept:=st.kept,worn:=true})):=⟨by rw[E1.out,HWf.out];simp[E3.out]⟩;go_wp2_with (first
       |(go_at_call 143;(with_reducible refine HCm.out.mono ?_);rintro e w5 ⟨rfl,h5_,k5_⟩;have HA5:=am (HA.out.turned h5_ k5_);have K5:Aside0 (aq b.W w w5):=⟨KW.out.step (HA.out.w_of_mct k5_)⟩;have g5:w5.cell? ⟨b.H,8,none⟩=some (.bool false):=(aj HA5.out.box 8).trans (by rw[HWf.out];rfl);have f5:w5.frozen? ⟨b.H,8,none⟩=false:=ak HA5.out.box 8;clear h5_ k5_ g8)
       |(go_at_call 102;(with_reducible refine(m6 C0.out _).mono ?_);rintro e w6 ⟨rfl,hb⟩;have HA6:=am ((HA5.out.flag true).below hb);have K6:Aside0 (aq b.W w w6):=⟨(K5.out.set (p:=⟨b.H,8,none⟩) (.inl (.inr (.inl rfl))) (.bool true)).step (aq.of_below hb)⟩;clear hb g5 f5))
      refine⟨rfl,?_⟩;rw[E2.out];exact⟨HA6.out,K6.out,fun h=>absurd h C0.out,fun _=>rfl⟩
     ·have b3:(ce==3)=false:=beq_eq_false_iff_ne.2 c3;have E3:=am c3;clear c3;have g8:wr.cell? ⟨b.H,8,none⟩=some (.bool false):=(aj HA.out.box 8).trans (by rw[HWf.out];rfl);have E2:Aside0 (RR=(ce,{m:=m1,puts:=p1,now:=st.now,kept:=st.kept,worn:=false})):=⟨by rw[E1.out,HWf.out];simp[E3.out]⟩;go_wp2_with (first
       |(go_at_call 143;(with_reducible refine HCm.out.mono ?_);rintro e w5 ⟨rfl,h5_,k5_⟩;have HA5:=am (HA.out.turned h5_ k5_);have K5:Aside0 (aq b.W w w5):=⟨KW.out.step (HA.out.w_of_mct k5_)⟩;have g5:w5.cell? ⟨b.H,8,none⟩=some (.bool false):=(aj HA5.out.box 8).trans (by rw[HWf.out];rfl);have f5:w5.frozen? ⟨b.H,8,none⟩=false:=ak HA5.out.box 8;clear h5_ k5_ g8)
       |(go_at_call 102;(with_reducible refine(m6 C0.out _).mono ?_);rintro e w6 ⟨rfl,hb⟩;have HA6:=am ((HA5.out.flag false).below hb);have K6:Aside0 (aq b.W w w6):=⟨(K5.out.set (p:=⟨b.H,8,none⟩) (.inl (.inr (.inl rfl))) (.bool false)).step (aq.of_below hb)⟩;clear hb g5 f5))
      refine⟨rfl,?_⟩;rw[E2.out];exact⟨HA6.out,K6.out,fun h=>absurd h C0.out,fun _=>rfl⟩
    ·have E3:Aside0 ((3:Int)=3):=⟨rfl⟩;have g8:wr.cell? ⟨b.H,8,none⟩=some (.bool true):=(aj HA.out.box 8).trans (by rw[HWf.out];rfl);have E2:Aside0 (RR=(ce,{m:=m1,puts:=p1,now:=st.now,kept:=st.kept,worn:=true})):=⟨by rw[E1.out,HWf.out];simp[E3.out]⟩;go_wp2_with (first
      |(go_at_call 143;(with_reducible refine HCm.out.mono ?_);rintro e w5 ⟨rfl,h5_,k5_⟩;have HA5:=am (HA.out.turned h5_ k5_);have K5:Aside0 (aq b.W w w5):=⟨KW.out.step (HA.out.w_of_mct k5_)⟩;have g5:w5.cell? ⟨b.H,8,none⟩=some (.bool true):=(aj HA5.out.box 8).trans (by rw[HWf.out];rfl);have f5:w5.frozen? ⟨b.H,8,none⟩=false:=ak HA5.out.box 8;clear h5_ k5_ g8)
      |(go_at_call 102;(with_reducible refine(m6 C0.out _).mono ?_);rintro e w6 ⟨rfl,hb⟩;have HA6:=am ((HA5.out.flag true).below hb);have K6:Aside0 (aq b.W w w6):=⟨(K5.out.set (p:=⟨b.H,8,none⟩) (.inl (.inr (.inl rfl))) (.bool true)).step (aq.of_below hb)⟩;clear hb g5 f5))
     refine⟨rfl,?_⟩;rw[E2.out];exact⟨HA6.out,K6.out,fun h=>absurd h C0.out,fun _=>rfl⟩
end
def l5(n:Int)(v:Value)(e:Ending):Prop:=(n=0->e=.returned v)/\(n≠0->Leaves n e)
theorem l5.ok(v:Value):l5 0 v (.returned v):=⟨fun _=>rfl,fun h=>absurd rfl h⟩
theorem l5.no{n:Int}{v:Value}{e:Ending}(hn:n≠0)(h:Leaves n e):l5 n v e:=⟨fun h=>absurd h hn,fun _=>h⟩
structure EdOk (p:Pn) (es:List S160):Prop where
 len:es.length<=1000
 ne:0<(Sp.linesTo es).length
 bd:∀ e∈es,0<=e.f0/\e.f0<p.lines*8
structure StOk (p:Pn) (st:St):Prop where
 rd:st.m.down=false->Lg.Rd p.shape st.m
 cnt:Lg.count st.m<=14
 now:st.now.length=((p.lines+3) / 4).toNat
 mv:st.m.regs.getD 0 0+40<=4611686018427387904
theorem xb{w:World}{M C L T:Nat}{p:Pn}{m:Mem}{puts:Int}(h:TurnAt w M C L T p.shape m puts)(hp:p.Ok)(hrd:Lg.Rd p.shape m)(hd:m.down=false)(hc:Lg.count m<=14):∀ k:Nat,(k:Int)<=p.lines->(Hp.wordsTo p m k).length=k*8
 |0,_=>rfl
 |k+1,hk=>by
  have h1:=hp.l1
  rw[Hp.wordsTo,List.length_append,xb h hp hrd hd hc k (by omega)]
  have:=(qj1 h (by show 17<=16+p.lines;omega) hrd hd hc (line:=16+(k:Int)) (by omega) (by show 16+(k:Int)<16+p.lines;omega)).1
  unfold Hp.lineAt
  omega
namespace Hp
abbrev ws(p:Pn)(st:St):List Int:=wordsTo p st.m p.lines.toNat
def AllocR(p:Pn)(st:St)(n e off:Int)(st':St):Prop:=
 (st.m.down=true/\e=2/\off=0/\st'=st)∨
 (st.m.down=false/\jx.f n=some 0/\e=1/\off=0/\st'=st)∨
 (∃ z,st.m.down=false/\jx.f n=some z/\z≠0/\isWorn st.worn st.m=true/\e=3/\off=0/\st'=st)∨
 (∃ z es o1,st.m.down=false/\jx.f n=some z/\z≠0/\isWorn st.worn st.m=false/\e≠0/\off=0/\st'=st/\uk (ws p st) n st.now es o1 e)∨
 (∃ z es o1,st.m.down=false/\jx.f n=some z/\z≠0/\isWorn st.worn st.m=false/\EdOk p es/\uk (ws p st) n st.now es o1 0/\e=(commit p st (ws p st) es).1/\st'=(commit p st (ws p st) es).2/\off=if e=0 then o1 else 0)
end Hp
namespace Hp
def FreeR(p:Pn)(st:St)(off e:Int)(st':St):Prop:=
 (st.m.down=true/\e=2/\st'=st)∨
 (∃ es,st.m.down=false/\e≠0/\st'=st/\Ev (fun k=>ic.f k (ws p st) off) (es,e))∨
 (∃ es,st.m.down=false/\e=5/\st'=st/\wrap64 (st.m.regs.getD 2 0)=off/\Ev (fun k=>ic.f k (ws p st) off) (es,0))∨
 (∃ es,st.m.down=false/\e=3/\st'=st/\wrap64 (st.m.regs.getD 2 0)≠off/\isWorn st.worn st.m=true/\Ev (fun k=>ic.f k (ws p st) off) (es,0))∨
 (∃ es,st.m.down=false/\wrap64 (st.m.regs.getD 2 0)≠off/\isWorn st.worn st.m=false/\EdOk p es/\Ev (fun k=>ic.f k (ws p st) off) (es,0)/\e=(commit p st (ws p st) es).1/\st'=(commit p st (ws p st) es).2)
def ReadR(p:Pn)(st:St)(off n e:Int)(bs:List Int):Prop:=
 (st.m.down=true/\e=2/\bs=[])∨
 (∃ bs',st.m.down=false/\e≠0/\bs=[]/\Ev (fun k=>jy.f k (ws p st) off n) (bs',e))∨
 (st.m.down=false/\e=0/\Ev (fun k=>jy.f k (ws p st) off n) (bs,0))
def WriteR(p:Pn)(st:St)(off:Int)(bs:List Int)(e:Int)(st':St):Prop:=
 (st.m.down=true/\e=2/\st'=st)∨
 (∃ es,st.m.down=false/\e≠0/\st'=st/\Ev (fun k=>gv.f k (ws p st) off bs) (es,e))∨
 (st.m.down=false/\e=0/\st'=st/\Ev (fun k=>gv.f k (ws p st) off bs) ([],0))∨
 (∃ es,st.m.down=false/\e=3/\st'=st/\es≠[]/\isWorn st.worn st.m=true/\es.length<=1000000/\Ev (fun k=>gv.f k (ws p st) off bs) (es,0))∨
 (∃ es,st.m.down=false/\isWorn st.worn st.m=false/\EdOk p es/\Ev (fun k=>gv.f k (ws p st) off bs) (es,0)/\e=(commit p st (ws p st) es).1/\st'=(commit p st (ws p st) es).2)
def RootR(p:Pn)(st:St)(off e:Int)(st':St):Prop:=
 (st.m.down=true/\e=2/\st'=st)∨
 (st.m.down=false/\e=1/\st'=st/\off≠0/\Ev (fun k=>jn.f k (ws p st) off) false)∨
 (st.m.down=false/\e=3/\st'=st/\(off=0\/Ev (fun k=>jn.f k (ws p st) off) true)/\isWorn st.worn st.m=true)∨
 (st.m.down=false/\(off=0\/Ev (fun k=>jn.f k (ws p st) off) true)/\isWorn st.worn st.m=false/\e=(Nvm.set st.m 2 (IntKind.u64.wrap off)).1/\st'={st with m:=(Nvm.set st.m 2 (IntKind.u64.wrap off)).2})
end Hp
def qfi(b:Bl)(p:Pn)(st:St)(ws:List Int)(es:List S160)(c:Int×St):Prop:=∀ w' (base:Nat) (ok:Nat->Prop) (A:Option Addr) (cc:Nat) (base':Nat) (ok':Nat->Prop) (A':Option Addr) (c':Nat),HeapAt w' b p st->Kd.R (Kd.int .u64) 25 w' base ok (.slice A ws.length cc) ws->Kd.R jp 160 w' base' ok' (.slice A' es.length c') es->(∀ j,base'≤j→¬ b.All j)→
 Calls Tryz.prog 103 #[.pointer (some ⟨b.H,0,none⟩), .slice A ws.length cc, .slice A' es.length c'] w' fun e w''=>HeapAt w'' b p c.2/\aq b.W w' w''∧(c.1=0->e=.returned (.tuple #[]))/\(c.1≠0->Leaves c.1 e)
theorem qfv{b:Bl}{p:Pn}{st:St}{ws:List Int}{es:List S160}{c:Int×St}(hp:p.Ok)(hs:StOk p st)(hok:EdOk p es)(hl:ws.length=p.lines.toNat*8)(hc:Hp.commit p st ws es=c):qfi b p st ws es c:=fun w' base ok A cc base' ok' A' c' h1 h2 h3 h4=>by
 subst hc;exact qec h1 hp base ok A cc ws h2 hl base' ok' A' c' es h3 (by have:=hok.len;omega) hok.ne hok.bd h4 hs.now hs.mv
theorem qfi.go{b:Bl}{p:Pn}{st:St}{ws:List Int}{es:List S160}{c:Int×St}(h:qfi b p st ws es c){w':World}{base:Nat}{ok:Nat->Prop}{A:Option Addr}{cc base':Nat}{ok':Nat->Prop}{A':Option Addr}{c':Nat}(h1:HeapAt w' b p st)(h2:Kd.R (Kd.int .u64) 25 w' base ok (.slice A ws.length cc) ws)(h3:Kd.R jp 160 w' base' ok' (.slice A' es.length c') es)(h4:∀ j,base'≤j→¬ b.All j):
  Calls Tryz.prog 103 #[.pointer (some ⟨b.H,0,none⟩), .slice A ws.length cc, .slice A' es.length c'] w' fun e w''=>HeapAt w'' b p c.2/\aq b.W w' w''∧(c.1=0->e=.returned (.tuple #[]))/\(c.1≠0->Leaves c.1 e):=h _ _ _ _ _ _ _ _ _ h1 h2 h3 h4
section
variable{w:World}{b:Bl}{p:Pn}{st:St}
theorem HeapAt.wl(h:HeapAt w b p st)(hp:p.Ok)(hs:StOk p st)(hd:st.m.down=false):(Hp.ws p st).length=p.lines.toNat*8:=xb h.tur hp (hs.rd hd) hd hs.cnt _ (by have:=hp.l1;omega)
theorem qbe(h:HeapAt w b p st)(hp:p.Ok)(hs:StOk p st)(n e off:Int)(st':St)(hr:Hp.AllocR p st n e off st'):Calls Tryz.prog 50 #[.pointer (some ⟨b.H,0,none⟩), .int .i64 n] w fun x w'=>HeapAt w' b p st'∧aq b.W w w'∧l5 e (.int .i64 off) x:=by
 have H0:=am h;unfold Hp.AllocR Hp.ws at hr;rcases hr with⟨hd,rfl,rfl,rfl⟩|⟨hd,hz,rfl,rfl,rfl⟩|⟨z,hd,hz,hzn,hw,rfl,rfl,rfl⟩|⟨z,es,o1,hd,hz,hzn,hw,he,rfl,rfl,hev⟩|⟨z,es,o1,hd,hz,hzn,hw,hok,hev,he,hst,hof⟩
 ·have HW:=am (xd h.tur h.log h.box hp hs.cnt hd);clear h hs hd;go_enter Tryz.func50,Tryz.ntmps50;go_wp2_with (first|(go_at_call 98;(with_reducible refine HW.out.mono ?_);rintro e w1 ⟨rfl,hb⟩;have HB:=am hb;clear hb))
  exact⟨rfl,H0.out.below HB.out,aq.of_below HB.out,l5.no (by decide) rfl⟩
 ·have HW:=am (ji h.tur h.log h.box hp hs.rd hs.cnt hd);have HZ:=am hz;clear h hs hd hz;go_enter Tryz.func50,Tryz.ntmps50;go_wp2_with (first
   |(go_at_call 98;(with_reducible refine HW.out.mono ?_);rintro e w1 ⟨v,rfl,ho,hb⟩;have HB:=am hb;clear hb ho)
   |(go_at_call 99;(with_reducible refine(jx.calls n 0 _ HZ.out).mono ?_);rintro e w2 ⟨rfl,⟨nd,rfl⟩⟩;have HB2:=am (bq HB.out nd)))
  simp[Oper.upon,Instr.panic,goPanic,go_sem];exact⟨rfl,H0.out.below HB2.out,aq.of_below HB2.out,l5.no (by decide) rfl⟩
 ·have HW:=am (ji h.tur h.log h.box hp hs.rd hs.cnt hd);have HZ:=am hz;have b0:(z==0)=false:=beq_eq_false_iff_ne.2 hzn;have HWn:=am hw;clear h hs hd hz hzn hw;go_enter Tryz.func50,Tryz.ntmps50;go_wp2_with (first
   |(go_at_call 98;(with_reducible refine HW.out.mono ?_);rintro e w1 ⟨v,rfl,ho,hb⟩;have HB:=am hb;clear hb ho)
   |(go_at_call 99;(with_reducible refine(jx.calls n z _ HZ.out).mono ?_);rintro e w2 ⟨rfl,⟨nd,rfl⟩⟩;have HB2:=am (bq HB.out nd);have HA2:=am (H0.out.below HB2.out))
   |(go_at_call 100;(with_reducible refine(oy HA2.out.box HA2.out.tur.mem HA2.out.log HWn.out).mono ?_);rintro e w3 ⟨rfl,rfl⟩))
  exact⟨rfl,HA2.out,aq.of_below HB2.out,l5.no (by decide) rfl⟩
 ·have HW:=am (ji h.tur h.log h.box hp hs.rd hs.cnt hd);have HZ:=am hz;have b0:(z==0)=false:=beq_eq_false_iff_ne.2 hzn;have HWn:=am hw;have HE:=am he;have hk:=hev;have HK:=am (hk);have HN0:Aside0 (0<st'.now.length):=⟨by have:=hs.now;have:=hp.l1;omega⟩;have HN1:Aside0 (st'.now.length<=1000000):=⟨by have:=hs.now;have:=hp.l2;omega⟩;clear h hs hd hz hzn hw he hk;generalize Hp.wordsTo p st'.m p.lines.toNat=ws at HW HK;go_enter Tryz.func50,Tryz.ntmps50;go_wp2_with (first
   |(go_at_call 98;(with_reducible refine HW.out.mono ?_);rintro e w1 ⟨v,rfl,ho,hb⟩;obtain⟨Aw,cw,ew,hcw,hrw⟩:=Kd.R_reads ho;subst ew;have HB:=am hb;have HC1:=am hcw;have HR1:=am hrw;have g7:w1.cell? ⟨b.H,7,none⟩=some (.pointer (some ⟨b.q.K,0,none⟩)):=(aj (H0.out.below hb).box 7).trans rfl;clear hb ho hcw hrw)
   |(go_at_call 99;(with_reducible refine(jx.calls n z _ HZ.out).mono ?_);rintro e w2 ⟨rfl,⟨nd,rfl⟩⟩;have HB2:=am (bq HB.out nd);have HA2:=am (H0.out.below HB2.out);have HR2:=am (Kd.C_below HR1.out (bq (ai _ _) nd)))
   |(go_at_call 100;(with_reducible refine(im HA2.out.box HA2.out.tur.mem HA2.out.log HWn.out).mono ?_);rintro e w3 ⟨rfl,rfl⟩)
   |(go_at_call 76;(with_reducible refine(xg HA2.out.cnt HN0.out HN1.out).mono ?_);rintro e w4 ⟨v4,rfl,ho,hb⟩;obtain⟨An,cn,en,hcn,hrn⟩:=Kd.R_reads ho;subst en;have HB4:=am (aa HB2.out hb);have HR4:=am (Kd.C_below HR2.out hb);have HCn:=am hcn;have HRn:=am hrn;clear hb ho hcn hrn)
   |(go_at_call 101;(with_reducible refine(HK.out _ Aw cw An cn HR4.out HC1.out HRn.out HCn.out).mono ?_);rintro x w5 ⟨v5,rfl,ho,hb⟩;have HB5:=am (aa HB4.out hb);clear ho hb)
   |(go_at_call 102;(with_reducible refine(m6 HE.out _).mono ?_);rintro x w6 ⟨rfl,hb⟩;have HB6:=am (aa HB5.out hb);clear hb))
  exact⟨rfl,H0.out.below HB6.out,aq.of_below HB6.out,l5.no HE.out rfl⟩
 ·have HWL:Aside0 ((Hp.wordsTo p st.m p.lines.toNat).length=p.lines.toNat*8):=⟨h.wl hp hs hd⟩;have HW:=am (ji h.tur h.log h.box hp hs.rd hs.cnt hd);have HZ:=am hz;have b0:(z==0)=false:=beq_eq_false_iff_ne.2 hzn;have HWn:=am hw;have hk:=hev;have HK:=am (hk);have HN0:Aside0 (0<st.now.length):=⟨by have:=hs.now;have:=hp.l1;omega⟩;have HN1:Aside0 (st.now.length<=1000000):=⟨by have:=hs.now;have:=hp.l2;omega⟩;have HLt:=am h.lt;clear h hd hz hzn hw hk;generalize Hp.wordsTo p st.m p.lines.toNat=ws at HW HK HWL he hst;obtain⟨c,hc⟩:∃ c,Hp.commit p st ws es=c:=⟨_,rfl⟩;have HCm:=am (qfv (b:=b) hp hs hok HWL.out hc);rw[hc]at he hst;clear hp hs hok;subst hst;subst he;subst hof;clear hc;by_cases c0:c.1=0
  ·have C0:=am c0;rw[c0];clear c0;go_enter Tryz.func50,Tryz.ntmps50;go_wp2_with (first
    |(go_at_call 98;(with_reducible refine HW.out.mono ?_);rintro e w1 ⟨v,rfl,ho,hb⟩;obtain⟨Aw,cw,ew,hcw,hrw⟩:=Kd.R_reads ho;subst ew;have HB:=am hb;have HC1:=am hcw;have HO1:=am ho;have HR1:=am hrw;have g7:w1.cell? ⟨b.H,7,none⟩=some (.pointer (some ⟨b.q.K,0,none⟩)):=(aj (H0.out.below hb).box 7).trans rfl;clear hb ho hcw hrw)
    |(go_at_call 99;(with_reducible refine(jx.calls n z _ HZ.out).mono ?_);rintro e w2 ⟨rfl,⟨nd,rfl⟩⟩;have HB2:=am (bq HB.out nd);have HA2:=am (H0.out.below HB2.out);have HR2:=am (Kd.C_below HR1.out (bq (ai _ _) nd));have HO2:=am (Kd.R_below HO1.out (bq (ai _ _) nd)))
    |(go_at_call 100;(with_reducible refine(im HA2.out.box HA2.out.tur.mem HA2.out.log HWn.out).mono ?_);rintro e w3 ⟨rfl,rfl⟩)
    |(go_at_call 76;(with_reducible refine(xg HA2.out.cnt HN0.out HN1.out).mono ?_);rintro e w4 ⟨v4,rfl,ho,hb⟩;obtain⟨An,cn,en,hcn,hrn⟩:=Kd.R_reads ho;subst en;have HB4:=am (aa HB2.out hb);have HR4:=am (Kd.C_below HR2.out hb);have HO4:=am (Kd.R_below HO2.out hb);have HCn:=am hcn;have HRn:=am hrn;clear hb ho hcn hrn)
    |(go_at_call 101;(with_reducible refine(HK.out _ Aw cw An cn HR4.out HC1.out HRn.out HCn.out).mono ?_);rintro x w5 ⟨v5,rfl,ho,hb⟩;obtain⟨Ae,ce,ee⟩:=Kd.R_slice ho;subst ee;have HO5:=am (Kd.R_below HO4.out hb);have HE5:=am ho;have HB5:=am (aa HB4.out hb);clear ho hb)
    |(go_at_call 102;(with_reducible refine(js _).mono ?_);rintro x w6 ⟨rfl,hb⟩;have HO6:=am (Kd.R_below HO5.out hb);have HE6:=am (Kd.R_below HE5.out hb);have HB6:=am (aa HB5.out hb);clear hb)
    |(go_at_call 103;(with_reducible refine(HCm.out.go (H0.out.below HB6.out) HO6.out HE6.out (fun j hj=>HLt.out j (by have:=HB4.out.size;omega))).mono ?_);rintro x w7 ⟨h7,k7,hy,hn⟩;obtain rfl:=hy C0.out;have HA7:=am h7;have K7:Aside0 (aq b.W w w7):=⟨(aq.of_below HB6.out).step k7⟩;clear h7 k7 hy hn))
   go_ret;exact⟨HA7.out,K7.out,l5.ok _⟩
  ·have C0:=am c0;rw[if_neg c0];clear c0;go_enter Tryz.func50,Tryz.ntmps50;go_wp2_with (first
    |(go_at_call 98;(with_reducible refine HW.out.mono ?_);rintro e w1 ⟨v,rfl,ho,hb⟩;obtain⟨Aw,cw,ew,hcw,hrw⟩:=Kd.R_reads ho;subst ew;have HB:=am hb;have HC1:=am hcw;have HO1:=am ho;have HR1:=am hrw;have g7:w1.cell? ⟨b.H,7,none⟩=some (.pointer (some ⟨b.q.K,0,none⟩)):=(aj (H0.out.below hb).box 7).trans rfl;clear hb ho hcw hrw)
    |(go_at_call 99;(with_reducible refine(jx.calls n z _ HZ.out).mono ?_);rintro e w2 ⟨rfl,⟨nd,rfl⟩⟩;have HB2:=am (bq HB.out nd);have HA2:=am (H0.out.below HB2.out);have HR2:=am (Kd.C_below HR1.out (bq (ai _ _) nd));have HO2:=am (Kd.R_below HO1.out (bq (ai _ _) nd)))
    |(go_at_call 100;(with_reducible refine(im HA2.out.box HA2.out.tur.mem HA2.out.log HWn.out).mono ?_);rintro e w3 ⟨rfl,rfl⟩)
    |(go_at_call 76;(with_reducible refine(xg HA2.out.cnt HN0.out HN1.out).mono ?_);rintro e w4 ⟨v4,rfl,ho,hb⟩;obtain⟨An,cn,en,hcn,hrn⟩:=Kd.R_reads ho;subst en;have HB4:=am (aa HB2.out hb);have HR4:=am (Kd.C_below HR2.out hb);have HO4:=am (Kd.R_below HO2.out hb);have HCn:=am hcn;have HRn:=am hrn;clear hb ho hcn hrn)
    |(go_at_call 101;(with_reducible refine(HK.out _ Aw cw An cn HR4.out HC1.out HRn.out HCn.out).mono ?_);rintro x w5 ⟨v5,rfl,ho,hb⟩;obtain⟨Ae,ce,ee⟩:=Kd.R_slice ho;subst ee;have HO5:=am (Kd.R_below HO4.out hb);have HE5:=am ho;have HB5:=am (aa HB4.out hb);clear ho hb)
    |(go_at_call 102;(with_reducible refine(js _).mono ?_);rintro x w6 ⟨rfl,hb⟩;have HO6:=am (Kd.R_below HO5.out hb);have HE6:=am (Kd.R_below HE5.out hb);have HB6:=am (aa HB5.out hb);clear hb)
    |(go_at_call 103;(with_reducible refine(HCm.out.go (H0.out.below HB6.out) HO6.out HE6.out (fun j hj=>HLt.out j (by have:=HB4.out.size;omega))).mono ?_);rintro x w7 ⟨h7,k7,hy,hn⟩;obtain rfl:=hn C0.out;have HA7:=am h7;have K7:Aside0 (aq b.W w w7):=⟨(aq.of_below HB6.out).step k7⟩;clear h7 k7 hy hn))
   exact⟨rfl,HA7.out,K7.out,l5.no C0.out rfl⟩
theorem qc1(h:HeapAt w b p st)(hp:p.Ok)(hs:StOk p st)(off e:Int)(st':St)(hr:Hp.FreeR p st off e st'):Calls Tryz.prog 51 #[.pointer (some ⟨b.H,0,none⟩), .int .i64 off] w fun x w'=>HeapAt w' b p st'∧aq b.W w w'∧l5 e (.tuple #[]) x:=by
 have H0:=am h;unfold Hp.FreeR Hp.ws at hr;rcases hr with⟨hd,he,hst⟩|⟨es,hd,he,hst,hev⟩|⟨es,hd,he,hst,hro,hev⟩|⟨es,hd,he,hst,hro,hw,hev⟩|⟨es,hd,hro,hw,hok,hev,he,hst⟩
 ·subst he;subst hst;have HW:=am (xd h.tur h.log h.box hp hs.cnt hd);clear h hs hd;go_enter Tryz.func51,Tryz.ntmps51;go_wp2_with (first|(go_at_call 98;(with_reducible refine HW.out.mono ?_);rintro e w1 ⟨rfl,hb⟩;have HB:=am hb;clear hb))
  exact⟨rfl,H0.out.below HB.out,aq.of_below HB.out,l5.no (by decide) rfl⟩
 ·subst hst;obtain⟨k0,hk⟩:=hev;have HK:=am (hk k0 (an _));have HW:=am (ji h.tur h.log h.box hp hs.rd hs.cnt hd);have HD:=am hd;have HE:=am he;clear h hs hd he hk;generalize Hp.wordsTo p st'.m p.lines.toNat=ws at HW HK;go_enter Tryz.func51,Tryz.ntmps51;go_wp2_with (first
   |(go_at_call 98;(with_reducible refine HW.out.mono ?_);rintro e w1 ⟨v,rfl,ho,hb⟩;obtain⟨Aw,cw,ew,hcw,hrw⟩:=Kd.R_reads ho;subst ew;have HB1:=am hb;have HA1:=am (H0.out.below hb);have HC1:=am hcw;have HO1:=am ho;have HR1:=am hrw;clear hb ho hcw hrw)
   |(go_at_call 104;(with_reducible refine(ic.calls k0 Aw cw ws off es e _ HR1.out HC1.out HK.out).mono ?_);rintro x w2 ⟨v2,rfl,ho,hb⟩;obtain⟨Ae,ce,ee⟩:=Kd.R_slice ho;subst ee;have HO2:=am (Kd.R_below HO1.out hb);have HE2:=am ho;have HB2:=am (aa HB1.out hb);have HA2:=am (HA1.out.below hb);clear ho hb)
   |(go_at_call 102;(with_reducible refine(m6 HE.out _).mono ?_);rintro x w3 ⟨rfl,hb⟩;have HB3:=am (aa HB2.out hb);clear hb))
  exact⟨rfl,H0.out.below HB3.out,aq.of_below HB3.out,l5.no HE.out rfl⟩
 ·subst hst;subst he;obtain⟨k0,hk⟩:=hev;have HK:=am (hk k0 (an _));have HW:=am (ji h.tur h.log h.box hp hs.rd hs.cnt hd);have HD:=am hd;have b0:(wrap64 (st'.m.regs.getD 2 0)==off)=true:=beq_iff_eq.2 hro;clear h hs hd hro hk;generalize Hp.wordsTo p st'.m p.lines.toNat=ws at HW HK;have HRt:Aside0 (∀ w',HeapAt w' b p st'→Calls Tryz.prog 55 #[.pointer (some ⟨b.H,0,none⟩)] w' fun e w''=>e=.returned (.int .i64 (wrap64 (st'.m.regs.getD 2 0)))/\Below w'.heap.size w' w''):=⟨fun w' hw'=>qcf hw'.box hw'.tur.mem HD.out⟩;generalize wrap64 (st'.m.regs.getD 2 0)=rv at HRt b0;go_enter Tryz.func51,Tryz.ntmps51;go_wp2_with (first
   |(go_at_call 98;(with_reducible refine HW.out.mono ?_);rintro e w1 ⟨v,rfl,ho,hb⟩;obtain⟨Aw,cw,ew,hcw,hrw⟩:=Kd.R_reads ho;subst ew;have HB1:=am hb;have HA1:=am (H0.out.below hb);have HC1:=am hcw;have HO1:=am ho;have HR1:=am hrw;clear hb ho hcw hrw)
   |(go_at_call 104;(with_reducible refine(ic.calls k0 Aw cw ws off es 0 _ HR1.out HC1.out HK.out).mono ?_);rintro x w2 ⟨v2,rfl,ho,hb⟩;obtain⟨Ae,ce,ee⟩:=Kd.R_slice ho;subst ee;have HO2:=am (Kd.R_below HO1.out hb);have HE2:=am ho;have HB2:=am (aa HB1.out hb);have HA2:=am (HA1.out.below hb);clear ho hb)
   |(go_at_call 102;(with_reducible refine(js _).mono ?_);rintro x w3 ⟨rfl,hb⟩;have HO3:=am (Kd.R_below HO2.out hb);have HE3:=am (Kd.R_below HE2.out hb);have HB3:=am (aa HB2.out hb);have HA3:=am (HA2.out.below hb);clear hb)
   |(go_at_call 55;(with_reducible refine(HRt.out _ HA3.out).mono ?_);rintro x w4 ⟨rfl,hb⟩;have HO4:=am (Kd.R_below HO3.out hb);have HE4:=am (Kd.R_below HE3.out hb);have HB4:=am (aa HB3.out hb);have HA4:=am (HA3.out.below hb);clear hb))
  simp[Oper.upon,Instr.panic,goPanic,go_sem];exact⟨rfl,HA4.out,aq.of_below HB4.out,l5.no (by decide) rfl⟩
 ·subst hst;subst he;obtain⟨k0,hk⟩:=hev;have HK:=am (hk k0 (an _));have HW:=am (ji h.tur h.log h.box hp hs.rd hs.cnt hd);have HD:=am hd;have HWn:=am hw;have b0:(wrap64 (st'.m.regs.getD 2 0)==off)=false:=beq_eq_false_iff_ne.2 hro;clear h hs hd hro hk hw;generalize Hp.wordsTo p st'.m p.lines.toNat=ws at HW HK;have HRt:Aside0 (∀ w',HeapAt w' b p st'→Calls Tryz.prog 55 #[.pointer (some ⟨b.H,0,none⟩)] w' fun e w''=>e=.returned (.int .i64 (wrap64 (st'.m.regs.getD 2 0)))/\Below w'.heap.size w' w''):=⟨fun w' hw'=>qcf hw'.box hw'.tur.mem HD.out⟩;generalize wrap64 (st'.m.regs.getD 2 0)=rv at HRt b0;go_enter Tryz.func51,Tryz.ntmps51;go_wp2_with (first
   |(go_at_call 98;(with_reducible refine HW.out.mono ?_);rintro e w1 ⟨v,rfl,ho,hb⟩;obtain⟨Aw,cw,ew,hcw,hrw⟩:=Kd.R_reads ho;subst ew;have HB1:=am hb;have HA1:=am (H0.out.below hb);have HC1:=am hcw;have HO1:=am ho;have HR1:=am hrw;clear hb ho hcw hrw)
   |(go_at_call 104;(with_reducible refine(ic.calls k0 Aw cw ws off es 0 _ HR1.out HC1.out HK.out).mono ?_);rintro x w2 ⟨v2,rfl,ho,hb⟩;obtain⟨Ae,ce,ee⟩:=Kd.R_slice ho;subst ee;have HO2:=am (Kd.R_below HO1.out hb);have HE2:=am ho;have HB2:=am (aa HB1.out hb);have HA2:=am (HA1.out.below hb);clear ho hb)
   |(go_at_call 102;(with_reducible refine(js _).mono ?_);rintro x w3 ⟨rfl,hb⟩;have HO3:=am (Kd.R_below HO2.out hb);have HE3:=am (Kd.R_below HE2.out hb);have HB3:=am (aa HB2.out hb);have HA3:=am (HA2.out.below hb);clear hb)
   |(go_at_call 55;(with_reducible refine(HRt.out _ HA3.out).mono ?_);rintro x w4 ⟨rfl,hb⟩;have HO4:=am (Kd.R_below HO3.out hb);have HE4:=am (Kd.R_below HE3.out hb);have HB4:=am (aa HB3.out hb);have HA4:=am (HA3.out.below hb);clear hb)
   |(go_at_call 100;(with_reducible refine(oy HA4.out.box HA4.out.tur.mem HA4.out.log HWn.out).mono ?_);rintro e w' ⟨rfl,rfl⟩))
  exact⟨rfl,HA4.out,aq.of_below HB4.out,l5.no (by decide) rfl⟩
 ·have HWL:Aside0 ((Hp.wordsTo p st.m p.lines.toNat).length=p.lines.toNat*8):=⟨h.wl hp hs hd⟩;obtain⟨k0,hk⟩:=hev;have HK:=am (hk k0 (an _));have HW:=am (ji h.tur h.log h.box hp hs.rd hs.cnt hd);have HD:=am hd;have HWn:=am hw;have b0:(wrap64 (st.m.regs.getD 2 0)==off)=false:=beq_eq_false_iff_ne.2 hro;have HLt:=am h.lt;clear h hd hro hk hw;generalize Hp.wordsTo p st.m p.lines.toNat=ws at HW HK HWL he hst;obtain⟨c,hc⟩:∃ c,Hp.commit p st ws es=c:=⟨_,rfl⟩;have HCm:=am (qfv (b:=b) hp hs hok HWL.out hc);rw[hc]at he hst;clear hp hs hok;subst hst;subst he;clear hc;have HRt:Aside0 (∀ w',HeapAt w' b p st->Calls Tryz.prog 55 #[.pointer (some ⟨b.H,0,none⟩)] w' fun e w''=>e=.returned (.int .i64 (wrap64 (st.m.regs.getD 2 0)))/\Below w'.heap.size w' w''):=⟨fun w' hw'=>qcf hw'.box hw'.tur.mem HD.out⟩;generalize wrap64 (st.m.regs.getD 2 0)=rv at HRt b0;by_cases c0:c.1=0
  ·have C0:=am c0;rw[c0];clear c0;go_enter Tryz.func51,Tryz.ntmps51;go_wp2_with (first
    |(go_at_call 98;(with_reducible refine HW.out.mono ?_);rintro e w1 ⟨v,rfl,ho,hb⟩;obtain⟨Aw,cw,ew,hcw,hrw⟩:=Kd.R_reads ho;subst ew;have HB1:=am hb;have HA1:=am (H0.out.below hb);have HC1:=am hcw;have HO1:=am ho;have HR1:=am hrw;clear hb ho hcw hrw)
    |(go_at_call 104;(with_reducible refine(ic.calls k0 Aw cw ws off es 0 _ HR1.out HC1.out HK.out).mono ?_);rintro x w2 ⟨v2,rfl,ho,hb⟩;obtain⟨Ae,ce,ee⟩:=Kd.R_slice ho;subst ee;have HO2:=am (Kd.R_below HO1.out hb);have HE2:=am ho;have HB2:=am (aa HB1.out hb);have HA2:=am (HA1.out.below hb);clear ho hb)
    |(go_at_call 102;(with_reducible refine(js _).mono ?_);rintro x w3 ⟨rfl,hb⟩;have HO3:=am (Kd.R_below HO2.out hb);have HE3:=am (Kd.R_below HE2.out hb);have HB3:=am (aa HB2.out hb);have HA3:=am (HA2.out.below hb);clear hb)
    |(go_at_call 55;(with_reducible refine(HRt.out _ HA3.out).mono ?_);rintro x w4 ⟨rfl,hb⟩;have HO4:=am (Kd.R_below HO3.out hb);have HE4:=am (Kd.R_below HE3.out hb);have HB4:=am (aa HB3.out hb);have HA4:=am (HA3.out.below hb);clear hb)
    |(go_at_call 100;(with_reducible refine(im HA4.out.box HA4.out.tur.mem HA4.out.log HWn.out).mono ?_);rintro e w' ⟨rfl,rfl⟩)
    |(go_at_call 103;(with_reducible refine(HCm.out.go HA4.out HO4.out HE4.out (fun j hj=>HLt.out j (by have:=HB1.out.size;omega))).mono ?_);rintro x w7 ⟨h7,k7,hy,hn⟩;obtain rfl:=hy C0.out;have HA7:=am h7;have K7:Aside0 (aq b.W w w7):=⟨(aq.of_below HB4.out).step k7⟩;clear h7 k7 hy hn))
   go_end0;exact⟨HA7.out,K7.out,l5.ok _⟩
  ·have C0:=am c0;clear c0;go_enter Tryz.func51,Tryz.ntmps51;go_wp2_with (first
    |(go_at_call 98;(with_reducible refine HW.out.mono ?_);rintro e w1 ⟨v,rfl,ho,hb⟩;obtain⟨Aw,cw,ew,hcw,hrw⟩:=Kd.R_reads ho;subst ew;have HB1:=am hb;have HA1:=am (H0.out.below hb);have HC1:=am hcw;have HO1:=am ho;have HR1:=am hrw;clear hb ho hcw hrw)
    |(go_at_call 104;(with_reducible refine(ic.calls k0 Aw cw ws off es 0 _ HR1.out HC1.out HK.out).mono ?_);rintro x w2 ⟨v2,rfl,ho,hb⟩;obtain⟨Ae,ce,ee⟩:=Kd.R_slice ho;subst ee;have HO2:=am (Kd.R_below HO1.out hb);have HE2:=am ho;have HB2:=am (aa HB1.out hb);have HA2:=am (HA1.out.below hb);clear ho hb)
    |(go_at_call 102;(with_reducible refine(js _).mono ?_);rintro x w3 ⟨rfl,hb⟩;have HO3:=am (Kd.R_below HO2.out hb);have HE3:=am (Kd.R_below HE2.out hb);have HB3:=am (aa HB2.out hb);have HA3:=am (HA2.out.below hb);clear hb)
    |(go_at_call 55;(with_reducible refine(HRt.out _ HA3.out).mono ?_);rintro x w4 ⟨rfl,hb⟩;have HO4:=am (Kd.R_below HO3.out hb);have HE4:=am (Kd.R_below HE3.out hb);have HB4:=am (aa HB3.out hb);have HA4:=am (HA3.out.below hb);clear hb)
    |(go_at_call 100;(with_reducible refine(im HA4.out.box HA4.out.tur.mem HA4.out.log HWn.out).mono ?_);rintro e w' ⟨rfl,rfl⟩)
    |(go_at_call 103;(with_reducible refine(HCm.out.go HA4.out HO4.out HE4.out (fun j hj=>HLt.out j (by have:=HB1.out.size;omega))).mono ?_);rintro x w7 ⟨h7,k7,hy,hn⟩;obtain rfl:=hn C0.out;have HA7:=am h7;have K7:Aside0 (aq b.W w w7):=⟨(aq.of_below HB4.out).step k7⟩;clear h7 k7 hy hn))
   exact⟨rfl,HA7.out,K7.out,l5.no C0.out rfl⟩
theorem qdl(h:HeapAt w b p st)(hp:p.Ok)(hs:StOk p st)(off n e:Int)(bs:List Int)(hr:Hp.ReadR p st off n e bs):Calls Tryz.prog 52 #[.pointer (some ⟨b.H,0,none⟩), .int .i64 off, .int .i64 n] w fun x w'=>HeapAt w' b p st/\Below w.heap.size w w'∧∃ v,l5 e v x/\Kd.R (Kd.int .u8) 5 w' w.heap.size (fun _=>True) v bs:=by
 have H0:=am h;unfold Hp.ReadR Hp.ws at hr;rcases hr with⟨hd,he,hst⟩|⟨bs',hd,he,hst,hev⟩|⟨hd,he,hev⟩
 ·subst he;subst hst;have HW:=am (xd h.tur h.log h.box hp hs.cnt hd);clear h hs hd;go_enter Tryz.func52,Tryz.ntmps52;go_wp2_with (first|(go_at_call 98;(with_reducible refine HW.out.mono ?_);rintro e w1 ⟨rfl,hb⟩;have HB:=am hb;clear hb))
  exact⟨rfl,H0.out.below HB.out,HB.out,_,l5.no (by decide) rfl,Kd.R_nil _ _ _ _ _⟩
 ·subst hst;obtain⟨k0,hk⟩:=hev;have HK:=am (hk k0 (an _));have HW:=am (ji h.tur h.log h.box hp hs.rd hs.cnt hd);have HD:=am hd;have HE:=am he;clear h hs hd he hk;generalize Hp.wordsTo p st.m p.lines.toNat=ws at HW HK;go_enter Tryz.func52,Tryz.ntmps52;go_wp2_with (first
   |(go_at_call 98;(with_reducible refine HW.out.mono ?_);rintro e w1 ⟨v,rfl,ho,hb⟩;obtain⟨Aw,cw,ew,hcw,hrw⟩:=Kd.R_reads ho;subst ew;have HB1:=am hb;have HA1:=am (H0.out.below hb);have HC1:=am hcw;have HO1:=am ho;have HR1:=am hrw;clear hb ho hcw hrw)
   |(go_at_call 105;(with_reducible refine(jy.calls k0 Aw cw ws off n _ e _ HR1.out HC1.out HK.out).mono ?_);rintro x w2 ⟨v2,rfl,ho,hb⟩;have HB2:=am (aa HB1.out hb);have HA2:=am (HA1.out.below hb);clear ho hb)
   |(go_at_call 102;(with_reducible refine(m6 HE.out _).mono ?_);rintro x w3 ⟨rfl,hb⟩;have HB3:=am (aa HB2.out hb);clear hb))
  exact⟨rfl,H0.out.below HB3.out,HB3.out,_,l5.no HE.out rfl,Kd.R_nil _ _ _ _ _⟩
 ·subst he;obtain⟨k0,hk⟩:=hev;have HK:=am (hk k0 (an _));have HW:=am (ji h.tur h.log h.box hp hs.rd hs.cnt hd);have HD:=am hd;clear h hs hd hk;generalize Hp.wordsTo p st.m p.lines.toNat=ws at HW HK;go_enter Tryz.func52,Tryz.ntmps52;go_wp2_with (first
   |(go_at_call 98;(with_reducible refine HW.out.mono ?_);rintro e w1 ⟨v,rfl,ho,hb⟩;obtain⟨Aw,cw,ew,hcw,hrw⟩:=Kd.R_reads ho;subst ew;have HB1:=am hb;have HA1:=am (H0.out.below hb);have HC1:=am hcw;have HO1:=am ho;have HR1:=am hrw;clear hb ho hcw hrw)
   |(go_at_call 105;(with_reducible refine(jy.calls k0 Aw cw ws off n _ 0 _ HR1.out HC1.out HK.out).mono ?_);rintro x w2 ⟨v2,rfl,ho,hb⟩;have HE2:=am ho;have HO2:=am (Kd.R_below HO1.out hb);have HB2:=am (aa HB1.out hb);have HA2:=am (HA1.out.below hb);clear ho hb)
   |(go_at_call 102;(with_reducible refine(js _).mono ?_);rintro x w3 ⟨rfl,hb⟩;have HO3:=am (Kd.R_below HO2.out hb);have HE3:=am (Kd.R_below HE2.out hb);have HB3:=am (aa HB2.out hb);have HA3:=am (HA2.out.below hb);clear hb))
  go_ret;exact⟨HA3.out,HB3.out,_,l5.ok _,Kd.R_lower HE3.out HB1.out.size⟩
theorem qab(h:HeapAt w b p st)(hp:p.Ok)(hs:StOk p st)(off e:Int)(A:Option Addr)(c:Nat)(bs:List Int)(hbs:Kd.C (Kd.int .u8) w A bs.length bs)(hbc:bs.length<=c)(st':St)(hr:Hp.WriteR p st off bs e st'):Calls Tryz.prog 53 #[.pointer (some ⟨b.H,0,none⟩), .int .i64 off, .slice A bs.length c] w fun x w'=>HeapAt w' b p st'∧aq b.W w w'∧l5 e (.tuple #[]) x:=by
 have H0:=am h;have HBs:=am hbs;have HBc:=am hbc;clear hbs hbc;unfold Hp.WriteR Hp.ws at hr;rcases hr with⟨hd,he,hst⟩|⟨es,hd,he,hst,hev⟩|⟨hd,he,hst,hev⟩|⟨es,hd,he,hst,hne,hw,hle,hev⟩|⟨es,hd,hw,hok,hev,he,hst⟩
 ·subst he;subst hst;have HW:=am (xd h.tur h.log h.box hp hs.cnt hd);clear h hs hd;go_enter Tryz.func53,Tryz.ntmps53;go_wp2_with (first|(go_at_call 98;(with_reducible refine HW.out.mono ?_);rintro e w1 ⟨rfl,hb⟩;have HB:=am hb;clear hb))
  exact⟨rfl,H0.out.below HB.out,aq.of_below HB.out,l5.no (by decide) rfl⟩
 ·subst hst;obtain⟨k0,hk⟩:=hev;have HK:=am (hk k0 (an _));have HW:=am (ji h.tur h.log h.box hp hs.rd hs.cnt hd);have HD:=am hd;have HE:=am he;clear h hs hd he hk;generalize Hp.wordsTo p st'.m p.lines.toNat=ws at HW HK;go_enter Tryz.func53,Tryz.ntmps53;go_wp2_with (first
   |(go_at_call 98;(with_reducible refine HW.out.mono ?_);rintro e w1 ⟨v,rfl,ho,hb⟩;obtain⟨Aw,cw,ew,hcw,hrw⟩:=Kd.R_reads ho;subst ew;have HB1:=am hb;have HA1:=am (H0.out.below hb);have HC1:=am hcw;have HO1:=am ho;have HR1:=am hrw;clear hb ho hcw hrw)
   |(go_at_call 106;(with_reducible refine(gv.calls k0 Aw cw ws off A c bs _ e _ HR1.out HC1.out (Kd.C_below HBs.out HB1.out) HBc.out HK.out).mono ?_);rintro x w2 ⟨v2,rfl,ho,hb⟩;obtain⟨Ae,ce,ee⟩:=Kd.R_slice ho;subst ee;have HO2:=am (Kd.R_below HO1.out hb);have HE2:=am ho;have HB2:=am (aa HB1.out hb);have HA2:=am (HA1.out.below hb);clear ho hb)
   |(go_at_call 102;(with_reducible refine(m6 HE.out _).mono ?_);rintro x w3 ⟨rfl,hb⟩;have HB3:=am (aa HB2.out hb);clear hb))
  exact⟨rfl,H0.out.below HB3.out,aq.of_below HB3.out,l5.no HE.out rfl⟩
 ·subst hst;subst he;obtain⟨k0,hk⟩:=hev;have HK:=am (hk k0 (an _));have HW:=am (ji h.tur h.log h.box hp hs.rd hs.cnt hd);have HD:=am hd;have b0:((([]:List S160).length:Int)==0)=true:=rfl;clear h hs hd hk;generalize Hp.wordsTo p st'.m p.lines.toNat=ws at HW HK;go_enter Tryz.func53,Tryz.ntmps53;go_wp2_with (first
   |(go_at_call 98;(with_reducible refine HW.out.mono ?_);rintro e w1 ⟨v,rfl,ho,hb⟩;obtain⟨Aw,cw,ew,hcw,hrw⟩:=Kd.R_reads ho;subst ew;have HB1:=am hb;have HA1:=am (H0.out.below hb);have HC1:=am hcw;have HO1:=am ho;have HR1:=am hrw;clear hb ho hcw hrw)
   |(go_at_call 106;(with_reducible refine(gv.calls k0 Aw cw ws off A c bs _ 0 _ HR1.out HC1.out (Kd.C_below HBs.out HB1.out) HBc.out HK.out).mono ?_);rintro x w2 ⟨v2,rfl,ho,hb⟩;obtain⟨Ae,ce,ee⟩:=Kd.R_slice ho;rw[List.length_nil]at ee;subst ee;have HO2:=am (Kd.R_below HO1.out hb);have HE2:=am ho;have HB2:=am (aa HB1.out hb);have HA2:=am (HA1.out.below hb);clear ho hb)
   |(go_at_call 102;(with_reducible refine(js _).mono ?_);rintro x w3 ⟨rfl,hb⟩;have HO3:=am (Kd.R_below HO2.out hb);have HE3:=am (Kd.R_below HE2.out hb);have HB3:=am (aa HB2.out hb);have HA3:=am (HA2.out.below hb);clear hb))
  refine bodyPost_ret (results_none rfl _ _ _) rfl ?_;exact⟨HA3.out,aq.of_below HB3.out,l5.ok _⟩
 ·subst hst;subst he;obtain⟨k0,hk⟩:=hev;have HK:=am (hk k0 (an _));have HW:=am (ji h.tur h.log h.box hp hs.rd hs.cnt hd);have HD:=am hd;have HWn:=am hw;have b0:((es.length:Int)==0)=false:=beq_eq_false_iff_ne.2 (by have:=List.length_pos_iff.2 hne;omega);clear h hs hd hw hk hne;generalize Hp.wordsTo p st'.m p.lines.toNat=ws at HW HK;go_enter Tryz.func53,Tryz.ntmps53;go_wp2_with (first
   |(go_at_call 98;(with_reducible refine HW.out.mono ?_);rintro e w1 ⟨v,rfl,ho,hb⟩;obtain⟨Aw,cw,ew,hcw,hrw⟩:=Kd.R_reads ho;subst ew;have HB1:=am hb;have HA1:=am (H0.out.below hb);have HC1:=am hcw;have HO1:=am ho;have HR1:=am hrw;clear hb ho hcw hrw)
   |(go_at_call 106;(with_reducible refine(gv.calls k0 Aw cw ws off A c bs _ 0 _ HR1.out HC1.out (Kd.C_below HBs.out HB1.out) HBc.out HK.out).mono ?_);rintro x w2 ⟨v2,rfl,ho,hb⟩;obtain⟨Ae,ce,ee⟩:=Kd.R_slice ho;subst ee;have HO2:=am (Kd.R_below HO1.out hb);have HE2:=am ho;have HB2:=am (aa HB1.out hb);have HA2:=am (HA1.out.below hb);clear ho hb)
   |(go_at_call 102;(with_reducible refine(js _).mono ?_);rintro x w3 ⟨rfl,hb⟩;have HO3:=am (Kd.R_below HO2.out hb);have HE3:=am (Kd.R_below HE2.out hb);have HB3:=am (aa HB2.out hb);have HA3:=am (HA2.out.below hb);clear hb)
   |(go_at_call 100;(with_reducible refine(oy HA3.out.box HA3.out.tur.mem HA3.out.log HWn.out).mono ?_);rintro e w' ⟨rfl,rfl⟩))
  exact⟨rfl,HA3.out,aq.of_below HB3.out,l5.no (by decide) rfl⟩
 ·have HWL:Aside0 ((Hp.wordsTo p st.m p.lines.toNat).length=p.lines.toNat*8):=⟨h.wl hp hs hd⟩;obtain⟨k0,hk⟩:=hev;have HK:=am (hk k0 (an _));have HW:=am (ji h.tur h.log h.box hp hs.rd hs.cnt hd);have HD:=am hd;have HWn:=am hw;have hle:es.length<=1000:=hok.len;have b0:((es.length:Int)==0)=false:=beq_eq_false_iff_ne.2 (by
   have h1:=hok.ne;have h2:(Sp.linesTo es).length<=es.length:=by unfold Sp.linesTo;rw[List.length_map];exact List.length_filter_le _ _
   omega)
  have HLt:=am h.lt;clear h hd hk hw;generalize Hp.wordsTo p st.m p.lines.toNat=ws at HW HK HWL he hst;obtain⟨cr,hc⟩:∃ cr,Hp.commit p st ws es=cr:=⟨_,rfl⟩;have HCm:=am (qfv (b:=b) hp hs hok HWL.out hc);rw[hc]at he hst;clear hp hs hok;subst hst;subst he;clear hc;by_cases c0:cr.1=0
  ·have C0:=am c0;rw[c0];clear c0;go_enter Tryz.func53,Tryz.ntmps53;go_wp2_with (first
    |(go_at_call 98;(with_reducible refine HW.out.mono ?_);rintro e w1 ⟨v,rfl,ho,hb⟩;obtain⟨Aw,cw,ew,hcw,hrw⟩:=Kd.R_reads ho;subst ew;have HB1:=am hb;have HA1:=am (H0.out.below hb);have HC1:=am hcw;have HO1:=am ho;have HR1:=am hrw;clear hb ho hcw hrw)
    |(go_at_call 106;(with_reducible refine(gv.calls k0 Aw cw ws off A c bs _ 0 _ HR1.out HC1.out (Kd.C_below HBs.out HB1.out) HBc.out HK.out).mono ?_);rintro x w2 ⟨v2,rfl,ho,hb⟩;obtain⟨Ae,ce,ee⟩:=Kd.R_slice ho;subst ee;have HO2:=am (Kd.R_below HO1.out hb);have HE2:=am ho;have HB2:=am (aa HB1.out hb);have HA2:=am (HA1.out.below hb);clear ho hb)
    |(go_at_call 102;(with_reducible refine(js _).mono ?_);rintro x w3 ⟨rfl,hb⟩;have HO3:=am (Kd.R_below HO2.out hb);have HE3:=am (Kd.R_below HE2.out hb);have HB3:=am (aa HB2.out hb);have HA3:=am (HA2.out.below hb);clear hb)
    |(go_at_call 100;(with_reducible refine(im HA3.out.box HA3.out.tur.mem HA3.out.log HWn.out).mono ?_);rintro e w' ⟨rfl,rfl⟩)
    |(go_at_call 103;(with_reducible refine(HCm.out.go HA3.out HO3.out HE3.out (fun j hj=>HLt.out j (by have:=HB1.out.size;omega))).mono ?_);rintro x w7 ⟨h7,k7,hy,hn⟩;obtain rfl:=hy C0.out;have HA7:=am h7;have K7:Aside0 (aq b.W w w7):=⟨(aq.of_below HB3.out).step k7⟩;clear h7 k7 hy hn))
   go_end0;exact⟨HA7.out,K7.out,l5.ok _⟩
  ·have C0:=am c0;clear c0;go_enter Tryz.func53,Tryz.ntmps53;go_wp2_with (first
    |(go_at_call 98;(with_reducible refine HW.out.mono ?_);rintro e w1 ⟨v,rfl,ho,hb⟩;obtain⟨Aw,cw,ew,hcw,hrw⟩:=Kd.R_reads ho;subst ew;have HB1:=am hb;have HA1:=am (H0.out.below hb);have HC1:=am hcw;have HO1:=am ho;have HR1:=am hrw;clear hb ho hcw hrw)
    |(go_at_call 106;(with_reducible refine(gv.calls k0 Aw cw ws off A c bs _ 0 _ HR1.out HC1.out (Kd.C_below HBs.out HB1.out) HBc.out HK.out).mono ?_);rintro x w2 ⟨v2,rfl,ho,hb⟩;obtain⟨Ae,ce,ee⟩:=Kd.R_slice ho;subst ee;have HO2:=am (Kd.R_below HO1.out hb);have HE2:=am ho;have HB2:=am (aa HB1.out hb);have HA2:=am (HA1.out.below hb);clear ho hb)
    |(go_at_call 102;(with_reducible refine(js _).mono ?_);rintro x w3 ⟨rfl,hb⟩;have HO3:=am (Kd.R_below HO2.out hb);have HE3:=am (Kd.R_below HE2.out hb);have HB3:=am (aa HB2.out hb);have HA3:=am (HA2.out.below hb);clear hb)
    |(go_at_call 100;(with_reducible refine(im HA3.out.box HA3.out.tur.mem HA3.out.log HWn.out).mono ?_);rintro e w' ⟨rfl,rfl⟩)
    |(go_at_call 103;(with_reducible refine(HCm.out.go HA3.out HO3.out HE3.out (fun j hj=>HLt.out j (by have:=HB1.out.size;omega))).mono ?_);rintro x w7 ⟨h7,k7,hy,hn⟩;obtain rfl:=hn C0.out;have HA7:=am h7;have K7:Aside0 (aq b.W w w7):=⟨(aq.of_below HB3.out).step k7⟩;clear h7 k7 hy hn))
   exact⟨rfl,HA7.out,K7.out,l5.no C0.out rfl⟩
theorem qro{b:Bl}{p:Pn}{st:St}{i v:Int}{r:Int×Mem}(hi:i.toNat≠0)(h0:0<=v)(h1:v<=18446744073709551615)(hr:Nvm.set st.m i v=r)(w':World)(h:HeapAt w' b p st):Calls Tryz.prog 107 #[.pointer (some ⟨b.M,0,none⟩), .int .i64 i, .int .u64 v] w' fun e w''=>e=.returned (.int .i64 r.1)/\HeapAt w'' b p {st with m:=r.2}/\aq b.W w' w'':=by
 subst hr;exact tf h i v hi h0 h1
theorem yq(h:HeapAt w b p st)(hp:p.Ok)(hs:StOk p st)(off e:Int)(st':St)(hr:Hp.RootR p st off e st'):Calls Tryz.prog 54 #[.pointer (some ⟨b.H,0,none⟩), .int .i64 off] w fun x w'=>HeapAt w' b p st'∧aq b.W w w'∧l5 e (.tuple #[]) x:=by
 have H0:=am h;unfold Hp.RootR Hp.ws at hr;rcases hr with⟨hd,he,hst⟩|⟨hd,he,hst,hof,hev⟩|⟨hd,he,hst,hof,hw⟩|⟨hd,hof,hw,he,hst⟩
 ·subst he;subst hst;have HW:=am (xd h.tur h.log h.box hp hs.cnt hd);clear h hs hd;go_enter Tryz.func54,Tryz.ntmps54;go_wp2_with (first|(go_at_call 98;(with_reducible refine HW.out.mono ?_);rintro e w1 ⟨rfl,hb⟩;have HB:=am hb;clear hb))
  exact⟨rfl,H0.out.below HB.out,aq.of_below HB.out,l5.no (by decide) rfl⟩
 ·subst he;subst hst;obtain⟨k0,hk⟩:=hev;have HK:=am (hk k0 (an _));have b0:(off != 0)=true:=bne_iff_ne.2 hof;have HW:=am (ji h.tur h.log h.box hp hs.rd hs.cnt hd);clear h hs hd hk hof;generalize Hp.wordsTo p st'.m p.lines.toNat=ws at HW HK;go_enter Tryz.func54,Tryz.ntmps54;go_wp2_with (first
   |(go_at_call 98;(with_reducible refine HW.out.mono ?_);rintro e w1 ⟨v,rfl,ho,hb⟩;obtain⟨Aw,cw,ew,hcw,hrw⟩:=Kd.R_reads ho;subst ew;have HB1:=am hb;have HA1:=am (H0.out.below hb);have HC1:=am hcw;have HR1:=am hrw;clear hb ho hcw hrw)
   |(go_at_call 46;(with_reducible refine(jn.calls k0 Aw cw ws off false _ HR1.out HC1.out HK.out).mono ?_);rintro x w2 ⟨rfl,hb⟩;have HB2:=am (aa HB1.out hb);have HA2:=am (HA1.out.below hb);clear hb))
  simp[Oper.upon,Instr.panic,goPanic,go_sem];exact⟨rfl,HA2.out,aq.of_below HB2.out,l5.no (by decide) rfl⟩
 ·subst he;subst hst;have HWn:=am hw;have HW:=am (ji h.tur h.log h.box hp hs.rd hs.cnt hd);clear h hs hd hw;by_cases ho:off=0
  ·subst ho;clear hof;go_enter Tryz.func54,Tryz.ntmps54;go_wp2_with (first
    |(go_at_call 98;(with_reducible refine HW.out.mono ?_);rintro e w1 ⟨v,rfl,ho,hb⟩;obtain⟨Aw,cw,ew,hcw,hrw⟩:=Kd.R_reads ho;subst ew;have HB1:=am hb;have HA1:=am (H0.out.below hb);have HC1:=am hcw;have HR1:=am hrw;clear hb ho hcw hrw)
    |(go_at_call 100;(with_reducible refine(oy HA1.out.box HA1.out.tur.mem HA1.out.log HWn.out).mono ?_);rintro e w' ⟨rfl,rfl⟩))
   exact⟨rfl,HA1.out,aq.of_below HB1.out,l5.no (by decide) rfl⟩
  ·obtain⟨k0,hk⟩:=hof.resolve_left ho;have HK:=am (hk k0 (an _));have b0:(off != 0)=true:=bne_iff_ne.2 ho;clear hk hof ho;generalize Hp.wordsTo p st'.m p.lines.toNat=ws at HW HK;go_enter Tryz.func54,Tryz.ntmps54;go_wp2_with (first
    |(go_at_call 98;(with_reducible refine HW.out.mono ?_);rintro e w1 ⟨v,rfl,ho,hb⟩;obtain⟨Aw,cw,ew,hcw,hrw⟩:=Kd.R_reads ho;subst ew;have HB1:=am hb;have HA1:=am (H0.out.below hb);have HC1:=am hcw;have HR1:=am hrw;clear hb ho hcw hrw)
    |(go_at_call 46;(with_reducible refine(jn.calls k0 Aw cw ws off true _ HR1.out HC1.out HK.out).mono ?_);rintro x w2 ⟨rfl,hb⟩;have HB2:=am (aa HB1.out hb);have HA2:=am (HA1.out.below hb);clear hb)
    |(go_at_call 100;(with_reducible refine(oy HA2.out.box HA2.out.tur.mem HA2.out.log HWn.out).mono ?_);rintro e w' ⟨rfl,rfl⟩))
   exact⟨rfl,HA2.out,aq.of_below HB2.out,l5.no (by decide) rfl⟩
 ·have HWn:=am hw;have HW:=am (ji h.tur h.log h.box hp hs.rd hs.cnt hd);clear h hs hd hw;obtain⟨r,hr⟩:∃ r,Nvm.set st.m 2 (IntKind.u64.wrap off)=r:=⟨_,rfl⟩;have HSet:=am (qro (b:=b) (p:=p) (st:=st) (by decide) (om off).1 (om off).2 hr);rw[hr]at he hst;subst hst;subst he;clear hr;by_cases ho:off=0
  ·subst ho;clear hof;have e0:IntKind.u64.wrap 0=0:=by rw[IntKind.wrap_u64];decide
   rw[e0]at HSet;clear e0;by_cases c0:r.1=0
   ·have C0:=am c0;rw[c0];rw[c0]at HSet;clear c0;go_enter Tryz.func54,Tryz.ntmps54;go_wp2_with (first
     |(go_at_call 98;(with_reducible refine HW.out.mono ?_);rintro e w1 ⟨v,rfl,ho,hb⟩;obtain⟨Aw,cw,ew,hcw,hrw⟩:=Kd.R_reads ho;subst ew;have HB1:=am hb;have HA1:=am (H0.out.below hb);have HC1:=am hcw;have HR1:=am hrw;have g0:w1.cell? ⟨b.H,0,none⟩=some (.pointer (some ⟨b.M,0,none⟩)):=(aj HA1.out.box 0).trans rfl;clear hb ho hcw hrw)
     |(go_at_call 100;(with_reducible refine(im HA1.out.box HA1.out.tur.mem HA1.out.log HWn.out).mono ?_);rintro e w' ⟨rfl,rfl⟩)
     |(go_at_call 107;(with_reducible refine(HSet.out _ HA1.out).mono ?_);rintro x w5 ⟨rfl,ha_,k_⟩;have HA5:=am ha_;have K5:Aside0 (aq b.W w w5):=⟨(aq.of_below HB1.out).step k_⟩;clear ha_ k_)
     |(go_at_call 102;(with_reducible refine(js _).mono ?_);rintro x w6 ⟨rfl,hb⟩;have HA6:=am (HA5.out.below hb);have K6:Aside0 (aq b.W w w6):=⟨K5.out.step (aq.of_below hb)⟩;clear hb))
    go_end0;exact⟨HA6.out,K6.out,l5.ok _⟩
   ·have C0:=am c0;clear c0;go_enter Tryz.func54,Tryz.ntmps54;go_wp2_with (first
     |(go_at_call 98;(with_reducible refine HW.out.mono ?_);rintro e w1 ⟨v,rfl,ho,hb⟩;obtain⟨Aw,cw,ew,hcw,hrw⟩:=Kd.R_reads ho;subst ew;have HB1:=am hb;have HA1:=am (H0.out.below hb);have HC1:=am hcw;have HR1:=am hrw;have g0:w1.cell? ⟨b.H,0,none⟩=some (.pointer (some ⟨b.M,0,none⟩)):=(aj HA1.out.box 0).trans rfl;clear hb ho hcw hrw)
     |(go_at_call 100;(with_reducible refine(im HA1.out.box HA1.out.tur.mem HA1.out.log HWn.out).mono ?_);rintro e w' ⟨rfl,rfl⟩)
     |(go_at_call 107;(with_reducible refine(HSet.out _ HA1.out).mono ?_);rintro x w5 ⟨rfl,ha_,k_⟩;have HA5:=am ha_;have K5:Aside0 (aq b.W w w5):=⟨(aq.of_below HB1.out).step k_⟩;clear ha_ k_)
     |(go_at_call 102;(with_reducible refine(m6 C0.out _).mono ?_);rintro x w6 ⟨rfl,hb⟩;have HA6:=am (HA5.out.below hb);have K6:Aside0 (aq b.W w w6):=⟨K5.out.step (aq.of_below hb)⟩;clear hb))
    exact⟨rfl,HA6.out,K6.out,l5.no C0.out rfl⟩
  ·obtain⟨k0,hk⟩:=hof.resolve_left ho;have HK:=am (hk k0 (an _));have b0:(off != 0)=true:=bne_iff_ne.2 ho;clear hk hof ho;generalize Hp.wordsTo p st.m p.lines.toNat=ws at HW HK;by_cases c0:r.1=0
   ·have C0:=am c0;rw[c0];rw[c0]at HSet;clear c0;go_enter Tryz.func54,Tryz.ntmps54;go_wp2_with (first
     |(go_at_call 98;(with_reducible refine HW.out.mono ?_);rintro e w1 ⟨v,rfl,ho,hb⟩;obtain⟨Aw,cw,ew,hcw,hrw⟩:=Kd.R_reads ho;subst ew;have HB1:=am hb;have HA1:=am (H0.out.below hb);have HC1:=am hcw;have HR1:=am hrw;clear hb ho hcw hrw)
     |(go_at_call 46;(with_reducible refine(jn.calls k0 Aw cw ws off true _ HR1.out HC1.out HK.out).mono ?_);rintro x w2 ⟨rfl,hb⟩;have HB2:=am (aa HB1.out hb);have HA2:=am (HA1.out.below hb);have g0:w2.cell? ⟨b.H,0,none⟩=some (.pointer (some ⟨b.M,0,none⟩)):=(aj HA2.out.box 0).trans rfl;clear hb)
     |(go_at_call 100;(with_reducible refine(im HA2.out.box HA2.out.tur.mem HA2.out.log HWn.out).mono ?_);rintro e w' ⟨rfl,rfl⟩)
     |(go_at_call 107;(with_reducible refine(HSet.out _ HA2.out).mono ?_);rintro x w5 ⟨rfl,ha_,k_⟩;have HA5:=am ha_;have K5:Aside0 (aq b.W w w5):=⟨(aq.of_below HB2.out).step k_⟩;clear ha_ k_)
     |(go_at_call 102;(with_reducible refine(js _).mono ?_);rintro x w6 ⟨rfl,hb⟩;have HA6:=am (HA5.out.below hb);have K6:Aside0 (aq b.W w w6):=⟨K5.out.step (aq.of_below hb)⟩;clear hb))
    go_end0;exact⟨HA6.out,K6.out,l5.ok _⟩
   ·have C0:=am c0;clear c0;go_enter Tryz.func54,Tryz.ntmps54;go_wp2_with (first
     |(go_at_call 98;(with_reducible refine HW.out.mono ?_);rintro e w1 ⟨v,rfl,ho,hb⟩;obtain⟨Aw,cw,ew,hcw,hrw⟩:=Kd.R_reads ho;subst ew;have HB1:=am hb;have HA1:=am (H0.out.below hb);have HC1:=am hcw;have HR1:=am hrw;clear hb ho hcw hrw)
     |(go_at_call 46;(with_reducible refine(jn.calls k0 Aw cw ws off true _ HR1.out HC1.out HK.out).mono ?_);rintro x w2 ⟨rfl,hb⟩;have HB2:=am (aa HB1.out hb);have HA2:=am (HA1.out.below hb);have g0:w2.cell? ⟨b.H,0,none⟩=some (.pointer (some ⟨b.M,0,none⟩)):=(aj HA2.out.box 0).trans rfl;clear hb)
     |(go_at_call 100;(with_reducible refine(im HA2.out.box HA2.out.tur.mem HA2.out.log HWn.out).mono ?_);rintro e w' ⟨rfl,rfl⟩)
     |(go_at_call 107;(with_reducible refine(HSet.out _ HA2.out).mono ?_);rintro x w5 ⟨rfl,ha_,k_⟩;have HA5:=am ha_;have K5:Aside0 (aq b.W w w5):=⟨(aq.of_below HB2.out).step k_⟩;clear ha_ k_)
     |(go_at_call 102;(with_reducible refine(m6 C0.out _).mono ?_);rintro x w6 ⟨rfl,hb⟩;have HA6:=am (HA5.out.below hb);have K6:Aside0 (aq b.W w w6):=⟨K5.out.step (aq.of_below hb)⟩;clear hb))
    exact⟨rfl,HA6.out,K6.out,l5.no C0.out rfl⟩
end
def wv(p:Pn)(m:Mem):Nat->List Int
 |0=>[]
 |k+1=>wv p m k++vw p.shape m (16+(k:Int))
section
variable{p:Pn}{m m':Mem}{s:Shape}
theorem qjz(h:LInv s m)(line:Int):W64 (vw s m line):=by
 unfold vw;split
 ·unfold nv;cases hf:(hms s m).find? (fun h=>h.1==line)with
  |some x=>exact qhm h.ok x (List.mem_of_find?_eq_some hf)
  |none=>exact h.ok.lineW line
 ·exact h.ok.lineW line
theorem sb(h:LInv p.shape m):∀ k,(wv p m k).length=k*8
 |0=>rfl
 |k+1=>by
  rw[wv,List.length_append,sb h k,(qjz h _).1]
  omega
theorem qdz(h:LInv p.shape m)(hu:m.down=false):∀ k:Nat,(k:Int)<=p.lines->Hp.wordsTo p m k=wv p m k
 |0,_=>rfl
 |k+1,hk=>by
  rw[Hp.wordsTo,wv,qdz h hu k (by omega)]
  congr 1
  unfold Hp.lineAt
  rw[qna h.ok hu (by omega) (by show 16+(k:Int)<16+p.lines;omega)]
theorem qgr(h:LInv p.shape m){i:Nat}:∀ k,i<k->fd (wv p m k) i=vw p.shape m (16+(i:Int))
 |0,hi=>by omega
 |k+1,hi=>by
  have hl:=sb h k
  have hv:=(qjz h (16+(k:Int))).1
  unfold fd
  rw[wv]
  by_cases e:i=k
  ·subst e
   rw[List.drop_append_of_le_length (l₁:=wv p m i) (by omega),List.drop_of_length_le (l:=wv p m i) (by omega),List.nil_append,List.take_of_length_le (by omega)]
  ·have ih:=qgr (i:=i) h k (by omega)
   unfold fd at ih
   rw[List.drop_append_of_le_length (l₁:=wv p m k) (by omega),List.take_append_of_le_length (by rw[List.length_drop];omega),ih]
theorem qkp(h:LInv p.shape m){u:List Int}:∀ k,u.length=k*8->(∀ i:Nat,i<k->fd u i=vw p.shape m (16+(i:Int)))->u=wv p m k
 |0,hl,_=>List.eq_nil_of_length_eq_zero (by omega)
 |k+1,hl,hu=>by
  have h1:u.take (k*8)=wv p m k:=qkp h k (by rw[List.length_take];omega) (fun i hi=>by
   rw[<-hu i (by omega)]
   unfold fd
   rw[List.drop_take,List.take_take,Nat.min_eq_left (by omega)])
  have h2:=hu k (by omega)
  unfold fd at h2
  rw[List.take_of_length_le (by rw[List.length_drop];omega)]at h2
  rw[wv,←h1,←h2,List.take_append_drop]
theorem qar(h:LInv p.shape m)(h':LInv p.shape m'){k:Nat}(hk:(k:Int)<=p.lines)(hv:∀ line,16<=line->line<p.shape.n->vw p.shape m' line=vw p.shape m line):wv p m' k=wv p m k:=
 qkp h k (sb h' k) (fun i hi=>by rw[qgr h' k hi];exact hv _ (by omega) (by show 16+(i:Int)<16+p.lines;omega))
theorem qg8(es:List S160)(j:Nat):∀ ws:List Int,(∀ e∈es,e.f0≠j)->(Sp.apply ws es).getD j 0=ws.getD j 0:=by
 induction es with
 |nil=>intro ws _;rfl
 |cons e es ih=>
  intro ws h;show(Sp.apply (Sp.apply1 ws e) es).getD j 0=_;rw[ih _ (fun x hx=>h x (List.mem_cons_of_mem _ hx))];unfold Sp.apply1;split
  ·rename_i hc
   have:=h e List.mem_cons_self;rw[ax,List.getElem?_set_ne (by omega),ax]
  ·rfl
theorem wq{ws:List Int}{i j:Nat}(hj:j<8):(fd ws i).getD j 0=ws.getD (i*8+j) 0:=by
 unfold fd;rw[ax,List.getElem?_take,if_pos hj,List.getElem?_drop,ax]
theorem qjg{u v:List Int}{i:Nat}(hu:i*8+8<=u.length)(hv:i*8+8<=v.length)(h:∀ j,j<8->u.getD (i*8+j) 0=v.getD (i*8+j) 0):fd u i=fd v i:=by
 refine List.ext_getElem (by rw[ii hu,ii hv]) (fun j h1 h2=>?_);rw[ii hu]at h1;have:=h j h1;rw[<-wq h1,←wq h1]at this;rw[ax,bx (by rw[ii hu];exact h1),ax,bx (by rw[ii hv];exact h1)]at this;exact this
theorem sc{d:Array Int}(hs:∀ i j,i<=j->j<d.size->d[i]! <=d[j]!):∀ m,m<=d.size->(Go.Lib.compactUpTo d m).Pairwise (·<·)/\(∀ x∈Go.Lib.compactUpTo d m,0<m/\x<=d[m-1]!)/\(∀ j,j<m->d[j]! ∈Go.Lib.compactUpTo d m)
 |0,_=>⟨by simp[Go.Lib.compactUpTo],by simp[Go.Lib.compactUpTo],fun j hj=>by omega⟩
 | m + 1, hm => by
  obtain⟨a,b,c⟩:=sc hs m (by omega)
  rw[Go.Lib.compactUpTo_succ,Nat.add_sub_cancel]
  by_cases hk:Go.Lib.keeps d m=true
  ·rw[if_pos hk]
   have hlt:∀ x∈Go.Lib.compactUpTo d m,x<d[m]! :=fun x hx=>by
    obtain⟨h0,h1⟩:=b x hx
    have hne:d[m]! ≠d[m-1]! :=by
     unfold Go.Lib.keeps at hk
     rcases of_decide_eq_true hk with e|e
     ·omega
     ·exact e
    have:=hs (m-1) m (by omega) (by omega)
    omega
   refine⟨List.pairwise_append.2 ⟨a,List.pairwise_singleton _ _,fun x hx y hy=>by rw[List.mem_singleton.1 hy];exact hlt x hx⟩,fun x hx=>⟨by omega,?_⟩,fun j hj=>?_⟩
   ·rcases List.mem_append.1 hx with h|h
    ·exact Int.le_of_lt (hlt x h)
    ·rw[List.mem_singleton.1 h];exact Int.le_refl _
   ·by_cases e:j=m
    ·rw[e];simp
    ·exact List.mem_append_left _ (c j (by omega))
  ·rw[if_neg hk,List.append_nil]
   have hz:m≠0/\d[m]! =d[m-1]! :=by
    unfold Go.Lib.keeps at hk
    simp only[decide_eq_true_eq,not_or,Classical.not_not]at hk
    exact hk
   refine⟨a,fun x hx=>⟨by omega,?_⟩,fun j hj=>?_⟩
   ·rw[hz.2];exact(b x hx).2
   ·by_cases e:j=m
    ·rw[e,hz.2];exact c (m-1) (by omega)
    ·exact c j (by omega)
theorem qan{l:List Int}(h:l.Pairwise (·≤·)):∀ i j,i<=j->j<l.toArray.size->l.toArray[i]! <=l.toArray[j]! :=by
 intro i j hij hj;have hj':j<l.length:=by simpa using hj
 rw[getElem!_pos l.toArray i (by simp;omega),getElem!_pos l.toArray j hj];by_cases e:i=j
 ·subst e;exact Int.le_refl _
 ·have:=List.pairwise_iff_getElem.1 h i j (by omega) hj' (by omega);simpa using this
theorem qbq(l:List Int):(l.mergeSort fun x y=>decide (x<=y)).Pairwise (·≤·):=by
 have:=List.pairwise_mergeSort (le:=fun x y:Int=>decide (x<=y)) (by intro a b c h1 h2;simp only[decide_eq_true_eq]at *;omega) (by intro a b;simp only[Bool.or_eq_true,decide_eq_true_eq];omega) l;exact this.imp (fun h=>by simpa using h)
theorem qhs(es:List S160):(Sp.lines es).Pairwise (·<·):=by
 unfold Sp.lines Go.Lib.compact;exact(sc (qan (qbq (Sp.linesTo es))) ((Sp.linesTo es).mergeSort fun x y=>decide (x<=y)).length (Nat.le_of_eq (by simp))).1
theorem qez{es:List S160}{e:S160}(he:e∈es)(h0:0<=e.f0):e.f0 / 8∈Sp.lines es:=by
 unfold Sp.lines Go.Lib.compact;have hm:e.f0 / 8∈(Sp.linesTo es).mergeSort fun x y=>decide (x<=y):=by rw[List.mem_mergeSort];unfold Sp.linesTo;exact List.mem_map.2 ⟨e,List.mem_filter.2 ⟨he,by simpa using h0⟩,rfl⟩
 obtain⟨j,hj,hx⟩:=List.getElem_of_mem hm;have:=(sc (qan (qbq (Sp.linesTo es))) ((Sp.linesTo es).mergeSort fun x y=>decide (x<=y)).length (Nat.le_of_eq (by simp))).2.2 j (by simpa using hj);rw[getElem!_pos _ j (by simpa using hj)]at this;have e2:((Sp.linesTo es).mergeSort fun x y=>decide (x<=y)).toArray[j]'(by simpa using hj)=e.f0 / 8:=by simpa using hx
 rw[e2]at this;exact this
theorem qfc{a b:Int}:∀ {l:List Int},l.Pairwise (·<·)->(∀ x∈l,a<=x/\x<=b)->(l.length:Int)<=max 0 (b-a+1)
 |[],_,_=>by simp;omega
 |x::l,h,hb=>by
  rw[List.pairwise_cons]at h
  have hx:=hb x List.mem_cons_self
  have ih:=qfc (a:=x+1) (b:=b) h.2 (fun y hy=>⟨by have:=h.1 y hy;omega,(hb y (List.mem_cons_of_mem _ hy)).2⟩)
  rw[List.length_cons]
  omega
structure EdFit (p:Pn) (es:List S160):Prop where
 ok:EdOk p es
 near:∃ a,0<=a∧∀ e∈es,a<=e.f0/\e.f0<a+64
 val:∀ e∈es,0<=e.f1/\e.f1<=18446744073709551615
theorem EdFit.lines{es:List S160}(h:EdFit p es):(Sp.lines es).length<=14/\1<=(Sp.lines es).length∧∀ i∈Sp.lines es,0<=i/\i<p.lines:=by
 obtain⟨a,a0,ha⟩:=h.near;have hb:∀ x∈Sp.lines es,a / 8<=x/\x<=(a+63) / 8:=fun x hx=>by obtain⟨e,he,_,rfl⟩:=qa0 hx;have:=ha e he;omega
 have h1:=qfc (qhs es) hb;refine⟨by omega,?_,fun i hi=>?_⟩
 ·have hne:=h.ok.ne;obtain⟨y,hy⟩:=List.exists_mem_of_length_pos hne;unfold Sp.linesTo at hy;obtain⟨e,he,_⟩:=List.mem_map.1 hy;obtain⟨he1,he2⟩:=List.mem_filter.1 he;exact List.length_pos_iff.2 (List.ne_nil_of_mem (qez he1 (by simpa using he2)))
 ·obtain⟨e,he,_,rfl⟩:=qa0 hi;have:=h.ok.bd e he;omega
end
end Go.Proofs.YtmfhaliclnnbaaaGreat.Sys
