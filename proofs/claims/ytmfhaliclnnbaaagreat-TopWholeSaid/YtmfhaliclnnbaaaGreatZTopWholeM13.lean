import Derived.Test.YtmfhaliclnnbaaaGreatZTopWholeM12
import Derived.Test.YtmfhaliclnnbaaaGreatZTopWholeM9
import Derived.Test.YtmfhaliclnnbaaaGreatZTopWholeM3
import Derived.Test.YtmfhaliclnnbaaaGreatZTopWholeM4
import Derived.Test.YtmfhaliclnnbaaaGreatZTopWholeM5
namespace Go.Proofs.YtmfhaliclnnbaaaGreat.Sys
open Go.RowKit Go.Proofs.YtmfhaliclnnbaaaGreatW.PrintWords Go.Proofs.YtmfhaliclnnbaaaGreatW.PrintLast Go.Proofs.YtmfhaliclnnbaaaGreatW.PrintMore
open Go.Proofs.YtmfhaliclnnbaaaGreat.XTopWhole Go.Proofs.YtmfhaliclnnbaaaGreat.Pl Go.Maps
set_option linter.unusedVariables false
set_option linter.unusedSimpArgs false
set_option maxRecDepth 100000
set_option maxHeartbeats 8000000
def fd(ws:List Int)(i:Nat):List Int:=(ws.drop (i*8)).take 8
theorem ii{ws:List Int}{i:Nat}(h:i*8+8<=ws.length):(fd ws i).length=8:=by
 unfold fd;rw[List.length_take,List.length_drop];omega
theorem qby{o:Oper}{a:Act}{w:World}(ty:TypeId)(x lo:Operand)(ho:o.op=.slice ty x (some lo) none none)(g n c k:Nat)(hx:a.eval x=.slice (some ⟨g,0,none⟩) n c)(hi:a.eval lo=.int .i64 k)(e:TypeId)(hu:Tryz.prog.underlying ty=some (.slice e))(hs:(Tryz.prog.info? e).map (·.size)=some 1)(hk:k<n)(hc:n<=c):(execOp a.eval o).run Tryz.prog w=.ok (.value (.slice (some ⟨g,k,none⟩) (n-k) (c-k))) w:=by
 obtain⟨i0,h1,h2⟩:=Option.map_eq_some_iff.1 hs;have hck:¬ c=k:=by omega
 simp[execOp,ho,hx,hi,Instr.sliceAt,Instr.slice,run_underlying hu,Instr.sliceBounds,Instr.sliceBound,asIntOf,Result.andThen,sizeOf,typeInfo,h1,h2,hck,ou,show(k:Int)<=n by omega,show(n:Int)<=c by omega];rw[if_pos (show k<=n by omega)];simp[hck]
theorem qcz{o:Oper}{a:Act}{w:World}(d x:Operand)(ho:o.op=.call {callee:=.builtin .copy,args:=#[d,x],argTypes:=#[51,51]})(b g off n c:Nat)(hd:a.eval d=.slice (some ⟨b,0,none⟩) 8 8)(hx:a.eval x=.slice (some ⟨g,off,none⟩) n c)(cur:Array Value)(hb:w.heap[b]? =some (.cells cur 73 (0,0)))(h8:cur.size=8)(l:List Int)(hl:l.length=8)(hn:8<=n)(hc:∀ j v,(br l)[j]? =some v->w.cell? ((⟨g,off,none⟩:Addr).add j)=some v):(execOp a.eval o).run Tryz.prog w=.ok (.value (.int .i64 8)) (w.setRow b (br l).toArray):=by
 have hll:(br l).length=8:=by rw[au,hl]
 have hr:=run_copy_row (P:=Tryz.prog) w 51 51 o.type 25 b 0 8 8 ⟨g,off,none⟩ n c cur 73 (br l) Tryz.underlying51 qgj hb (by rw[hll];exact(Nat.min_eq_right hn).symm) hc (by rw[hll,h8];omega) (kd l);rw[hll]at hr;have e:(cur.toList.take 0++br l++cur.toList.drop (0+8))=br l:=by rw[List.drop_eq_nil_of_le (by simp[h8])];simp
 rw[e]at hr;unfold execOp;simp only[ho,resolve,invoke,builtin,Sem.run_bind,Sem.run_pure,Result.andThen_ok,List.map_toArray,List.map_cons,List.map_nil,hd,hx,hr];rfl
section
variable{w:World}
theorem ml(base:Nat)(ok:Nat->Prop)(A:Option Addr)(c:Nat)(ws:List Int)(hr:Kd.R (Kd.int .u64) 25 w base ok (.slice A ws.length c) ws)(i:Nat)(hi:i*8+8<=ws.length)(hl:ws.length<=1000000):Calls Tryz.prog 41 #[.slice A ws.length c, .int .i64 i] w fun e w'=>e=.returned (iw (fd ws i))/\Below w.heap.size w w':=by
 obtain⟨g,cap,ev,hbg,hgl,_⟩:=Kd.R_form hr (by omega);injection ev with e1 _ e2;subst e1;subst e2;have hcap:=(Kd.R_reads' hr).2.1;have HR:=am hr;have HLn:=am (ii hi);have HCell:Aside0 (∀ w',Below w.heap.size w w'→∀ j v,(br (fd ws i))[j]? =some v->w'.cell? ((⟨g,i*8,none⟩:Addr).add j)=some v):=⟨fun w' hb j v hv=>by
  unfold fd br at hv;rw[List.getElem?_map,Option.map_eq_some_iff]at hv;obtain⟨x,hx,rfl⟩:=hv;rw[List.getElem?_take]at hx;split at hx
  ·rw[List.getElem?_drop]at hx;have e:=(xa (Kd.R_below hr hb) (i*8+j) (by omega)).1;rw[ou,e,ax,hx];rfl
  ·cases hx⟩
 clear hr;go_enter Tryz.func41,Tryz.ntmps41;go_wp2;have BX4:Aside0 (((w.alloc (.cells ct 73)).alloc (.cells ct 73)).heap[w.heap.size]? =some (.cells ct 73 (0,0))):=⟨ap (heap_alloc_new w _) ((ai _ _).alloc (an _) _)⟩;have BX5:Aside0 (((w.alloc (.cells ct 73)).alloc (.cells ct 73)).heap[w.heap.size+1]? =some (.cells ct 73 (0,0))):=⟨by
  have e:=heap_alloc_new (w.alloc (.cells ct 73)) (.cells ct 73)
  rwa[show(w.alloc (.cells ct 73)).heap.size=w.heap.size+1 by simp]at e⟩
 have HB:Aside0 (Below w.heap.size w ((w.alloc (.cells ct 73)).alloc (.cells ct 73))):=⟨((ai _ _).alloc (an _) _).alloc (by simp) _⟩;have E0:((w.alloc (.cells ct 73)).alloc (.cells ct 73)).heap.size=w.heap.size+2:=by simp
 have hne:g≠w.heap.size+1:=by omega
 generalize (w.alloc (.cells ct 73)).alloc (.cells ct 73)=w1 at BX4 BX5 HB E0 ⊢;refine dj (n:=6) (S:=fun _=>True) (ds:=[5]) (onA 6 0) (by kernel_rfl) rfl rfl trivial (fun hHeld=>?_);refine pu (v:=.slice (some ⟨w.heap.size+1,0,none⟩) 8 8) 0 (some 6) (bA 6 1) (hy:=by intro w';go_simp) (h:=?_);refine pu 1 (some 7) (bA 6 3) (h:=?_);refine pu 2 (some 8) (bA 6 7) (h:=?_);refine pu (v:=.int .i64 ((i*8:Nat):Int)) 3 (some 9) (bA 6 15) (hy:=by intro w';go_simp;rw[IntKind.wrap_i64];omega) (h:=?_);refine pu 4 (some 10) (bA 6 31) (hy:=fun w'=>qby 51 (.tmp 7) (.tmp 9) rfl g ws.length c (i*8) rfl rfl 25 Tryz.underlying51 qgj (by omega) hcap) (h:=?_);refine ko (i:=5) (N:=some 11) (bA 6 63) rfl rfl (by kernel_rfl) (by decide) (fun K hK=>?_);have HBd:=am (bg HB.out);refine jt (v:=.int .i64 8) (w1:=w1.drew.setRow (w.heap.size+1) (br (fd ws i)).toArray) (by rfl) rfl (qcz (.tmp 6) (.tmp 10) rfl (w.heap.size+1) g (i*8) (ws.length-i*8) (c-i*8) rfl rfl ct (dp BX5.out) rfl (fd ws i) HLn.out (by omega) (HCell.out _ HBd.out)) ?_;refine hK.out _ _ ?_;clear hK K hHeld;refine fa (by kernel_rfl) ?_;have BX7:Aside0 ((w1.drew.setRow (w.heap.size+1) (br (fd ws i)).toArray).heap[w.heap.size+1]? =some (.cells (br (fd ws i)).toArray 73 (0,0))):=⟨setRow_heap _ _ _ _ _ _ (dp BX5.out)⟩;have HB7:=am (gc HBd.out (Nat.le_succ _) (br (fd ws i)).toArray);have BX8:Aside0 ((w1.drew.setRow (w.heap.size+1) (br (fd ws i)).toArray).heap[w.heap.size]? =some (.cells ct 73 (0,0))):=⟨by
  unfold World.setRow;rw[Array.getElem?_modify,if_neg (by omega)];exact dp BX4.out⟩
 clear HBd BX4 BX5 HB;generalize w1.drew.setRow (w.heap.size+1) (br (fd ws i)).toArray=w2 at BX7 HB7 BX8 ⊢;generalize hlo:fd ws i=l at HLn BX7;have HLo:=am hlo;clear hlo;simp only[Act.put,List.setIfInBounds_toArray,List.set_cons_zero,List.set_cons_succ];have BX:=BX8;have HB:=HB7;go_wp2_with (first
  |((with_reducible refine fz (.load 73 (.tmp 5)) rfl ?_);refine bc rfl 73 (.tmp 5) rfl (w.heap.size+1) 0 rfl (br l) _ (fun j v hv=>by rw[Nat.zero_add];exact bt BX7.out j v hv) Tryz.underlying73 rfl (by rw[au,HLn.out];exact ez) ?_)
  |(((with_reducible refine bp (t:=73) (p:=4) rfl ?_);refine i9 rfl (.tmp 4) (.tmp 12) rfl w.heap.size l rfl rfl _ BX.out rfl HLn.out HB.out (an _) ?_;intro wz RX RB)))
 exact vk rfl w.heap.size 73 (br l) _ rfl RX.out Tryz.underlying73 rfl (by rw[au,HLn.out];exact ez) rfl ⟨by rw[HLo.out];rfl,RB.out⟩
end
def wa(M:Nat)(p:Pn)(T:Nat)(l c:Value)(worn:Bool):List Value:=[.pointer (some ⟨M,0,none⟩), .int .i64 p.lines, .int .i64 p.spare, .int .i64 p.period, .int .i64 p.batch, .pointer (some ⟨T,0,none⟩),l,c, .bool worn]
def oa(w:World)(H M:Nat)(p:Pn)(T:Nat)(l c:Value)(worn:Bool):Prop:=w.heap[H]? =some (.cells (wa M p T l c worn).toArray 90 (0,0))
theorem oa.below{w w':World}{H M:Nat}{p:Pn}{T:Nat}{l c:Value}{worn:Bool}(h:oa w H M p T l c worn)(hb:Below w.heap.size w w'):oa w' H M p T l c worn:=ap h hb
namespace Hp
def lineAt(p:Pn)(m:Mem)(i:Nat):List Int:=(Lg.get p.shape m (16+i)).1
def wordsTo(p:Pn)(m:Mem):Nat->List Int
 |0=>[]
 |k+1=>wordsTo p m k++lineAt p m k
def words(p:Pn)(m:Mem):List Int×Int:=if m.down then([],2)else(wordsTo p m p.lines.toNat,0)
end Hp
theorem qj1{w:World}{M C L T:Nat}{s:Shape}{m:Mem}{puts:Int}(h:TurnAt w M C L T s m puts)(hn:17<=s.n)(hrd:Lg.Rd s m)(hd:m.down=false)(hc:Lg.count m<=14){line:Int}(h0:16<=line)(h1:line<s.n):(Lg.get s m line).1.length=8/\(Lg.get s m line).2=0∧∀ x∈(Lg.get s m line).1,0<=x/\x<=18446744073709551615:=by
 have ht:=hrd line (by omega) h1;have hl:=ol h line;unfold Lg.get;rw[if_neg (by omega),hd,if_neg (by decide)];split
 ·split
  ·rename_i x hx
   have hm:=List.mem_of_find?_eq_some hx;unfold Lg.homes at hm;rw[hd,if_neg (by decide)]at hm;unfold Lg.homesTo at hm;obtain⟨i,hi,rfl⟩:=List.mem_map.1 hm;have hi2:i<(Lg.count m).toNat:=by simpa using hi
   have hb:=hrd (Lg.idx (Lg.count m)+i) (by unfold Lg.idx;omega) (by unfold Lg.idx;omega);exact⟨ol h _,rfl,hb.2⟩
  ·exact⟨hl,ht.1,ht.2⟩
 ·exact⟨hl,ht.1,ht.2⟩
theorem ql7{w:World}{b:Nat}{l:List Int}(h:w.heap[b]? =some (.cells (br l).toArray 73 (0,0)))(h8:l.length=8):iy (fun(x:Int) cs=>cs=[Value.int .u64 x]) 1 w (some ⟨b,0,none⟩) 8 l:=by
 have ho:w.ownsRow 0 73 1 (.slice (some ⟨b,0,none⟩) l.length 8) l.length (rh (Value.int .u64) l):=⟨by simp[rh], .inr ⟨b,8,(br l).toArray,rfl,Nat.zero_le _,h,by omega,by decide,by simp[au,h8],by
  rw[Nat.mul_one,List.take_of_length_le (by simp[au])];rfl⟩⟩
 have hr:Kd.R (Kd.int .u64) 73 w 0 (fun _=>True) (.slice (some ⟨b,0,none⟩) l.length 8) l:=Kd.R_of_own ho (fun _ _=>trivial);have:=(Kd.R_reads' hr).2.2;rw[h8]at this;exact this
theorem qgc{M:Nat}{p:Pn}{T:Nat}{l c:Value}{worn:Bool}{j:Nat}{v:Value}(hv:(fk p)[j]? =some v):(wa M p T l c worn)[j+1]? =some v:=by
 match j,hv with
 |0,h=>exact h
 |1,h=>exact h
 |2,h=>exact h
 |3,h=>exact h
 |n+4,h=>simp[fk]at h
section
variable{w:World}{M C L T G H:Nat}{p:Pn}{m:Mem}{puts:Int}{cv:Value}{worn:Bool}
theorem pw (h : TurnAt w M C L T p.shape m puts) (hG : j7 w G M T) (hH : oa w H M p T (.pointer (some ⟨G, 0, none⟩)) cv worn) (hp : p.Ok) (hrd : m.down = false → Lg.Rd p.shape m) (hc : Lg.count m ≤ 14) : Calls Tryz.prog 20 #[.pointer (some ⟨H, 0, none⟩)] w fun e w' => ∃ v, e = .returned (.tuple #[v, .int .i64 (Hp.words p m).2]) ∧ Kd.R (Kd.int .u64) 25 w' w.heap.size (fun _ => True) v (Hp.words p m).1 ∧ Below w.heap.size w w' := by
 have H0:=am h;have HG:=am hG;have HH:=am hH;have hl1:=hp.l1;have hl2:=hp.l2;have hk1:w.cell? ⟨H,1,none⟩=some (.int .i64 p.lines):=(aj hH 1).trans rfl;have hn:17<=p.shape.n:=by show 17<=16+p.lines;omega
 have HB:Aside0 (Below w.heap.size w w):=⟨ai _ _⟩;have HHome:Aside0 (∀ k:Nat,(k:Int)<p.lines->it.f p.lines p.spare p.period p.batch (k:Int)=some (16+(k:Int))):=⟨fun k hk=>qdj hp (by omega) hk⟩;have hsn:p.shape.n=16+p.lines:=rfl;have HRd:=am hrd;have HC:=am hc;clear h hG hH hrd hc hp;cases hd:m.down
 ·have E := am (show Hp.words p m = (Hp.wordsTo p m p.lines.toNat, 0) by unfold Hp.words; rw [hd]; rfl);have HD := am hd;clear hd;rw [E.out];have HO : Aside0 (Kd.R (Kd.int .u64) 25 w w.heap.size (fun _ => True) (.slice none 0 0) []) := ⟨Kd.R_nil _ _ _ _ _⟩;go_enter Tryz.func20, Tryz.ntmps20;go_wp2;go_loopw [4, 15] (fun v i wr => ∃ k : Nat, i = .int .i64 k ∧ k ≤ p.lines.toNat ∧ Aside0 (Kd.R (Kd.int .u64) 25 wr w.heap.size (fun _ => True) v (Hp.wordsTo p m k)) ∧ Aside0 ((Hp.wordsTo p m k).length = k * 8) ∧ Aside0 (Below w.heap.size w wr)) (fun _ i _ => p.lines.toNat - (intOf i).toNat)
  case atStart=>exact⟨0,rfl,by omega,HO,⟨rfl⟩,HB⟩
  case round =>
   clear HO HB;obtain⟨k,rfl,hk,HO,HLn,HB⟩:=hrel;by_cases hlt:(k:Int)<p.lines
   ·have d3:decide ((k:Int)<p.lines)=true:=af hlt;have HHm:=am (HHome.out k hlt);have hg:=qj1 H0.out hn (HRd.out HD.out) HD.out HC.out (line:=16+(k:Int)) (by omega) (by omega);have HSu:Aside0 (Hp.wordsTo p m (k+1)=Hp.wordsTo p m k++(Lg.get p.shape m (16+(k:Int))).1):=⟨rfl⟩;generalize hgt:Lg.get p.shape m (16+(k:Int))=gt at hg HSu;have HGT:=am hgt;clear hgt;obtain⟨dl,de⟩:=gt;obtain⟨hd8,hd0,_⟩:=hg;simp only[]at hd8 hd0 HSu;subst hd0;have HDL:=am hd8;clear hd8;go_wp2;have H1:=am (H0.out.below HB.out);have G1:=am (HG.out.below HB.out);have X1:=am (HH.out.below HB.out);refine dj (n:=17) (S:=fun w'=>w'.heap[H]? =some (.cells (wa M p T (.pointer (some ⟨G,0,none⟩)) cv worn).toArray 90 (0,0))) (ds:=[]) (onA 17 0) (by kernel_rfl) rfl rfl X1.out (fun hHeld=>?_);refine pu 0 (some 19) (bA 17 1) (h:=?_);refine pu 1 (some 20) (bA 17 3) (h:=?_);refine pu 2 (some 21) (bA 17 7) (h:=?_);refine pu 4 (some 23) (bA 17 23) (h:=?_);refine pu 5 (some 24) (bA 17 55) (h:=?_);refine pu 6 (some 25) (bA 17 119) (h:=?_);refine pu 8 (some 27) (bA 17 375) (h:=?_);refine tv 3 (some 22) (bA 17 383) rfl hHeld (fun w' hs=>aw 87 (.tmp 21) rfl H 6 (.pointer (some ⟨G,0,none⟩)) rfl ((aj hs 6).trans rfl) _ Tryz.underlying87 rfl) (h:=?_);refine tv 7 (some 26) (bA 17 511) rfl hHeld (fun w' hs=>dh 23 (.tmp 25) rfl H 1 rfl (fk p) _ (fun j v hv=>by rw[Nat.add_comm 1 j];exact bt hs (j+1) v (qgc hv)) Tryz.underlying23 rfl jh) (h:=?_);have H4:=am H1.out.drew;have G4:=am (G1.out.below (bg (ai _ _)));have X4:=am (X1.out.below (bg (ai _ _)));have HO4:=am (Kd.R_drew HO.out);have HB4:=am (bg HB.out);clear H1 G1 X1 hHeld HO HB;generalize wr.drew=w4 at H4 G4 X4 HO4 HB4 ⊢;refine qkc (σ:=Nat) 2 (bA 17 32767) (fun b=>[(28, .int .i64 (16+(k:Int))),(29, .tuple #[iw dl, .int .i64 0]),(18, .tuple #[iw dl, .int .i64 0]),(30,iw dl),(31, .int .i64 0),(6, .pointer (some ⟨b,0,none⟩))]) (fun b w'=>Below w4.heap.size w4 w'∧w'.heap[b]? =some (.cells ct 73 (0,0))/\w4.heap.size<=b) ?_ ?_;rotate_left
    ·intro hCont;have hb_0:=ai w4.heap.size w4;refine qgo (i:=9) (j:=14) (Ni:=some 28) (Nj:=some 6) (bA 17 1023) (bA 17 16895) rfl rfl rfl rfl (by kernel_rfl) (by decide) (by decide) (fun K hK=>?_) (fun K hK=>?_)
     ·skip
      first
       |refine fv Tryz.func40 (by kernel_rfl) rfl #[oz p, .int .i64 (k:Int)] (by rfl) rfl rfl (by simp only[List.map_toArray,List.map_cons,List.map_nil];first|rfl|(simp only[bu];rfl)) ?_
      refine(it.calls p.lines p.spare p.period p.batch (k:Int) (16+(k:Int)) _ HHm.out).mono ?_;rintro e w_1 ⟨rfl,hc_2⟩;have hb_3:=aa hb_0 hc_2;refine⟨_,rfl,?_⟩;refine hK.out _ _ (ap X4.out hb_3) (fun hHeld=>?_);clear hK K;refine nm ?_;refine qgo (i:=10) (j:=14) (Ni:=some 29) (Nj:=some 6) (bA 17 2047) (bA 17 17407) rfl rfl rfl rfl (by kernel_rfl) (by decide) (by decide) (fun K hK=>?_) (fun K hK=>?_)
      ·skip
       first
        |refine fv Tryz.func61 (by kernel_rfl) rfl #[.pointer (some ⟨G,0,none⟩), .int .i64 (16+(k:Int))] (by rfl) rfl rfl (by simp only[List.map_toArray,List.map_cons,List.map_nil];first|rfl|(simp only[bu];rfl)) ?_
       refine(mt (H4.out.below hb_3) (G4.out.below hb_3) hn HRd.out HC.out (16+(k:Int))).mono ?_;rintro e w_4 ⟨rfl,hc_5⟩;have hb_6:=aa hb_3 hc_5;rw[HGT.out];refine⟨_,rfl,?_⟩;refine hK.out _ _ (ap X4.out hb_6) (fun hHeld=>?_);clear hK K;refine nm ?_;refine pu 11 (some 18) (bA 17 4095) (h:=?_);refine pu 12 (some 30) (bA 17 8191) (h:=?_);refine pu 13 (some 31) (bA 17 16383) (h:=?_);refine ip (i:=14) (N:=some 6) (bA 17 32767) rfl rfl (by kernel_rfl) (by decide) (fun K hK=>?_);refine jt (w1:=w_4.alloc (.cells ct 73)) (v:=.pointer (some ⟨w_4.heap.size,0,none⟩)) (by rfl) rfl ?_ ?_
       ·first|(go_simp;done)|(go_simp;rfl)
       have bx_7:=heap_alloc_new w_4 (.cells ct 73);have hg_9:=hb_6.size;have hb_8:=aa hb_6 ((ai _ _).alloc (an _) (.cells ct 73));refine hK.out _ _ (ap X4.out hb_8) (fun hHeld=>?_);clear hK K;refine nm ?_;exact mq (by simp only[ly,Act.put,List.setIfInBounds_toArray,List.set_cons_zero,List.set_cons_succ,bu] <;> rfl) (hCont w_4.heap.size _ ⟨hb_8,bx_7,hg_9⟩)
      ·skip;refine jt (w1:=w_1.alloc (.cells ct 73)) (v:=.pointer (some ⟨w_1.heap.size,0,none⟩)) (by rfl) rfl ?_ ?_
       ·first|(go_simp;done)|(go_simp;rfl)
       have bx_10:=heap_alloc_new w_1 (.cells ct 73);have hg_12:=hb_3.size;have hb_11:=aa hb_3 ((ai _ _).alloc (an _) (.cells ct 73));refine hK.out _ _ (ap X4.out hb_11) (fun hHeld=>?_);clear hK K;refine nm ?_;refine ip (i:=10) (N:=some 29) (bA 17 18431) rfl rfl (by kernel_rfl) (by decide) (fun K hK=>?_)
       first
        |refine fv Tryz.func61 (by kernel_rfl) rfl #[.pointer (some ⟨G,0,none⟩), .int .i64 (16+(k:Int))] (by rfl) rfl rfl (by simp only[List.map_toArray,List.map_cons,List.map_nil];first|rfl|(simp only[bu];rfl)) ?_
       refine(mt (H4.out.below hb_11) (G4.out.below hb_11) hn HRd.out HC.out (16+(k:Int))).mono ?_;rintro e w_13 ⟨rfl,hc_14⟩;have hb_15:=aa hb_11 hc_14;rw[HGT.out];have bx_16:=ap bx_10 hc_14;refine⟨_,rfl,?_⟩;refine hK.out _ _ (ap X4.out hb_15) (fun hHeld=>?_);clear hK K;refine nm ?_;refine pu 11 (some 18) (bA 17 20479) (h:=?_);refine pu 12 (some 30) (bA 17 24575) (h:=?_);refine pu 13 (some 31) (bA 17 32767) (h:=?_);exact mq (by simp only[ly,Act.put,List.setIfInBounds_toArray,List.set_cons_zero,List.set_cons_succ,bu] <;> rfl) (hCont w_1.heap.size _ ⟨hb_15,bx_16,hg_12⟩)
     ·skip;refine jt (w1:=w4.alloc (.cells ct 73)) (v:=.pointer (some ⟨w4.heap.size,0,none⟩)) (by rfl) rfl ?_ ?_
      ·first|(go_simp;done)|(go_simp;rfl)
      have bx_18:=heap_alloc_new w4 (.cells ct 73);have hg_20:=hb_0.size;have hb_19:=aa hb_0 ((ai _ _).alloc (an _) (.cells ct 73));refine hK.out _ _ (ap X4.out hb_19) (fun hHeld=>?_);clear hK K;refine nm ?_;refine ip (i:=9) (N:=some 28) (bA 17 17407) rfl rfl (by kernel_rfl) (by decide) (fun K hK=>?_)
      first
       |refine fv Tryz.func40 (by kernel_rfl) rfl #[oz p, .int .i64 (k:Int)] (by rfl) rfl rfl (by simp only[List.map_toArray,List.map_cons,List.map_nil];first|rfl|(simp only[bu];rfl)) ?_
      refine(it.calls p.lines p.spare p.period p.batch (k:Int) (16+(k:Int)) _ HHm.out).mono ?_;rintro e w_21 ⟨rfl,hc_22⟩;have hb_23:=aa hb_19 hc_22;have bx_24:=ap bx_18 hc_22;refine⟨_,rfl,?_⟩;refine hK.out _ _ (ap X4.out hb_23) (fun hHeld=>?_);clear hK K;refine nm ?_;refine ip (i:=10) (N:=some 29) (bA 17 18431) rfl rfl (by kernel_rfl) (by decide) (fun K hK=>?_)
      first
       |refine fv Tryz.func61 (by kernel_rfl) rfl #[.pointer (some ⟨G,0,none⟩), .int .i64 (16+(k:Int))] (by rfl) rfl rfl (by simp only[List.map_toArray,List.map_cons,List.map_nil];first|rfl|(simp only[bu];rfl)) ?_
      refine(mt (H4.out.below hb_23) (G4.out.below hb_23) hn HRd.out HC.out (16+(k:Int))).mono ?_;rintro e w_26 ⟨rfl,hc_27⟩;have hb_28:=aa hb_23 hc_27;rw[HGT.out];have bx_29:=ap bx_24 hc_27;refine⟨_,rfl,?_⟩;refine hK.out _ _ (ap X4.out hb_28) (fun hHeld=>?_);clear hK K;refine nm ?_;refine pu 11 (some 18) (bA 17 20479) (h:=?_);refine pu 12 (some 30) (bA 17 24575) (h:=?_);refine pu 13 (some 31) (bA 17 32767) (h:=?_);exact mq (by simp only[ly,Act.put,List.setIfInBounds_toArray,List.set_cons_zero,List.set_cons_succ,bu] <;> rfl) (hCont w4.heap.size _ ⟨hb_28,bx_29,hg_20⟩)
    intro b w5 hF;obtain⟨hb5,hbx,hbge⟩:=hF;refine mq (a':=?_) ?_ ?_;rotate_left
    ·simp only[ly,Act.put,List.setIfInBounds_toArray,List.set_cons_zero,List.set_cons_succ,bu,iu];rfl
    refine ip (i:=15) (N:=none) (bA 17 65535) rfl rfl (by kernel_rfl) (by decide) (fun K hK=>?_);refine su (by rfl) rfl (kj 73 (.tmp 6) (.tmp 30) rfl b 0 (br dl) rfl rfl 73 (br zL) hbx (by rw[au,HDL.out];exact ez) (by rw[au,HDL.out];decide) (kd _)) ?_;have hb6:Below w4.heap.size w4 (w5.setRow b (spl (br zL) 0 (br dl)).toArray):=gc hb5 hbge _;refine hK.out _ _ (ap X4.out hb6) (fun hHeld=>?_);clear hK K;refine pu 16 (some 7) (bA 17 131071) (h:=?_);refine fa (by kernel_rfl) ?_;rw[kf (br dl) (br zL) (by rw[au dl,HDL.out];rfl)]at hb6 ⊢;have HB6:=am (aa HB4.out hb6);have HO6:=am (Kd.R_below HO4.out hb6);have BX6:Aside0 ((w5.setRow b (br dl).toArray).heap[b]? =some (.cells (br dl).toArray 73 (0,0))):=⟨setRow_heap _ _ _ _ _ _ hbx⟩;have hgeb:w.heap.size<=b:=by have:=HB4.out.size;omega
    clear H4 G4 X4 HO4 HB4 hb5 hbx hb6 hHeld hbge;generalize w5.setRow b (br dl).toArray=w6 at HB6 HO6 BX6 ⊢;have HC6:=am (ql7 BX6.out HDL.out);have e0:((0:Int) != 0)=false:=rfl;obtain⟨Ao,co,eo⟩:=Kd.R_slice HO6.out;subst eo;go_wp2_with (first
     |((with_reducible refine di (b:=.append) (xs:=#[.tmp 35, .tmp 36]) rfl ?_);at_builtin;refine Kd.R_append_rows (Kd.int .u64) (Rr:=fun x cs=>cs=[Value.int .u64 x]) (w0:=w) w.heap.size rfl (.tmp 35) (.tmp 36) 51 25 (.int .u64 0) 8 rfl Tryz.underlying51 wi rfl (by decide) (by omega) _ (Hp.wordsTo p m k) dl (some ⟨b,0,none⟩) 8 8 (fun _=>True) (fun _=>False) rfl rfl HO6.out HC6.out (fun _ _ h=>h) (fun _ h=>h.elim) (fun _ _=>trivial) HB6.out (bk HB6.out) ?aL ?_;(case aL=>(rw[HLn.out];omega));intro v1 w8 ho hb hg hat;have HO8:=am ho;have HB8:=am hb;clear ho hb hg hat))
    go_roundw
    case rel=>exact⟨k+1,by go_num,by omega,⟨by rw[HSu.out];exact HO8.out⟩,⟨by rw[HSu.out,List.length_append,HLn.out,HDL.out];omega⟩,HB8⟩
    case measure=>simp[intOf];omega
   ·have hkk:k=p.lines.toNat:=by omega
    subst hkk;have d3:decide (((p.lines.toNat:Nat):Int)<p.lines)=false:=ah (by omega);go_wp2;go_ret2;exact⟨_,rfl,HO.out,HB.out⟩
 ·have E := am (show Hp.words p m = ([], 2) by unfold Hp.words; rw [hd]; rfl);have HGT := am (show Lg.get p.shape m 16 = (zL, 2) by unfold Lg.get; rw [if_neg (by omega), hd]; rfl);have HHm : Aside0 (it.f p.lines p.spare p.period p.batch 0 = some 16) := ⟨HHome.out 0 (by omega)⟩;have d3 : decide ((0 : Int) < p.lines) = true := af (by omega);clear hd;rw [E.out];go_enter Tryz.func20, Tryz.ntmps20;go_wp2;go_loopw [4, 15] (fun v i wr => i = .int .i64 0 ∧ Aside0 (wr = w)) (fun _ _ _ => 0)
  case atStart=>exact⟨rfl,⟨rfl⟩⟩
  case round =>
   obtain⟨rfl,HW⟩:=hrel;obtain rfl:=HW.out;clear HW;have H1:=H0;have G1:=HG;have X1:=HH;go_wp2;refine dj (n:=17) (S:=fun w'=>w'.heap[H]? =some (.cells (wa M p T (.pointer (some ⟨G,0,none⟩)) cv worn).toArray 90 (0,0))) (ds:=[]) (onA 17 0) (by kernel_rfl) rfl rfl X1.out (fun hHeld=>?_);refine pu 0 (some 19) (bA 17 1) (h:=?_);refine pu 1 (some 20) (bA 17 3) (h:=?_);refine pu 2 (some 21) (bA 17 7) (h:=?_);refine pu 4 (some 23) (bA 17 23) (h:=?_);refine pu 5 (some 24) (bA 17 55) (h:=?_);refine pu 6 (some 25) (bA 17 119) (h:=?_);refine pu 8 (some 27) (bA 17 375) (h:=?_);refine tv 3 (some 22) (bA 17 383) rfl hHeld (fun w' hs=>aw 87 (.tmp 21) rfl H 6 (.pointer (some ⟨G,0,none⟩)) rfl ((aj hs 6).trans rfl) _ Tryz.underlying87 rfl) (h:=?_);refine tv 7 (some 26) (bA 17 511) rfl hHeld (fun w' hs=>dh 23 (.tmp 25) rfl H 1 rfl (fk p) _ (fun j v hv=>by rw[Nat.add_comm 1 j];exact bt hs (j+1) v (qgc hv)) Tryz.underlying23 rfl jh) (h:=?_);have H4:=am H1.out.drew;have G4:=am (G1.out.below (bg (ai _ _)));have X4:=am (X1.out.below (bg (ai _ _)));have HB4:=am (bg HB.out);clear H1 G1 X1 hHeld HB;generalize wr.drew=w4 at H4 G4 X4 HB4 ⊢;refine qkc (σ:=Nat) 2 (bA 17 32767) (fun b=>[(28, .int .i64 16),(29, .tuple #[iw zL, .int .i64 2]),(18, .tuple #[iw zL, .int .i64 2]),(30,iw zL),(31, .int .i64 2),(6, .pointer (some ⟨b,0,none⟩))]) (fun b w'=>Below w4.heap.size w4 w'∧w'.heap[b]? =some (.cells ct 73 (0,0))/\w4.heap.size<=b) ?_ ?_;rotate_left
   ·intro hCont;have hb_0:=ai w4.heap.size w4;refine qgo (i:=9) (j:=14) (Ni:=some 28) (Nj:=some 6) (bA 17 1023) (bA 17 16895) rfl rfl rfl rfl (by kernel_rfl) (by decide) (by decide) (fun K hK=>?_) (fun K hK=>?_)
    ·skip
     first
      |refine fv Tryz.func40 (by kernel_rfl) rfl #[oz p, .int .i64 0] (by rfl) rfl rfl (by simp only[List.map_toArray,List.map_cons,List.map_nil];first|rfl|(simp only[bu];rfl)) ?_
     refine(it.calls p.lines p.spare p.period p.batch 0 16 _ HHm.out).mono ?_;rintro e w_1 ⟨rfl,hc_2⟩;have hb_3:=aa hb_0 hc_2;refine⟨_,rfl,?_⟩;refine hK.out _ _ (ap X4.out hb_3) (fun hHeld=>?_);clear hK K;refine nm ?_;refine qgo (i:=10) (j:=14) (Ni:=some 29) (Nj:=some 6) (bA 17 2047) (bA 17 17407) rfl rfl rfl rfl (by kernel_rfl) (by decide) (by decide) (fun K hK=>?_) (fun K hK=>?_)
     ·skip
      first
       |refine fv Tryz.func61 (by kernel_rfl) rfl #[.pointer (some ⟨G,0,none⟩), .int .i64 16] (by rfl) rfl rfl (by simp only[List.map_toArray,List.map_cons,List.map_nil];first|rfl|(simp only[bu];rfl)) ?_
      refine(mt (H4.out.below hb_3) (G4.out.below hb_3) hn HRd.out HC.out 16).mono ?_;rintro e w_4 ⟨rfl,hc_5⟩;have hb_6:=aa hb_3 hc_5;rw[HGT.out];refine⟨_,rfl,?_⟩;refine hK.out _ _ (ap X4.out hb_6) (fun hHeld=>?_);clear hK K;refine nm ?_;refine pu 11 (some 18) (bA 17 4095) (h:=?_);refine pu 12 (some 30) (bA 17 8191) (h:=?_);refine pu 13 (some 31) (bA 17 16383) (h:=?_);refine ip (i:=14) (N:=some 6) (bA 17 32767) rfl rfl (by kernel_rfl) (by decide) (fun K hK=>?_);refine jt (w1:=w_4.alloc (.cells ct 73)) (v:=.pointer (some ⟨w_4.heap.size,0,none⟩)) (by rfl) rfl ?_ ?_
      ·first|(go_simp;done)|(go_simp;rfl)
      have bx_7:=heap_alloc_new w_4 (.cells ct 73);have hg_9:=hb_6.size;have hb_8:=aa hb_6 ((ai _ _).alloc (an _) (.cells ct 73));refine hK.out _ _ (ap X4.out hb_8) (fun hHeld=>?_);clear hK K;refine nm ?_;exact mq (by simp only[ly,Act.put,List.setIfInBounds_toArray,List.set_cons_zero,List.set_cons_succ,bu] <;> rfl) (hCont w_4.heap.size _ ⟨hb_8,bx_7,hg_9⟩)
     ·skip;refine jt (w1:=w_1.alloc (.cells ct 73)) (v:=.pointer (some ⟨w_1.heap.size,0,none⟩)) (by rfl) rfl ?_ ?_
      ·first|(go_simp;done)|(go_simp;rfl)
      have bx_10:=heap_alloc_new w_1 (.cells ct 73);have hg_12:=hb_3.size;have hb_11:=aa hb_3 ((ai _ _).alloc (an _) (.cells ct 73));refine hK.out _ _ (ap X4.out hb_11) (fun hHeld=>?_);clear hK K;refine nm ?_;refine ip (i:=10) (N:=some 29) (bA 17 18431) rfl rfl (by kernel_rfl) (by decide) (fun K hK=>?_)
      first
       |refine fv Tryz.func61 (by kernel_rfl) rfl #[.pointer (some ⟨G,0,none⟩), .int .i64 16] (by rfl) rfl rfl (by simp only[List.map_toArray,List.map_cons,List.map_nil];first|rfl|(simp only[bu];rfl)) ?_
      refine(mt (H4.out.below hb_11) (G4.out.below hb_11) hn HRd.out HC.out 16).mono ?_;rintro e w_13 ⟨rfl,hc_14⟩;have hb_15:=aa hb_11 hc_14;rw[HGT.out];have bx_16:=ap bx_10 hc_14;refine⟨_,rfl,?_⟩;refine hK.out _ _ (ap X4.out hb_15) (fun hHeld=>?_);clear hK K;refine nm ?_;refine pu 11 (some 18) (bA 17 20479) (h:=?_);refine pu 12 (some 30) (bA 17 24575) (h:=?_);refine pu 13 (some 31) (bA 17 32767) (h:=?_);exact mq (by simp only[ly,Act.put,List.setIfInBounds_toArray,List.set_cons_zero,List.set_cons_succ,bu] <;> rfl) (hCont w_1.heap.size _ ⟨hb_15,bx_16,hg_12⟩)
    ·skip;refine jt (w1:=w4.alloc (.cells ct 73)) (v:=.pointer (some ⟨w4.heap.size,0,none⟩)) (by rfl) rfl ?_ ?_
     ·first|(go_simp;done)|(go_simp;rfl)
     have bx_18:=heap_alloc_new w4 (.cells ct 73);have hg_20:=hb_0.size;have hb_19:=aa hb_0 ((ai _ _).alloc (an _) (.cells ct 73));refine hK.out _ _ (ap X4.out hb_19) (fun hHeld=>?_);clear hK K;refine nm ?_;refine ip (i:=9) (N:=some 28) (bA 17 17407) rfl rfl (by kernel_rfl) (by decide) (fun K hK=>?_)
     first
      |refine fv Tryz.func40 (by kernel_rfl) rfl #[oz p, .int .i64 0] (by rfl) rfl rfl (by simp only[List.map_toArray,List.map_cons,List.map_nil];first|rfl|(simp only[bu];rfl)) ?_
     refine(it.calls p.lines p.spare p.period p.batch 0 16 _ HHm.out).mono ?_;rintro e w_21 ⟨rfl,hc_22⟩;have hb_23:=aa hb_19 hc_22;have bx_24:=ap bx_18 hc_22;refine⟨_,rfl,?_⟩;refine hK.out _ _ (ap X4.out hb_23) (fun hHeld=>?_);clear hK K;refine nm ?_;refine ip (i:=10) (N:=some 29) (bA 17 18431) rfl rfl (by kernel_rfl) (by decide) (fun K hK=>?_)
     first
      |refine fv Tryz.func61 (by kernel_rfl) rfl #[.pointer (some ⟨G,0,none⟩), .int .i64 16] (by rfl) rfl rfl (by simp only[List.map_toArray,List.map_cons,List.map_nil];first|rfl|(simp only[bu];rfl)) ?_
     refine(mt (H4.out.below hb_23) (G4.out.below hb_23) hn HRd.out HC.out 16).mono ?_;rintro e w_26 ⟨rfl,hc_27⟩;have hb_28:=aa hb_23 hc_27;rw[HGT.out];have bx_29:=ap bx_24 hc_27;refine⟨_,rfl,?_⟩;refine hK.out _ _ (ap X4.out hb_28) (fun hHeld=>?_);clear hK K;refine nm ?_;refine pu 11 (some 18) (bA 17 20479) (h:=?_);refine pu 12 (some 30) (bA 17 24575) (h:=?_);refine pu 13 (some 31) (bA 17 32767) (h:=?_);exact mq (by simp only[ly,Act.put,List.setIfInBounds_toArray,List.set_cons_zero,List.set_cons_succ,bu] <;> rfl) (hCont w4.heap.size _ ⟨hb_28,bx_29,hg_20⟩)
   intro b w5 hF;obtain⟨hb5,hbx,hbge⟩:=hF;refine mq (a':=?_) ?_ ?_;rotate_left
   ·simp only[ly,Act.put,List.setIfInBounds_toArray,List.set_cons_zero,List.set_cons_succ,bu,iu];rfl
   refine ip (i:=15) (N:=none) (bA 17 65535) rfl rfl (by kernel_rfl) (by decide) (fun K hK=>?_);refine su (by rfl) rfl (kj 73 (.tmp 6) (.tmp 30) rfl b 0 (br zL) rfl rfl 73 (br zL) hbx ez (by decide) (kd _)) ?_;have hb6:Below w4.heap.size w4 (w5.setRow b (spl (br zL) 0 (br zL)).toArray):=gc hb5 hbge _;refine hK.out _ _ (ap X4.out hb6) (fun hHeld=>?_);clear hK K;refine pu 16 (some 7) (bA 17 131071) (h:=?_);refine fa (by kernel_rfl) ?_;have HB6:=am (aa HB4.out hb6);clear hb6 hHeld;generalize w5.setRow b (spl (br zL) 0 (br zL)).toArray=w6 at HB6 ⊢;go_wp2;go_ret2;exact⟨_,rfl,Kd.R_nil _ _ _ _ _,HB6.out⟩
end
def qlj(s:Shape)(m:Mem)(i:Nat):jw:=(if(lgc s m ((i:Int) / 8)).getD (i % 8) 0<s.n then(lgc s m ((i:Int) / 8)).getD (i % 8) 0 else-1,lgc s m (Lg.idx (Lg.count m)+i))
def hms(s:Shape)(m:Mem):List jw:=(List.range (Lg.count m).toNat).map (qlj s m)
def nv(hs:List jw)(f:Int->List Int)(line:Int):List Int:=match hs.find? (fun h=>h.1==line)with
 |some h=>h.2
 |none=>f line
def vw(s:Shape)(m:Mem)(line:Int):List Int:=if Lg.mayH s.n (hms s m)=true then nv (hms s m) (lgc s m) line else lgc s m line
structure LInv (s:Shape) (m:Mem):Prop where
 ok:MOk s m
 cnt:Lg.count m=0\/(1<=Lg.count m/\Lg.count m<=14/\Lg.mayH s.n (hms s m)=true)
section
variable{s:Shape}{m m':Mem}
theorem qjb(h:MOk s m)(hu:m.down=false)(k:Nat):Lg.homesTo s m k=(List.range k).map (qlj s m):=by
 unfold Lg.homesTo;refine List.map_congr_left (fun i _=>?_);unfold Lg.homeAt qlj;rw[vn h hu,vn h hu]
theorem qhn(h:MOk s m)(hu:m.down=false):Lg.homes s m=(hms s m,0):=by
 unfold Lg.homes hms;rw[hu,qjb h hu];rfl
theorem qc5(h:Lg.count m=0):hms s m=[]:=by unfold hms;rw[h];rfl
theorem qhu(n:Int):Lg.mayH n []=false:=by unfold Lg.mayH;simp
theorem te(h:Lg.count m=0)(line:Int):vw s m line=lgc s m line:=by
 unfold vw;rw[qc5 h,qhu];rfl
theorem qna(h:MOk s m)(hu:m.down=false){line:Int}(h0:16<=line)(h1:line<s.n):Lg.get s m line=(vw s m line,0):=by
 unfold Lg.get vw nv;rw[if_neg (by omega),hu,qhn h hu];simp only[Bool.false_eq_true,if_false];by_cases c:Lg.mayH s.n (hms s m)=true
 ·rw[if_pos c,if_pos c];cases (hms s m).find? (fun h=>h.1==line)with
  |some x=>rfl
  |none=>exact vn h hu line
 ·rw[if_neg c,if_neg c];exact vn h hu line
theorem qr7{n:Int}(h0:0<=n)(h1:n<=14):0<=Lg.idx n/\Lg.idx n<=2:=by unfold Lg.idx;omega
theorem qm4(hc:Lg.count m'=Lg.count m)(h0:0<=Lg.count m)(h1:Lg.count m<=14)(hl:∀ line,0<=line->line<16->lgc s m' line=lgc s m line):hms s m'=hms s m:=by
 unfold hms;rw[hc];refine List.map_congr_left (fun i hi=>?_);have hi:=List.mem_range.1 hi;have:=qr7 h0 h1;unfold qlj;rw[hc,hl _ (by omega) (by omega),hl _ (by omega) (by omega)]
theorem uc{hs:List jw}{line:Int}(h:∀ x∈hs,x.1≠line):hs.find? (fun h=>h.1==line)=none:=by
 rw[List.find?_eq_none];intro x hx;simpa using h x hx
theorem qcc{hs:List jw}{f:Int->List Int}{line:Int}(h:∀ x∈hs,x.1≠line):nv hs f line=f line:=by
 unfold nv;rw[uc h]
theorem qf9{hs:List jw}{f:Int->List Int}{x:jw}(hx:x∈hs)(hn:(hs.map (·.1)).Nodup):nv hs f x.1=x.2:=by
 unfold nv;have:∀ hs:List jw,x∈hs->(hs.map (·.1)).Nodup->hs.find? (fun h=>h.1==x.1)=some x:=by
  intro hs
  induction hs with
  |nil=>intro h;cases h
  |cons y r ih=>
   intro hx hn;rw[List.map_cons,List.nodup_cons]at hn;rcases List.mem_cons.1 hx with e|e
   ·subst e;simp
   ·have:y.1≠x.1:=fun e2=>hn.1 (by rw[e2];exact List.mem_map.2 ⟨x,e,rfl⟩);rw[List.find?_cons_of_neg (by simpa using this)];exact ih e hn.2
 rw[this hs hx hn]
theorem uu{n:Int}{hs:List jw}(h:Lg.mayH n hs=true):(hs.map (·.1)).Nodup:=by
 unfold Lg.mayH at h;simp only[Bool.and_eq_true,decide_eq_true_eq]at h;exact h.1.2
structure FinR (s:Shape) (hs:List jw) (m m':Mem) (e:Int):Prop where
 ok:MOk s m'
 oth:∀ k,0<=k->k<s.n->(∀ x∈hs,x.1≠k)->lgc s m' k=lgc s m k
 lim:∀ j,gp m' j=gp m j
 cut:m.cut<0->m'.cut=m.cut
 regs:∀ j,(j=2\/19<=j)->m'.regs.getD j 0=m.regs.getD j 0
 mv:Trn.moves m<=Trn.moves m'∧Trn.moves m'≤Trn.moves m+hs.length
 res:(e=0/\m'.down=false/\Lg.count m'=0∧∀ x∈hs,lgc s m' x.1=x.2)\/(e=0/\m'.down=false/\Lg.count m'=Lg.count m∧∃ j,0<=gp m j)\/(e=2/\m'.down=true/\0<=m.cut/\(Lg.count m'=Lg.count m\/(Lg.count m'=0∧∀ x∈hs,lgc s m' x.1=x.2)))
theorem sd{a b:Int}(h:a<0->b=a)(hb:0<=b):0<=a:=by
 rcases Int.lt_or_le a 0 with hc|hc
 ·have:=h hc;omega
 ·exact hc
theorem qaw:∀ (hs:List jw) (m:Mem) (puts:Int),MOk s m->m.down=false->Trn.moves m+hs.length<=4611686018427387903->(∀ x∈hs,16<=x.1/\x.1<s.n/\W64 x.2)->(hs.map (·.1)).Nodup→
  FinR s hs m (Lg.finish s hs m puts).2.1 (Lg.finish s hs m puts).1
 |[],m,puts,h,hu,hv,hx,hn=>by
  have hS:=zm (m:=m) (i:=1) (v:=0) hu (by omega) (by omega)
  unfold Lg.finish
  generalize Nvm.set m 1 0=r at hS
  obtain⟨e,m1⟩:=r
  dsimp only at hS ⊢
  rw[show(1:Int).toNat=1 from rfl]at hS
  obtain⟨h1,h2,h3,h4⟩:=h.setReg hS (by omega) (by omega) (by omega)
  refine⟨h1,fun k _ _ _=>h2 k,fun j=>mo hS.cells j,hS.cut,fun j hj=>h4 j (by omega),by rw[h3];simp,?_⟩
  have h0:m1.regs=m.regs.set 1 0->Lg.count m1=0:=fun e=>by
   unfold Lg.count
   rw[e,ax,List.getElem?_set_self (by have:=h.l.rlen;omega)]
   rfl
  rcases hS.res with⟨e,u,x⟩|⟨e,u,x,c⟩
  ·exact .inl ⟨e,u,h0 x,fun x hx=>by cases hx⟩
  ·refine .inr (.inr ⟨e,u,c,?_⟩)
   rcases x with x|x
   ·left;unfold Lg.count;rw[x]
   ·exact .inr ⟨h0 x,fun x hx=>by cases hx⟩
 | x :: hs, m, puts, h, hu, hv, hx, hn => by
  have hx0:=hx x List.mem_cons_self
  rw[List.length_cons]at hv
  obtain⟨hP,_⟩:=qgn h hu (by omega) puts (by omega) hx0.2.1 hx0.2.2
  unfold Lg.finish
  generalize Trn.put s m puts x.1 x.2=r at hP
  obtain⟨e,m1,p1⟩:=r
  dsimp only at hP ⊢
  have hm1:MOk s m1:=⟨h.ok,hP.l,by rcases hP.mv with e|e <;> omega⟩
  have hc1:Lg.count m1=Lg.count m:=hP.regs 1 (by omega)
  have hn':(x.1::hs.map (·.1)).Nodup:=hn
  rw[List.nodup_cons]at hn'
  have hxn:∀ y∈hs,y.1≠x.1:=fun y hy e=>hn'.1 (by rw[<-e];exact List.mem_map.2 ⟨y,hy,rfl⟩)
  have hoth1:∀ k,0<=k->k<s.n->(∀ y∈x::hs,y.1≠k)->lgc s m1 k=lgc s m k:=fun k k0 k1 hk=>hP.oth k k0 k1 (fun e=>hk x List.mem_cons_self e.symm)
  by_cases c0:e=0
  ·rw[if_pos c0]
   have hy:m1.down=false/\lgc s m1 x.1=x.2:=by
    rcases hP.res with⟨_,e⟩|⟨e,_⟩|⟨e,_⟩
    ·exact e
    ·omega
    ·omega
   have ih:=qaw hs m1 p1 hm1 hy.1 (by rcases hP.mv with e|e <;> omega) (fun y hy=>hx y (List.mem_cons_of_mem _ hy)) hn'.2
   have hkeep:∀ z,(∀ y∈hs,lgc s z y.1=y.2)->lgc s z x.1=lgc s m1 x.1→∀ y∈x::hs,lgc s z y.1=y.2:=fun z h1 h2 y hy1=>by
    rcases List.mem_cons.1 hy1 with e|e
    ·rw[e,h2];exact hy.2
    ·exact h1 y e
   have hxs:=ih.oth x.1 (by omega) hx0.2.1 hxn
   refine⟨ih.ok,fun k k0 k1 hk=>by rw[ih.oth k k0 k1 (fun y hy=>hk y (List.mem_cons_of_mem _ hy)),hoth1 k k0 k1 hk],fun j=>by rw[ih.lim,hP.lim],fun hc=>by rw[ih.cut (by rw[hP.cut hc];exact hc),hP.cut hc],fun j hj=>by rw[ih.regs j hj,hP.regs j (by omega)],?_,?_⟩
   ·have:=ih.mv
    rw[List.length_cons]
    rcases hP.mv with e|e <;> (constructor <;> omega)
   ·rcases ih.res with⟨e,u,c,y⟩|⟨e,u,c,j,y⟩|⟨e,u,c,y⟩
    ·exact .inl ⟨e,u,c,hkeep _ y hxs⟩
    ·exact .inr (.inl ⟨e,u,by rw[c,hc1],j,by rw[hP.lim]at y;exact y⟩)
    ·refine .inr (.inr ⟨e,u,sd hP.cut c,?_⟩)
     rcases y with y|⟨y,z⟩
     ·exact .inl (by rw[y,hc1])
     ·exact .inr ⟨y,hkeep _ z hxs⟩
  ·rw[if_neg c0]
   have hmv1:Trn.moves m<=Trn.moves m1/\Trn.moves m1<=Trn.moves m+(x::hs).length:=by
    rw[List.length_cons]
    rcases hP.mv with e|e <;> (constructor <;> omega)
   by_cases c3:e=3
   ·rw[if_pos c3]
    dsimp only
    refine⟨hm1,hoth1,hP.lim,hP.cut,fun j hj=>hP.regs j (by omega),hmv1,?_⟩
    rcases hP.res with⟨e,_⟩|⟨_,u,_,y⟩|⟨e,_⟩
    ·omega
    ·exact .inr (.inl ⟨rfl,u,hc1,y⟩)
    ·omega
   ·rw[if_neg c3]
    dsimp only
    refine⟨hm1,hoth1,hP.lim,hP.cut,fun j hj=>hP.regs j (by omega),hmv1,?_⟩
    rcases hP.res with⟨e,_⟩|⟨e,_⟩|⟨e,u,c⟩
    ·exact absurd e c0
    ·exact absurd e c3
    ·exact .inr (.inr ⟨e,u,c, .inl hc1⟩)
theorem qhg{hs:List jw}{e:Int}(hm:Lg.mayH s.n hs=true)(hh:hms s m=hs)(hc:Lg.count m=hs.length)(h:FinR s hs m m' e):LInv s m'∧(∀ line,16<=line->line<s.n->vw s m' line=vw s m line)/\((e=0/\m'.down=false)\/(e=2/\m'.down=true/\0<=m.cut)):=by
 have hl:=pb hm;have hlen:=qad hm;have hnd:=uu hm;have hn16:∀ line,0<=line->line<16->lgc s m' line=lgc s m line:=fun line l0 l1=>by have hx:=hl;obtain⟨y,hy⟩:∃ y,y∈hs:=List.exists_mem_of_length_pos (by omega);have:=hl y hy;exact h.oth line l0 (by omega) (fun x hx=>by have:=hl x hx;omega)
 have hvm:∀ line,vw s m line=nv hs (lgc s m) line:=fun line=>by unfold vw;rw[hh,if_pos hm]
 have same:Lg.count m'=Lg.count m->LInv s m'∧∀ line,16<=line->line<s.n->vw s m' line=vw s m line:=fun e=>by
  have hh':hms s m'=hs:=by rw[qm4 e (by omega) (by omega) hn16,hh]
  refine⟨⟨h.ok, .inr ⟨by omega,by omega,by rw[hh'];exact hm⟩⟩,fun line l0 l1=>?_⟩;rw[hvm];unfold vw;rw[hh',if_pos hm];by_cases c:∀ x∈hs,x.1≠line
  ·rw[qcc c,qcc c];exact h.oth line (by omega) l1 c
  ·simp only[Classical.not_forall]at c;obtain⟨x,hx,hxl⟩:=c;have hxl:x.1=line:=Classical.not_not.1 hxl;rw[<-hxl,qf9 hx hnd,qf9 hx hnd]
 have done:Lg.count m'=0->(∀ x∈hs,lgc s m' x.1=x.2)->LInv s m'∧∀ line,16<=line->line<s.n->vw s m' line=vw s m line:=fun e hd=>by
  refine⟨⟨h.ok, .inl e⟩,fun line l0 l1=>?_⟩;rw[hvm,te e];by_cases c:∀ x∈hs,x.1≠line
  ·rw[qcc c];exact h.oth line (by omega) l1 c
  ·simp only[Classical.not_forall]at c;obtain⟨x,hx,hxl⟩:=c;have hxl:x.1=line:=Classical.not_not.1 hxl;rw[<-hxl,qf9 hx hnd];exact hd x hx
 rcases h.res with⟨e,u,c,y⟩|⟨e,u,c,_⟩|⟨e,u,c,y|⟨y,z⟩⟩
 ·obtain⟨a,b⟩:=done c y;exact⟨a,b, .inl ⟨e,u⟩⟩
 ·obtain⟨a,b⟩:=same c;exact⟨a,b, .inl ⟨e,u⟩⟩
 ·obtain⟨a,b⟩:=same y;exact⟨a,b, .inr ⟨e,u,c⟩⟩
 ·obtain⟨a,b⟩:=done y z;exact⟨a,b, .inr ⟨e,u,c⟩⟩
structure Same (s:Shape) (m m':Mem) (k:Int):Prop where
 inv:LInv s m'
 lim:∀ j,gp m' j=gp m j
 cut:m.cut<0->m'.cut=m.cut
 regs:∀ j,(j=2\/19<=j)->m'.regs.getD j 0=m.regs.getD j 0
 mv:Trn.moves m<=Trn.moves m'∧Trn.moves m'≤Trn.moves m+k
 cln:m'.down=false->Lg.count m'=0∨∃ j,0<=gp m j
theorem FinR.cln{s:Shape}{hs:List jw}{m m':Mem}{e:Int}(h:FinR s hs m m' e)(hu:m'.down=false):Lg.count m'=0∨∃ j,0<=gp m j:=by
 rcases h.res with⟨_,_,a,_⟩|⟨_,_,_,a⟩|⟨_,a,_⟩
 ·exact .inl a
 ·exact .inr a
 ·rw[hu]at a;cases a
theorem ut(m:Mem):(hms s m).length=(Lg.count m).toNat:=by unfold hms;simp
theorem qhm(h:MOk s m):∀ x∈hms s m,W64 x.2:=fun x hx=>by
 unfold hms at hx;obtain⟨i,_,rfl⟩:=List.mem_map.1 hx;exact h.lineW _
theorem qjx(h:LInv s m)(hu:m.down=false)(puts:Int)(hv:Trn.moves m+14<=4611686018427387903):Same s m (Lg.recover s m puts).2.1 14/\(∀ line,16<=line->line<s.n->vw s (Lg.recover s m puts).2.1 line=vw s m line)/\(((Lg.recover s m puts).1=0/\(Lg.recover s m puts).2.1.down=false)\/((Lg.recover s m puts).1=2/\(Lg.recover s m puts).2.1.down=true/\0<=m.cut)):=by
 unfold Lg.recover;rw[qhn h.ok hu];simp only[if_true];rcases h.cnt with c|⟨c1,c2,c3⟩
 ·rw[qc5 c];rw[List.length_nil,if_pos rfl];exact⟨⟨h,fun _=>rfl,fun _=>rfl,fun _ _=>rfl,by dsimp only;omega,fun _=>.inl c⟩,fun _ _ _=>rfl, .inl ⟨rfl,hu⟩⟩
 ·rw[if_neg (by rw[ut];omega),if_pos c3];have hl:=pb c3;have hF:=qaw (s:=s) (hms s m) m puts h.ok hu (by rw[ut];omega) (fun x hx=>⟨(hl x hx).1,(hl x hx).2,qhm h.ok x hx⟩) (uu c3);obtain⟨a,b,c⟩:=qhg c3 rfl (by rw[ut];omega) hF;refine⟨⟨a,hF.lim,hF.cut,hF.regs,?_,hF.cln⟩,b,c⟩;have:=hF.mv;rw[ut]at this;omega
end
structure RowsR (s:Shape) (rows:List (List Int)) (i:Nat) (m m':Mem) (e:Int):Prop where
 ok:MOk s m'
 oth:∀ k,0<=k->k<s.n->(k<i\/(i:Int)+rows.length<=k)->lgc s m' k=lgc s m k
 lim:∀ j,gp m' j=gp m j
 cut:m.cut<0->m'.cut=m.cut
 regs:∀ j,((1<=j/\j<3)\/19<=j)->m'.regs.getD j 0=m.regs.getD j 0
 mv:Trn.moves m<=Trn.moves m'∧Trn.moves m'≤Trn.moves m+rows.length
 res:(e=0/\m'.down=false∧∀ j:Nat,j<rows.length->lgc s m' ((i:Int)+j)=rows.getD j zL)\/(e=3/\m'.down=false∧∃ j,0<=gp m j)\/(e=2/\m'.down=true/\0<=m.cut)
section
variable{s:Shape}{m m':Mem}
theorem zi:∀ (rows:List (List Int)) (i:Nat) (m:Mem) (puts:Int),MOk s m->m.down=false->Trn.moves m+rows.length<=4611686018427387903->(∀ d∈rows,W64 d)->(i:Int)+rows.length<=s.n->RowsR s rows i m (Lg.putRows s rows i m puts).2.1 (Lg.putRows s rows i m puts).1
 |[],i,m,puts,h,hu,hv,hr,hi=>⟨h,fun _ _ _ _=>rfl,fun _=>rfl,fun _=>rfl,fun _ _=>rfl,by simp[Lg.putRows], .inl ⟨rfl,hu,fun j hj=>by simp at hj⟩⟩
 | d :: rows, i, m, puts, h, hu, hv, hr, hi => by
  rw[List.length_cons]at hv hi
  obtain⟨hP,_⟩:=qgn h hu (by omega) puts (line:=(i:Int)) (by omega) (by omega) (hr d List.mem_cons_self)
  unfold Lg.putRows
  generalize Trn.put s m puts i d=r at hP
  obtain⟨e,m1,p1⟩:=r
  dsimp only at hP ⊢
  have hm1:MOk s m1:=⟨h.ok,hP.l,by rcases hP.mv with e|e <;> omega⟩
  by_cases c0:e=0
  ·rw [if_pos c0]
   have hy:m1.down=false/\lgc s m1 i=d:=by
    rcases hP.res with⟨_,e⟩|⟨e,_⟩|⟨e,_⟩
    ·exact e
    ·omega
    ·omega
   have ih:=zi rows (i+1) m1 p1 hm1 hy.1 (by rcases hP.mv with e|e <;> omega) (fun x hx=>hr x (List.mem_cons_of_mem _ hx)) (by omega)
   refine⟨ih.ok,fun k k0 k1 hk=>?_,fun j=>by rw[ih.lim,hP.lim],fun hc=>by rw[ih.cut (by rw[hP.cut hc];exact hc),hP.cut hc],fun j hj=>by rw[ih.regs j hj,hP.regs j hj],?_,?_⟩
   ·rw[List.length_cons]at hk
    rw[ih.oth k k0 k1 (by omega),hP.oth k k0 k1 (by omega)]
   ·have:=ih.mv
    rw[List.length_cons]
    rcases hP.mv with e|e <;> (constructor <;> omega)
   ·rcases ih.res with⟨e,u,x⟩|⟨e,u,j,y⟩|⟨e,u,c⟩
    ·refine .inl ⟨e,u,fun j hj=>?_⟩
     cases j with
     |zero=>
      rw[show((i:Int)+(0:Nat))=i by omega,ih.oth i (by omega) (by omega) (by omega)]
      exact hy.2
     |succ j=>
      have:=x j (by rw[List.length_cons]at hj;omega)
      rw[show((i:Int)+((j+1:Nat):Int))=((i+1:Nat):Int)+j by omega,this]
      rfl
    ·exact .inr (.inl ⟨e,u,j,by rw[hP.lim]at y;exact y⟩)
    ·exact .inr (.inr ⟨e,u,sd hP.cut c⟩)
  ·rw[if_neg c0]
   dsimp only
   refine⟨hm1,fun k k0 k1 hk=>hP.oth k k0 k1 (by rw[List.length_cons]at hk;omega),hP.lim,hP.cut,hP.regs,?_,?_⟩
   ·rw[List.length_cons]
    rcases hP.mv with e|e <;> (constructor <;> omega)
   ·rcases hP.res with⟨e,_⟩|⟨e,u,_,y⟩|⟨e,u,c⟩
    ·exact absurd e c0
    ·exact .inr (.inl ⟨e,u,y⟩)
    ·exact .inr (.inr ⟨e,u,c⟩)
theorem yi{a:List (List Int)}{b:List Int}{i:Nat}(h:i<a.length):(a++[b]).getD i zL=a.getD i zL:=by
 rw[ax,ax,List.getElem?_append_left h]
theorem qgh{h:List jw}(hl:h.length<=14)(hv:∀ x∈h,(0<=x.1/\x.1<=18446744073709551615)/\W64 x.2):∀ k,k<=h.length->(∀ r∈Lg.rowsTo h k,W64 r)∧
  ∀ i,i<k->((Lg.rowsTo h k).getD (i / 8) zL).getD (i % 8) 0=(h.getD i zH).1/\(Lg.rowsTo h k).getD ((Lg.idx h.length).toNat+i) zL=(h.getD i zH).2
 |0,_=>⟨fun r hr=>by rw[Lg.rowsTo]at hr;rw[(List.mem_replicate.1 hr).2];exact qqs,fun i hi=>by omega⟩
 | k + 1, hk => by
  obtain⟨ihv,ihi⟩:=qgh hl hv k (by omega)
  have hlen:=Lg.rowsTo_length h k
  have hI:(h.length:Int)<=8*(Lg.idx h.length)/\0<=Lg.idx h.length:=by unfold Lg.idx;omega
  have hkI:k / 8<(Lg.idx h.length).toNat:=by omega
  have hmem:h.getD k zH∈h:=by
   rw[ax,bx (by omega)]
   exact List.getElem_mem _
  have hvk:=hv _ hmem
  have hrow:W64 ((Lg.rowsTo h k).getD (k / 8) zL):=by
   rw[ax,bx (by omega)]
   exact ihv _ (List.getElem_mem _)
  rw[Lg.rowsTo]
  generalize Lg.rowsTo h k=R at ihv ihi hlen hrow
  generalize hx:h.getD k zH=x at hvk
  have hsl:(R.set (k / 8) ((R.getD (k / 8) zL).set (k % 8) x.1)).length=R.length:=List.length_set
  refine⟨fun r hr=>?_,fun i hi=>?_⟩
  ·rcases List.mem_append.1 hr with hr|hr
   ·rcases List.mem_or_eq_of_mem_set hr with h1|h1
    ·exact ihv r h1
    ·rw[h1]
     refine⟨by rw[List.length_set];exact hrow.1,fun y hy=>?_⟩
     rcases List.mem_or_eq_of_mem_set hy with h2|h2
     ·exact hrow.2 y h2
     ·rw[h2];exact hvk.1
   ·rw[List.mem_singleton.1 hr];exact hvk.2
  ·have gset:∀ j (r:List Int),(R.set (k / 8) r).getD j zL=if j=k / 8 then r else R.getD j zL:=fun j r=>by
    by_cases e:j=k / 8
    ·subst e
     rw[if_pos rfl,ax,List.getElem?_set_self (by omega)]
     rfl
    ·rw[if_neg e,ax,List.getElem?_set_ne (fun e2=>e e2.symm),ax]
   have wset:∀ j,((R.getD (k / 8) zL).set (k % 8) x.1).getD j 0=if j=k % 8 then x.1 else(R.getD (k / 8) zL).getD j 0:=fun j=>by
    by_cases e:j=k % 8
    ·subst e
     rw[if_pos rfl,ax,List.getElem?_set_self (by rw[hrow.1];omega)]
     rfl
    ·rw[if_neg e,ax (l:=List.set _ _ _),List.getElem?_set_ne (fun e2=>e e2.symm),←ax]
   rw[yi (by rw[hsl];omega),gset]
   by_cases e:i=k
   ·subst e
    rw[if_pos rfl,wset,if_pos rfl,hx,ax,List.getElem?_append_right (by rw[hsl];omega),hsl,show(Lg.idx h.length).toNat+i-R.length=0 by omega]
    exact⟨rfl,rfl⟩
   ·have hik:i<k:=by omega
    obtain⟨a,b⟩:=ihi i hik
    refine⟨?_,?_⟩
    ·by_cases e2:i / 8=k / 8
     ·rw[if_pos e2,wset,if_neg (by omega),←e2]
      exact a
     ·rw[if_neg e2];exact a
    ·rw[yi (by rw[hsl];omega),gset,if_neg (by omega)]
     exact b
structure ComR (s:Shape) (hs:List jw) (m m':Mem) (e:Int):Prop where
 same:Same s m m' 40
 res:(e=0/\m'.down=false∧∀ line,16<=line->line<s.n->vw s m' line=nv hs (vw s m) line)∨
  (e=3/\m'.down=false/\Lg.count m'=0/\(∀ line,16<=line->line<s.n->vw s m' line=vw s m line)∧∃ j,0<=gp m j)∨
  (e=2/\m'.down=true/\0<=m.cut/\((∀ line,16<=line->line<s.n->vw s m' line=vw s m line)∨∀ line,16<=line->line<s.n->vw s m' line=nv hs (vw s m) line))
theorem qeo{hs:List jw}(h:LInv s m)(hu:m.down=false)(hc:Lg.count m=0)(hm:Lg.mayH s.n hs=true)(hn:17<=s.n)(hv:∀ x∈hs,W64 x.2)(puts:Int)(hb:Trn.moves m+40<=4611686018427387903):ComR s hs m (Lg.commit s hs m puts).2.1 (Lg.commit s hs m puts).1:=by
 have hl:=pb hm;have hlen:=qad hm;have hnd:=uu hm;have hn2:=h.ok.ok.n2;have hreg:(Nvm.reg m 1).1=0:=by unfold Nvm.reg;rw[hu];exact hc
 unfold Lg.commit;rw[hm,hu,if_neg (by decide),if_neg (by decide),if_neg (by rw[hreg];exact fun h=>h rfl)];have hvv:∀ x∈hs,(0<=x.1/\x.1<=18446744073709551615)/\W64 x.2:=fun x hx=>⟨by have:=hl x hx;omega,hv x hx⟩;obtain⟨hrv,hri⟩:=qgh hlen.2 hvv hs.length (an _);have hrl:=Lg.rowsTo_length hs hs.length;have hI:(hs.length:Int)<=8*Lg.idx hs.length/\0<=Lg.idx hs.length/\Lg.idx hs.length<=2:=by unfold Lg.idx;omega
 have hR:=zi (s:=s) (Lg.rowsTo hs hs.length) 0 m puts h.ok hu (by omega) hrv (by omega);generalize Lg.rowsTo hs hs.length=R at hR hri hrl;generalize Lg.putRows s R 0 m puts=r1 at hR;obtain⟨e1,m1,p1⟩:=r1;dsimp only at hR ⊢;have hc1:Lg.count m1=0:=by rw[<-hc];exact hR.regs 1 (by omega)
 have hv1:∀ line,16<=line->line<s.n->lgc s m1 line=lgc s m line:=fun line l0 l1=>hR.oth line (by omega) l1 (by omega);have same1:∀ line,16<=line->line<s.n->vw s m1 line=vw s m line:=fun line l0 l1=>by rw[te hc1,te hc,hv1 line l0 l1]
 have hmv1:=hR.mv;have S1:Same s m m1 40:=⟨⟨hR.ok, .inl hc1⟩,hR.lim,hR.cut,fun j hj=>hR.regs j (by omega),by omega,fun _=>.inl hc1⟩;by_cases c0:e1=0
 ·rw[if_pos c0];have hx:m1.down=false∧∀ j:Nat,j<R.length->lgc s m1 (((0:Nat):Int)+j)=R.getD j zL:=by
   rcases hR.res with⟨_,e⟩|⟨e,_⟩|⟨e,_⟩
   ·exact e
   ·omega
   ·omega
  have hS:=zm (m:=m1) (i:=1) (v:=hs.length) hx.1 (by omega) (by omega);unfold Lg.sealed;generalize Nvm.set m1 1 hs.length=r2 at hS;obtain⟨e2,m2⟩:=r2;dsimp only at hS ⊢;rw[show(1:Int).toNat=1 from rfl]at hS;obtain⟨k1,k2,k3,k4⟩:=hR.ok.setReg hS (by omega) (by omega) (by omega);have hcut2:m.cut<0->m2.cut=m.cut:=fun hc=>by rw[hS.cut (by rw[hR.cut hc];exact hc),hR.cut hc]
  have hlim2:∀ j,gp m2 j=gp m j:=fun j=>by rw[mo hS.cells,hR.lim]
  have hreg2:∀ j,(j=2\/19<=j)->m2.regs.getD j 0=m.regs.getD j 0:=fun j hj=>by rw[k4 j (by omega),hR.regs j (by omega)]
  have hset:m2.regs=m1.regs.set 1 hs.length->Lg.count m2=hs.length/\hms s m2=hs:=fun e=>by
   have hcn:Lg.count m2=hs.length:=by unfold Lg.count;rw[e,ax,List.getElem?_set_self (by have:=hR.ok.l.rlen;omega)];rfl
   refine⟨hcn,?_⟩;unfold hms;rw[hcn,Int.toNat_natCast];refine List.ext_getElem (by simp) (fun i i1 i2=>?_);rw[List.getElem_map,List.getElem_range];obtain⟨a,b⟩:=hri i i2;have hgi:hs.getD i zH=hs[i]:=by rw[ax,bx i2];rfl
   have hxi:=hl _ (List.getElem_mem i2);unfold qlj;rw[hcn,k2,k2];have e1:lgc s m1 ((i:Int) / 8)=R.getD (i / 8) zL:=by rw[<-hx.2 (i / 8) (by omega)];congr 1;omega
   have e2:lgc s m1 (Lg.idx hs.length+i)=R.getD ((Lg.idx hs.length).toNat+i) zL:=by rw[<-hx.2 ((Lg.idx hs.length).toNat+i) (by omega)];congr 1;omega
   rw[e1,e2,a,b,hgi,if_pos hxi.2]
  have sealV:m2.regs=m1.regs.set 1 hs.length->LInv s m2∧∀ line,16<=line->line<s.n->vw s m2 line=nv hs (vw s m) line:=fun e=>by
   obtain⟨a,b⟩:=hset e;refine⟨⟨k1, .inr ⟨by omega,by omega,by rw[b];exact hm⟩⟩,fun line l0 l1=>?_⟩;unfold vw;rw[b,if_pos hm,qc5 hc,qhu];simp only[Bool.false_eq_true,if_false];unfold nv;cases hs.find? (fun h=>h.1==line)with
   |some x=>rfl
   |none=>exact(k2 line).trans (hv1 line l0 l1)
  by_cases c2:e2=0
  ·rw[if_pos c2];have hy:m2.down=false/\m2.regs=m1.regs.set 1 hs.length:=by
    rcases hS.res with⟨_,e⟩|⟨e,_⟩
    ·exact e
    ·omega
   obtain⟨a,b⟩:=hset hy.2;obtain⟨_,sv⟩:=sealV hy.2;have hF:=qaw (s:=s) hs m2 p1 k1 hy.1 (by omega) (fun x hx=>⟨(hl x hx).1,(hl x hx).2,hv x hx⟩) hnd;obtain⟨f1,f2,f3⟩:=qhg hm b a hF;have hfm:=hF.mv;refine⟨⟨f1,fun j=>by rw[hF.lim,hlim2],fun hc=>by rw[hF.cut (by rw[hcut2 hc];exact hc),hcut2 hc],fun j hj=>by rw[hF.regs j hj,hreg2 j hj],by omega,fun hu=>(hF.cln hu).imp id (fun⟨j,hj⟩=>⟨j,by rw[<-hlim2];exact hj⟩)⟩,?_⟩;rcases f3 with⟨e,u⟩|⟨e,u,c⟩
   ·exact .inl ⟨e,u,fun line l0 l1=>by rw[f2 line l0 l1,sv line l0 l1]⟩
   ·exact .inr (.inr ⟨e,u,sd hcut2 c, .inr (fun line l0 l1=>by rw[f2 line l0 l1,sv line l0 l1])⟩)
  ·rw[if_neg c2];dsimp only;have hy:e2=2/\m2.down=true/\0<=m1.cut/\(m2.regs=m1.regs\/m2.regs=m1.regs.set 1 hs.length):=by
    rcases hS.res with⟨e,_⟩|⟨e,u,x,c⟩
    ·exact absurd e c2
    ·exact⟨e,u,c,x⟩
   rcases hy.2.2.2 with e|e
   ·have hc2:Lg.count m2=0:=by rw[<-hc1];unfold Lg.count;rw[e]
    refine⟨⟨⟨k1, .inl hc2⟩,hlim2,hcut2,hreg2,by omega,fun _=>.inl hc2⟩, .inr (.inr ⟨hy.1,hy.2.1,sd hR.cut hy.2.2.1, .inl (fun line l0 l1=>?_)⟩)⟩;rw[te hc2,te hc,k2,hv1 line l0 l1]
   ·obtain⟨a,b⟩:=sealV e;exact⟨⟨a,hlim2,hcut2,hreg2,by omega,fun hu=>by rw[hy.2.1]at hu;cases hu⟩, .inr (.inr ⟨hy.1,hy.2.1,sd hR.cut hy.2.2.1, .inr b⟩)⟩
 ·rw[if_neg c0];dsimp only;refine⟨S1,?_⟩;rcases hR.res with⟨e,_⟩|⟨e,u,y⟩|⟨e,u,c⟩
  ·exact absurd e c0
  ·exact .inr (.inl ⟨e,u,hc1,same1,y⟩)
  ·exact .inr (.inr ⟨e,u,c, .inl same1⟩)
end
namespace Hp
def isWorn(f:Bool)(m:Mem):Bool:=f||((Nvm.reg m 1).1 != 0)
end Hp
section
variable{w:World}{M C L T G H:Nat}{p:Pn}{s:Shape}{m:Mem}{puts:Int}{cv lv:Value}{worn:Bool}{q:CBlk}{b:Int}{now kept:List Int}
theorem xg(h:CntAt w q b now kept)(h0:0<now.length)(hl:now.length<=1000000):Calls Tryz.prog 76 #[.pointer (some ⟨q.K,0,none⟩)] w fun e w'=>∃ v,e=.returned v/\Kd.R (Kd.int .i64) 3 w' w.heap.size (fun _=>True) v now/\Below w.heap.size w w':=by
 have k1:=h.k1;have H:=am h;have HCl:=am (qgu w 0 (fun k=>k=q.NB) (some ⟨q.NB,0,none⟩) q.c1 now h.nr h0 hl);clear h;go_enter Tryz.func76,Tryz.ntmps76;go_wp2_with (first|(go_at_call 122;(with_reducible refine HCl.out.mono ?_);rintro e w1 ⟨v,rfl,ho,hb⟩))
 go_ret;exact⟨_,rfl,ho,hb⟩
theorem qfj(hH:oa w H M p T lv (.pointer (some ⟨q.K,0,none⟩)) worn)(h:CntAt w q b now kept)(h0:0<now.length)(hl:now.length<=1000000):Calls Tryz.prog 27 #[.pointer (some ⟨H,0,none⟩)] w fun e w'=>∃ v,e=.returned v/\Kd.R (Kd.int .i64) 3 w' w.heap.size (fun _=>True) v now/\Below w.heap.size w w':=by
 have k1:w.cell? ⟨H,7,none⟩=some (.pointer (some ⟨q.K,0,none⟩)):=(aj hH 7).trans rfl;have HCl:=am (xg h h0 hl);clear h hH;go_enter Tryz.func27,Tryz.ntmps27;go_wp2_with (first|(go_at_call 76;(with_reducible refine HCl.out.mono ?_);rintro e w1 ⟨v,rfl,ho,hb⟩))
 go_ret;exact⟨_,rfl,ho,hb⟩
theorem qcp(hH:oa w H M p T (.pointer (some ⟨G,0,none⟩)) cv worn)(h:MemAt w M C m)(hG:j7 w G M T):Calls Tryz.prog 19 #[.pointer (some ⟨H,0,none⟩)] w fun e w'=>e=.returned (.bool (Hp.isWorn worn m))/\w=w':=by
 have k1:w.cell? ⟨H,8,none⟩=some (.bool worn):=(aj hH 8).trans rfl;have k2:w.cell? ⟨H,6,none⟩=some (.pointer (some ⟨G,0,none⟩)):=(aj hH 6).trans rfl;have HCl:=am (th h hG);have E:=am (show Hp.isWorn worn m=(worn||((Nvm.reg m 1).1 != 0))from rfl);clear h hH hG;cases worn
 ·go_enter Tryz.func19,Tryz.ntmps19;go_wp2_with (first|(go_at_call 60;(with_reducible refine HCl.out.mono ?_);rintro e w1 ⟨rfl,rfl⟩))
  go_ret;rw[E.out];exact⟨by simp,rfl⟩
 ·go_enter Tryz.func19,Tryz.ntmps19;go_wp2;go_ret;rw[E.out];exact⟨by simp,rfl⟩
def Leaves(n:Int)(e:Ending):Prop:=e=.panicked [{v:=.iface 29 (.int .i64 n),recovered:=false}]
theorem m6{n:Int}(hn:n≠0)(w:World):Calls Tryz.prog 102 #[.int .i64 n] w fun e w'=>Leaves n e/\Below w.heap.size w w':=by
 have b0:(n != 0)=true:=bne_iff_ne.2 hn;go_enter Tryz.func102,Tryz.ntmps102;go_wp2;simp[Oper.upon,Instr.panic,goPanic,go_sem];exact⟨rfl,rfl,ai _ _⟩
theorem js(w:World):Calls Tryz.prog 102 #[.int .i64 0] w fun e w'=>e=.returned (.tuple #[])/\Below w.heap.size w w':=by
 refine(qaz.calls 0 w rfl).mono ?_;rintro e w' ⟨rfl,⟨nd,rfl⟩⟩;exact⟨rfl,bq (ai _ _) nd⟩
theorem ji(h:TurnAt w M C L T p.shape m puts)(hG:j7 w G M T)(hH:oa w H M p T (.pointer (some ⟨G,0,none⟩)) cv worn)(hp:p.Ok)(hrd:m.down=false->Lg.Rd p.shape m)(hc:Lg.count m<=14)(hd:m.down=false):Calls Tryz.prog 98 #[.pointer (some ⟨H,0,none⟩)] w fun e w'=>∃ v,e=.returned v/\Kd.R (Kd.int .u64) 25 w' w.heap.size (fun _=>True) v (Hp.wordsTo p m p.lines.toNat)/\Below w.heap.size w w':=by
 have HW:=am (pw h hG hH hp hrd hc);have E:Hp.words p m=(Hp.wordsTo p m p.lines.toNat,0):=by unfold Hp.words;rw[hd];rfl
 rw[E]at HW;clear h hG hH hrd hc hd E;go_enter Tryz.func98,Tryz.ntmps98;go_wp2_with (first
  |(go_at_call 20;(with_reducible refine HW.out.mono ?_);rintro e w1 ⟨v,rfl,ho,hb⟩;have HO:=am ho;have HB:=am hb;clear ho hb)
  |(go_at_call 102;(with_reducible refine(js _).mono ?_);rintro e w2 ⟨rfl,hb⟩;have HO2:=am (Kd.R_below HO.out hb);have HB2:=am (aa HB.out hb);clear hb))
 go_ret;exact⟨_,rfl,HO2.out,HB2.out⟩
theorem xd(h:TurnAt w M C L T p.shape m puts)(hG:j7 w G M T)(hH:oa w H M p T (.pointer (some ⟨G,0,none⟩)) cv worn)(hp:p.Ok)(hc:Lg.count m<=14)(hd:m.down=true):Calls Tryz.prog 98 #[.pointer (some ⟨H,0,none⟩)] w fun e w'=>Leaves 2 e/\Below w.heap.size w w':=by
 have HW:=am (pw h hG hH hp (fun e=>by rw[hd]at e;cases e) hc);have E:Hp.words p m=([],2):=by unfold Hp.words;rw[hd];rfl
 rw[E]at HW;clear h hG hH hc hd E;go_enter Tryz.func98,Tryz.ntmps98;go_wp2_with (first
  |(go_at_call 20;(with_reducible refine HW.out.mono ?_);rintro e w1 ⟨v,rfl,ho,hb⟩;have HO:=am ho;have HB:=am hb;clear ho hb)
  |(go_at_call 102;(with_reducible refine(m6 (by decide) _).mono ?_);rintro e w2 ⟨rfl,hb⟩;have HB2:=am (aa HB.out hb);clear hb))
 exact⟨rfl,rfl,HB2.out⟩
theorem im(hH:oa w H M p T (.pointer (some ⟨G,0,none⟩)) cv worn)(h:MemAt w M C m)(hG:j7 w G M T)(hn:Hp.isWorn worn m=false):Calls Tryz.prog 100 #[.pointer (some ⟨H,0,none⟩)] w fun e w'=>e=.returned (.tuple #[])/\w=w':=by
 have HW:=am (qcp hH h hG);rw[hn]at HW;clear h hG hH hn;go_enter Tryz.func100,Tryz.ntmps100;go_wp2_with (first|(go_at_call 19;(with_reducible refine HW.out.mono ?_);rintro e w1 ⟨rfl,rfl⟩))
 go_end0;exact⟨rfl,rfl⟩
theorem oy(hH:oa w H M p T (.pointer (some ⟨G,0,none⟩)) cv worn)(h:MemAt w M C m)(hG:j7 w G M T)(hn:Hp.isWorn worn m=true):Calls Tryz.prog 100 #[.pointer (some ⟨H,0,none⟩)] w fun e w'=>Leaves 3 e/\w=w':=by
 have HW:=am (qcp hH h hG);rw[hn]at HW;clear h hG hH hn;go_enter Tryz.func100,Tryz.ntmps100;go_wp2_with (first|(go_at_call 19;(with_reducible refine HW.out.mono ?_);rintro e w1 ⟨rfl,rfl⟩))
 simp[Oper.upon,Instr.panic,goPanic,go_sem];exact⟨rfl,rfl,rfl⟩
theorem qcf(hH:oa w H M p T lv cv worn)(h:MemAt w M C m)(hd:m.down=false):Calls Tryz.prog 55 #[.pointer (some ⟨H,0,none⟩)] w fun e w'=>e=.returned (.int .i64 (wrap64 (m.regs.getD 2 0)))/\Below w.heap.size w w':=by
 have k1:w.cell? ⟨H,0,none⟩=some (.pointer (some ⟨M,0,none⟩)):=(aj hH 0).trans rfl;have HW:=am (kz h 2);have E:Nvm.reg m 2=(m.regs.getD 2 0,0):=by unfold Nvm.reg;rw[hd];rfl
 rw[E]at HW;clear h hH hd E;generalize m.regs.getD 2 0=r at HW ⊢;go_enter Tryz.func55,Tryz.ntmps55;go_wp2_with (first
  |(go_at_call 35;(with_reducible refine HW.out.mono ?_);rintro e w1 ⟨rfl,rfl⟩)
  |(go_at_call 102;(with_reducible refine(js _).mono ?_);rintro e w2 ⟨rfl,hb⟩))
 go_ret;exact⟨rfl,hb⟩
end
structure Bl where
 M:Nat
 C:Nat
 L:Nat
 T:Nat
 G:Nat
 H:Nat
 q:CBlk
def Bl.W(b:Bl):Nat->Prop:=fun k=>MCT b.M b.C b.T k\/k=b.H\/b.q.At k
def Bl.All(b:Bl):Nat->Prop:=fun k=>b.W k\/k=b.L\/k=b.G
structure St where
 m:Mem
 puts:Int
 now:List Int
 kept:List Int
 worn:Bool
structure HeapAt (w:World) (b:Bl) (p:Pn) (st:St):Prop where
 tur:TurnAt w b.M b.C b.L b.T p.shape st.m st.puts
 log:j7 w b.G b.M b.T
 box:oa w b.H b.M p b.T (.pointer (some ⟨b.G,0,none⟩)) (.pointer (some ⟨b.q.K,0,none⟩)) st.worn
 cnt:CntAt w b.q p.batch st.now st.kept
 gw:¬ b.W b.G
 lw:¬ b.W b.L
 hm:¬ MCT b.M b.C b.T b.H
 qm:∀ k,b.q.At k→¬ MCT b.M b.C b.T k
 qh:¬ b.q.At b.H
section
variable{w:World}{b:Bl}{p:Pn}{st:St}
theorem HeapAt.step(h:HeapAt w b p st){w':World}{S:Nat->Prop}(k:aq S w w')(hS:∀ j,b.All j→¬ S j):HeapAt w' b p st:=by
 refine⟨h.tur.kept k (fun j hj=>hS j ?_),h.log.kept k (hS _ (.inr (.inr rfl))),k.of h.box (hS _ (.inl (.inr (.inl rfl)))),h.cnt.step k (fun j hj=>hS j (.inl (.inr (.inr hj)))),h.gw,h.lw,h.hm,h.qm,h.qh⟩;rcases hj with rfl|rfl|rfl|rfl
 ·exact .inl (.inl (.inl rfl))
 ·exact .inl (.inl (.inr (.inl rfl)))
 ·exact .inr (.inl rfl)
 ·exact .inl (.inl (.inr (.inr rfl)))
theorem HeapAt.below(h:HeapAt w b p st){w':World}(hb:Below w.heap.size w w'):HeapAt w' b p st:=h.step (S:=fun _=>False) (aq.of_below hb) (fun _ _=>id)
theorem HeapAt.ng(h:HeapAt w b p st):¬ MCT b.M b.C b.T b.G:=fun e=>h.gw (.inl e)
theorem HeapAt.turned(h:HeapAt w b p st){w':World}{m':Mem}{puts':Int}(ht:TurnAt w' b.M b.C b.L b.T p.shape m' puts')(k:aq (MCT b.M b.C b.T) w w'):HeapAt w' b p {st with m:=m',puts:=puts'}:=
 ⟨ht,h.log.kept k h.ng,k.of h.box h.hm,h.cnt.step k h.qm,h.gw,h.lw,h.hm,h.qm,h.qh⟩
theorem HeapAt.counted(h:HeapAt w b p st){w':World}{now' kept':List Int}(hc:CntAt w' b.q p.batch now' kept')(k:aq b.q.At w w'):HeapAt w' b p {st with now:=now',kept:=kept'}:=by
 refine⟨h.tur.kept k (fun j hj hq=>?_),h.log.kept k (fun e=>h.gw (.inr (.inr e))),k.of h.box h.qh,hc,h.gw,h.lw,h.hm,h.qm,h.qh⟩;rcases hj with rfl|rfl|rfl|rfl
 ·exact h.qm _ hq (.inl rfl)
 ·exact h.qm _ hq (.inr (.inl rfl))
 ·exact h.lw (.inr (.inr hq))
 ·exact h.qm _ hq (.inr (.inr rfl))
theorem HeapAt.flag(h:HeapAt w b p st)(f:Bool):HeapAt (w.setCell ⟨b.H,8,none⟩ (.bool f)) b p {st with worn:=f}:=by
 have far:∀ k,k≠b.H->(w.setCell ⟨b.H,8,none⟩ (.bool f)).heap[k]? =w.heap[k]? :=fun k hk=>Below.heap_setCell _ _ _ _ hk;have kp:aq (fun k=>k=b.H) w (w.setCell ⟨b.H,8,none⟩ (.bool f)):=aq.set (S:=fun k=>k=b.H) (aq.refl _ w) (p:=⟨b.H,8,none⟩) (.inl rfl) _;refine⟨h.tur.kept kp (fun j hj e=>?_),h.log.kept kp (fun e=>h.gw (.inr (.inl e))),?_,h.cnt.step kp (fun j hj e=>h.qh (by rw[<-e];exact hj)),h.gw,h.lw,h.hm,h.qm,h.qh⟩
 ·rcases hj with rfl|rfl|rfl|rfl
  ·exact h.hm (.inl e.symm)
  ·exact h.hm (.inr (.inl e.symm))
  ·exact h.lw (.inr (.inl e))
  ·exact h.hm (.inr (.inr e.symm))
 ·show(w.setCell ⟨b.H,8,none⟩ (.bool f)).heap[b.H]? =_;rw[heap_setCell_same _ _ _ _ _ _ h.box];rfl
theorem HeapAt.w_of_mct(h:HeapAt w b p st){w':World}(k:aq (MCT b.M b.C b.T) w w'):aq b.W w w':=k.mono (fun _ _ e=>.inl e)
theorem HeapAt.lt(h:HeapAt w b p st):∀ j,w.heap.size<=j→¬ b.All j:=fun j hj=>by
 have a1:=h.tur.mem.lt;have a2:=d7 h.tur.tur;have a3:=d7 h.tur.lin;have a4:=d7 h.log;have a5:=d7 h.box;have a6:=d7 h.cnt.box;have a7:=Kd.R_lt h.cnt.nr b.q.NB (by simp[Value.ownBlock]);have a8:=Kd.R_lt h.cnt.kr b.q.KB (by simp[Value.ownBlock]);rintro (((e|e|e)|e|e|e|e)|e|e) <;> omega
end
end Go.Proofs.YtmfhaliclnnbaaaGreat.Sys
