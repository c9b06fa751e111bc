import Derived.Test.YtmfhaliclnnbaaaGreatZTopWholeM7
import Derived.Test.YtmfhaliclnnbaaaGreatZTopWholeM6
import Derived.Test.YtmfhaliclnnbaaaGreatZTopWholeM9
import Derived.Test.YtmfhaliclnnbaaaGreatZTopWholeM1
import Derived.Test.YtmfhaliclnnbaaaGreatZTopWholeM5
namespace Go.Proofs.YtmfhaliclnnbaaaGreat.Sys
open Go.RowKit Go.Proofs.YtmfhaliclnnbaaaGreatW.PrintWords Go.Proofs.YtmfhaliclnnbaaaGreatW.PrintLast Go.Proofs.YtmfhaliclnnbaaaGreatW.PrintMore
open Go.Proofs.YtmfhaliclnnbaaaGreat.XTopWhole Go.Proofs.YtmfhaliclnnbaaaGreat.Pl
set_option linter.unusedVariables false
set_option linter.unusedSimpArgs false
set_option maxRecDepth 100000
set_option maxHeartbeats 8000000
def stp(l:Array Bool)(i:Nat):Array Bool:=l.set! i true
section
variable{P:Program}{ops:Array Oper}{Q:Exit->Act->World->Prop}{md:Region.Mode}{S:World->Prop}{ds:List Nat}
theorem ps{oi:Oper}{v:Value}{fuel:Nat}{l:Array Bool}{a a':Act}{w:World}(i N:Nat)(h:bf P md ops Q S ds fuel (stp l i) a' w)
  (hi:ops[i]? =some oi:=by exact rfl) (hN:oi.dst=some N:=by exact rfl) (hc:qg7 md ops l (stp l i) i=true:=by kernel_rfl) (hQ:∀ c a w,Q (.panic c) (a.put oi.dst v) w->Q (.panic c) a w:=by exact fun _ _ _ h=>h) (hw:Region.wanted oi (yielded ops a.tmps)=true:=by rfl)
  (hy:∀ w,(execOp a.eval oi).run P w=.ok (.value v) w:=by(intro w';go_simp;with_reducible rfl)) (ha:a.put (some N) v=a':=by(simp only[Act.put,List.setIfInBounds_toArray,List.set_cons_zero,List.set_cons_succ,bu,iu];rfl)):bf P md ops Q S ds (fuel+1) l a w:=
 ja (stp l i) hi hN hc hQ (Or.inl ⟨hw,hy⟩) ha h
theorem pg{oi:Oper}{fuel:Nat}{l:Array Bool}{a a':Act}{w:World}(i N:Nat)(h:bf P md ops Q S ds fuel (stp l i) a' w)
  (hi:ops[i]? =some oi:=by exact rfl) (hN:oi.dst=some N:=by exact rfl) (hc:qg7 md ops l (stp l i) i=true:=by kernel_rfl) (hQ:∀ c a w,Q (.panic c) (a.put oi.dst undef) w->Q (.panic c) a w:=by exact fun _ _ _ h=>h) (hw:Region.wanted oi (yielded ops a.tmps)=false:=by rfl)
  (ha:a.put (some N) undef=a':=by(simp only[Act.put,List.setIfInBounds_toArray,List.set_cons_zero,List.set_cons_succ,bu,iu];rfl)):bf P md ops Q S ds (fuel+1) l a w:=
 ja (stp l i) hi hN hc hQ (Or.inr ⟨hw,rfl⟩) ha h
theorem vs{oi:Oper}{v:Value}{fuel:Nat}{l:Array Bool}{a a':Act}{w:World}(i N:Nat)(hS:S w)(hy:∀ w,S w->(execOp a.eval oi).run P w=.ok (.value v) w)(h:bf P md ops Q S ds fuel (stp l i) a' w)
  (hi:ops[i]? =some oi:=by exact rfl) (hN:oi.dst=some N:=by exact rfl) (hc:yr md ops ds l (stp l i) i=true:=by kernel_rfl) (hQ:∀ c a w,Q (.panic c) (a.put oi.dst v) w->Q (.panic c) a w:=by exact fun _ _ _ h=>h) (hw:Region.wanted oi (yielded ops a.tmps)=true:=by rfl)
  (ha:a.put (some N) v=a':=by(simp only[Act.put,List.setIfInBounds_toArray,List.set_cons_zero,List.set_cons_succ,bu,iu];rfl)):bf P md ops Q S ds (fuel+1) l a w:=
 take_ (stp l i) hi hN hc hQ (Or.inl ⟨hw,hy⟩) hS ha h
theorem vg{oi:Oper}{v:Value}{fuel:Nat}{l:Array Bool}{a a':Act}{w:World}(i N:Nat)(hi:ops[i]? =some oi)(hS:S w)(hy:∀ w,S w->(execOp a.eval oi).run P w=.ok (.value v) w)(h:bf P md ops Q S ds fuel (stp l i) a' w)
  (hN:oi.dst=some N:=by exact rfl) (hc:yr md ops ds l (stp l i) i=true:=by kernel_rfl) (hQ:∀ c a w,Q (.panic c) (a.put oi.dst v) w->Q (.panic c) a w:=by exact fun _ _ _ h=>h) (hw:Region.wanted oi (yielded ops a.tmps)=true:=by rfl)
  (ha:a.put (some N) v=a':=by(simp only[Act.put,List.setIfInBounds_toArray,List.set_cons_zero,List.set_cons_succ,bu,iu];rfl)):bf P md ops Q S ds (fuel+1) l a w:=
 take_ (stp l i) hi hN hc hQ (Or.inl ⟨hw,hy⟩) hS ha h
theorem os{oi:Oper}{fuel:Nat}{l:Array Bool}{a:Act}{w:World}{f:FuncId}{fn:Func}{as_:Array Operand}{ts:Array TypeId}(i N:Nat)(hf:P.funcs[f]? =some fn)(args:Array Value)
  (h:Calls P f args w fun e w'=>∃ v,e=.returned v/\S w'∧(S w'→bf P md ops Q S ds fuel (stp l i) (a.put (some N) v) w'))
  (hi:ops[i]? =some oi:=by exact rfl) (hN:oi.dst=some N:=by exact rfl) (hc:n9 md ops l (stp l i) i=true:=by kernel_rfl) (hd:i ∉ ds:=by decide) (hname:(fn.name=="runtime.NumGoroutine")=false:=by kernel_rfl) (hb:fn.body.isSome=true:=by exact rfl)
  (hw:Region.wanted oi (yielded ops a.tmps)=true:=by rfl) (hop:oi.op=.call {callee:=.value (.func f),args:=as_,argTypes:=ts}:=by exact rfl) (hargs:as_.map a.eval=args:=by(simp only[List.map_toArray,List.map_cons,List.map_nil];rfl)):bf P md ops Q S ds (fuel+1) l a w:=
 ip (stp l i) hi hN hc hd (fun K hK=>fv hf hname hb args hw hN hop hargs (h.mono fun e w' ⟨v,e1,hs,k⟩=>⟨v,e1,hK.out _ _ hs k⟩))
theorem es{oi:Oper}{fuel:Nat}{l:Array Bool}{a:Act}{w:World}(i N:Nat)(v:Value)(w1:World)(hi:ops[i]? =some oi)(hrun:(execOp a.eval oi).run P w=.ok (.value v) w1)(hS:S w1)(h:S w1->bf P md ops Q S ds fuel (stp l i) (a.put (some N) v) w1)
  (hN:oi.dst=some N:=by exact rfl) (hc:n9 md ops l (stp l i) i=true:=by kernel_rfl) (hd:i ∉ ds:=by decide) (hw:Region.wanted oi (yielded ops a.tmps)=true:=by rfl):bf P md ops Q S ds (fuel+1) l a w:=
 ip (stp l i) hi hN hc hd (fun K hK=>jt hw hN hrun (hK.out _ _ hS h))
theorem nz{fuel:Nat}{l:Array Bool}{a a':Act}{w:World}(h:bf P md ops Q S ds fuel l a' w)(ha:a=a':=by(simp only[Act.put,List.setIfInBounds_toArray,List.set_cons_zero,List.set_cons_succ,bu,iu];rfl)):bf P md ops Q S ds fuel l a w:=mq ha h
end
theorem vy{o:Oper}{a:Act}{w:World}(t:TypeId)(parts:Array (Nat×Operand))(ho:o.op=.build t parts)(vals:List (Nat×Value))(hv:(parts.map fun(i,x)=>(i,a.eval x)).toList=vals)(cells:Array Value)(hb:Tryz.prog.built t vals=some cells):(execOp a.eval o).run Tryz.prog w=.ok (.value (.agg cells)) w:=by
 have h:=run_build (P:=Tryz.prog) w t (parts.map fun(i,x)=>(i,a.eval x)) cells (by rw[hv];exact hb);unfold execOp;simp only[ho,Sem.run_bind,h];rfl
theorem bz{v w0 w1:World}(h:Aside0 (Below v.heap.size v w0))(hs:Below w0.heap.size w0 w1:=by repeat (first|exact ai _ _|apply ca|apply bq|apply bg)):Below v.heap.size v w1:=aa h.out hs
theorem rz{α:Type}{d:Kd α}{e base:Nat}{ok:Nat->Prop}{v:Value}{xs:List α}{w0 w1:World}(h:Aside0 (d.R e w0 base ok v xs))(hs:Below w0.heap.size w0 w1:=by repeat (first|exact ai _ _|apply ca|apply bq|apply bg)):d.R e w1 base ok v xs:=Kd.R_below h.out hs
theorem wk1(k:Nat)(h:k<=1000000):Value.int .i64 (wrap64 ((k:Int)+1))=.int .i64 ((k+1:Nat):Int):=congrArg _ (w64 (n:=(k:Int)+1) (by omega))
theorem wk2{k n:Nat}(h:k<n)(hn:k<=1000000):n-(intOf (Value.int .i64 (wrap64 ((k:Int)+1)))).toNat<n-(intOf (Value.int .i64 (k:Int))).toNat:=by
 rw[w64 (by omega)];simp only[intOf];omega
structure Spared (w0 W w1:World) (e:Nat):Prop where
 blk:∀ (g:Nat) (cs:Array Value) (t:Nat),e≠t->W.heap[g]? =some (Obj.cells cs t (0,0))->w1.heap[g]? =some (Obj.cells cs t (0,0))
 row:∀ {α:Type} (d:Kd α) (t:Nat) (u:Value) (ys:List α),(∀ q,q∈t::d.E->q≠e)->Kd.R d t W w0.heap.size (fun _=>True) u ys->Kd.R d t w1 w0.heap.size (fun _=>True) u ys
theorem qn8{α:Type}{d:Kd α}{e:Nat}{w0 W w1:World}{v:Value}{xs:List α}{base:Nat}{ok:Nat->Prop}(HO:Kd.R d e W base ok v xs)(hg:W.grownBy w1 v.ownBlock):Spared w0 W w1 e:=
 ⟨fun g cs t ht hb=>l6 hb hg (Kd.R_ne HO hb ht),fun d t u ys hq h=>Kd.R_over' h (Kd.R_typed HO) hq hg⟩
section
variable{ops:Array Oper}{rest:List Oper}{o:Oper}{a:Act}{Q:Exit->Act->World->Prop}{w0 W:World}{s x:Tmp}{v:Value}
theorem apI{xs:List Int}(p:Int)(hgd:o.guard=none)(ho:o.op=.call {callee:=.builtin .append,args:=#[.tmp s, .tmp x],argTypes:=#[44,44]})(hs:a.eval (.tmp s)=v)(hx:a.eval (.tmp x)=.slice (some ⟨W.heap.size,0,none⟩) 1 1)
  (HO:Kd.R (Kd.int .i64) 3 W w0.heap.size (fun _=>True) v xs) (HB:Below w0.heap.size w0 W) (hl:xs.length<=1000000) (h:∀ v1 w1,Kd.R (Kd.int .i64) 3 w1 w0.heap.size (fun _=>True) v1 (xs++[p])->Below w0.heap.size w0 w1->wpList Tryz.prog ops Q rest (a.put o.dst v1) w1):
  wpList Tryz.prog ops Q (o::rest) a (W.alloc (.cells [Value.int .i64 p].toArray 3)):=
 Kd.R_append (Kd.int .i64) (w0:=w0) w0.heap.size hgd (.tmp s) (.tmp x) 44 3 (.int .i64 0) 8 ho Tryz.underlying44 qbj rfl (by decide) (by omega) v xs p [.int .i64 p] (fun _=>True) (fun _=>False) hs hx rfl (fun _ hk=>hk.elim) (fun _ _=>trivial) HO HB (bk HB) (by omega) (fun v1 w1 h1 h2 _ _=>h v1 w1 h1 h2)
theorem qml{xs:List S116}(p:S116)(hgd:o.guard=none)(ho:o.op=.call {callee:=.builtin .append,args:=#[.tmp s, .tmp x],argTypes:=#[93,93]})(hs:a.eval (.tmp s)=v)(hx:a.eval (.tmp x)=.slice (some ⟨W.heap.size,0,none⟩) 1 1)
  (HO:Kd.R e6 116 W w0.heap.size (fun _=>True) v xs) (HB:Below w0.heap.size w0 W) (hl:xs.length<=1000000) (h:∀ v1 w1,Kd.R e6 116 w1 w0.heap.size (fun _=>True) v1 (xs++[p])->Below w0.heap.size w0 w1->wpList Tryz.prog ops Q rest (a.put o.dst v1) w1):
  wpList Tryz.prog ops Q (o::rest) a (W.alloc (.cells [Value.int .i64 p.f0, .int .i64 p.f1, .bool p.f2].toArray 116)):=
 Kd.R_append e6 (w0:=w0) w0.heap.size hgd (.tmp s) (.tmp x) 93 116 (.agg #[(.int .i64 0),(.int .i64 0),(.bool false)]) 24 ho Tryz.underlying93 mh rfl (by decide) (by omega) v xs p [.int .i64 p.f0, .int .i64 p.f1, .bool p.f2] (fun _=>True) (fun _=>False) hs hx (wj _ _ _ p) (fun _ hk=>hk.elim) (fun _ _=>trivial) HO HB (bk HB) (by omega) (fun v1 w1 h1 h2 _ _=>h v1 w1 h1 h2)
theorem qq8(p:S116)(hgd:o.guard=none){N:Tmp}(hd:o.dst=some N)(HB:Below w0.heap.size w0 W)(h:∀ v1 w1,Kd.R e6 116 w1 w0.heap.size (fun _=>True) v1 [p]->Below w0.heap.size w0 w1->Below W.heap.size W w1->wpList Tryz.prog ops Q rest (a.put o.dst v1) w1)
  (hrun:(execOp a.eval o).run Tryz.prog W=.ok (.value (.slice (some ⟨W.heap.size,0,none⟩) 1 1)) (W.alloc (.cells [Value.int .i64 p.f0, .int .i64 p.f1, .bool p.f2].toArray 116)):=by first|(go_simp;done)|(go_simp;rfl)):wpList Tryz.prog ops Q (o::rest) a W:=
 Kd.R_lit e6 (w0:=W) W.heap.size 116 hgd hd (xs:=[p]) (inner:=[.int .i64 p.f0, .int .i64 p.f1, .bool p.f2]) (ok:=fun _=>True) (okp:=fun _=>True) hrun (fp.c3 (show Kd.M e6 _ _ _ p [.int .i64 p.f0, .int .i64 p.f1, .bool p.f2]from wj _ _ _ p) (fp.none _ _)) (fun _ hk=>hk) trivial (ai _ _) (an _) (by simp)
  (fun v1 w1 h1 h2 _ _=>h v1 w1 (Kd.R_lower h1 (bk HB)) (aa HB h2) h2)
theorem qmm{xs:List S160}(p:S160)(hgd:o.guard=none)(ho:o.op=.call {callee:=.builtin .append,args:=#[.tmp s, .tmp x],argTypes:=#[59,59]})(hs:a.eval (.tmp s)=v)(hx:a.eval (.tmp x)=.slice (some ⟨W.heap.size,0,none⟩) 1 1)
  (HO:Kd.R jp 160 W w0.heap.size (fun _=>True) v xs) (HB:Below w0.heap.size w0 W) (hl:xs.length<=1000000) (h:∀ v1 w1,Kd.R jp 160 w1 w0.heap.size (fun _=>True) v1 (xs++[p])->Below w0.heap.size w0 w1->Spared w0 W w1 160->wpList Tryz.prog ops Q rest (a.put o.dst v1) w1):
  wpList Tryz.prog ops Q (o::rest) a (W.alloc (.cells [Value.int .i64 p.f0, .int .u64 p.f1].toArray 160)):=
 Kd.R_append jp (w0:=w0) w0.heap.size hgd (.tmp s) (.tmp x) 59 160 (.agg #[(.int .i64 0),(.int .u64 0)]) 16 ho Tryz.underlying59 qf5 rfl (by decide) (by omega) v xs p [.int .i64 p.f0, .int .u64 p.f1] (fun _=>True) (fun _=>False) hs hx (qo _ _ _ p) (fun _ hk=>hk.elim) (fun _ _=>trivial) HO HB (bk HB) (by omega) (fun v1 w1 h1 h2 hg _=>h v1 w1 h1 h2 (qn8 HO hg))
theorem qqa{S:World->Prop}{md:Region.Mode}{ds:List Nat}{fuel:Nat}{l:Array Bool}{xs:List S160}(p:S160)(i N:Nat)(hi:ops[i]? =some o)(hN:o.dst=some N)(ho:o.op=.call {callee:=.builtin .append,args:=#[.tmp s, .tmp x],argTypes:=#[59,59]})(hs:a.eval (.tmp s)=v)(hx:a.eval (.tmp x)=.slice (some ⟨W.heap.size,0,none⟩) 1 1)(HO:Kd.R jp 160 W w0.heap.size (fun _=>True) v xs)(HB:Below w0.heap.size w0 W)(hl:xs.length<=1000000)(h:∀ v1 w1,Kd.R jp 160 w1 w0.heap.size (fun _=>True) v1 (xs++[p])->Below w0.heap.size w0 w1->Spared w0 W w1 160->S w1/\(S w1->bf Tryz.prog md ops Q S ds fuel (stp l i) (a.put (some N) v1) w1))(hc:n9 md ops l (stp l i) i=true:=by kernel_rfl)(hd:i ∉ ds:=by decide)(hw:Region.wanted o (yielded ops a.tmps)=true:=by rfl):bf Tryz.prog md ops Q S ds (fuel+1) l a (W.alloc (.cells [Value.int .i64 p.f0, .int .u64 p.f1].toArray 160)):=by
 refine ip (stp l i) hi hN hc hd (fun K hK=>?_);have:=Kd.R_append_step (Q:=Q) (Kc:=K) jp (w0:=w0) w0.heap.size hw (.tmp s) (.tmp x) 59 160 (.agg #[(.int .i64 0),(.int .u64 0)]) 16 ho Tryz.underlying59 qf5 rfl (by decide) (by omega) v xs p [.int .i64 p.f0, .int .u64 p.f1] (fun _=>True) (fun _=>False) hs hx (qo _ _ _ p) (fun _ hk=>hk.elim) (fun _ _=>trivial) HO HB (bk HB) (by omega) (fun v1 w1 h1 h2 hg _=>by
  have h3:=h v1 w1 h1 h2 (qn8 HO hg);rw[hN];exact hK.out _ _ h3.1 h3.2)
 rw[hN]at this;exact this
end
end Go.Proofs.YtmfhaliclnnbaaaGreat.Sys
namespace Go.Proofs.YtmfhaliclnnbaaaGreat.Sys
open Go.RowKit Go.Proofs.YtmfhaliclnnbaaaGreatW.PrintWords Go.Proofs.YtmfhaliclnnbaaaGreatW.PrintLast Go.Proofs.YtmfhaliclnnbaaaGreatW.PrintMore
open Go.Proofs.YtmfhaliclnnbaaaGreat.XTopWhole Go.Proofs.YtmfhaliclnnbaaaGreat.Pl Go.Maps
set_option linter.unusedVariables false
set_option linter.unusedSimpArgs false
set_option maxRecDepth 100000
set_option maxHeartbeats 8000000
section
variable{w:World}{l:List S116}{A:Option Addr}{c:Nat}
theorem qif(hl:Wf l){need:Int}(hn:2<=need)(hr:Kd.C e6 w A l.length l)(hc:l.length<=c):Calls Tryz.prog 161 #[.slice A l.length c, .int .i64 need] w fun e w'=>∃ v out,e=.returned v/\Kd.R (Kd.int .i64) 3 w' w.heap.size (fun _=>True) v out/\FitsP l need l.length out/\out.length<=l.length/\Below w.heap.size w w':=by
 have HR:=am hr;have HW:=am hl;have n2:decide (need<2)=false:=ah (by omega);clear hr hn;go_enter Tryz.func161,Tryz.ntmps161;go_wp2;go_loopw [5,10] (fun v i wr=>∃ (k:Nat) (out:List Int),i=.int .i64 k/\k<=l.length/\Aside0 (FitsP l need k out)/\Aside0 (out.length<=k)/\Aside0 (Kd.R (Kd.int .i64) 3 wr w.heap.size (fun _=>True) v out)/\Aside0 (Below w.heap.size w wr)) (fun _ i _=>l.length-(intOf i).toNat)
 case atStart=>exact⟨0,[],rfl,by omega,⟨FitsP.zero l need⟩,⟨by simp⟩,⟨Kd.R_nil _ _ _ _ _⟩,⟨ai _ _⟩⟩
 case round =>
  obtain⟨k,out,rfl,hk,HF,HL,HO,HB⟩:=hrel;by_cases hlt:k<l.length
  ·have d3:decide ((k:Int)<l.length)=true:=af (by omega);obtain⟨ad,ea,hx0,hx1,hx2⟩:=fj (Kd.C_below HR.out HB.out) (k:Int) (by omega) (by omega);cases ea;rw[Int.toNat_natCast]at hx0 hx1 hx2;have p0:(0<=(k:Int))=True:=eq_true (by omega);have p1:((k:Int)<l.length)=True:=eq_true (by omega);have HWk:=am (wk1 k (by have:=HW.out.1;omega));have HMs:=am (wk2 hlt (by have:=HW.out.1;omega));have hd:OkB l need k∨¬ OkB l need k:=Classical.em _;unfold OkB at hd;generalize hx:ab l (k:Int)=x at hd hx0 hx1 hx2;have HX:=am hx;clear hx;rcases hd with⟨hu,hs⟩|hno
   ·rw [hu] at hx2;have d5 : decide (x.f1 < need) = false := ah (by omega);obtain ⟨Ao, co, eo⟩ := Kd.R_slice HO.out;subst eo;go_wp2;have hw1 : Below wr.heap.size wr (wr.alloc (.cells #[.int .i64 x.f0, .int .i64 x.f1, .bool false] 116)) := (ai _ _).alloc (an _) _;have hz := heap_alloc_new wr (.cells #[.int .i64 x.f0, .int .i64 x.f1, .bool false] 116);generalize wr.alloc (.cells #[.int .i64 x.f0, .int .i64 x.f1, .bool false] 116) = w1 at hw1 hz ⊢;have HO1 := am (Kd.R_below HO.out hw1);have HB1 := am (aa HB.out hw1);have HZ := am hz;clear hx0 hx1 hx2 hw1 hz HO HB;generalize wr.heap.size = g at HZ ⊢;rcases out with _ | ⟨a, out⟩
    case' nil=>have HF2:=am (FitsP.first (by omega) HF.out (by unfold OkB;rw[HX.out];exact⟨hu,hs⟩));have HQ:=HO1;have HL2:Aside0 (([]:List Int).length<=k):=⟨by simp⟩;refine dj (n:=15) (S:=fun _=>True) (ds:=[]) (onA 15 0) (by kernel_rfl) rfl rfl trivial (fun hHeld=>?_);refine ps 0 27 ?_;refine ps 1 28 ?_;refine ps 2 29 ?_;refine ps 3 30 ?_;refine pg 4 31 ?_;refine pg 5 32 ?_;refine pg 6 33 ?_;refine pg 7 34 ?_;refine pg 8 35 ?_;refine pg 9 36 ?_;refine pg 10 37 ?_;refine pg 11 38 ?_;refine pg 12 39 ?_;refine pg 13 40 ?_;refine ps 14 41 ?_;refine fa (by kernel_rfl) ?_;go_wp2;refine dj (n:=15) (S:=fun _=>True) (ds:=[]) (onA 15 0) (by kernel_rfl) rfl rfl trivial (fun hHeld=>?_);refine ps 0 42 ?_;refine ps 1 43 ?_;refine ps 2 44 ?_;refine ps 3 45 ?_;refine pg 4 46 ?_;refine pg 5 47 ?_;refine pg 6 48 ?_;refine pg 7 49 ?_;refine pg 8 50 ?_;refine pg 9 51 ?_;refine pg 10 52 ?_;refine pg 11 53 ?_;refine pg 12 54 ?_;refine pg 13 55 ?_;refine ps 14 56 ?_;refine fa (by kernel_rfl) ?_
    case' cons=>
     have hah:=HF.out.head;obtain⟨go,cap,ev,_⟩:=Kd.R_form HO1.out (by simp);injection ev with e1 _ e2;subst e1 e2;obtain⟨ad',ea,_,hy1,_⟩:=fj (Kd.C_below HR.out HB1.out) a hah.1 (by omega);cases ea;have q0:(0<=a)=True:=eq_true hah.1;have q1:(a<(l.length:Int))=True:=eq_true (by omega);have q2:decide ((0:Int)<((a::out).length:Int))=true:=af (by simp);generalize hy:ab l a=y at hy1;have HY:=am hy;have HS:=am (show w1.cell? ⟨g,1,none⟩=some (.int .i64 x.f1)/\w1.cell? ⟨go,0,none⟩=some (.int .i64 a)/\w1.cell? ⟨(ad.add (a.toNat*3)).block,(ad.add (a.toNat*3)).off+1,none⟩=some (.int .i64 y.f1)from⟨(aj HZ.out 1).trans rfl,(i8 HO1.out 0 (by simp)).1,hy1⟩);clear hy hy1;refine dj (n:=15) (S:=fun w'=>w'.cell? ⟨g,1,none⟩=some (.int .i64 x.f1)/\w'.cell? ⟨go,0,none⟩=some (.int .i64 a)/\w'.cell? ⟨(ad.add (a.toNat*3)).block,(ad.add (a.toNat*3)).off+1,none⟩=some (.int .i64 y.f1)) (ds:=[]) (onA 15 0) (by kernel_rfl) rfl rfl HS.out (fun hHeld=>?_);refine ps 0 27 ?_;refine ps 1 28 ?_;refine ps 2 29 ?_;refine ps 3 30 ?_;refine ps 4 31 ?_;refine ps 6 33 ?_;refine ps 7 34 ?_;refine ps 8 35 ?_;refine vs 5 32 hHeld (fun w' hs=>aw 3 (.tmp 31) rfl g 1 _ rfl hs.1 _ Tryz.underlying3 rfl) ?_;refine vs 9 36 hHeld (fun w' hs=>aw 3 (.tmp 35) rfl go 0 _ rfl hs.2.1 _ Tryz.underlying3 rfl) ?_;refine ps 10 37 ?_;refine ps 11 38 ?_;refine vs 12 39 hHeld (fun w' hs=>aw 3 (.tmp 38) rfl _ _ _ rfl hs.2.2 _ Tryz.underlying3 rfl) ?_;refine ps 13 40 ?_;refine ps 14 41 ?_;refine fa (by kernel_rfl) ?_;by_cases e1:x.f1<y.f1
     case' pos=>have r1:decide (x.f1<y.f1)=true:=af e1;have HF2:=am (HF.out.less (by unfold OkB;rw[HX.out];exact⟨hu,hs⟩) (by rw[HX.out,HY.out];exact e1));have HQ:Aside0 (Kd.R (Kd.int .i64) 3 w1 w.heap.size (fun _=>True) (.slice none 0 0) []):=⟨Kd.R_nil _ _ _ _ _⟩;have HL2:Aside0 (([]:List Int).length<=k):=⟨by simp⟩;go_wp2;refine dj (n:=15) (S:=fun _=>True) (ds:=[]) (onA 15 0) (by kernel_rfl) rfl rfl trivial (fun hHeld=>?_);refine ps 0 42 ?_;refine ps 1 43 ?_;refine ps 2 44 ?_;refine ps 3 45 ?_;refine pg 4 46 ?_;refine pg 5 47 ?_;refine pg 6 48 ?_;refine pg 7 49 ?_;refine pg 8 50 ?_;refine pg 9 51 ?_;refine pg 10 52 ?_;refine pg 11 53 ?_;refine pg 12 54 ?_;refine pg 13 55 ?_;refine ps 14 56 ?_;refine fa (by kernel_rfl) ?_
     case' neg=>
      have r1:decide (x.f1<y.f1)=false:=ah e1;go_wp2;by_cases e2:x.f1=y.f1
      case' pos=>have r2:decide (x.f1=y.f1)=true:=af e2;have r3:(x.f1==y.f1)=true:=beq_iff_eq.mpr e2;have HF2:=am (HF.out.same (by unfold OkB;rw[HX.out];exact⟨hu,hs⟩) (by rw[HX.out,HY.out];exact e2));have HQ:=HO1;have HL2:=HL;clear e2
      case' neg=>have r2:decide (x.f1=y.f1)=false:=ah e2;have r3:(x.f1==y.f1)=false:=beq_eq_false_iff_ne.mpr e2;have HF2:=am (HF.out.more (by rw[HX.out,HY.out];omega));clear e2
      all_goals
       refine dj (n:=15) (S:=fun w'=>w'.cell? ⟨g,1,none⟩=some (.int .i64 x.f1)/\w'.cell? ⟨go,0,none⟩=some (.int .i64 a)/\w'.cell? ⟨(ad.add (a.toNat*3)).block,(ad.add (a.toNat*3)).off+1,none⟩=some (.int .i64 y.f1)) (ds:=[]) (onA 15 0) (by kernel_rfl) rfl rfl HS.out (fun hHeld=>?_)
       refine ps 0 42 ?_
       refine ps 1 43 ?_
       refine ps 2 44 ?_
       refine ps 3 45 ?_
       refine ps 4 46 ?_
       refine ps 6 48 ?_
       refine ps 7 49 ?_
       refine ps 8 50 ?_
       refine vs 5 47 hHeld (fun w' hs=>aw 3 (.tmp 46) rfl g 1 _ rfl hs.1 _ Tryz.underlying3 rfl) ?_
       refine vs 9 51 hHeld (fun w' hs=>aw 3 (.tmp 50) rfl go 0 _ rfl hs.2.1 _ Tryz.underlying3 rfl) ?_
       refine ps 10 52 ?_
       refine ps 11 53 ?_
       refine vs 12 54 hHeld (fun w' hs=>aw 3 (.tmp 53) rfl _ _ _ rfl hs.2.2 _ Tryz.underlying3 rfl) ?_
       refine ps 13 55 ?_
       refine ps 14 56 ?_
       refine fa (by kernel_rfl) ?_
      case' neg=>
       go_wp2;go_roundw
       case rel=>exact⟨k+1,_,HWk.out,hlt,HF2,⟨by have:=HL.out;simp at this ⊢;omega⟩,⟨rz HO1⟩,⟨bz HB1⟩⟩
       case measure=>exact HMs.out
    all_goals go_wp2_with (first
     |((with_reducible refine b9 (N:=59) rfl ?_);refine mr rfl (.tmp 58) rfl (k:Int) rfl ?_)
     |((with_reducible refine di (b:=.append) (xs:=#[.tmp 57, .tmp 59]) rfl ?_);at_builtin;refine apI (k:Int) rfl rfl rfl rfl (rz HQ) (bz HB1) (by have h1:=HL2.out;have h2:=HW.out.1;exact Nat.le_trans h1 (by omega)) ?_;intro v1 w8 ho hb;have HO8:=am ho;have HB8:=am hb;clear ho hb))
    all_goals go_roundw
    all_goals first
     |exact⟨k+1,_,HWk.out,hlt,HF2,⟨by have h1:=HL2.out;first|(rw[List.length_append];exact Nat.add_le_add h1 (an 1))|simp⟩,HO8,HB8⟩
     |exact HMs.out
   ·have HF2:=am (HF.out.skip (by unfold OkB;rw[HX.out];exact hno));have hs:x.f2=true\/(x.f2=false/\decide (x.f1<need)=true):=by
     cases hb:x.f2
     ·exact .inr ⟨rfl,af (by rw[hb]at hno;simp at hno;omega)⟩
     ·exact .inl rfl
    rcases hs with hb|⟨hb,d5⟩
    all_goals (rw[hb]at hx2;go_wp2;go_roundw)
    all_goals first
     |exact⟨k+1,out,HWk.out,hlt,HF2,⟨by have:=HL.out;omega⟩,⟨Kd.R_below HO.out ((ai _ _).alloc (an _) _)⟩,⟨aa HB.out ((ai _ _).alloc (an _) _)⟩⟩
     |exact HMs.out
  ·have hkk:k=l.length:=by omega
   subst hkk;have d3:decide ((l.length:Int)<l.length)=false:=ah (by omega);go_wp2;go_ret;exact⟨_,out,rfl,HO.out,HF.out,HL.out,HB.out⟩
end
section
variable{w:World}{l:List S116}{A:Option Addr}{c:Nat}
theorem px{k:Nat}(h:k<l.length):l.drop k=ab l k::l.drop (k+1):=by
 unfold ab;rw[Int.toNat_natCast,ax,bx h];exact List.drop_eq_getElem_cons h
theorem qba{words:Int}(hm:mb l words)(hr:Kd.C e6 w A l.length l)(hc:l.length<=c):Calls Tryz.prog 95 #[.slice A l.length c, .int .i64 words] w fun e w'=>e=.returned (.bool true)/\Below w.heap.size w w':=by
 have HR:=am hr;have hwm:=hm.1.2.1;have HM:fc.f words=some true:=by rw[ua];exact congrArg some (af hm.1)
 have HMw:=am HM;have hlen:=j6 hm;clear hr HM;go_enter Tryz.func95,Tryz.ntmps95;go_wp2_with (first
  |(go_at_call 83;(with_reducible refine(fc.calls words true _ HMw.out).mono ?_);rintro e w1 ⟨rfl,hd⟩;have HB:=am hd.below;clear hd))
 go_loopw [5,6,14] (fun a f i wr=>∃ (k:Nat) (av:Int) (fr:Bool),a=.int .i64 av/\f=.bool fr/\i=.int .i64 k/\k<=l.length/\Aside0 (0<=av/\f9 words av fr (l.drop k))/\Aside0 (Below w.heap.size w wr)) (fun _ _ i _=>l.length-(intOf i).toNat)
 case atStart=>exact⟨0,0,false,rfl,rfl,rfl,by omega,⟨Int.le_refl 0,hm.2⟩,HB⟩
 case round=>
  clear HB;obtain⟨k,av,fr,rfl,rfl,rfl,hk,HP,HB⟩:=hrel;by_cases hlt:k<l.length
  ·have d3:decide ((k:Int)<l.length)=true:=af (by omega);obtain⟨ad,ea,hx0,hx1,hx2⟩:=fj (Kd.C_below HR.out HB.out) (k:Int) (by omega) (by omega);cases ea;rw[Int.toNat_natCast]at hx0 hx1 hx2;have p0:(0<=(k:Int))=True:=eq_true (by omega);have p1:((k:Int)<l.length)=True:=eq_true (by omega);have HWk:=am (wk1 k (by omega));have HMs:=am (wk2 hlt (by omega));obtain⟨h0,hp⟩:=HP.out;rw[px hlt]at hp;generalize ab l (k:Int)=x at hp hx0 hx1 hx2;obtain⟨e0,e1,e2,e3,e4,hn⟩:=hp;rw[e0]at hx0;have HBm:Aside0 (ec.f x.f1=some true):=⟨by rw[rg,af ⟨e1,e2⟩]⟩;have w1:wrap64 (words-av)=words-av:=w64 (by omega);have w2:wrap64 (av+x.f1)=av+x.f1:=w64 (by omega);have r1:decide (wrap64 (words-av)<x.f1)=false:=ah (by rw[w1];omega);have HNx:Aside0 (0<=av+x.f1/\f9 words (av+x.f1) (!x.f2) (l.drop (k+1))):=⟨by omega,hn⟩;have HLt:=am hlt;clear hn w1 w2 hlt;generalize x.f2=bb at hx2 HNx e4;have hs:fr=false\/(fr=true/\(!bb)=false):=by
    cases fr
    ·exact .inl rfl
    ·exact .inr ⟨rfl,by rw[e4 rfl];rfl⟩
   clear e4;rcases hs with rfl|⟨rfl,hb⟩
   all_goals (go_wp2_with (first
    |(go_at_call 125;(with_reducible refine(ec.calls x.f1 true _ HBm.out).mono ?_);rintro e w3 ⟨rfl,hd⟩;have HB3:=am (aa (aa HB.out ((ai _ _).alloc (an _) _)) hd.below);have hz:=ap (heap_alloc_new wr (.cells #[.int .i64 av, .int .i64 x.f1, .bool bb] 116)) hd.below;have z1:w3.cell? ⟨wr.heap.size,1,none⟩=some (.int .i64 x.f1):=(aj hz 1).trans rfl;have z2:w3.cell? ⟨wr.heap.size,2,none⟩=some (.bool bb):=(aj hz 2).trans rfl;clear hd hz)))
   ·exact⟨⟨k+1,_,_,rfl,rfl,congrArg _ (by omega),HLt.out,HNx,HB3⟩,by have:=HLt.out;simp[intOf];omega⟩
   ·rw[hb]at HNx;exact⟨⟨k+1,_,_,rfl,rfl,congrArg _ (by omega),HLt.out,HNx,HB3⟩,by have:=HLt.out;simp[intOf];omega⟩
  ·have hkk:k=l.length:=by omega
   subst hkk;have d3:decide ((l.length:Int)<l.length)=false:=ah (by omega);have h:=HP.out.2;rw[List.drop_length]at h;have r1:(av==words)=true:=beq_iff_eq.mpr h;go_wp2;go_ret;exact⟨rfl,HB.out⟩
theorem zo{v:List Int}{words:Int}(hV:HV l v words)(hr:Kd.C (Kd.int .u64) w A v.length v)(hc:v.length<=c):Calls Tryz.prog 45 #[.slice A v.length c] w fun e w'=>∃ A' c',e=.returned (.tuple #[.slice A' l.length c', .bool true])/\Kd.R e6 116 w' w.heap.size (fun _=>True) (.slice A' l.length c') l/\Below w.heap.size w w':=by
 have HR:=am hr;have hlen:=j6 hV.1;have HHv:=am hV;have HVl:=am hV.2.2.1;have hwm:=hV.1.1.2.1;clear hr hV;go_enter Tryz.func45,Tryz.ntmps45;go_wp2;go_loopw [4,5] (fun o a wr=>∃ (k:Nat) (av:Int) (fr:Bool),a=.int .i64 av/\k<=l.length/\Aside0 (0<=av/\av<=words/\f9 words av fr (l.drop k))/\Aside0 (Kd.R e6 116 wr w.heap.size (fun _=>True) o (l.take k))/\Aside0 (Below w.heap.size w wr)) (fun _ a _=>v.length-(intOf a).toNat)
 case atStart=>exact⟨0,0,false,rfl,by omega,⟨Int.le_refl 0,by have:=HHv.out.1.1.1;omega,HHv.out.1.2⟩,⟨Kd.R_nil _ _ _ _ _⟩,⟨ai _ _⟩⟩
 case round=>
  obtain⟨k,av,fr,rfl,hk,HP,HO,HB⟩:=hrel;obtain⟨h0,hw,hp⟩:=HP.out;have hvl:=HVl.out;by_cases hlt:av<(v.length:Int)
  ·have d3:decide (av<(v.length:Int))=true:=af hlt;have hkl:k<l.length:=by
    rcases Nat.lt_or_ge k l.length with h|h
    ·exact h
    ·rw[List.drop_of_length_le h]at hp;have:av=words:=hp;omega
   have htk:l.take (k+1)=l.take k++[ab l k]:=by rw[List.take_succ_eq_append_getElem hkl];unfold ab;rw[Int.toNat_natCast,ax,bx hkl];rfl
   have hmem:ab l (k:Int)∈l:=jl (by omega) (by omega);have hhead:=HHv.out.2.2.2 _ hmem;rw[px hkl]at hp;obtain⟨ad,ea,hx⟩:=Kd.at_int (Kd.C_below HR.out HB.out) av h0 hlt;cases ea;have HTk:=am htk;generalize ab l (k:Int)=x at hp hhead HTk;obtain⟨e0,e1,e2,e3,e4,hn⟩:=hp;subst e0;rw[hhead]at hx;have HPr:Aside0 (ka.f (nc x)=some (x.f1,x.f2,true)):=⟨by
    have h1:=qja x;rw[qdg (by unfold nc;split <;> omega),h1.1,h1.2,if_pos ⟨e1,e2⟩]⟩
   have p0:(0<=x.f0)=True:=eq_true h0;have p1:(x.f0<(v.length:Int))=True:=eq_true hlt;have w2:wrap64 (x.f0+x.f1)=x.f0+x.f1:=w64 (by omega);have HW2:=am w2;have HNx:Aside0 (0<=x.f0+x.f1/\x.f0+x.f1<=words/\f9 words (x.f0+x.f1) (!x.f2) (l.drop (k+1))):=⟨by omega,by omega,hn⟩;have HLt:Aside0 (k+1<=l.length/\2<=x.f1/\x.f0<(v.length:Int)/\0<=x.f0):=⟨by omega,e1,hlt,h0⟩;clear hn w2 hlt htk hhead hmem e4 hvl;go_wp2_with (first
    |(go_at_call 94;(with_reducible refine(ka.calls (nc x) x.f1 x.f2 true _ HPr.out).mono ?_);rintro e w3 ⟨rfl,hd⟩;have HB3:=am (aa HB.out hd.below);have HO3:=am (Kd.R_below HO.out hd.below);clear hd)
    |((with_reducible refine di (b:=.append) (xs:=#[.tmp 24, .tmp 29]) rfl ?_);at_builtin;refine qml x rfl rfl rfl rfl HO3.out HB3.out (by rw[List.length_take];omega) ?_;intro v1 w8 ho hb;have HO8:=am ho;have HB8:=am hb;clear ho hb))
   exact⟨⟨k+1,_,_,rfl,HLt.out.1,HNx,⟨by rw[HTk.out];exact HO8.out⟩,HB8⟩,by have:=HLt.out;simp only[intOf];omega⟩
  ·have hav:av=words:=by omega
   have hkk:k=l.length:=by
    rcases Nat.lt_or_ge k l.length with h|h
    ·rw[px h]at hp;have:=hp.2.1;have:=hp.2.2.2.1;omega
    ·omega
   subst hkk;have d3:decide (av<(v.length:Int))=false:=ah hlt;rw[List.take_length]at HO;obtain⟨A',c',rfl⟩:=Kd.R_slice HO.out;have HCm:Aside0 (∀ w',Kd.R e6 116 w' w.heap.size (fun _=>True) (.slice A' l.length c') l->Calls Tryz.prog 95 #[.slice A' l.length c', .int .i64 v.length] w' fun e w''=>e=.returned (.bool true)/\Below w'.heap.size w' w''):=⟨fun w' h=>by
    obtain⟨_,q1,q2⟩:=Kd.R_reads' h;exact qba (by rw[HVl.out];exact HHv.out.1) q2 q1⟩
   clear hvl hav;go_wp2_with (first
    |(go_at_call 95;refine(HCm.out _ HO.out).mono ?_;rintro e w3 ⟨rfl,hb⟩;have HB3:=am (aa HB.out hb);have HO3:=am (Kd.R_below HO.out hb);clear hb))
   go_ret2;exact⟨_,_,rfl,HO3.out,HB3.out⟩
end
section
variable{w:World}{l:List S116}{A A2:Option Addr}{c c2:Nat}{counts:List Int}
def qku(l:List S116)(counts:List Int)(x y:Int):Prop:=nw (ab l x).f0 counts<nw (ab l y).f0 counts\/(nw (ab l x).f0 counts=nw (ab l y).f0 counts/\(ab l x).f0<(ab l y).f0)
theorem z6(x:Int):jq l counts ([]++[x]) x:=.inr ⟨by simp,fun y hy=>by simp at hy;subst hy;exact .inr ⟨rfl,Int.le_refl _⟩⟩
theorem qct{pre:List Int}{best x:Int}(h:∀ y∈pre,Leq l counts best y)(hb:qku l counts x best):jq l counts (pre++[x]) x:=.inr ⟨by simp,fun y hy=>by
 rcases List.mem_append.1 hy with hy|hy
 ·have:=h y hy;unfold Leq qku at *;omega
 ·simp at hy;subst hy;exact .inr ⟨rfl,Int.le_refl _⟩⟩
theorem qcu{pre:List Int}{best x:Int}(hm:best∈pre)(h:∀ y∈pre,Leq l counts best y)(hb:¬ qku l counts x best):jq l counts (pre++[x]) best:=.inr ⟨by simp[hm],fun y hy=>by
 rcases List.mem_append.1 hy with hy|hy
 ·exact h y hy
 ·simp at hy;subst hy;unfold Leq qku at *;omega⟩
def R3(w:World)(ad:Addr)(i:Nat)(x:S116):Prop:=w.cell? (ad.add (i*3))=some (.int .i64 x.f0)/\w.cell? ⟨(ad.add (i*3)).block,(ad.add (i*3)).off+1,none⟩=some (.int .i64 x.f1)/\w.cell? ⟨(ad.add (i*3)).block,(ad.add (i*3)).off+2,none⟩=some (.bool x.f2)
theorem l9{w w':World}{p:Addr}{v:Value}(h:w.cell? p=some v)(hb:Below w.heap.size w w'):w'.cell? p=some v:=(hb.cell (World.block_lt_of_cell? w _ h)).trans h
theorem R3.on{w w':World}{ad:Addr}{i:Nat}{x:S116}(h:R3 w ad i x)(hb:Below w.heap.size w w'):R3 w' ad i x:=⟨l9 h.1 hb,l9 h.2.1 hb,l9 h.2.2 hb⟩
theorem mg{A:Option Addr}(h:Kd.C e6 w A l.length l){i:Nat}(h1:i<l.length):∃ ad,A=some ad/\R3 w ad i (ab l i):=by
 obtain⟨ad,ea,a⟩:=fj h (i:Int) (by omega) (by omega);exact⟨ad,ea,a⟩
theorem qfg(hl:Wf l){need:Int}(hn:2<=need)(hr:Kd.C e6 w A l.length l)(hc:l.length<=c)(hr2:Kd.C (Kd.int .i64) w A2 counts.length counts)(hc2:counts.length<=c2):Calls Tryz.prog 139 #[.slice A l.length c, .int .i64 need, .slice A2 counts.length c2] w fun e w'=>∃ ch out,e=.returned (.int .i64 ch)/\FitsP l need l.length out/\jq l counts out ch/\Below w.heap.size w w':=by
 have HR:=am hr;have HR2:=am hr2;have HFt:=am (qif (w:=w) hl hn hr hc);have HW:=am hl;have HCt:Aside0 (∀ (w':World) (x:S116),x.f0<=9223372036854775807->Kd.C (Kd.int .i64) w' A2 counts.length counts->Calls Tryz.prog 162 #[.agg #[.int .i64 x.f0, .int .i64 x.f1, .bool x.f2], .slice A2 counts.length c2] w' fun e w''=>e=.returned (.int .i64 (nw x.f0 counts))/\Below w'.heap.size w' w''):=⟨fun w' x h h2=>ue.calls x.f0 x.f1 x.f2 A2 c2 counts _ w' h2 hc2 (qhe h)⟩;clear hr hr2 hn hl;go_enter Tryz.func139,Tryz.ntmps139;go_wp2_with (first
  |(go_at_call 161;(with_reducible refine HFt.out.mono ?_);rintro e w1 ⟨v,out,rfl,ho,hf,hlo,hb⟩;obtain⟨A1,c1,rfl⟩:=Kd.R_slice ho;have HO:=am (Kd.R_reads' ho).2.2;have HF:=am hf;have HB:=am hb;clear ho hf hb))
 have HLo:=am hlo;clear hlo;go_loopw [7,16] (fun b i wr=>∃ (k:Nat) (best:Int),b=.int .i64 best/\i=.int .i64 k/\k<=out.length/\Aside0 (jq l counts (out.take k) best)/\Aside0 (Below w1.heap.size w1 wr)) (fun _ i _=>out.length-(intOf i).toNat)
 case atStart=>exact⟨0,-1,rfl,rfl,by omega,⟨.inl ⟨rfl,rfl⟩⟩,⟨ai _ _⟩⟩
 case round =>
  obtain⟨k,best,rfl,rfl,hk,HP,HB1⟩:=hrel;by_cases hlt:k<out.length
  ·have d3:decide ((k:Int)<out.length)=true:=af (by omega);have htk:out.take (k+1)=out.take k++[out[k]]:=List.take_succ_eq_append_getElem hlt;have hmem:out[k]∈out:=List.getElem_mem hlt;obtain⟨ao,eo,hx⟩:=Kd.at_int (Kd.C_below HO.out HB1.out) (k:Int) (by omega) (by omega);cases eo;rw[show rd out (k:Int)=out[k]by unfold rd;rw[Int.toNat_natCast,ax,bx hlt];rfl,Int.toNat_natCast]at hx;have HTk:=am htk;have hoi:=HF.out.ok _ hmem;generalize out[k]=xv at hx HTk hoi;have p0:(0<=(k:Int))=True:=eq_true (by omega);have p1:((k:Int)<out.length)=True:=eq_true (by omega);have HWk:=am (wk1 k (by have:=HW.out.1;have:=HLo.out;omega));have HMs:=am (wk2 hlt (by have:=HW.out.1;have:=HLo.out;omega));have HLt:=am hlt;clear htk hmem hlt;rcases HP.out with⟨hnil,rfl⟩|⟨hm,hall⟩
   case' inl=>have HC2:Aside0 (jq l counts (out.take (k+1)) xv):=⟨by rw[HTk.out,hnil];exact z6 xv⟩;clear hoi hnil;go_wp2
   case' inr=>
    have hbi:=HF.out.ok _ (List.mem_of_mem_take hm);have n7:decide (best<0)=false:=ah (by omega);obtain⟨xi,rfl⟩:=Int.eq_ofNat_of_zero_le hoi.1;obtain⟨bi,rfl⟩:=Int.eq_ofNat_of_zero_le hbi.1;obtain⟨ad,ea,hX⟩:=mg (Kd.C_below HR.out (aa HB.out HB1.out)) (i:=xi) (by omega);cases ea;obtain⟨ad',ea,hY⟩:=mg (Kd.C_below HR.out (aa HB.out HB1.out)) (i:=bi) (by omega);cases ea;have q0:(0<=(xi:Int))=True:=eq_true (by omega);have q1:((xi:Int)<l.length)=True:=eq_true (by omega);have q2:(0<=(bi:Int))=True:=eq_true (by omega);have q3:((bi:Int)<l.length)=True:=eq_true (by omega);have HN:=am (fun h=>qct (x:=(xi:Int)) hall h);have HD:=am (fun h=>qcu (x:=(xi:Int)) hm hall h);have HXm:=am (HW.out.2 (xi:Int)).2.1;have HYm:=am (HW.out.2 (bi:Int)).2.1;unfold qku at HN HD;clear hoi hbi hm hall;generalize ab l (xi:Int)=x at hX HN HD HXm;generalize ab l (bi:Int)=y at hY HN HD HYm;have HX:=am hX;have HY:=am hY;clear hX hY;go_wp2;refine dj (n:=14) (S:=fun w'=>Below w1.heap.size w1 w'∧R3 w' ad xi x/\R3 w' ad bi y) (ds:=[]) (onA 14 0) (by kernel_rfl) rfl rfl ⟨bz HB1,HX.out,HY.out⟩ (fun hHeld=>?_);refine ps 0 23 ?_;refine ps 1 24 ?_;refine ps 2 25 ?_;refine ps 4 27 ?_;refine ps 6 29 ?_;refine ps 7 30 ?_;refine ps 8 31 ?_;refine ps 10 33 ?_;refine vg 3 26 rfl hHeld (by rintro w' ⟨_,⟨a0,a1,a2⟩,_⟩;go_simp;with_reducible rfl) ?_;refine vg 9 32 rfl hHeld (by rintro w' ⟨_,_,⟨b0,b1,b2⟩⟩;go_simp;with_reducible rfl) ?_;refine os 5 28 Tryz.func162 #[.agg #[.int .i64 x.f0, .int .i64 x.f1, .bool x.f2], .slice A2 counts.length c2] ?_;refine(HCt.out _ x HXm.out (Kd.C_below HR2.out (aa HB.out hHeld.1))).mono ?_;rintro e w3 ⟨rfl,hb⟩;refine⟨_,rfl,⟨aa hHeld.1 hb,hHeld.2.1.on hb,hHeld.2.2.on hb⟩,fun hHeld=>nz ?_⟩;refine os 11 34 Tryz.func162 #[.agg #[.int .i64 y.f0, .int .i64 y.f1, .bool y.f2], .slice A2 counts.length c2] ?_;refine(HCt.out _ y HYm.out (Kd.C_below HR2.out (aa HB.out hHeld.1))).mono ?_;rintro e w4 ⟨rfl,hb⟩;refine⟨_,rfl,⟨aa hHeld.1 hb,hHeld.2.1.on hb,hHeld.2.2.on hb⟩,fun hHeld=>nz ?_⟩;refine ps 12 10 ?_;refine ps 13 11 ?_;refine fa (by kernel_rfl) ?_;have HH:=am hHeld;clear HB1;have HB1:=am hHeld.1;generalize nw x.f0 counts=a at HN HD;generalize nw y.f0 counts=b at HN HD;by_cases c1:a<b
    case' pos=>have HC2:Aside0 (jq l counts (out.take (k+1)) xi):=⟨by rw[HTk.out];exact HN.out (.inl c1)⟩;have r1:decide (a<b)=true:=af c1;clear c1;go_wp2;refine dj (n:=21) (S:=fun _=>True) (ds:=[]) (onA 21 0) (by kernel_rfl) rfl rfl trivial (fun hHeld=>?_);refine ps 0 35 ?_;refine ps 1 36 ?_;refine ps 2 37 ?_;refine ps 3 38 ?_;refine pg 4 39 ?_;refine pg 5 40 ?_;refine pg 6 41 ?_;refine pg 7 42 ?_;refine pg 8 43 ?_;refine pg 9 44 ?_;refine pg 10 45 ?_;refine pg 11 46 ?_;refine pg 12 47 ?_;refine pg 13 48 ?_;refine pg 14 49 ?_;refine pg 15 50 ?_;refine pg 16 51 ?_;refine pg 17 52 ?_;refine pg 18 53 ?_;refine pg 19 54 ?_;refine ps 20 55 ?_;refine fa (by kernel_rfl) ?_
    case' neg=>
     have r1:decide (a<b)=false:=ah c1;go_wp2;by_cases c2:a=b
     case' neg=>have HC2:Aside0 (jq l counts (out.take (k+1)) bi):=⟨by rw[HTk.out];exact HD.out (fun h=>by rcases h with h|h <;> omega)⟩;have r2:decide (a=b)=false:=ah c2;have r3:(a==b)=false:=beq_eq_false_iff_ne.mpr c2;clear c1 c2;refine dj (n:=21) (S:=fun _=>True) (ds:=[]) (onA 21 0) (by kernel_rfl) rfl rfl trivial (fun hHeld=>?_);refine ps 0 35 ?_;refine ps 1 36 ?_;refine ps 2 37 ?_;refine ps 3 38 ?_;refine ps 4 39 ?_;refine ps 5 40 ?_;refine ps 6 41 ?_;refine ps 7 42 ?_;refine pg 8 43 ?_;refine pg 9 44 ?_;refine pg 10 45 ?_;refine pg 11 46 ?_;refine pg 12 47 ?_;refine pg 13 48 ?_;refine pg 14 49 ?_;refine pg 15 50 ?_;refine pg 16 51 ?_;refine pg 17 52 ?_;refine pg 18 53 ?_;refine ps 19 54 ?_;refine ps 20 55 ?_;refine fa (by kernel_rfl) ?_
     case' pos=>
      have r2:decide (a=b)=true:=af c2;have r3:(a==b)=true:=beq_iff_eq.mpr c2;by_cases c3:x.f0<y.f0
      case' pos=>have HC2:Aside0 (jq l counts (out.take (k+1)) xi):=⟨by rw[HTk.out];exact HN.out (.inr ⟨c2,c3⟩)⟩;have r4:decide (x.f0<y.f0)=true:=af c3
      case' neg=>have HC2:Aside0 (jq l counts (out.take (k+1)) bi):=⟨by rw[HTk.out];exact HD.out (fun h=>by rcases h with h|h <;> omega)⟩;have r4:decide (x.f0<y.f0)=false:=ah c3
      all_goals
       clear c1 c2 c3
       refine dj (n:=21) (S:=fun w'=>R3 w' ad xi x/\R3 w' ad bi y) (ds:=[]) (onA 21 0) (by kernel_rfl) rfl rfl ⟨HH.out.2.1,HH.out.2.2⟩ (fun hHeld=>?_)
       refine ps 0 35 ?_
       refine ps 1 36 ?_
       refine ps 2 37 ?_
       refine ps 3 38 ?_
       refine ps 4 39 ?_
       refine ps 5 40 ?_
       refine ps 6 41 ?_
       refine ps 7 42 ?_
       refine ps 8 43 ?_
       refine ps 9 44 ?_
       refine ps 10 45 ?_
       refine ps 11 46 ?_
       refine ps 13 48 ?_
       refine ps 14 49 ?_
       refine ps 15 50 ?_
       refine ps 16 51 ?_
       refine vg 12 47 rfl hHeld (by rintro w' ⟨⟨a0,a1,a2⟩,_⟩;go_simp;with_reducible rfl) ?_
       refine vg 17 52 rfl hHeld (by rintro w' ⟨_,⟨b0,b1,b2⟩⟩;go_simp;with_reducible rfl) ?_
       refine ps 18 53 ?_
       refine ps 19 54 ?_
       refine ps 20 55 ?_
       refine fa (by kernel_rfl) ?_
    all_goals go_wp2
   all_goals exact⟨⟨k+1,_,rfl,HWk.out,HLt.out,HC2,⟨bz HB1⟩⟩,HMs.out⟩
  ·have hkk:k=out.length:=by omega
   subst hkk;have d3:decide ((out.length:Int)<out.length)=false:=ah (by omega);rw[List.take_length]at HP;go_wp2;go_ret;exact⟨best,out,rfl,HF.out,HP.out,aa HB.out HB1.out⟩
end
section
variable{w:World}{l:List S116}{A:Option Addr}{c:Nat}
theorem qdq{k:Nat}(h:k<l.length):l.take (k+1)=l.take k++[ab l k]:=by
 rw[List.take_succ_eq_append_getElem h];unfold ab;rw[Int.toNat_natCast,ax,bx h];rfl
theorem qia{words:Int}(hm:mb l words){k:Nat}(h:k<l.length):dq (l.take (k+1))=dq (l.take k)+(ab l k).f1/\0<=dq (l.take k)/\dq (l.take k)+(ab l k).f1<=words/\2<=(ab l k).f1/\(ab l k).f1<=512:=by
 have h1:dq (l.take (k+1))=dq (l.take k)+(ab l k).f1:=by rw[qdq h,uj];show _+((ab l k).f1+0)=_;omega
 have h2:=yd (l.take k) (l.drop k) (by rw[List.take_append_drop];exact hm.2);have h3:=yd (l.take (k+1)) (l.drop (k+1)) (by rw[List.take_append_drop];exact hm.2);have h4:=ni hm.2 (j:=(k:Int)) (by omega) (by omega);exact⟨h1,by omega,by omega,h4.2.1,h4.2.2.1⟩
theorem qff{words:Int}(hm:mb l words)(hr:Kd.C e6 w A l.length l):Calls Tryz.prog 174 #[.slice A l.length c] w fun e w'=>e=.returned (.int .i64 words)/\Below w.heap.size w w':=by
 have HR:=am hr;have hlen:=j6 hm;have HM:=am hm;clear hr hm;go_enter Tryz.func174,Tryz.ntmps174;go_wp2;go_loopw [3,8] (fun s i wr=>∃ k:Nat,s=.int .i64 (dq (l.take k))/\i=.int .i64 k/\k<=l.length/\Aside0 (Below w.heap.size w wr)) (fun _ i _=>l.length-(intOf i).toNat)
 case atStart=>exact⟨0,rfl,rfl,by omega,⟨ai _ _⟩⟩
 case round=>
  obtain⟨k,rfl,rfl,hk,HB⟩:=hrel;by_cases hlt:k<l.length
  ·have d3:decide ((k:Int)<l.length)=true:=af (by omega);obtain⟨ad,ea,hx0,hx1,hx2⟩:=fj (Kd.C_below HR.out HB.out) (k:Int) (by omega) (by omega);cases ea;rw[Int.toNat_natCast]at hx0 hx1 hx2;have p0:(0<=(k:Int))=True:=eq_true (by omega);have p1:((k:Int)<l.length)=True:=eq_true (by omega);have HWk:=am (wk1 k (by omega));have HMs:=am (wk2 hlt (by omega));obtain⟨s1,s2,s3,s4,s5⟩:=qia HM.out hlt;have hwm:=HM.out.1.2.1;have HS1:=am s1;generalize dq (l.take k)=n at s2 s3 HS1 ⊢;generalize ab l (k:Int)=x at hx0 hx1 hx2 s3 s4 s5 HS1;have HBm:Aside0 (ec.f x.f1=some true):=⟨by rw[rg,af ⟨s4,s5⟩]⟩;have r1:decide (512<n)=false:=ah (by omega);have w2:wrap64 (n+x.f1)=n+x.f1:=w64 (by omega);have HW2:=am w2;have HLt:=am hlt;clear s1 w2 hlt;go_wp2_with (first
    |(go_at_call 125;(with_reducible refine(ec.calls x.f1 true _ HBm.out).mono ?_);rintro e w3 ⟨rfl,hd⟩;have HB3:=am (aa (aa HB.out ((ai _ _).alloc (an _) _)) hd.below);have hz:=ap (heap_alloc_new wr (.cells #[.int .i64 x.f0, .int .i64 x.f1, .bool x.f2] 116)) hd.below;have z1:w3.cell? ⟨wr.heap.size,1,none⟩=some (.int .i64 x.f1):=(aj hz 1).trans rfl;clear hd hz))
   exact⟨⟨k+1,by rw[HS1.out],congrArg _ (by omega),HLt.out,HB3⟩,by have:=HLt.out;simp[intOf];omega⟩
  ·have hkk:k=l.length:=by omega
   subst hkk;have d3:decide ((l.length:Int)<l.length)=false:=ah (by omega);have HE:Aside0 (dq (l.take l.length)=words):=⟨by rw[List.take_length];exact(qc9 HM.out).symm⟩;rw[HE.out];go_wp2;go_ret;exact⟨rfl,HB.out⟩
theorem qg6{i need:Int}(hC:zp l i need)(hr:Kd.C e6 w A l.length l)(hc:l.length<=c):Calls Tryz.prog 163 #[.slice A l.length c, .int .i64 i, .int .i64 need] w fun e w'=>∃ v,e=.returned v/\Kd.R e6 116 w' w.heap.size (fun _=>True) v (tkn (ab l i) need)/\Below w.heap.size w w':=by
 obtain⟨hb,i0,i1,hf,ht⟩:=hC;have hbr:=si hb i0 i1;have htr:=qb1 ht hbr.2.1;obtain⟨n,rfl⟩:=Int.eq_ofNat_of_zero_le i0;obtain⟨ad,ea,hX⟩:=mg hr (i:=n) (by omega);cases ea;have HR:=am hr;have HWd:=am (qff (c:=c) (w:=w) hb hr);have HCm:Aside0 (∀ w',Kd.C e6 w' (some ad) l.length l->Calls Tryz.prog 95 #[.slice (some ad) l.length c, .int .i64 (dq l)] w' fun e w''=>e=.returned (.bool true)/\Below w'.heap.size w' w''):=⟨fun w' h=>qba hb h hc⟩;have HTk:Aside0 (∃ k,ie.f k (ab l (n:Int)).f1 need=some (tk (ab l (n:Int)).f1 need)):=⟨by obtain⟨k,hk⟩:=qod (n:=need) (s:=(ab l (n:Int)).f1) ⟨hbr.2.1,hbr.2.2.1⟩;exact⟨k,hk k (an k)⟩⟩;unfold tkn;clear hr hb;generalize ab l (n:Int)=x at *;generalize hs:tk x.f1 need=s at *;obtain⟨kt,hkt⟩:=HTk.out;have HK:=am hkt;have HX:=am hX;have HF:=am hf;have q0:(0<=(n:Int))=True:=eq_true (by omega);have q1:((n:Int)<l.length)=True:=eq_true i1;have q2:decide ((n:Int)<0)=false:=ah (by omega);have q3:decide ((l.length:Int)<=(n:Int))=false:=ah (by omega);have q4:decide (s=0)=false:=ah ht;have q5:(s==0)=false:=beq_eq_false_iff_ne.mpr ht;have w1:wrap64 (x.f0+s)=x.f0+s:=w64 (by omega);have w2:wrap64 (x.f1-s)=x.f1-s:=w64 (by omega);have HW1:=am w1;have HW2:=am w2;clear hs hkt hX HTk w1 w2 ht htr hbr hf;go_enter Tryz.func163,Tryz.ntmps163;by_cases c1:s<x.f1
 case' pos=>have r1:decide (s<x.f1)=true:=af c1
 case' neg=>have r1:decide (s<x.f1)=false:=ah c1
 all_goals go_wp2_with (first
  |(go_at_call 174;(with_reducible refine HWd.out.mono ?_);rintro e w3 ⟨rfl,hb⟩;have HB3:=am hb;have HX3:=am (HX.out.on hb);clear hb HX)
  |(go_at_call 95;(with_reducible refine(HCm.out _ (Kd.C_below HR.out HB3.out)).mono ?_);rintro e w4 ⟨rfl,hb⟩;have HB4:=am (aa HB3.out hb);obtain⟨a0,a1,a2⟩:=HX3.out.on hb;rw[HF.out]at a2;clear hb HX3)
  |(go_at_call 175;(with_reducible refine(ie.calls kt x.f1 need s _ HK.out).mono ?_);rintro e w5 ⟨rfl,hd⟩;have HB5:=am (aa (aa HB4.out ((ai _ _).alloc (an _) _)) hd.below);have hz:=ap (heap_alloc_new w4 (.cells #[.int .i64 x.f0, .int .i64 x.f1, .bool false] 116)) hd.below;have z0:w5.cell? ⟨w4.heap.size,0,none⟩=some (.int .i64 x.f0):=(aj hz 0).trans rfl;have z1:w5.cell? ⟨w4.heap.size,1,none⟩=some (.int .i64 x.f1):=(aj hz 1).trans rfl;clear hd hz)
  |((with_reducible refine b9 (N:=46) rfl ?_);refine qq8 ⟨x.f0,s,true⟩ rfl rfl HB5.out ?_;intro v6 w6 ho hb hz;have HO6:=am ho;have HB6:=am hb;have y0:=l9 z0 hz;have y1:=l9 z1 hz;clear ho hb hz z0 z1)
  |((with_reducible refine di (b:=.append) (xs:=#[.tmp 51, .tmp 61]) rfl ?_);at_builtin;refine qml ⟨wrap64 (x.f0+s),wrap64 (x.f1-s),false⟩ rfl rfl rfl rfl HO6.out HB6.out (by simp) ?_;intro v7 w8 ho hb;rw[HW1.out,HW2.out]at ho;have HO8:=am ho;have HB8:=am hb;clear ho hb))
 all_goals go_ret
 ·exact⟨_,rfl,HO6.out,HB6.out⟩
 ·exact⟨_,rfl,HO8.out,HB8.out⟩
end
def hdE(x:S116):S160:=⟨x.f0,iz x.f1 x.f2⟩
def p9:List S116->List S160
 |[]=>[]
 |b::l=>hdE b::((if b.f2 then fl b.f0 1 (b.f1-1).toNat else[])++p9 l)
theorem qlb(l m:List S116):p9 (l++m)=p9 l++p9 m:=by
 induction l with
 |nil=>rfl
 |cons b l ih=>simp only[List.cons_append,p9,ih,List.append_assoc]
theorem qlc(x:S116)(need:Int):p9 (tkn x need)=eds x need:=by
 unfold tkn eds;split <;> simp[p9,hdE]
theorem uw(a:Int):∀ (n:Nat) (k:Int),fl a k (n+1)=fl a k n++[⟨a+(k+n),0⟩]
 |0,k=>by simp[fl]
 |n+1,k=>by
  have:=uw a n (k+1)
  rw[fl,this,fl]
  simp
  omega
theorem xm(a b:Int):Tryz.prog.built 160 [(0, .int .i64 a),(1, .int .u64 b)]=some #[.int .i64 a, .int .u64 b]:=by kernel_rfl
section
variable{w:World}{l:List S116}{A:Option Addr}{c:Nat}
structure EdR (w w':World) (g:Nat) (b:S116) (u v:Value) (T:List S116) (acc:List S160):Prop where
 z:w'.heap[g]? =some (.cells [.int .i64 b.f0, .int .i64 b.f1, .bool b.f2].toArray 116 (0,0))
 t:Kd.R e6 116 w' w.heap.size (fun _=>True) u T
 o:Kd.R jp 160 w' w.heap.size (fun _=>True) v acc
 b:Below w.heap.size w w'
theorem EdR.on{w w' w'':World}{g:Nat}{b:S116}{u v:Value}{T:List S116}{acc:List S160}(h:EdR w w' g b u v T acc)(hb:Below w'.heap.size w' w''):EdR w w'' g b u v T acc:=
 ⟨ap h.z hb,Kd.R_below h.t hb,Kd.R_below h.o hb,aa h.b hb⟩
theorem EdR.cell{w w':World}{g:Nat}{b:S116}{u v:Value}{T:List S116}{acc:List S160}(h:EdR w w' g b u v T acc):w'.cell? ⟨g,0,none⟩=some (.int .i64 b.f0)/\w'.cell? ⟨g,1,none⟩=some (.int .i64 b.f1)/\w'.cell? ⟨g,2,none⟩=some (.bool b.f2):=
 ⟨(aj h.z 0).trans rfl,(aj h.z 1).trans rfl,(aj h.z 2).trans rfl⟩
theorem qfe{i need:Int}(hC:zp l i need)(hr:Kd.C e6 w A l.length l)(hc:l.length<=c):Calls Tryz.prog 140 #[.slice A l.length c, .int .i64 i, .int .i64 need] w fun e w'=>∃ v,e=.returned v/\Kd.R jp 160 w' w.heap.size (fun _=>True) v (eds (ab l i) need)/\Below w.heap.size w w':=by
 have HTk:=am (qg6 hC hr hc);obtain⟨hb,i0,i1,hf,ht⟩:=hC;have hbr:=si hb i0 i1;have htr:=qb1 ht hbr.2.1;have hT:∀ b∈tkn (ab l i) need,0<=b.f0/\b.f0<=512/\2<=b.f1/\b.f1<=512:=by
  intro b hb;unfold tkn at hb;rcases List.mem_cons.1 hb with rfl|hb
  ·dsimp only;omega
  ·split at hb
   ·rw[List.mem_singleton.1 hb];dsimp only;omega
   ·exact absurd hb List.not_mem_nil
 have hTl:=(qp5 (ab l i) need).2;have HE:=am (qlc (ab l i) need);generalize tkn (ab l i) need=T at HTk hT hTl HE;have HT:=am hT;clear hr hb hf ht hbr htr hT;go_enter Tryz.func140,Tryz.ntmps140;go_wp2_with (first
  |(go_at_call 163;(with_reducible refine HTk.out.mono ?_);rintro e w1 ⟨v,rfl,ho,hb⟩;obtain⟨A1,c1,rfl⟩:=Kd.R_slice ho;have HO:=am ho;have HB:=am hb;clear ho hb))
 go_loopw [7,16] (fun o i wr=>∃ k:Nat,i=.int .i64 k/\k<=T.length/\Aside0 (Kd.R jp 160 wr w.heap.size (fun _=>True) o (p9 (T.take k)))/\Aside0 ((p9 (T.take k)).length<=600*k)/\Aside0 (Kd.R e6 116 wr w.heap.size (fun _=>True) (.slice A1 T.length c1) T)/\Aside0 (Below w.heap.size w wr)) (fun _ i _=>T.length-(intOf i).toNat)
 case atStart=>exact⟨0,rfl,by omega,⟨Kd.R_nil _ _ _ _ _⟩,⟨by simp[p9]⟩,HO,HB⟩
 case round =>
  clear HO HB;obtain⟨k,rfl,hk,HO,HL,HR,HB⟩:=hrel;by_cases hlt:k<T.length
  ·have d3:decide ((k:Int)<T.length)=true:=af (by omega);obtain⟨ad,ea,hx0,hx1,hx2⟩:=fj (Kd.R_reads' HR.out).2.2 (k:Int) (by omega) (by omega);cases ea;rw[Int.toNat_natCast]at hx0 hx1 hx2;have p0:(0<=(k:Int))=True:=eq_true (by omega);have p1:((k:Int)<T.length)=True:=eq_true (by omega);have HWk:=am (wk1 k (by omega));have HMs:=am (wk2 hlt (by omega));have hxt:=HT.out _ (jl (l:=T) (j:=(k:Int)) (by omega) (by omega));have htk:p9 (T.take (k+1))=p9 (T.take k)++p9 [ab T k]:=by rw[qdq hlt,qlb]
   have HTa:=am htk;generalize ab T (k:Int)=x at hx0 hx1 hx2 hxt HTa;generalize p9 (T.take k)=acc at HO HL HTa;have hw1:Below wr.heap.size wr (wr.alloc (.cells #[.int .i64 x.f0, .int .i64 x.f1, .bool x.f2] 116)):=(ai _ _).alloc (an _) _;have HEd:Aside0 (EdR w (wr.alloc (.cells #[.int .i64 x.f0, .int .i64 x.f1, .bool x.f2] 116)) wr.heap.size x (.slice (some ad) T.length c1) u7 T acc):=⟨heap_alloc_new wr _,Kd.R_below HR.out hw1,Kd.R_below HO.out hw1,aa HB.out hw1⟩;have HLt:=am hlt;have HWd:Aside0 (gg.f x.f1 x.f2=some (iz x.f1 x.f2)):=⟨qch _ _⟩;clear htk hw1 hlt;go_wp2;generalize wr.alloc (.cells #[.int .i64 x.f0, .int .i64 x.f1, .bool x.f2] 116)=w2 at HEd ⊢;generalize wr.heap.size=g at HEd ⊢;have hlen:=HL.out;have hk3:=HLt.out;refine dj (n:=12) (S:=fun w'=>w'.heap[g]? =some (.cells [.int .i64 x.f0, .int .i64 x.f1, .bool x.f2].toArray 116 (0,0))) (ds:=[]) (onA 12 0) (by kernel_rfl) rfl rfl (HEd.out.on (bg (ai _ _))).z (fun hHeld=>?_);refine ps 0 20 ?_;refine ps 1 21 ?_;refine ps 3 23 ?_;refine ps 5 25 ?_;refine vs 2 22 hHeld (fun w' hs=>aw 3 (.tmp 21) rfl g 0 _ rfl ((aj hs 0).trans rfl) _ Tryz.underlying3 rfl) ?_;refine vs 4 24 hHeld (fun w' hs=>aw 3 (.tmp 23) rfl g 1 _ rfl ((aj hs 1).trans rfl) _ Tryz.underlying3 rfl) ?_;refine vs 6 26 hHeld (fun w' hs=>aw 4 (.tmp 25) rfl g 2 _ rfl ((aj hs 2).trans rfl) _ Tryz.underlying4 rfl) ?_;refine os 7 27 Tryz.func84 #[.int .i64 x.f1, .bool x.f2] ?_;refine(gg.calls x.f1 x.f2 _ _ HWd.out).mono ?_;rintro e w3 ⟨rfl,hd⟩;have HE3:=am (HEd.out.on (aa (bg (ai _ _)) hd.below));clear hd;refine⟨_,rfl,HE3.out.z,fun hHeld=>nz ?_⟩;refine es 8 28 _ _ rfl (vy 160 _ rfl [(0, .int .i64 x.f0),(1, .int .u64 (iz x.f1 x.f2))] (by simp;exact⟨rfl,rfl⟩) _ (xm x.f0 _)) HE3.out.z (fun hHeld=>nz ?_);refine es 9 29 (.slice (some ⟨w3.heap.size,0,none⟩) 1 1) (w3.alloc (.cells [.int .i64 x.f0, .int .u64 (iz x.f1 x.f2)].toArray 160)) rfl (by first|(go_simp;done)|(go_simp;rfl)) (ap HE3.out.z ((ai _ _).alloc (an _) _)) (fun hHeld=>nz ?_);refine qqa (hdE x) 10 30 rfl rfl rfl rfl rfl HE3.out.o HE3.out.b (by omega) (fun v1 w4 ho hb sp=>⟨sp.blk g _ _ (by decide) HE3.out.z,fun hHeld=>nz ?_⟩);have HE4:Aside0 (EdR w w4 g x (.slice (some ad) T.length c1) v1 T (acc++[hdE x]++fl x.f0 1 0)):=⟨sp.blk g _ _ (by decide) HE3.out.z,sp.row e6 116 _ _ (by decide) HE3.out.t,by simpa[fl]using ho,hb⟩;clear ho hb sp;refine ps 11 7 ?_;refine fa (by kernel_rfl) ?_;have hHeld:=HE4;clear HE3 HEd hlen hk3;go_wp2;obtain⟨wo,hwo⟩:∃ z,z=wr:=⟨_,rfl⟩;subst hwo;go_loopw [7,10] (fun o j wr2=>∃ n:Nat,j=.int .i64 (1+(n:Int))/\(n:Int)<=x.f1-1/\(x.f2=false->n=0)/\Aside0 (EdR w wr2 g x (.slice (some ad) T.length c1) o T (acc++[hdE x]++fl x.f0 1 n))) (fun _ j _=>600-(intOf j).toNat)
   case atStart=>exact⟨0,rfl,by omega,fun _=>rfl,HE4⟩
   case round=>
    clear HE4 hHeld;obtain⟨n,rfl,hn,hn0,HE⟩:=hrel;obtain⟨z0,z1,z2⟩:=HE.out.cell;have hx:=HLt.out;have hb2:x.f2=true\/x.f2=false:=by cases x.f2;exact .inr rfl;exact .inl rfl
    have fin:(x.f2=true->(n:Int)=x.f1-1)->acc++[hdE x]++fl x.f0 1 n=p9 (T.take (k+1)):=fun h=>by
     rw[HTa.out];unfold p9 p9;rcases hb2 with e|e
     ·have:=h e;rw[e,if_pos rfl,show(x.f1-1).toNat=n by omega];simp
     ·rw[hn0 e,e];simp[fl]
    have HFin:=am fin;have hla:(acc++[hdE x]++fl x.f0 1 n).length<=600*(k+1):=by rw[List.length_append,List.length_append,wt,List.length_singleton];have:=HL.out;omega
    have HLa:=am hla;have HX2:=am hxt;have HN:=am hn;clear fin hla hx;by_cases c1:1+(n:Int)<x.f1
    ·have d1:decide (1+(n:Int)<x.f1)=true:=af c1;rcases hb2 with e|e
     ·have E2:Aside0 (acc++[hdE x]++fl x.f0 1 n++[(⟨wrap64 (x.f0+(1+(n:Int))),0⟩:S160)]=acc++[hdE x]++fl x.f0 1 (n+1)):=⟨by rw[uw,w64 (by omega),List.append_assoc]⟩;have HC1:=am c1;have He:=am e;rw[e]at z2;generalize hacc:acc++[hdE x]++fl x.f0 1 n=ac at HE HLa E2;clear hacc hn0 hn c1 e hxt;go_wp2_with (first
       |((with_reducible refine di (b:=.append) (xs:=#[.tmp 41, .tmp 47]) rfl ?_);at_builtin;refine qmm ⟨wrap64 (x.f0+(1+(n:Int))),0⟩ rfl rfl rfl rfl HE.out.o HE.out.b (by have:=HLa.out;have:=HLt.out;omega) ?_;intro v5 w5 ho hb sp;have HE5:Aside0 (EdR w w5 g x (.slice (some ad) T.length c1) v5 T (acc++[hdE x]++fl x.f0 1 (n+1))):=⟨sp.blk g _ _ (by decide) HE.out.z,sp.row e6 116 _ _ (by decide) HE.out.t,by rw[<-E2.out];exact ho,hb⟩;clear ho hb sp))
      have HnM:(n:Int)+3<=600:=by have:=HC1.out;have:=HX2.out;omega
      have HW3:=am (w64 (n:=1+(n:Int)+1) (by omega));refine⟨⟨_,_,_,_,_,_,_,_,_,_,_,_,_,_,_,_,_,_,_,_,?_,rfl⟩,?_⟩
      ·exact⟨n+1,congrArg _ (HW3.out.trans (by omega)),by have:=HC1.out;omega,fun h=>absurd (He.out.symm.trans h) (by decide),HE5⟩
      ·show 600-(intOf (Value.int .i64 (wrap64 (1+(n:Int)+1)))).toNat<600-(intOf (Value.int .i64 (1+(n:Int)))).toNat;rw[HW3.out];simp only[intOf];omega
     ·rw[e]at z2;have HE6:=am (HFin.out (fun h=>absurd (e.symm.trans h) (by decide)));clear hn0 hn c1 hxt;go_wp2;exact⟨⟨k+1,congrArg _ (by omega),HLt.out,⟨by rw[<-HE6.out];exact HE.out.o⟩,⟨by rw[<-HE6.out];exact HLa.out⟩,⟨HE.out.t⟩,⟨HE.out.b⟩⟩,by have:=HLt.out;simp[intOf];omega⟩
    ·have d1:decide (1+(n:Int)<x.f1)=false:=ah c1;have HE6:=am (HFin.out (fun h=>by omega));clear hn0 hn c1 hxt hb2;go_wp2;exact⟨⟨k+1,congrArg _ (by omega),HLt.out,⟨by rw[<-HE6.out];exact HE.out.o⟩,⟨by rw[<-HE6.out];exact HLa.out⟩,⟨HE.out.t⟩,⟨HE.out.b⟩⟩,by have:=HLt.out;simp[intOf];omega⟩
  ·have hkk:k=T.length:=by omega
   subst hkk;have d3:decide ((T.length:Int)<T.length)=false:=ah (by omega);rw[List.take_length,HE.out]at HO;go_wp2;go_ret;exact⟨_,rfl,HO.out,HB.out⟩
end
def ul(l:List S116)(counts:List Int)(need c:Int):Prop:=0<=c/\c<l.length/\OkB l need c∧∀ j:Int,0<=j->j<l.length->OkB l need j->(ab l c).f1<(ab l j).f1\/((ab l c).f1=(ab l j).f1/\Leq l counts c j)
theorem qcq{l:List S116}{counts:List Int}{need words a b:Int}(hm:mb l words)(ha:ul l counts need a)(hb:ul l counts need b):a=b:=by
 obtain⟨a0,a1,ao,am⟩:=ha;obtain⟨b0,b1,bo,bm⟩:=hb;have h1:=am b b0 b1 bo;have h2:=bm a a0 a1 ao;have ra:=ni hm.2 a0 a1;have rb:=ni hm.2 b0 b1;unfold Leq at h1 h2;rcases Int.lt_trichotomy a b with h|h|h
 ·have:=tz hm.2 a0 h b1;omega
 ·exact h
 ·have:=tz hm.2 b0 h a1;omega
theorem qj5{l:List S116}{counts out:List Int}{need c:Int}(hf:FitsP l need l.length out)(hc:jq l counts out c):(c= -1∧∀ j:Int,0<=j->j<l.length→¬ OkB l need j)\/ul l counts need c:=by
 rcases qqw hf hc with⟨a,_,b⟩|⟨a,b,d,hm,hall,hmin⟩
 ·exact .inl ⟨a,b⟩
 ·refine .inr ⟨a,b,d,fun j j0 j1 jo=>?_⟩;have h:=hmin j j0 j1 jo;by_cases e:(ab l c).f1=(ab l j).f1
  ·exact .inr ⟨e,hall j (hf.all j j0 j1 jo (fun i i0 i1 io=>by have:=hmin i i0 i1 io;omega))⟩
  ·exact .inl (by omega)
theorem qoq{l:List S116}{counts:List Int}{need:Int}(h:∃ j:Int,0<=j/\j<l.length/\OkB l need j):∃ c,ul l counts need c:=by
 have key : ∀ n : Nat, (n : Int) ≤ l.length → (∃ j : Int, 0 ≤ j ∧ j < n ∧ OkB l need j) → ∃ c : Int, 0 ≤ c ∧ c < n ∧ OkB l need c ∧ ∀ j : Int, 0 ≤ j → j < n → OkB l need j → (ab l c).f1 < (ab l j).f1 ∨ ((ab l c).f1 = (ab l j).f1 ∧ Leq l counts c j) := by
  intro n
  induction n with
  |zero=>intro _ ⟨j,a,b,_⟩;omega
  |succ n ih=>
   intro hn ⟨j,j0,j1,jo⟩;by_cases hp:∃ j:Int,0<=j/\j<n/\OkB l need j
   ·obtain⟨c,c0,c1,co,cm⟩:=ih (by omega) hp;by_cases hb:OkB l need n∧¬ ((ab l c).f1<(ab l n).f1\/((ab l c).f1=(ab l n).f1/\Leq l counts c n))
    ·refine⟨n,by omega,by omega,hb.1,fun i i0 i1 io=>?_⟩;by_cases e:i=n
     ·subst e;exact .inr ⟨rfl, .inr ⟨rfl,Int.le_refl _⟩⟩
     ·have h1:=cm i i0 (by omega) io;have h2:=hb.2;unfold Leq at h1 h2 ⊢;omega
    ·refine⟨c,c0,by omega,co,fun i i0 i1 io=>?_⟩;by_cases e:i=n
     ·subst e;by_cases h3:(ab l c).f1<(ab l n).f1\/((ab l c).f1=(ab l n).f1/\Leq l counts c n)
      ·exact h3
      ·exact absurd ⟨io,h3⟩ hb
     ·exact cm i i0 (by omega) io
   ·have e:j=n:=by
     by_cases e:j<n
     ·exact absurd ⟨j,j0,e,jo⟩ hp
     ·omega
    subst e;refine⟨n,by omega,by omega,jo,fun i i0 i1 io=>?_⟩;by_cases e:i=n
    ·subst e;exact .inr ⟨rfl, .inr ⟨rfl,Int.le_refl _⟩⟩
    ·exact absurd ⟨i,i0,by omega,io⟩ hp
 obtain⟨c,c0,c1,co,cm⟩:=key l.length (Int.le_refl _) h;exact⟨c,c0,c1,co,cm⟩
abbrev uk(v:List Int)(n:Int)(counts:List Int)(es:List S160)(off e:Int):Prop:=∀ (w:World) (A:Option Addr) (c:Nat) (A2:Option Addr) (c2:Nat),Kd.C (Kd.int .u64) w A v.length v->v.length<=c->Kd.C (Kd.int .i64) w A2 counts.length counts->counts.length<=c2→
 Calls Tryz.prog 101 #[.slice A v.length c, .int .i64 n, .slice A2 counts.length c2] w fun x w'=>∃ u:Value,x=.returned (.tuple #[u, .int .i64 off, .int .i64 e])/\Kd.R jp 160 w' w.heap.size (fun _=>True) u es/\Below w.heap.size w w'
section
variable{l:List S116}{v counts:List Int}{words n:Int}
theorem qir(h:df n=0):uk v n counts [] 0 1:=fun w A c A2 c2 hr hc hr2 hc2=>by
 have HNd:=am (uv n);rw[h]at HNd;clear hr hr2 h;go_enter Tryz.func101,Tryz.ntmps101;go_wp2_with (first
  |(go_at_call 99;(with_reducible refine(jx.calls n _ _ HNd.out).mono ?_);rintro e w1 ⟨rfl,hd⟩;have HB:=am hd.below;clear hd))
 go_ret3;exact⟨_,rfl,Kd.R_nil _ _ _ _ _,HB.out⟩
theorem qmi(hV:HV l v words)(h:df n≠0):((∀ j:Int,0<=j->j<l.length→¬ OkB l (df n) j)->uk v n counts [] 0 4)∧∀ ch,ul l counts (df n) ch->uk v n counts (eds (ab l ch) (df n)) (((ab l ch).f0+1)*8) 0:=by
 have hn:2<=df n:=by have:=qa3 n;omega
 have hwf:=qj0 hV.1 (by have:=j6 hV.1;omega);have key:∀ r,(((∀ j:Int,0<=j->j<l.length→¬ OkB l (df n) j)/\r=([],0,4))∨∃ ch,ul l counts (df n) ch/\r=(eds (ab l ch) (df n),((ab l ch).f0+1)*8,0))->uk v n counts r.1 r.2.1 r.2.2:=by
  intro r hres w A c A2 c2 hr hc hr2 hc2;have HNd:=am (uv n);generalize hnd:df n=nd at h hn hres HNd;have n0:(nd==0)=false:=beq_eq_false_iff_ne.mpr h;have n1:decide (nd=0)=false:=ah h;have HBl:=am (fun w' (h':Kd.C (Kd.int .u64) w' A v.length v)=>zo (c:=c) hV h' hc);have HCh:Aside0 (∀ w' A' c',Kd.C e6 w' A' l.length l->l.length<=c'→Kd.C (Kd.int .i64) w' A2 counts.length counts->Calls Tryz.prog 139 #[.slice A' l.length c', .int .i64 nd, .slice A2 counts.length c2] w' fun e w''=>∃ ch,e=.returned (.int .i64 ch)/\((ch= -1/\r=([],0,4))\/(ul l counts nd ch/\r=(eds (ab l ch) nd,((ab l ch).f0+1)*8,0)))/\Below w'.heap.size w' w''):=⟨fun w' A' c' h1 h2 h3=>by
   refine(qfg hwf hn h1 h2 h3 hc2).mono ?_;rintro e w'' ⟨ch,out,rfl,hf,hc,hb⟩;refine⟨ch,rfl,?_,hb⟩;rcases qj5 hf hc with⟨a,b⟩|a
   ·rcases hres with⟨_,e⟩|⟨ch',b',_⟩
    ·exact .inl ⟨a,e⟩
    ·exact absurd b'.2.2.1 (b ch' b'.1 b'.2.1)
   ·rcases hres with⟨b,e⟩|⟨ch',b',e⟩
    ·exact absurd a.2.2.1 (b ch a.1 a.2.1)
    ·rw[qcq hV.1 a b'];exact .inr ⟨by rw[<-qcq hV.1 a b'];exact a,e⟩⟩
  have HR:=am hr;have HR2:=am hr2;have HVV:=am hV;have Hn:=am hn;clear hr hr2 hV hres h hwf hnd;go_enter Tryz.func101,Tryz.ntmps101;go_wp2_with (first
   |(go_at_call 99;(with_reducible refine(jx.calls n _ _ HNd.out).mono ?_);rintro e w1 ⟨rfl,hd⟩;have HB1:=am hd.below;clear hd)
   |(go_at_call 45;(with_reducible refine(HBl.out _ (Kd.C_below HR.out HB1.out)).mono ?_);rintro e w2 ⟨Al,cl,rfl,ho,hb⟩;have HB2:=am (aa HB1.out hb);have HL:=am (Kd.R_reads' ho);clear ho hb)
   |(go_at_call 139;(with_reducible refine(HCh.out _ Al cl HL.out.2.2 HL.out.2.1 (Kd.C_below HR2.out HB2.out)).mono ?_);rintro e w3 ⟨ch,rfl,⟨rfl,rfl⟩|⟨hbst,rfl⟩,hb⟩;rotate_left;have hb0:decide (ch<0)=false:=ah (by have:=hbst.1;omega);have HB3:=am (aa HB2.out hb);have HL3:=am (Kd.C_below HL.out.2.2 hb);have HBs:=am hbst;clear hb hbst))
  ·have hb0:=HBs.out;obtain⟨ci,rfl⟩:=Int.eq_ofNat_of_zero_le hb0.1;have can:=(qb7 HVV.out.1 hb0.1 hb0.2.1 Hn.out).2 hb0.2.2.1;have hcr:=si can.1 hb0.1 hb0.2.1;have q0:(0<=(ci:Int))=True:=eq_true (by omega);have q1:((ci:Int)<l.length)=True:=eq_true hb0.2.1;obtain⟨ad,ea,hX⟩:=mg HL3.out (i:=ci) (by have:=hb0.2.1;omega);cases ea;have HEd:Aside0 (∀ w',Kd.C e6 w' (some ad) l.length l->Calls Tryz.prog 140 #[.slice (some ad) l.length cl, .int .i64 ci, .int .i64 nd] w' fun e w''=>∃ v,e=.returned v/\Kd.R jp 160 w'' w'.heap.size (fun _=>True) v (eds (ab l (ci:Int)) nd)/\Below w'.heap.size w' w''):=⟨fun w' h'=>qfe can h' HL.out.2.1⟩;generalize hxx:ab l (ci:Int)=x at hX HEd hcr;have HXX:=am hxx;have HX:=am hX;have hof:oo x.f0=(x.f0+1)*8:=ux (a:=x.f0) (by omega);have HOf:Aside0 (mu.f x.f0 x.f1 x.f2=some ((x.f0+1)*8)):=⟨by rw[qki,hof]⟩;clear hX hcr can hb0 hof hxx;refine dj (n:=12) (S:=fun w'=>Below w3.heap.size w3 w'∧R3 w' ad ci x) (ds:=[]) (onA 12 0) (by kernel_rfl) rfl rfl ⟨bg (ai _ _),HX.out.on (bg (ai _ _))⟩ (fun hHeld=>?_);refine ps 0 30 ?_;refine ps 1 31 ?_;refine ps 2 32 ?_;refine ps 4 34 ?_;refine ps 5 35 ?_;refine ps 6 36 ?_;refine vg 7 37 rfl hHeld (by rintro w' ⟨_,⟨a0,a1,a2⟩⟩;go_simp;with_reducible rfl) ?_;refine os 3 33 Tryz.func140 #[.slice (some ad) l.length cl, .int .i64 ci, .int .i64 nd] ?_;refine(HEd.out _ (Kd.C_below HL3.out hHeld.1)).mono ?_;rintro e w4 ⟨u,rfl,ho,hb⟩;have HO4:=am (Kd.R_lower ho (Nat.le_trans HB3.out.size hHeld.1.size));refine⟨_,rfl,⟨aa hHeld.1 hb,hHeld.2.on hb⟩,fun hHeld=>nz ?_⟩;refine os 8 38 Tryz.func138 #[.agg #[.int .i64 x.f0, .int .i64 x.f1, .bool x.f2]] ?_;refine(mu.calls x.f0 x.f1 x.f2 _ _ HOf.out).mono ?_;rintro e w5 ⟨rfl,hb⟩;have HO5:=am (Kd.R_below HO4.out hb);refine⟨_,rfl,⟨aa hHeld.1 hb,hHeld.2.on hb⟩,fun hHeld=>nz ?_⟩;have HB5:=am (aa HB3.out hHeld.1);refine ps 9 6 ?_;refine ps 10 7 ?_;refine ps 11 8 ?_;refine fa (by kernel_rfl) ?_;go_wp2;go_ret3;rw[HXX.out];exact⟨_,rfl,HO5.out,HB5.out⟩
  ·have HB3:=am (aa HB2.out hb);go_ret3;exact⟨_,rfl,Kd.R_nil _ _ _ _ _,HB3.out⟩
 exact⟨fun h'=>key _ (.inl ⟨h',rfl⟩),fun ch hb=>key _ (.inr ⟨ch,hb,rfl⟩)⟩
theorem qer(n:Int)(counts:List Int)(hV:HV l v words):∃ es off e,uk v n counts es off e/\((df n=0/\es=[]/\off=0/\e=1)\/(df n≠0/\(∀ j:Int,0<=j->j<l.length→¬ OkB l (df n) j)/\es=[]/\off=0/\e=4)\/(df n≠0∧∃ c,zp l c (df n)/\ul l counts (df n) c/\es=eds (ab l c) (df n)/\off=((ab l c).f0+1)*8/\e=0)):=by
 by_cases hz:df n=0
 ·exact⟨_,_,_,qir hz, .inl ⟨hz,rfl,rfl,rfl⟩⟩
 ·have hn:2<=df n:=by have:=qa3 n;omega
  obtain⟨h1,h2⟩:=qmi (counts:=counts) hV hz;by_cases hb:∃ j:Int,0<=j/\j<l.length/\OkB l (df n) j
  ·obtain⟨c,hc⟩:=qoq (counts:=counts) hb;exact⟨_,_,_,h2 c hc, .inr (.inr ⟨hz,c,(qb7 hV.1 hc.1 hc.2.1 hn).2 hc.2.2.1,hc,rfl,rfl,rfl⟩)⟩
  ·have hno:∀ j:Int,0<=j->j<l.length→¬ OkB l (df n) j:=fun j a b c=>hb ⟨j,a,b,c⟩;exact⟨_,_,_,h1 hno, .inr (.inl ⟨hz,hno,rfl,rfl,rfl⟩)⟩
end
end Go.Proofs.YtmfhaliclnnbaaaGreat.Sys
namespace Go.Proofs.YtmfhaliclnnbaaaGreat.XTopWhole
open Go.RowKit Go.Proofs.YtmfhaliclnnbaaaGreatW.PrintWords Go.Proofs.YtmfhaliclnnbaaaGreatW.PrintLast Go.Proofs.YtmfhaliclnnbaaaGreatW.PrintMore
attribute [local go_sem] uf uh xn xp ry r9 ug ui
set_option linter.unusedVariables false
set_option linter.unusedSimpArgs false
set_option maxRecDepth 100000
set_option maxHeartbeats 8000000
def cj.j0:Nat->Int->Int->Bool->Option (Int)
 |0,_,_,_=>none
 |k+1,x0,x1,x5=>if x5=true then(some 0)else(if(wrap64 (x0-x1))<2 then(some x0)else(some x1))
def cj.f(k:Nat)(a0:Int)(a1:Int):Option (Int):=if a1<2 then(cj.j0 k a0 a1 true)else(cj.j0 k a0 a1 (decide (a1>a0)))
theorem cj.calls(k:Nat)(a0:Int)(a1:Int)(r:Int)(w:World)(h:cj.f k a0 a1=some r):Calls Tryz.prog 121 #[.int .i64 a0, .int .i64 a1] w fun e w'=>e=.returned (.int .i64 r)/\Drawn0 w w':=by
 have H:(if a1<2 then(cj.j0 k a0 a1 true)else(cj.j0 k a0 a1 (decide (a1>a0))))=some r:=h;clear h;have HC3:=am H;clear H;go_enter Tryz.func121,Tryz.ntmps121;go_upto_region 1 with (fail);go_cut [5] (fun v5 wc=>∃ (kq:Nat) (x5_2:Bool),v5=.bool x5_2/\Aside0 (cj.j0 kq a0 a1 x5_2=some r)/\Aside0 (kq<=k)/\Drawn0 w wc)
 case first=>
  have H:=HC3.out;clear HC3;by_cases c4:a1<2
  ·rw[if_pos c4]at H;have c4b0:=af c4;clear c4
   (first|rw[c4b0]|(simp only[bu,iu];rw[c4b0])|skip)
   have H':=am H;clear H;go_wp2;go_meet
   case rel=>exact⟨_,(true),zs,H',⟨by first|omega|exact an _⟩,zd⟩
  ·rw[if_neg c4]at H;have c4b0:=ah c4;clear c4
   (first|rw[c4b0]|(simp only[bu,iu];rw[c4b0])|skip)
   have H':=am H;clear H;go_wp2;go_meet
   case rel=>exact⟨_,(decide (a1>a0)),zs,H',⟨by first|omega|exact an _⟩,zd⟩
 case rest=>
  clear HC3
  try clear c4
  try clear c4b0
  obtain⟨kq,x5_2,rfl,HA,HJ2,⟨mc2,rfl⟩⟩:=hcut;cases kq with
  |zero=>exact absurd HA.out (by simp[cj.j0])
  |succ kj2=>
   have H:=HA.out;clear HA;simp only[cj.j0]at H;by_cases c5:x5_2=true
   ·subst c5;have H1:(some 0)=some r:=by rw[if_pos rfl]at H;exact H
    clear H;have H:=H1;clear H1;obtain rfl:=az H;go_wp2;go_ret;exact⟨zs,zd⟩
   ·replace c5:=Bool.eq_false_iff.mpr c5;subst c5;have H1:(if(wrap64 (a0-a1))<2 then(some a0)else(some a1))=some r:=by rw[if_neg (show ¬ (false=true)by decide)]at H;exact H
    clear H;have H:=H1;clear H1;by_cases c6:(wrap64 (a0-a1))<2
    ·rw[if_pos c6]at H;have c6b0:=af c6;clear c6;obtain rfl:=az H;go_wp2;go_ret;exact⟨zs,zd⟩
    ·rw[if_neg c6]at H;have c6b0:=ah c6;clear c6;obtain rfl:=az H;go_wp2;go_ret;exact⟨zs,zd⟩
def dz.f(a0_0:Int)(a0_1:Int)(a0_2:Bool):Option (Int):=if a0_0<0 then(some 0)else(if a0_0>512 then(some 0)else(some (wrap64 ((wrap64 (a0_0+1))*8))))
theorem dz.calls(a0_0:Int)(a0_1:Int)(a0_2:Bool)(r:Int)(w:World)(h:dz.f a0_0 a0_1 a0_2=some r):Calls Tryz.prog 75 #[.agg #[.int .i64 a0_0, .int .i64 a0_1, .bool a0_2]] w fun e w'=>e=.returned (.int .i64 r)/\Below w.heap.size w w':=by
 have hu116:=Tryz.underlying116;have HB:=am (ai w.heap.size w);have H:(if a0_0<0 then(some 0)else(if a0_0>512 then(some 0)else(some (wrap64 ((wrap64 (a0_0+1))*8)))))=some r:=h;clear h;by_cases c2:a0_0<0
 ·rw[if_pos c2]at H;have c2b0:=af c2;clear c2;obtain rfl:=az H;go_enter Tryz.func75,Tryz.ntmps75;go_wp2_with (first|((with_reducible refine b9 (N:=1) rfl ?_);refine db ?hg (N:=1) ?hd (cs:=#[.int .i64 a0_0, .int .i64 a0_1, .bool a0_2]) (t:=116) ?hr ?_;(case hd=>rfl);(case hg=>rfl);(case hr=>first|(go_simp;done)|(go_simp;rfl));intro gb503 hg w3 hbox hb;have GW503:=zg HB hg;have GE503:=GW503;replace HB:=zb HB hb;have BK503:=am hbox;clear hb hbox hg;have hcz4_0:=zk BK503 0 (.int .i64 a0_0);have hcz4_1:=zk BK503 1 (.int .i64 a0_1);have hcz4_2:=zk BK503 2 (.bool a0_2);have hfz4_0:=ak BK503.out 0;have hfz4_1:=ak BK503.out 1;have hfz4_2:=ak BK503.out 2))
  go_ret;exact⟨ze,by repeat (first|(with_reducible first|exact HB.out|apply qd|apply qe|apply qf|refine bj ?_ GE503.out)|exact HB.out)⟩
 ·rw[if_neg c2]at H;have c2b0:=ah c2;clear c2;by_cases c5:a0_0>512
  ·rw[if_pos c5]at H;have c5b0:decide (512<a0_0)=true:=af c5;clear c5;obtain rfl:=az H;go_enter Tryz.func75,Tryz.ntmps75;go_wp2_with (first|((with_reducible refine b9 (N:=1) rfl ?_);refine db ?hg (N:=1) ?hd (cs:=#[.int .i64 a0_0, .int .i64 a0_1, .bool a0_2]) (t:=116) ?hr ?_;(case hd=>rfl);(case hg=>rfl);(case hr=>first|(go_simp;done)|(go_simp;rfl));intro gb503 hg w6 hbox hb;have GW503:=zg HB hg;have GE503:=GW503;replace HB:=zb HB hb;have BK503:=am hbox;clear hb hbox hg;have hcz7_0:=zk BK503 0 (.int .i64 a0_0);have hcz7_1:=zk BK503 1 (.int .i64 a0_1);have hcz7_2:=zk BK503 2 (.bool a0_2);have hfz7_0:=ak BK503.out 0;have hfz7_1:=ak BK503.out 1;have hfz7_2:=ak BK503.out 2))
   go_ret;exact⟨ze,by repeat (first|(with_reducible first|exact HB.out|apply qd|apply qe|apply qf|refine bj ?_ GE503.out)|exact HB.out)⟩
  ·rw[if_neg c5]at H;have c5b0:decide (512<a0_0)=false:=ah c5;clear c5;obtain rfl:=az H;go_enter Tryz.func75,Tryz.ntmps75;go_wp2_with (first|((with_reducible refine b9 (N:=1) rfl ?_);refine db ?hg (N:=1) ?hd (cs:=#[.int .i64 a0_0, .int .i64 a0_1, .bool a0_2]) (t:=116) ?hr ?_;(case hd=>rfl);(case hg=>rfl);(case hr=>first|(go_simp;done)|(go_simp;rfl));intro gb503 hg w8 hbox hb;have GW503:=zg HB hg;have GE503:=GW503;replace HB:=zb HB hb;have BK503:=am hbox;clear hb hbox hg;have hcz9_0:=zk BK503 0 (.int .i64 a0_0);have hcz9_1:=zk BK503 1 (.int .i64 a0_1);have hcz9_2:=zk BK503 2 (.bool a0_2);have hfz9_0:=ak BK503.out 0;have hfz9_1:=ak BK503.out 1;have hfz9_2:=ak BK503.out 2))
   go_ret;exact⟨ze,by repeat (first|(with_reducible first|exact HB.out|apply qd|apply qe|apply qf|refine bj ?_ GE503.out)|exact HB.out)⟩
def gx.f(a0:Int):Option (Int×Bool×Bool):=if(a0 / 2)<2 then(some (0,false,false))else(if(a0 / 2)>512 then(some (0,false,false))else(some (wrap64 (a0 / 2),((Go.bits .and .u64 a0 1)==1),true)))
theorem gx.calls(a0:Int)(r1:Int)(r2:Bool)(r3:Bool)(w:World)(h:gx.f a0=some (r1,r2,r3)):Calls Tryz.prog 117 #[.int .u64 a0] w fun e w'=>e=.returned (.tuple #[.int .i64 r1, .bool r2, .bool r3])/\Drawn0 w w':=by
 have H:(if(a0 / 2)<2 then(some (0,false,false))else(if(a0 / 2)>512 then(some (0,false,false))else(some (wrap64 (a0 / 2),((Go.bits .and .u64 a0 1)==1),true))))=some (r1,r2,r3):=h;clear h;by_cases c2:(a0 / 2)<2
 ·rw[if_pos c2]at H;have c2b0:=af c2;clear c2;simp only[Option.some.injEq,Prod.mk.injEq]at H;obtain⟨rfl,rfl,rfl⟩:=H;go_enter Tryz.func117,Tryz.ntmps117;go_wp2;go_ret3;exact⟨zs,zd⟩
 ·rw[if_neg c2]at H;have c2b0:=ah c2;clear c2;by_cases c3:(a0 / 2)>512
  ·rw[if_pos c3]at H;have c3b0:decide (512<(a0 / 2))=true:=af c3;clear c3;simp only[Option.some.injEq,Prod.mk.injEq]at H;obtain⟨rfl,rfl,rfl⟩:=H;go_enter Tryz.func117,Tryz.ntmps117;go_wp2;go_ret3;exact⟨zs,zd⟩
  ·rw[if_neg c3]at H;have c3b0:decide (512<(a0 / 2))=false:=ah c3;clear c3;simp only[Option.some.injEq,Prod.mk.injEq]at H;obtain⟨rfl,rfl,rfl⟩:=H;go_enter Tryz.func117,Tryz.ntmps117;go_wp2;go_ret3;exact⟨zs,zd⟩
def gh.f(a0:Int)(a1:Int)(a2:Int):Option (Bool):=if a1>=0 then(if a2>=0 then(if a2<=448 then(if a1<=(wrap64 (8*a0))then(some (decide (a2<=(wrap64 ((wrap64 (8*a0))-a1)))))else(some false))else(some false))else(some false))else(some false)
theorem gh.calls(a0:Int)(a1:Int)(a2:Int)(r:Bool)(w:World)(h:gh.f a0 a1 a2=some r):Calls Tryz.prog 173 #[.int .i64 a0, .int .i64 a1, .int .i64 a2] w fun e w'=>e=.returned (.bool r)/\Drawn0 w w':=by
 have H:(if a1>=0 then(if a2>=0 then(if a2<=448 then(if a1<=(wrap64 (8*a0))then(some (decide (a2<=(wrap64 ((wrap64 (8*a0))-a1)))))else(some false))else(some false))else(some false))else(some false))=some r:=h;clear h;by_cases c4:a1>=0
 ·rw[if_pos c4]at H;have c4b0:decide (0<=a1)=true:=af c4;clear c4;by_cases c5:a2>=0
  ·rw[if_pos c5]at H;have c5b0:decide (0<=a2)=true:=af c5;clear c5;by_cases c6:a2<=448
   ·rw[if_pos c6]at H;have c6b0:=af c6;clear c6;by_cases c7:a1<=(wrap64 (8*a0))
    ·rw[if_pos c7]at H;have c7b0:=af c7;clear c7;obtain rfl:=az H;go_enter Tryz.func173,Tryz.ntmps173;go_wp2;go_ret;exact⟨zs,zd⟩
    ·rw[if_neg c7]at H;have c7b0:=ah c7;clear c7;obtain rfl:=az H;go_enter Tryz.func173,Tryz.ntmps173;go_wp2;go_ret;exact⟨zs,zd⟩
   ·rw[if_neg c6]at H;have c6b0:=ah c6;clear c6;obtain rfl:=az H;go_enter Tryz.func173,Tryz.ntmps173;go_wp2;go_ret;exact⟨zs,zd⟩
  ·rw[if_neg c5]at H;have c5b0:decide (0<=a2)=false:=ah c5;clear c5;obtain rfl:=az H;go_enter Tryz.func173,Tryz.ntmps173;go_wp2;go_ret;exact⟨zs,zd⟩
 ·rw[if_neg c4]at H;have c4b0:decide (0<=a1)=false:=ah c4;clear c4;obtain rfl:=az H;go_enter Tryz.func173,Tryz.ntmps173;go_wp2;go_ret;exact⟨zs,zd⟩
def kx.f(a0:Int)(l1:List Int):Option (Int):=if a0<0 then(some 0)else(if(wrap64 (Int.tdiv a0 32))>=(l1.length:Int)then(some 0)else(if 0<=(wrap64 (Int.tdiv a0 32))then(if(wrap64 (Int.tdiv a0 32))<(l1.length:Int)then(some (rd l1 (wrap64 (Int.tdiv a0 32))))else(none))else(none)))
theorem kx.calls(a0:Int)(A1:Option Addr)(c1:Nat)(l1:List Int)(r:Int)(w:World)(hr1:Kd.C (Kd.int .i64) w A1 l1.length l1)(hc1:l1.length<=c1)(h:kx.f a0 l1=some r):Calls Tryz.prog 119 #[.int .i64 a0, .slice A1 l1.length c1] w fun e w'=>e=.returned (.int .i64 r)/\Drawn0 w w':=by
 have HR1:=am hr1;have HC1:=am hc1;clear hr1 hc1;have H:(if a0<0 then(some 0)else(if(wrap64 (Int.tdiv a0 32))>=(l1.length:Int)then(some 0)else(if 0<=(wrap64 (Int.tdiv a0 32))then(if(wrap64 (Int.tdiv a0 32))<(l1.length:Int)then(some (rd l1 (wrap64 (Int.tdiv a0 32))))else(none))else(none))))=some r:=h;clear h;by_cases c3:a0<0
 ·rw[if_pos c3]at H;have c3b0:=af c3;clear c3;obtain rfl:=az H;go_enter Tryz.func119,Tryz.ntmps119;go_wp2;go_ret;exact⟨zs,zd⟩
 ·rw[if_neg c3]at H;have c3b0:=ah c3;clear c3;by_cases c4:(wrap64 (Int.tdiv a0 32))>=(l1.length:Int)
  ·rw[if_pos c4]at H;have c4b0:decide ((l1.length:Int)<=(wrap64 (Int.tdiv a0 32)))=true:=af c4;clear c4;obtain rfl:=az H;go_enter Tryz.func119,Tryz.ntmps119;go_wp2;go_ret;exact⟨zs,zd⟩
  ·rw[if_neg c4]at H;have c4b0:decide ((l1.length:Int)<=(wrap64 (Int.tdiv a0 32)))=false:=ah c4;clear c4;obtain⟨ji5,hji5⟩:∃ j_:Int,(wrap64 (Int.tdiv a0 32))=j_:=⟨_,rfl⟩;replace H:(if 0<=(ji5)then(if(ji5)<(l1.length:Int)then(some (rd l1 (ji5)))else(none))else(none))=some r:=by first|(rw[hji5]at H;exact H)|(simp only[hji5]at H ⊢;exact H)
   (try rw[hji5]at c4b0)
   have hji5w:(IntKind.i64.wrap (Int.tdiv a0 32))=ji5:=(bu _).trans hji5;by_cases c6:0<=(ji5)
   ·rw[if_pos c6]at H;have c6b0:=af c6;clear c6;by_cases c7:(ji5)<(l1.length:Int)
    ·rw[if_pos c7]at H;have c7b0:=af c7;clear c7;obtain rfl:=az H;have p619:0<=((ji5):Int):=zu;have q619:(ji5)<(l1.length:Int):=zu;obtain⟨ad619,e619,hx619_0⟩:=Kd.at_int HR1.out (ji5) p619 q619;cases e619;replace p619:=eq_true p619;replace q619:=eq_true q619;go_enter Tryz.func119,Tryz.ntmps119;go_wp2;go_ret;exact⟨by first|rfl|(simp;done)|(simp only[<-hji5] <;> (first|rfl|simp))|(simp[*];done),zd⟩
    ·rw[if_neg c7]at H;exact absurd H (by simp)
   ·rw[if_neg c6]at H;exact absurd H (by simp)
def gq.f(a0_0:Int)(a0_1:Int)(l0_2:List Int)(a1_0:Int)(a1_1:Int)(l1_2:List Int):Option (Bool):=if a0_0=a1_0 then(if a0_1=a1_1 then(some ((strOfNums l0_2).toList==(strOfNums l1_2).toList))else(some false))else(some false)
theorem gq.calls(a0_0:Int)(a0_1:Int)(A0_2:Option Addr)(c0_2:Nat)(l0_2:List Int)(a1_0:Int)(a1_1:Int)(A1_2:Option Addr)(c1_2:Nat)(l1_2:List Int)(r:Bool)(w:World)(hr0_2:Kd.C (Kd.int .u8) w A0_2 l0_2.length l0_2)(hc0_2:l0_2.length<=c0_2)(hr1_2:Kd.C (Kd.int .u8) w A1_2 l1_2.length l1_2)(hc1_2:l1_2.length<=c1_2)(h:gq.f a0_0 a0_1 l0_2 a1_0 a1_1 l1_2=some r):Calls Tryz.prog 79 #[.agg #[.int .i64 a0_0, .int .i64 a0_1, .slice A0_2 l0_2.length c0_2], .agg #[.int .i64 a1_0, .int .i64 a1_1, .slice A1_2 l1_2.length c1_2]] w fun e w'=>e=.returned (.bool r)/\Below w.heap.size w w':=by
 have hu36:=Tryz.underlying36;have HR0_2:=am hr0_2;have HC0_2:=am hc0_2;clear hr0_2 hc0_2;have HR1_2:=am hr1_2;have HC1_2:=am hc1_2;clear hr1_2 hc1_2;have HB:=am (ai w.heap.size w);have H:(if a0_0=a1_0 then(if a0_1=a1_1 then(some ((strOfNums l0_2).toList==(strOfNums l1_2).toList))else(some false))else(some false))=some r:=h;clear h;by_cases c3:a0_0=a1_0
 ·rw[if_pos c3]at H;have c3b0:(a0_0==a1_0)=true:=beq_iff_eq.mpr c3;have c3b1:(a0_0 != a1_0)=false:=bne_eq_false_iff_eq.mpr c3;clear c3;by_cases c4:a0_1=a1_1
  ·rw[if_pos c4]at H;have c4b0:(a0_1==a1_1)=true:=beq_iff_eq.mpr c4;have c4b1:(a0_1 != a1_1)=false:=bne_eq_false_iff_eq.mpr c4;clear c4;obtain rfl:=az H;go_enter Tryz.func79,Tryz.ntmps79;go_wp2_with (first|((with_reducible refine b9 (N:=2) rfl ?_);refine db ?hg (N:=2) ?hd (cs:=#[.int .i64 a0_0, .int .i64 a0_1, .slice A0_2 l0_2.length c0_2]) (t:=36) ?hr ?_;(case hd=>rfl);(case hg=>rfl);(case hr=>first|(go_simp;done)|(go_simp;rfl));intro gb649 hg w5 hbox hb;have GW649:=zg HB hg;have GE649:=GW649;replace HB:=zb HB hb;have BK649:=am hbox;clear hb hbox hg)|((with_reducible refine b9 (N:=3) rfl ?_);refine db ?hg (N:=3) ?hd (cs:=#[.int .i64 a1_0, .int .i64 a1_1, .slice A1_2 l1_2.length c1_2]) (t:=36) ?hr ?_;(case hd=>rfl);(case hg=>rfl);(case hr=>first|(go_simp;done)|(go_simp;rfl));intro gb650 hg w6 hbox hb;have n0_:=zq BK649 hb;have n1_:=am (qw (by repeat (first|(with_reducible first|exact HB.out|apply qd|apply qe|apply qf|refine bj ?_ GE649.out)|exact HB.out)) hb);have n2_:=am (hbox);have n3_:=am ((by rw[hg];exact(bk (by repeat (first|(with_reducible first|exact HB.out|apply qd|apply qe|apply qf|refine bj ?_ GE649.out)|exact HB.out))):w.heap.size<=gb650));have n4_:=am ((by rw[hg];exact(bk (by repeat (first|(with_reducible first|exact HB.out|apply qd|apply qe|apply qf|refine bj ?_ GE649.out)|exact HB.out))):w.heap.size<=gb650));have n5_:=am ((by rw[hg];exact Nat.ne_of_lt (d7 (g:=gb649) (o:=.cells #[.int .i64 a0_0, .int .i64 a0_1, .slice A0_2 l0_2.length c0_2] 36 (0,0)) (by(with_reducible repeat (first|refine cy ?_ _|refine dp ?_ |refine d8 ?_ _));exact BK649.out)):gb649≠gb650));have n6_:=am ((by rw[hg];exact Nat.ne_of_gt (d7 (g:=gb649) (o:=.cells #[.int .i64 a0_0, .int .i64 a0_1, .slice A0_2 l0_2.length c0_2] 36 (0,0)) (by(with_reducible repeat (first|refine cy ?_ _|refine dp ?_ |refine d8 ?_ _));exact BK649.out)):gb650≠gb649));clear BK649;clear HB;have BK649:=n0_;have HB:=n1_;have BK650:=n2_;have GW650:=n3_;have GE650:=n4_;have NB649_650:=n5_;have NB650_649:=n6_;clear n0_ n1_ n2_ n3_ n4_ n5_ n6_;clear hb hbox hg;have hnb7:=NB649_650.out;have hnc7:=NB650_649.out;have hcz8_0:=zk BK649 0 (.int .i64 a0_0);have hcz8_1:=zk BK649 1 (.int .i64 a0_1);have hcz8_2:=zk BK649 2 (.slice A0_2 l0_2.length c0_2);have hfz8_0:=ak BK649.out 0;have hfz8_1:=ak BK649.out 1;have hfz8_2:=ak BK649.out 2;have hcz9_0:=zk BK650 0 (.int .i64 a1_0);have hcz9_1:=zk BK650 1 (.int .i64 a1_1);have hcz9_2:=zk BK650 2 (.slice A1_2 l1_2.length c1_2);have hfz9_0:=ak BK650.out 0;have hfz9_1:=ak BK650.out 1;have hfz9_2:=ak BK650.out 2;have hcv10:=Kd.C_string (P:=Tryz.prog) (A:=A0_2) (c:=c0_2) Tryz.underlying34 Tryz.underlying5 Tryz.underlying9 (Kd.C_below HR0_2.out HB.out);have hcv11:=Kd.C_string (P:=Tryz.prog) (A:=A1_2) (c:=c1_2) Tryz.underlying34 Tryz.underlying5 Tryz.underlying9 (Kd.C_below HR1_2.out HB.out)))
   go_ret;exact⟨ze,by repeat (first|(with_reducible first|exact HB.out|apply qd|apply qe|apply qf|refine bj ?_ GE649.out|refine bj ?_ GE650.out)|exact HB.out)⟩
  ·rw[if_neg c4]at H;have c4b0:(a0_1==a1_1)=false:=beq_eq_false_iff_ne.mpr c4;have c4b1:(a0_1 != a1_1)=true:=bne_iff_ne.mpr c4;obtain rfl:=az H;go_enter Tryz.func79,Tryz.ntmps79;go_wp2_with (first|((with_reducible refine b9 (N:=2) rfl ?_);refine db ?hg (N:=2) ?hd (cs:=#[.int .i64 a0_0, .int .i64 a0_1, .slice A0_2 l0_2.length c0_2]) (t:=36) ?hr ?_;(case hd=>rfl);(case hg=>rfl);(case hr=>first|(go_simp;done)|(go_simp;rfl));intro gb649 hg w12 hbox hb;have GW649:=zg HB hg;have GE649:=GW649;replace HB:=zb HB hb;have BK649:=am hbox;clear hb hbox hg)|((with_reducible refine b9 (N:=3) rfl ?_);refine db ?hg (N:=3) ?hd (cs:=#[.int .i64 a1_0, .int .i64 a1_1, .slice A1_2 l1_2.length c1_2]) (t:=36) ?hr ?_;(case hd=>rfl);(case hg=>rfl);(case hr=>first|(go_simp;done)|(go_simp;rfl));intro gb650 hg w13 hbox hb;have n0_:=zq BK649 hb;have n1_:=am (qw (by repeat (first|(with_reducible first|exact HB.out|apply qd|apply qe|apply qf|refine bj ?_ GE649.out)|exact HB.out)) hb);have n2_:=am (hbox);have n3_:=am ((by rw[hg];exact(bk (by repeat (first|(with_reducible first|exact HB.out|apply qd|apply qe|apply qf|refine bj ?_ GE649.out)|exact HB.out))):w.heap.size<=gb650));have n4_:=am ((by rw[hg];exact(bk (by repeat (first|(with_reducible first|exact HB.out|apply qd|apply qe|apply qf|refine bj ?_ GE649.out)|exact HB.out))):w.heap.size<=gb650));have n5_:=am ((by rw[hg];exact Nat.ne_of_lt (d7 (g:=gb649) (o:=.cells #[.int .i64 a0_0, .int .i64 a0_1, .slice A0_2 l0_2.length c0_2] 36 (0,0)) (by(with_reducible repeat (first|refine cy ?_ _|refine dp ?_ |refine d8 ?_ _));exact BK649.out)):gb649≠gb650));have n6_:=am ((by rw[hg];exact Nat.ne_of_gt (d7 (g:=gb649) (o:=.cells #[.int .i64 a0_0, .int .i64 a0_1, .slice A0_2 l0_2.length c0_2] 36 (0,0)) (by(with_reducible repeat (first|refine cy ?_ _|refine dp ?_ |refine d8 ?_ _));exact BK649.out)):gb650≠gb649));clear BK649;clear HB;have BK649:=n0_;have HB:=n1_;have BK650:=n2_;have GW650:=n3_;have GE650:=n4_;have NB649_650:=n5_;have NB650_649:=n6_;clear n0_ n1_ n2_ n3_ n4_ n5_ n6_;clear hb hbox hg;have hnb14:=NB649_650.out;have hnc14:=NB650_649.out;have hcz15_0:=zk BK649 0 (.int .i64 a0_0);have hcz15_1:=zk BK649 1 (.int .i64 a0_1);have hcz15_2:=zk BK649 2 (.slice A0_2 l0_2.length c0_2);have hfz15_0:=ak BK649.out 0;have hfz15_1:=ak BK649.out 1;have hfz15_2:=ak BK649.out 2;have hcz16_0:=zk BK650 0 (.int .i64 a1_0);have hcz16_1:=zk BK650 1 (.int .i64 a1_1);have hcz16_2:=zk BK650 2 (.slice A1_2 l1_2.length c1_2);have hfz16_0:=ak BK650.out 0;have hfz16_1:=ak BK650.out 1;have hfz16_2:=ak BK650.out 2))
   go_ret;exact⟨ze,by repeat (first|(with_reducible first|exact HB.out|apply qd|apply qe|apply qf|refine bj ?_ GE649.out|refine bj ?_ GE650.out)|exact HB.out)⟩
 ·rw[if_neg c3]at H;have c3b0:(a0_0==a1_0)=false:=beq_eq_false_iff_ne.mpr c3;have c3b1:(a0_0 != a1_0)=true:=bne_iff_ne.mpr c3;obtain rfl:=az H;go_enter Tryz.func79,Tryz.ntmps79;go_wp2_with (first|((with_reducible refine b9 (N:=2) rfl ?_);refine db ?hg (N:=2) ?hd (cs:=#[.int .i64 a0_0, .int .i64 a0_1, .slice A0_2 l0_2.length c0_2]) (t:=36) ?hr ?_;(case hd=>rfl);(case hg=>rfl);(case hr=>first|(go_simp;done)|(go_simp;rfl));intro gb649 hg w17 hbox hb;have GW649:=zg HB hg;have GE649:=GW649;replace HB:=zb HB hb;have BK649:=am hbox;clear hb hbox hg)|((with_reducible refine b9 (N:=3) rfl ?_);refine db ?hg (N:=3) ?hd (cs:=#[.int .i64 a1_0, .int .i64 a1_1, .slice A1_2 l1_2.length c1_2]) (t:=36) ?hr ?_;(case hd=>rfl);(case hg=>rfl);(case hr=>first|(go_simp;done)|(go_simp;rfl));intro gb650 hg w18 hbox hb;have n0_:=zq BK649 hb;have n1_:=am (qw (by repeat (first|(with_reducible first|exact HB.out|apply qd|apply qe|apply qf|refine bj ?_ GE649.out)|exact HB.out)) hb);have n2_:=am (hbox);have n3_:=am ((by rw[hg];exact(bk (by repeat (first|(with_reducible first|exact HB.out|apply qd|apply qe|apply qf|refine bj ?_ GE649.out)|exact HB.out))):w.heap.size<=gb650));have n4_:=am ((by rw[hg];exact(bk (by repeat (first|(with_reducible first|exact HB.out|apply qd|apply qe|apply qf|refine bj ?_ GE649.out)|exact HB.out))):w.heap.size<=gb650));have n5_:=am ((by rw[hg];exact Nat.ne_of_lt (d7 (g:=gb649) (o:=.cells #[.int .i64 a0_0, .int .i64 a0_1, .slice A0_2 l0_2.length c0_2] 36 (0,0)) (by(with_reducible repeat (first|refine cy ?_ _|refine dp ?_ |refine d8 ?_ _));exact BK649.out)):gb649≠gb650));have n6_:=am ((by rw[hg];exact Nat.ne_of_gt (d7 (g:=gb649) (o:=.cells #[.int .i64 a0_0, .int .i64 a0_1, .slice A0_2 l0_2.length c0_2] 36 (0,0)) (by(with_reducible repeat (first|refine cy ?_ _|refine dp ?_ |refine d8 ?_ _));exact BK649.out)):gb650≠gb649));clear BK649;clear HB;have BK649:=n0_;have HB:=n1_;have BK650:=n2_;have GW650:=n3_;have GE650:=n4_;have NB649_650:=n5_;have NB650_649:=n6_;clear n0_ n1_ n2_ n3_ n4_ n5_ n6_;clear hb hbox hg;have hnb19:=NB649_650.out;have hnc19:=NB650_649.out;have hcz20_0:=zk BK649 0 (.int .i64 a0_0);have hcz20_1:=zk BK649 1 (.int .i64 a0_1);have hcz20_2:=zk BK649 2 (.slice A0_2 l0_2.length c0_2);have hfz20_0:=ak BK649.out 0;have hfz20_1:=ak BK649.out 1;have hfz20_2:=ak BK649.out 2;have hcz21_0:=zk BK650 0 (.int .i64 a1_0);have hcz21_1:=zk BK650 1 (.int .i64 a1_1);have hcz21_2:=zk BK650 2 (.slice A1_2 l1_2.length c1_2);have hfz21_0:=ak BK650.out 0;have hfz21_1:=ak BK650.out 1;have hfz21_2:=ak BK650.out 2))
  go_ret;exact⟨ze,by repeat (first|(with_reducible first|exact HB.out|apply qd|apply qe|apply qf|refine bj ?_ GE649.out|refine bj ?_ GE650.out)|exact HB.out)⟩
end Go.Proofs.YtmfhaliclnnbaaaGreat.XTopWhole
