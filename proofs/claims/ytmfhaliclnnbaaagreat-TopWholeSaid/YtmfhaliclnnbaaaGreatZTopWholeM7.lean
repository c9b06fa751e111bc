import Derived.Test.YtmfhaliclnnbaaaGreatZTopWholeM1
import Derived.Deep.RegionWith
import Derived.Lib.Hide
import Derived.Test.YtmfhaliclnnbaaaGreatZTopWholeM2
namespace Go.Proofs.YtmfhaliclnnbaaaGreat.Sys
open Go.RowKit Go.Proofs.YtmfhaliclnnbaaaGreatW.PrintWords Go.Proofs.YtmfhaliclnnbaaaGreatW.PrintLast Go.Proofs.YtmfhaliclnnbaaaGreatW.PrintMore
structure Cell where
 line:List Int
 wear:Int
 limit:Int
structure Mem where
 cells:List Cell
 regs:List Int
 writes:Int
 cut:Int
 mask:Int
 down:Bool
def br(l:List Int):List Value:=l.map (Value.int .u64)
def iw(l:List Int):Value:=.agg (br l).toArray
def lf(c:Cell):List Value:=br c.line++[.int .i64 c.wear, .int .i64 c.limit]
def gy(l:List Cell):List Value:=l.flatMap lf
def qae(C n:Nat)(m:Mem):List Value:=.slice (some ⟨C,0,none⟩) n n::(br m.regs++[.int .i64 m.writes, .int .i64 m.cut, .int .i64 m.mask, .bool m.down])
theorem au(l:List Int):(br l).length=l.length:=by simp[br]
theorem lq{c:Cell}(h:c.line.length=8):(lf c).length=10:=by simp[lf,au,h]
theorem pm:∀ {l:List Cell},(∀ c∈l,c.line.length=8)->(gy l).length=l.length*10
 |[],_=>rfl
 |c::r,h=>by
  have ih:=pm (l:=r) (fun x hx=>h x (List.mem_cons_of_mem _ hx))
  show(lf c++gy r).length=_
  rw[List.length_append,lq (h c List.mem_cons_self),ih,List.length_cons]
  omega
theorem o8:∀ {l:List Cell} {i:Nat} {c:Cell} (j:Nat),(∀ c∈l,c.line.length=8)->l[i]? =some c->j<10->(gy l)[i*10+j]? =(lf c)[j]?
 |[],_,_,_,_,h,_=>by cases h
 |x::r,0,c,j,hl,h,hj=>by
  cases h
  show(lf x++gy r)[_]? =_
  rw[List.getElem?_append_left (by rw[lq (hl _ List.mem_cons_self)];omega),Nat.zero_mul,Nat.zero_add]
 |x::r,i+1,c,j,hl,h,hj=>by
  have ih:=o8 (l:=r) (i:=i) (c:=c) j (fun y hy=>hl y (List.mem_cons_of_mem _ hy)) h hj
  show(lf x++gy r)[_]? =_
  have h10:=lq (hl x List.mem_cons_self)
  rw[List.getElem?_append_right (by rw[h10];omega),h10,←ih]
  congr 1
  omega
theorem y4:∀ {l:List Cell} {i:Nat} {c c':Cell} (j:Nat) (v:Value),(∀ c∈l,c.line.length=8)->l[i]? =some c->j<10->(lf c).set j v=lf c'→(gy l).set (i*10+j) v=gy (l.set i c')
 |[],_,_,_,_,_,_,h,_,_=>by cases h
 |x::r,0,c,c',j,v,hl,h,hj,e=>by
  cases h
  show(lf x++gy r).set _ v=lf c'++gy r
  rw[List.set_append_left _ _ (by rw[lq (hl _ List.mem_cons_self)];omega),Nat.zero_mul,Nat.zero_add,e]
 |x::r,i+1,c,c',j,v,hl,h,hj,e=>by
  have ih:=y4 (l:=r) (i:=i) (c:=c) (c':=c') j v (fun y hy=>hl y (List.mem_cons_of_mem _ hy)) h hj e
  show(lf x++gy r).set _ v=lf x++gy (r.set i c')
  have h10:=lq (hl x List.mem_cons_self)
  rw[List.set_append_right _ _ (by rw[h10];omega),h10,←ih]
  congr 2
  omega
structure MemAt (w:World) (M C:Nat) (m:Mem):Prop where
 mem:w.heap[M]? =some (.cells (qae C m.cells.length m).toArray 71 (0,0))
 arr:w.heap[C]? =some (.cells (gy m.cells).toArray 75 (0,0))
 ne:M≠C
 regs:m.regs.length=35
 lines:∀ c∈m.cells,c.line.length=8
 few:m.cells.length<=200
structure aq (S:Nat->Prop) (w w':World):Prop where
 os:w'.os=w.os
 tape:w'.tape=w.tape
 output:w'.output=w.output
 size:w.heap.size<=w'.heap.size
 block:∀ k,k<w.heap.size→¬ S k->w'.heap[k]? =w.heap[k]?
theorem aq.refl(S:Nat->Prop)(w:World):aq S w w:=⟨rfl,rfl,rfl,Nat.le_refl _,fun _ _ _=>rfl⟩
theorem aq.trans{S S':Nat->Prop}{a b c:World}(h:aq S a b)(k:aq S' b c)(hs:∀ k,k<a.heap.size->S' k->S k):aq S a c:=
 ⟨k.os.trans h.os,k.tape.trans h.tape,k.output.trans h.output,Nat.le_trans h.size k.size,fun i hi hn=>(k.block i (Nat.lt_of_lt_of_le hi h.size) (fun e=>hn (hs i hi e))).trans (h.block i hi hn)⟩
theorem aq.step{S:Nat->Prop}{a b c:World}(h:aq S a b)(k:aq S b c):aq S a c:=h.trans k (fun _ _ h=>h)
theorem aq.mono{S S':Nat->Prop}{a b:World}(h:aq S a b)(hs:∀ k,k<a.heap.size->S k->S' k):aq S' a b:=⟨h.os,h.tape,h.output,h.size,fun i hi hn=>h.block i hi (fun e=>hn (hs i hi e))⟩
theorem aq.of_below{S:Nat->Prop}{a b:World}(h:Below a.heap.size a b):aq S a b:=⟨h.os,h.tape,h.output,h.size,fun i hi _=>h.block i hi⟩
theorem aq.below{a b:World}{B:Nat}{S:Nat->Prop}(h:aq S a b)(hB:B<=a.heap.size)(hs:∀ k,k<B→¬ S k):Below B a b:=⟨h.os,h.tape,h.output,h.size,fun i hi=>h.block i (Nat.lt_of_lt_of_le hi hB) (hs i hi)⟩
theorem aq.drew{S:Nat->Prop}{a w:World}(h:aq S a w):aq S a w.drew:=⟨h.os,h.tape,h.output,h.size,h.block⟩
theorem aq.drewN{S:Nat->Prop}{a w:World}(h:aq S a w)(n:Nat):aq S a (w.drewN n):=by
 have e:=bq (Below.refl w.heap.size w) n;exact h.trans (S':=S) (aq.of_below e) (fun _ _ h=>h)
theorem aq.alloc{S:Nat->Prop}{a w:World}(h:aq S a w)(o:Obj):aq S a (w.alloc o):=h.step (.of_below ((Below.refl _ _).alloc (Nat.le_refl _) o))
theorem aq.set{S:Nat->Prop}{a w:World}(h:aq S a w){p:Addr}(hp:S p.block\/a.heap.size<=p.block)(v:Value):aq S a (w.setCell p v):=
 ⟨h.os,h.tape,h.output,by simp[World.setCell];exact h.size,fun i hi hn=>by
  rw[Below.heap_setCell _ _ _ _ (fun e=>by rcases hp with hp|hp;exact hn (e ▸ hp);omega)]
  exact h.block i hi hn⟩
theorem aq.of{S:Nat->Prop}{a b:World}{g:Nat}{o:Obj}(h:aq S a b)(hg:a.heap[g]? =some o)(hs:¬ S g):b.heap[g]? =some o:=(h.block g (d7 hg) hs).trans hg
def MC(M C:Nat):Nat->Prop:=fun k=>k=M\/k=C
theorem sq{M C k:Nat}(h:k≠M)(h':k≠C):¬ MC M C k:=fun e=>by rcases e with e|e <;> contradiction
section
variable{w:World}{M C:Nat}{m:Mem}
theorem qng(C n:Nat)(m:Mem)(h:m.regs.length=35)(i:Nat)(hi:i<35):(qae C n m)[1+i]? =some (.int .u64 (m.regs.getD i 0)):=by
 rw[Nat.add_comm];show(br m.regs++_)[i]? =_;rw[List.getElem?_append_left (by rw[au,h];exact hi)];simp[br,List.getElem?_eq_getElem (show i<m.regs.length by omega)]
theorem xo(C n:Nat)(m:Mem)(h:m.regs.length=35)(i:Nat):(qae C n m)[36+i]? =[Value.int .i64 m.writes, .int .i64 m.cut, .int .i64 m.mask, .bool m.down][i]? :=by
 rw[show 36+i=(35+i)+1 by omega];show(br m.regs++_)[35+i]? =_;rw[List.getElem?_append_right (by rw[au,h];omega),au,h];congr 1;omega
theorem MemAt.cell(h:MemAt w M C m)(i:Nat):w.cell? ⟨M,i,none⟩=(qae C m.cells.length m)[i]? :=(aj h.mem i).trans (by simp)
theorem MemAt.c0(h:MemAt w M C m):w.cell? ⟨M,0,none⟩=some (.slice (some ⟨C,0,none⟩) m.cells.length m.cells.length):=h.cell 0
theorem MemAt.reg(h:MemAt w M C m)(i:Nat)(hi:i<35):w.cell? ⟨M,1+i,none⟩=some (.int .u64 (m.regs.getD i 0)):=(h.cell _).trans (qng _ _ _ h.regs i hi)
theorem MemAt.writes(h:MemAt w M C m):w.cell? ⟨M,36,none⟩=some (.int .i64 m.writes):=(h.cell _).trans (xo _ _ _ h.regs 0)
theorem MemAt.cut(h:MemAt w M C m):w.cell? ⟨M,37,none⟩=some (.int .i64 m.cut):=(h.cell _).trans (xo _ _ _ h.regs 1)
theorem MemAt.mask(h:MemAt w M C m):w.cell? ⟨M,38,none⟩=some (.int .i64 m.mask):=(h.cell _).trans (xo _ _ _ h.regs 2)
theorem MemAt.down(h:MemAt w M C m):w.cell? ⟨M,39,none⟩=some (.bool m.down):=(h.cell _).trans (xo _ _ _ h.regs 3)
theorem MemAt.free(h:MemAt w M C m)(i:Nat):w.frozen? ⟨M,i,none⟩=false:=ak h.mem i
theorem MemAt.freeC(h:MemAt w M C m)(i:Nat):w.frozen? ⟨C,i,none⟩=false:=ak h.arr i
theorem MemAt.kept{w':World}{S:Nat->Prop}(h:MemAt w M C m)(k:aq S w w')(hM:¬ S M)(hC:¬ S C):MemAt w' M C m:=⟨k.of h.mem hM,k.of h.arr hC,h.ne,h.regs,h.lines,h.few⟩
theorem MemAt.drew(h:MemAt w M C m):MemAt w.drew M C m:=⟨h.mem,h.arr,h.ne,h.regs,h.lines,h.few⟩
theorem MemAt.drewN(h:MemAt w M C m)(n:Nat):MemAt (w.drewN n) M C m:=h.kept ((aq.refl (fun _=>False) w).drewN n) id id
theorem MemAt.alloc(h:MemAt w M C m)(o:Obj):MemAt (w.alloc o) M C m:=h.kept ((aq.refl (fun _=>False) w).alloc o) id id
theorem MemAt.below(h:MemAt w M C m){w':World}(hb:Below w.heap.size w w'):MemAt w' M C m:=h.kept (aq.of_below (S:=fun _=>False) hb) id id
theorem MemAt.lt(h:MemAt w M C m):M<w.heap.size/\C<w.heap.size:=⟨d7 h.mem,d7 h.arr⟩
theorem qaf(C n:Nat)(m m':Mem)(h:m.regs.length=35)(i:Nat)(v:Value)(e:[Value.int .i64 m.writes, .int .i64 m.cut, .int .i64 m.mask, .bool m.down].set i v=[Value.int .i64 m'.writes, .int .i64 m'.cut, .int .i64 m'.mask, .bool m'.down])(hr:m'.regs=m.regs):(qae C n m).set (36+i) v=qae C n m':=by
 rw[show 36+i=(35+i)+1 by omega];show _::(br m.regs++_).set (35+i) v=_::(br m'.regs++_);rw[List.set_append_right _ _ (by rw[au,h];omega),au,h,show 35+i-35=i by omega,e,hr]
theorem qhv(C n:Nat)(m:Mem)(h:m.regs.length=35)(i:Nat)(hi:i<35)(v:Int):(qae C n m).set (1+i) (.int .u64 v)=qae C n {m with regs:=m.regs.set i v}:=by
 rw[Nat.add_comm];show _::(br m.regs++_).set i _=_::(br (m.regs.set i v)++_);rw[List.set_append_left _ _ (by rw[au,h];exact hi)];simp[br,List.map_set]
theorem MemAt.put(h:MemAt w M C m){m':Mem}(i:Nat)(v:Value)(e:(qae C m.cells.length m).set i v=qae C m.cells.length m')(hc:m'.cells=m.cells)(hr:m'.regs.length=35):MemAt (w.setCell ⟨M,i,none⟩ v) M C m':=
 ⟨by
  rw[heap_setCell_same _ _ _ _ _ _ h.mem]
  rw[List.setIfInBounds_toArray,e,hc],by
  rw[Below.heap_setCell _ _ _ _ h.ne.symm,hc];exact h.arr,h.ne,hr,by rw[hc];exact h.lines,by rw[hc];exact h.few⟩
theorem MemAt.setWrites(h:MemAt w M C m)(v:Int):MemAt (w.setCell ⟨M,36,none⟩ (.int .i64 v)) M C {m with writes:=v}:=h.put 36 _ (qaf _ _ m {m with writes:=v} h.regs 0 _ rfl rfl) rfl h.regs
theorem MemAt.setCut(h:MemAt w M C m)(v:Int):MemAt (w.setCell ⟨M,37,none⟩ (.int .i64 v)) M C {m with cut:=v}:=h.put 37 _ (qaf _ _ m {m with cut:=v} h.regs 1 _ rfl rfl) rfl h.regs
theorem MemAt.setMask(h:MemAt w M C m)(v:Int):MemAt (w.setCell ⟨M,38,none⟩ (.int .i64 v)) M C {m with mask:=v}:=h.put 38 _ (qaf _ _ m {m with mask:=v} h.regs 2 _ rfl rfl) rfl h.regs
theorem MemAt.setDown(h:MemAt w M C m)(v:Bool):MemAt (w.setCell ⟨M,39,none⟩ (.bool v)) M C {m with down:=v}:=h.put 39 _ (qaf _ _ m {m with down:=v} h.regs 3 _ rfl rfl) rfl h.regs
theorem MemAt.setReg(h:MemAt w M C m)(i:Nat)(hi:i<35)(v:Int):MemAt (w.setCell ⟨M,1+i,none⟩ (.int .u64 v)) M C {m with regs:=m.regs.set i v}:=h.put (1+i) _ (qhv _ _ m h.regs i hi v) rfl (by simp[h.regs])
theorem MemAt.other(h:MemAt w M C m){p:Addr}(hM:M≠p.block)(hC:C≠p.block)(v:Value):MemAt (w.setCell p v) M C m:=
 ⟨by rw[Below.heap_setCell _ _ _ _ hM];exact h.mem,by rw[Below.heap_setCell _ _ _ _ hC];exact h.arr,h.ne,h.regs,h.lines,h.few⟩
end
def spl:List Value->Nat->List Value->List Value
 |l,_,[]=>l
 |l,i,v::r=>spl (l.set i v) (i+1) r
theorem qjy:∀ (vs A B D:List Value),B.length=vs.length->spl (A++B++D) A.length vs=A++vs++D
 |[],A,B,D,h=>by obtain rfl:=List.eq_nil_of_length_eq_zero h;rfl
 |v::r,A,[],D,h=>by cases h
 |v::r,A,b::B,D,h=>by
  have ih:=qjy r (A++[v]) B D (by simpa using h)
  rw[List.length_append,List.length_singleton]at ih
  rw[spl,show(A++b::B++D).set A.length v=A++[v]++B++D by simp]
  rw[ih]
  simp
theorem kf(vs l:List Value)(h:l.length=vs.length):spl l 0 vs=vs:=by
 have:=qjy vs [] l [] h;simpa using this
def qd9:TypeDesc->Bool
 | .struct _=>true
 | .array _ _=>true
 |_=>false
section
variable{P:Program}
theorem qgi(w:World)(g j:Nat)(cur:List Value)(t:TypeId)(v:Value)(hg:w.heap[g]? =some (.cells cur.toArray t (0,0)))(hj:j<cur.length)(hv:v.oneCell'=true):(store ⟨g,j,none⟩ v).run P w=.ok () (w.setRow g (cur.set j v).toArray):=by
 have hcell:w.cell? ⟨g,j,none⟩=some cur[j]:=by simp[World.cell?,hg,hj]
 have hfro:w.frozen? ⟨g,j,none⟩=false:=by simp[World.frozen?,hg]
 rw[run_store P w _ v _ hv,hcell];simp[hfro,setCell_eq_setRow w g j cur.toArray t (0,0) v hg]
theorem lh(w:World)(g:Nat)(cur:Array Value)(t:TypeId)(fr:Nat×Nat)(hg:w.heap[g]? =some (.cells cur t fr)):w.setRow g cur=w:=by
 have hlt:g<w.heap.size:=(Array.getElem?_eq_some_iff.1 hg).1;have hv:w.heap[g]=.cells cur t fr:=(Array.getElem?_eq_some_iff.1 hg).2;unfold World.setRow;cases w with
 |mk heap tape drawn os output=>
  congr 1;apply Array.ext
  ·simp
  ·intro k h1 h2;simp only[Array.getElem_modify];split
   ·rename_i hk;subst hk;simp at hv;simp[hv]
   ·rfl
theorem ou(g off i:Nat):(⟨g,off,none⟩:Addr).add i=⟨g,off+i,none⟩:=by unfold Addr.add;split <;> simp_all
theorem td(g off:Nat)(t:TypeId):∀ (vs:List Value) (i:Nat) (cur:List Value) (w:World),w.heap[g]? =some (.cells cur.toArray t (0,0))->off+i+vs.length<=cur.length->(∀ v∈vs,v.oneCell'=true)→
  (storeCells ⟨g,off,none⟩ vs i).run P w=.ok () (w.setRow g (spl cur (off+i) vs).toArray)
 |[],i,cur,w,hg,hl,_=>by
  rw[spl,lh w g _ t _ hg]
  rfl
 |v::rest,i,cur,w,hg,hl,h1=>by
  have hst:=qgi (P:=P) w g (off+i) cur t v hg (by simp at hl;omega) (h1 v (by simp))
  have ih:=td g off t rest (i+1) (cur.set (off+i) v) (w.setRow g (cur.set (off+i) v).toArray) (setRow_heap w g _ _ t _ hg) (by simp at hl ⊢;omega) (fun x hx=>h1 x (by simp[hx]))
  rw[storeCells,Sem.run_bind,ou,hst]
  simp only[Result.andThen_ok]
  rw[ih,setRow_setRow,spl]
  rfl
theorem vp(w:World)(g off:Nat)(t ty:TypeId)(cur vs:List Value)(hg:w.heap[g]? =some (.cells cur.toArray t (0,0)))(hi:(P.info? ty).map (·.size)=some vs.length)(ho:off+vs.length<=cur.length)(h1:∀ v∈vs,v.oneCell'=true):(storeVar ty ⟨g,off,none⟩ (.agg vs.toArray)).run P w=.ok () (w.setRow g (spl cur off vs).toArray):=by
 have:=td (P:=P) g off t vs 0 cur w hg (by omega) h1;cases hq:P.info? ty with
 |none=>simp[hq]at hi
 |some i=>
  have hs:vs.length=i.size:=by simp[hq]at hi;omega
  simp[storeVar,sizeOf,typeInfo,hq,Value.cells,hs,this]
theorem ff{ops:Array Oper}{rest:List Oper}{o:Oper}{a:Act}{w:World}{Q:Exit->Act->World->Prop}(hgd:o.guard=none)(ty:TypeId)(x y:Operand)(ho:o.op=.store ty x y)
  (g off:Nat) (vs:List Value) (hx:a.eval x=.pointer (some ⟨g,off,none⟩)) (hy:a.eval y=.agg vs.toArray)
  (t:TypeId) (cur:List Value) (hg:w.heap[g]? =some (.cells cur.toArray t (0,0))) (hi:(P.info? ty).map (·.size)=some vs.length)
  (hold:off+vs.length<=cur.length) (h1:∀ v∈vs,v.oneCell'=true)
  (h:wpList P ops Q rest (a.put o.dst undef) (w.setRow g (spl cur off vs).toArray)):wpList P ops Q (o::rest) a w:=
 wpList_plain hgd fun _ hK=>by
  unfold Oper.wp execOp
  simp only[ho,hx,hy,Instr.storeAt,Instr.sureAddr,Sem.run_bind,Sem.run_pure,Result.andThen_ok,vp w g off t ty cur vs hg hi hold h1]
  exact hK _ _ h
theorem o0(w:World)(g off:Nat)(ty:TypeId)(cs:List Value)(d:TypeDesc)(hc:∀ j v,cs[j]? =some v->w.cell? ⟨g,off+j,none⟩=some v)(hu:P.underlying ty=some d)(hd:qd9 d=true)(hi:(P.info? ty).map (·.size)=some cs.length):(loadVar ty ⟨g,off,none⟩).run P w=.ok (.agg cs.toArray) w:=by
 have hl:(loadCells ⟨g,off,none⟩ cs.length).run P w=.ok cs.toArray w:=
  run_loadCells_list (P:=P) (w:=w) ⟨g,off,none⟩ cs (fun j v hv=>by rw[ou];exact hc j v hv)
 cases hq:P.info? ty with
 |none=>simp[hq]at hi
 |some i=>
  have hs:i.size=cs.length:=by simpa[hq]using hi
  have hagg:(isAgg ty).run P w=.ok true w:=by unfold isAgg;rw[Sem.run_bind,run_underlying hu w];cases d <;> simp_all [qd9]
  simp[loadVar,Sem.run_bind,hagg,sizeOf,typeInfo,hq,hs,hl]
theorem bc{ops:Array Oper}{rest:List Oper}{o:Oper}{a:Act}{w:World}{Q:Exit->Act->World->Prop}(hgd:o.guard=none)(ty:TypeId)(x:Operand)(ho:o.op=.load ty x)
  (g off:Nat) (hx:a.eval x=.pointer (some ⟨g,off,none⟩)) (cs:List Value) (d:TypeDesc) (hc:∀ j v,cs[j]? =some v->w.cell? ⟨g,off+j,none⟩=some v)
  (hu:P.underlying ty=some d) (hd:qd9 d=true) (hi:(P.info? ty).map (·.size)=some cs.length)
  (h:wpList P ops Q rest (a.put o.dst (.agg cs.toArray)) w):wpList P ops Q (o::rest) a w:=
 wpList_plain hgd fun _ hK=>by
  unfold Oper.wp execOp
  simp only[ho,hx,Instr.loadAt,Instr.sureAddr,Sem.run_bind,Sem.run_pure,Result.andThen_ok,o0 w g off ty cs d hc hu hd hi]
  exact hK _ _ h
theorem dh{o:Oper}{a:Act}{w:World}(ty:TypeId)(x:Operand)(ho:o.op=.load ty x)(g off:Nat)(hx:a.eval x=.pointer (some ⟨g,off,none⟩))(cs:List Value)(d:TypeDesc)(hc:∀ j v,cs[j]? =some v->w.cell? ⟨g,off+j,none⟩=some v)(hu:P.underlying ty=some d)(hd:qd9 d=true)(hi:(P.info? ty).map (·.size)=some cs.length):(execOp a.eval o).run P w=.ok (.value (.agg cs.toArray)) w:=by
 unfold execOp;simp only[ho,hx,Instr.loadAt,Instr.sureAddr,Sem.run_bind,Sem.run_pure,Result.andThen_ok,o0 w g off ty cs d hc hu hd hi]
theorem kj{o:Oper}{a:Act}{w:World}(ty:TypeId)(x y:Operand)(ho:o.op=.store ty x y)(g off:Nat)(vs:List Value)(hx:a.eval x=.pointer (some ⟨g,off,none⟩))(hy:a.eval y=.agg vs.toArray)(t:TypeId)(cur:List Value)(hg:w.heap[g]? =some (.cells cur.toArray t (0,0)))(hi:(P.info? ty).map (·.size)=some vs.length)(hold:off+vs.length<=cur.length)(h1:∀ v∈vs,v.oneCell'=true):(execOp a.eval o).run P w=.ok .skip (w.setRow g (spl cur off vs).toArray):=by
 unfold execOp;simp only[ho,hx,hy,Instr.storeAt,Instr.sureAddr,Sem.run_bind,Sem.run_pure,Result.andThen_ok,vp w g off t ty cur vs hg hi hold h1]
variable{ops:Array Oper}{Q:Exit->Act->World->Prop}{md:Region.Mode}{S:World->Prop}{ds:List Nat}
theorem pu{oi:Oper}{v:Value}{fuel:Nat}{l:Array Bool}{a a':Act}{w:World}(i:Nat)(N:Option Tmp)(l':Array Bool)
  (hi:ops[i]? =some oi:=by exact rfl) (hN:oi.dst=N:=by exact rfl) (hc:qg7 md ops l l' i=true:=by kernel_rfl) (hQ:∀ c a w,Q (.panic c) (a.put oi.dst v) w->Q (.panic c) a w:=by exact fun _ _ _ h=>h) (hw:Region.wanted oi (yielded ops a.tmps)=true:=by rfl)
  (hy:∀ w,(execOp a.eval oi).run P w=.ok (.value v) w:=by(intro w';go_simp;with_reducible rfl)) (ha:a.put N v=a':=by(simp only[Act.put,List.setIfInBounds_toArray,List.set_cons_zero,List.set_cons_succ,bu,iu];rfl)) (h:bf P md ops Q S ds fuel l' a' w):bf P md ops Q S ds (fuel+1) l a w:=
 ja l' hi hN hc hQ (Or.inl ⟨hw,hy⟩) ha h
theorem tu{oi:Oper}{v:Value}{fuel:Nat}{l:Array Bool}{a a':Act}{w:World}(i:Nat)(N:Option Tmp)(l':Array Bool)(hS:S w)(hy:∀ w,S w->(execOp a.eval oi).run P w=.ok (.value v) w)
  (hi:ops[i]? =some oi:=by exact rfl) (hN:oi.dst=N:=by exact rfl) (hc:yr md ops ds l l' i=true:=by kernel_rfl) (hQ:∀ c a w,Q (.panic c) (a.put oi.dst v) w->Q (.panic c) a w:=by exact fun _ _ _ h=>h) (hw:Region.wanted oi (yielded ops a.tmps)=true:=by rfl)
  (ha:a.put N v=a':=by(simp only[Act.put,List.setIfInBounds_toArray,List.set_cons_zero,List.set_cons_succ,bu,iu];rfl)) (h:bf P md ops Q S ds fuel l' a' w):bf P md ops Q S ds (fuel+1) l a w:=
 take_ l' hi hN hc hQ (Or.inl ⟨hw,hy⟩) hS ha h
theorem tv{oi:Oper}{v:Value}{fuel:Nat}{l:Array Bool}{a a':Act}{w:World}(i:Nat)(N:Option Tmp)(l':Array Bool)(hi:ops[i]? =some oi)(hS:S w)(hy:∀ w,S w->(execOp a.eval oi).run P w=.ok (.value v) w)
  (hN:oi.dst=N:=by exact rfl) (hc:yr md ops ds l l' i=true:=by kernel_rfl) (hQ:∀ c a w,Q (.panic c) (a.put oi.dst v) w->Q (.panic c) a w:=by exact fun _ _ _ h=>h) (hw:Region.wanted oi (yielded ops a.tmps)=true:=by rfl)
  (ha:a.put N v=a':=by(simp only[Act.put,List.setIfInBounds_toArray,List.set_cons_zero,List.set_cons_succ,bu,iu];rfl)) (h:bf P md ops Q S ds fuel l' a' w):bf P md ops Q S ds (fuel+1) l a w:=
 take_ l' hi hN hc hQ (Or.inl ⟨hw,hy⟩) hS ha h
theorem aw{o:Oper}{a:Act}{w:World}(ty:TypeId)(x:Operand)(ho:o.op=.load ty x)(g off:Nat)(v:Value)(hx:a.eval x=.pointer (some ⟨g,off,none⟩))(hc:w.cell? ⟨g,off,none⟩=some v)(d:TypeDesc)(hu:P.underlying ty=some d)(hd:qd9 d=false):(execOp a.eval o).run P w=.ok (.value v) w:=by
 have hagg:(isAgg ty).run P w=.ok false w:=by unfold isAgg;rw[Sem.run_bind,run_underlying hu w];cases d <;> simp_all [qd9]
 unfold execOp;simp[ho,hx,Instr.loadAt,Instr.sureAddr,Sem.run_bind,loadVar,hagg,hc]
theorem qbz{fn:Func}{p u:Tmp}{ty:TypeId}(h:fn.results=#[.cell p ty, .tmp u])(tmps:Array Value)(w:World)(g:Nat)(cs:List Value)(d:TypeDesc)(hp:tmps.getD p undef=.pointer (some ⟨g,0,none⟩))(hc:∀ j v,cs[j]? =some v->w.cell? ⟨g,j,none⟩=some v)(hu:P.underlying ty=some d)(hd:qd9 d=true)(hi:(P.info? ty).map (·.size)=some cs.length):(results fn tmps).run P w=.ok (.tuple #[.agg cs.toArray,tmps.getD u undef]) w:=by
 have hp':tmps[p]?.getD undef=.pointer (some ⟨g,0,none⟩):=by simpa using hp
 have hl:=o0 (P:=P) w g 0 ty cs d (fun j v hv=>by rw[Nat.zero_add];exact hc j v hv) hu hd hi;simp[results,h,hp',asAddr,hl]
theorem wx{fn:Func}{p:Tmp}{ty:TypeId}(h:fn.results=#[.cell p ty])(tmps:Array Value)(w:World)(g:Nat)(cs:List Value)(d:TypeDesc)(hp:tmps.getD p undef=.pointer (some ⟨g,0,none⟩))(hc:∀ j v,cs[j]? =some v->w.cell? ⟨g,j,none⟩=some v)(hu:P.underlying ty=some d)(hd:qd9 d=true)(hi:(P.info? ty).map (·.size)=some cs.length):(results fn tmps).run P w=.ok (.agg cs.toArray) w:=by
 have hp':tmps[p]?.getD undef=.pointer (some ⟨g,0,none⟩):=by simpa using hp
 have hl:=o0 (P:=P) w g 0 ty cs d (fun j v hv=>by rw[Nat.zero_add];exact hc j v hv) hu hd hi;simp[results,h,hp',asAddr,hl]
end
theorem bt{w:World}{g:Nat}{t:TypeId}{cs:List Value}{fr:Nat×Nat}(h:w.heap[g]? =some (.cells cs.toArray t fr)):∀ j v,cs[j]? =some v->w.cell? ⟨g,j,none⟩=some v:=fun j v hv=>by
 rw[cell_of_row w g j _ t fr h];simpa using hv
theorem aq.setRow{S:Nat->Prop}{a w:World}(h:aq S a w){g:Nat}(hp:S g\/a.heap.size<=g)(cs:Array Value):aq S a (w.setRow g cs):=
 ⟨h.os,h.tape,h.output,by simp;exact h.size,fun i hi hn=>by
  rw[setRow_other _ _ _ _ (fun e=>by rcases hp with hp|hp;exact hn (e ▸ hp);omega)]
  exact h.block i hi hn⟩
theorem gc{a w:World}{B g:Nat}(h:Below B a w)(hg:B<=g)(cs:Array Value):Below B a (w.setRow g cs):=
 ⟨h.os,h.tape,h.output,by simp;exact h.size,fun i hi=>by
  rw[setRow_other _ _ _ _ (by omega)]
  exact h.block i hi⟩
theorem qpz(vs A l:List Value)(i:Nat):spl (A++l) (A.length+i) vs=A++spl l i vs:=by
 induction vs generalizing l i with
 |nil=>rfl
 |cons v r ih=>
  rw[spl,spl,show(A++l).set (A.length+i) v=A++l.set i v by rw[List.set_append_right _ _ (by omega)];congr 2;omega,show A.length+i+1=A.length+(i+1)by omega];exact ih _ _
theorem qcs:∀ {l:List Cell} {i:Nat} {c:Cell} {n:List Int},(∀ c∈l,c.line.length=8)->l[i]? =some c->n.length=8->spl (gy l) (i*10) (br n)=gy (l.set i ⟨n,c.wear,c.limit⟩)
 |[],_,_,_,_,h,_=>by cases h
 |x::r,0,c,n,hl,h,hn=>by
  obtain rfl:x=c:=by simpa using h
  have e:=qjy (br n) [] (br x.line) ([.int .i64 x.wear, .int .i64 x.limit]++gy r) (by rw[au,au,hl _ List.mem_cons_self,hn])
  show spl (lf x++gy r) _ _=lf _++gy r
  rw[Nat.zero_mul]
  simpa[lf]using e
 |x::r,i+1,c,n,hl,h,hn=>by
  have ih:=qcs (l:=r) (i:=i) (c:=c) (n:=n) (fun y hy=>hl y (List.mem_cons_of_mem _ hy)) h hn
  have h10:=lq (hl x List.mem_cons_self)
  show spl (lf x++gy r) _ _=lf x++gy (r.set i _)
  rw[show(i+1)*10=(lf x).length+i*10 by rw[h10];omega,qpz,ih]
theorem qa6{l:List Cell}(h:∀ c∈l,c.line.length=8){i:Nat}{c:Cell}(hc:c.line.length=8):∀ x∈l.set i c,x.line.length=8:=fun x hx=>by
 rcases List.mem_or_eq_of_mem_set hx with h1|rfl
 ·exact h x h1
 ·exact hc
theorem MemAt.putLine{w:World}{M C:Nat}{m:Mem}(h:MemAt w M C m){i:Nat}{c:Cell}(hc:m.cells[i]? =some c){n:List Int}(hn:n.length=8):
  MemAt (w.setRow C (spl (gy m.cells) (i*10) (br n)).toArray) M C {m with cells:=m.cells.set i ⟨n,c.wear,c.limit⟩}:=
 ⟨by rw[setRow_other _ _ _ _ h.ne,h.mem];simp only[List.length_set];rfl,by rw[setRow_heap _ _ _ _ _ _ h.arr,qcs h.lines hc hn],h.ne,h.regs,qa6 h.lines hn,by simp only[List.length_set];exact h.few⟩
theorem MemAt.setWear{w:World}{M C:Nat}{m:Mem}(h:MemAt w M C m){i:Nat}{c:Cell}(hc:m.cells[i]? =some c)(v:Int):MemAt (w.setCell ⟨C,i*10+8,none⟩ (.int .i64 v)) M C {m with cells:=m.cells.set i ⟨c.line,v,c.limit⟩}:=by
 have hl:=h.lines c (List.mem_of_getElem? hc);exact⟨by rw[Below.heap_setCell _ _ _ _ h.ne,h.mem];simp only[List.length_set];rfl,by
  rw[heap_setCell_same _ _ _ _ _ _ h.arr,List.setIfInBounds_toArray,y4 (c':=⟨c.line,v,c.limit⟩) 8 _ h.lines hc (by omega) (by unfold lf;rw[List.set_append_right _ _ (by rw[au,hl];omega),au,hl];rfl)],h.ne,h.regs,qa6 h.lines hl,by simp only[List.length_set];exact h.few⟩
theorem MemAt.setLimit{w:World}{M C:Nat}{m:Mem}(h:MemAt w M C m){i:Nat}{c:Cell}(hc:m.cells[i]? =some c)(v:Int):MemAt (w.setCell ⟨C,i*10+9,none⟩ (.int .i64 v)) M C {m with cells:=m.cells.set i ⟨c.line,c.wear,v⟩}:=by
 have hl:=h.lines c (List.mem_of_getElem? hc);exact⟨by rw[Below.heap_setCell _ _ _ _ h.ne,h.mem];simp only[List.length_set];rfl,by
  rw[heap_setCell_same _ _ _ _ _ _ h.arr,List.setIfInBounds_toArray,y4 (c':=⟨c.line,c.wear,v⟩) 9 _ h.lines hc (by omega) (by unfold lf;rw[List.set_append_right _ _ (by rw[au,hl];omega),au,hl];rfl)],h.ne,h.regs,qa6 h.lines hl,by simp only[List.length_set];exact h.few⟩
theorem MemAt.wearCell{w:World}{M C:Nat}{m:Mem}(h:MemAt w M C m){i:Nat}{c:Cell}(hc:m.cells[i]? =some c):w.cell? ⟨C,i*10+8,none⟩=some (.int .i64 c.wear):=by
 have hl:=h.lines c (List.mem_of_getElem? hc);rw[aj h.arr,List.getElem?_toArray,o8 8 h.lines hc (by omega)];unfold lf;rw[List.getElem?_append_right (by rw[au,hl];omega),au,hl];rfl
theorem MemAt.limitCell{w:World}{M C:Nat}{m:Mem}(h:MemAt w M C m){i:Nat}{c:Cell}(hc:m.cells[i]? =some c):w.cell? ⟨C,i*10+9,none⟩=some (.int .i64 c.limit):=by
 have hl:=h.lines c (List.mem_of_getElem? hc);rw[aj h.arr,List.getElem?_toArray,o8 9 h.lines hc (by omega)];unfold lf;rw[List.getElem?_append_right (by rw[au,hl];omega),au,hl];rfl
theorem MemAt.lineCells{w:World}{M C:Nat}{m:Mem}(h:MemAt w M C m){i:Nat}{c:Cell}(hc:m.cells[i]? =some c):∀ j v,(br c.line)[j]? =some v->w.cell? ⟨C,i*10+j,none⟩=some v:=fun j v hv=>by
 have hl:=h.lines c (List.mem_of_getElem? hc);have hj:=(List.getElem?_eq_some_iff.1 hv).1;rw[au,hl]at hj;rw[aj h.arr,List.getElem?_toArray,o8 j h.lines hc (by omega)];unfold lf;rw[List.getElem?_append_left (by rw[au,hl];omega)];exact hv
theorem zy(l:List Int):(br l).toArray.all (·.oneCell')=true:=by simp[br,Value.oneCell']
theorem kd(l:List Int):∀ v∈br l,v.oneCell'=true:=fun v hv=>by
 obtain⟨x,_,rfl⟩:=List.mem_map.1 hv;rfl
end Go.Proofs.YtmfhaliclnnbaaaGreat.Sys
namespace Go.Proofs.YtmfhaliclnnbaaaGreat.Sys
open Go.RowKit Go.Proofs.YtmfhaliclnnbaaaGreatW.PrintWords Go.Proofs.YtmfhaliclnnbaaaGreatW.PrintLast Go.Proofs.YtmfhaliclnnbaaaGreatW.PrintMore
set_option linter.unusedVariables false
set_option linter.unusedSimpArgs false
namespace Nvm
def has(m:Mem)(i:Int):Bool:=decide (i>=0)&&decide (i<m.cells.length)
def hasReg(i:Int):Bool:=decide (i>=0)&&decide (i<35)
def write(m:Mem):Int×Mem:=
 if m.cut=0 then(m.mask,{m with writes:=wrap64 (m.writes+1),down:=true})
 else if m.cut>0 then(-1,{m with writes:=wrap64 (m.writes+1),cut:=wrap64 (m.cut-1)})
 else(-1,{m with writes:=wrap64 (m.writes+1)})
def told(m:Mem)(worn:Bool):Int:=if m.down then 2 else if worn then 3 else 0
end Nvm
section
variable{w:World}{M C:Nat}{m:Mem}
theorem sy(h:MemAt w M C m):Calls Tryz.prog 56 #[.pointer (some ⟨M,0,none⟩)] w fun e w'=>e=.returned (.int .i64 m.cells.length)/\w=w':=by
 have h0:=h.c0;clear h;go_enter Tryz.func56,Tryz.ntmps56;go_wp2;go_ret;exact⟨rfl,rfl⟩
theorem ll(h:MemAt w M C m):Calls Tryz.prog 30 #[.pointer (some ⟨M,0,none⟩)] w fun e w'=>e=.returned (.bool m.down)/\w=w':=by
 have h0:=h.down;clear h;go_enter Tryz.func30,Tryz.ntmps30;go_wp2;go_ret;exact⟨rfl,rfl⟩
theorem zx(h:MemAt w M C m):Calls Tryz.prog 62 #[.pointer (some ⟨M,0,none⟩)] w fun e w'=>e=.returned (.int .i64 m.writes)/\w=w':=by
 have h0:=h.writes;clear h;go_enter Tryz.func62,Tryz.ntmps62;go_wp2;go_ret;exact⟨rfl,rfl⟩
theorem sw(h:MemAt w M C m)(worn:Bool):Calls Tryz.prog 150 #[.pointer (some ⟨M,0,none⟩), .bool worn] w fun e w'=>e=.returned (.int .i64 (Nvm.told m worn))/\w=w':=by
 have h0:=h.down;clear h;unfold Nvm.told;generalize m.down=d at h0 ⊢;cases d <;> cases worn
 all_goals
  go_enter Tryz.func150,Tryz.ntmps150
  go_wp2
  go_ret
  exact⟨rfl,rfl⟩
theorem lx(h:MemAt w M C m)(i:Int):Calls Tryz.prog 81 #[.pointer (some ⟨M,0,none⟩), .int .i64 i] w fun e w'=>e=.returned (.bool (Nvm.hasReg i))/\w=w':=by
 clear h;unfold Nvm.hasReg;by_cases h1:i>=0
 ·have h2:decide (i>=0)=true:=decide_eq_true h1;go_enter Tryz.func81,Tryz.ntmps81;go_wp2;go_ret;exact⟨by simp[h1],rfl⟩
 ·have h2:decide (i>=0)=false:=decide_eq_false h1;go_enter Tryz.func81,Tryz.ntmps81;go_wp2;go_ret;exact⟨by simp[h1],rfl⟩
theorem rp(h:MemAt w M C m)(i:Int):Calls Tryz.prog 108 #[.pointer (some ⟨M,0,none⟩), .int .i64 i] w fun e w'=>e=.returned (.bool (Nvm.has m i))/\w=w':=by
 unfold Nvm.has;have hf:=h.few;have H:=Aside0.mk h;clear h;by_cases h1:i>=0
 ·have h2:decide (i>=0)=true:=decide_eq_true h1;go_enter Tryz.func108,Tryz.ntmps108;go_wp2_with (go_at_call 56;(with_reducible refine(sy H.out).mono ?_);rintro e w' ⟨rfl,rfl⟩)
  go_ret;exact⟨by simp[h1],rfl⟩
 ·have h2:decide (i>=0)=false:=decide_eq_false h1;go_enter Tryz.func108,Tryz.ntmps108;go_wp2;go_ret;exact⟨by simp[h1],rfl⟩
theorem xe(h:MemAt w M C m):Calls Tryz.prog 149 #[.pointer (some ⟨M,0,none⟩)] w fun e w'=>e=.returned (.int .i64 (Nvm.write m).1)/\MemAt w' M C (Nvm.write m).2/\aq (MC M C) w w':=by
 have H:=Aside0.mk h;have h0:=h.writes;have h1:=h.cut;have h2:=h.mask;have h3:=h.down;have f0:=h.free 36;have f1:=h.free 37;have f2:=h.free 39;clear h;by_cases c0:m.cut=0
 ·have e:Nvm.write m=(m.mask,{m with writes:=wrap64 (m.writes+1),down:=true}):=by unfold Nvm.write;rw[if_pos c0]
  have b0:(m.cut==0)=true:=beq_iff_eq.2 c0;rw[e];clear e c0;go_enter Tryz.func149,Tryz.ntmps149;go_wp2;go_ret;exact⟨rfl,(H.out.setWrites _).setDown _,((aq.refl _ _).set (.inl (.inl rfl)) _).set (.inl (.inl rfl)) _⟩
 ·have b0:(m.cut==0)=false:=beq_eq_false_iff_ne.2 c0;by_cases c1:m.cut>0
  ·have e:Nvm.write m=(-1,{m with writes:=wrap64 (m.writes+1),cut:=wrap64 (m.cut-1)}):=by unfold Nvm.write;rw[if_neg c0,if_pos c1]
   have b1:decide (m.cut>0)=true:=decide_eq_true c1;rw[e];clear e c0 c1;go_enter Tryz.func149,Tryz.ntmps149;go_wp2;go_ret;exact⟨rfl,(H.out.setWrites _).setCut _,((aq.refl _ _).set (.inl (.inl rfl)) _).set (.inl (.inl rfl)) _⟩
  ·have e:Nvm.write m=(-1,{m with writes:=wrap64 (m.writes+1)}):=by unfold Nvm.write;rw[if_neg c0,if_neg c1]
   have b1:decide (m.cut>0)=false:=decide_eq_false c1;rw[e];clear e c0 c1;go_enter Tryz.func149,Tryz.ntmps149;go_wp2;go_ret;exact⟨rfl,H.out.setWrites _,(aq.refl _ _).set (.inl (.inl rfl)) _⟩
end
theorem ez:(Tryz.prog.info? 73).map (·.size)=some 8:=by kernel_rfl
theorem qhr{l:List Int}(h:l.length=8):∃ a b c d e f g i,l=[a,b,c,d,e,f,g,i]:=by
 match l,h with
 |[a,b,c,d,e,f,g,i],_=>exact⟨a,b,c,d,e,f,g,i,rfl⟩
set_option maxRecDepth 100000 in
theorem qo4{now:List Int}(hn:now.length=8){k:Nat}(hk:k<8)(w:World):(Instr.index 73 (.agg (br now).toArray) (.int .i64 k)).run Tryz.prog w=.ok (.int .u64 (now.getD k 0)) w:=by
 obtain⟨a,b,c,d,e,f,g,i,rfl⟩:=qhr hn
 match k,hk with
 |0,_=>rfl
 |1,_=>rfl
 |2,_=>rfl
 |3,_=>rfl
 |4,_=>rfl
 |5,_=>rfl
 |6,_=>rfl
 |7,_=>rfl
def qjj(mask:Int)(i:Nat):Bool:=bits .and .i64 (mask / 2 ^ i) 1==1
def nl(old now:List Int)(mask:Int)(k:Nat):List Int:=(List.range 8).map fun j=>if(decide (j<k)&&qjj mask j)=true then now.getD j 0 else old.getD j 0
def mix(old now:List Int)(mask:Int):List Int:=nl old now mask 8
theorem mz(old now:List Int)(mask:Int)(k:Nat):(nl old now mask k).length=8:=by simp[nl]
theorem qjk{old now:List Int}{mask:Int}(h:old.length=8):nl old now mask 0=old:=by
 obtain⟨a,b,c,d,e,f,g,i,rfl⟩:=qhr h;rfl
theorem qlo(old now:List Int)(mask:Int)(k:Nat)(hk:k<8)(h:qjj mask k=true):(nl old now mask k).set k (now.getD k 0)=nl old now mask (k+1):=by
 apply List.ext_getElem
 ·simp[nl]
 ·intro j h1 h2;simp only[nl,List.getElem_set,List.getElem_map,List.getElem_range];by_cases e:k=j
  ·subst e;simp[h]
  ·rw[if_neg e];simp only[show(j<k+1)=(j<k)from by simp only[eq_iff_iff];omega]
theorem qnh(old now:List Int)(mask:Int)(k:Nat)(hk:k<8)(h:qjj mask k=false):nl old now mask k=nl old now mask (k+1):=by
 apply List.ext_getElem
 ·simp[nl]
 ·intro j h1 h2;simp only[nl,List.getElem_map,List.getElem_range];by_cases e:k=j
  ·subst e;simp[h]
  ·simp only[show(j<k+1)=(j<k)from by simp only[eq_iff_iff];omega]
theorem vk{fn:Func}{R:Ending->World->Prop}{a:Act}{w:World}{p:Tmp}{ty:TypeId}(h:fn.results=#[.cell p ty])(g:Nat)(t:TypeId)(cs:List Value)(d:TypeDesc)
  (hp:a.tmps.getD p undef=.pointer (some ⟨g,0,none⟩)) (hg:w.heap[g]? =some (.cells cs.toArray t (0,0)))
  (hu:Tryz.prog.underlying ty=some d) (hd:qd9 d=true) (hi:(Tryz.prog.info? ty).map (·.size)=some cs.length)
  (hdf:a.defers=[]) (hR:R (.returned (.agg cs.toArray)) w):bodyPost Tryz.prog fn R .ret a w:=
 bodyPost_ret (wx h _ w g cs d hp (bt hg) hu hd hi) hdf hR
abbrev ct:Array Value:=#[.int .u64 0, .int .u64 0, .int .u64 0, .int .u64 0, .int .u64 0, .int .u64 0, .int .u64 0, .int .u64 0]
set_option maxRecDepth 100000 in
theorem qej(w:World)(old now:List Int)(mask:Int)(ho:old.length=8)(hn:now.length=8):Calls Tryz.prog 160 #[iw old,iw now, .int .i64 mask] w fun e w'=>e=.returned (iw (mix old now mask))/\Below w.heap.size w w':=by
 have HO:=Aside0.mk ho;have HN:=Aside0.mk hn;clear ho hn;unfold iw;go_enter Tryz.func160,Tryz.ntmps160;go_wp2_with (first|((with_reducible refine fz (.load 73 (.tmp 4)) rfl ?_);refine wpList_load_row rfl 73 (.tmp 4) rfl (w.heap.size+1) rfl 73 (br now).toArray (0,0) _ ?hb Tryz.underlying73 rfl ?hi ?_;(case hb=>exact(heap_alloc_old _ _ (by simp)).trans (heap_alloc2_new w _ _));(case hi=>rw[List.size_toArray,au,HN.out];exact ez)))
 generalize hW:((w.alloc (.cells (br old).toArray 73)).alloc (.cells (br now).toArray 73)).alloc (.cells #[.int .u64 0, .int .u64 0, .int .u64 0, .int .u64 0, .int .u64 0, .int .u64 0, .int .u64 0, .int .u64 0] 73)=W;have g0:Aside0 (W.heap[w.heap.size]? =some (.cells (br old).toArray 73 (0,0))):=⟨by rw[<-hW];exact(heap_alloc_old _ _ (by simp;try omega)).trans ((heap_alloc_old _ _ (by simp)).trans (heap_alloc_new _ _))⟩;have g2:Aside0 (W.heap[w.heap.size+2]? =some (.cells ct 73 (0,0))):=⟨by rw[<-hW];exact(by simp:((w.alloc (.cells (br old).toArray 73)).alloc (.cells (br now).toArray 73)).heap.size=w.heap.size+2) ▸ heap_alloc_new _ _⟩;have gb:Aside0 (Below w.heap.size w W):=⟨by rw[<-hW];exact(((Below.refl _ _).alloc (Nat.le_refl _) _).alloc (by simp) _).alloc (by simp;try omega) _⟩;clear hW;have hs:w.heap.size+2<W.heap.size:=d7 g2.out;go_loopw [10] (fun i wr=>∃ (k:Nat),k<=8/\i=.int .i64 k/\Aside0 (wr.heap[w.heap.size]? =some (.cells (br (nl old now mask k)).toArray 73 (0,0)))/\Aside0 (wr.heap[w.heap.size+2]? =some (.cells ct 73 (0,0)))/\Aside0 (Below w.heap.size w wr)) (fun i _=>8-(intOf i).toNat)
 case atStart=>exact⟨0,by omega,rfl,⟨by rw[qjk HO.out];exact g0.out⟩,g2,gb⟩
 case round=>
  clear g0 g2 gb hs;obtain⟨k,hk,rfl,g0,g2,gb⟩:=hrel;by_cases hlt:k<8
  ·have hix:=qo4 HN.out hlt;have hml:k<(br (nl old now mask k)).length:=by rw[au,mz];exact hlt
   cases hb:qjj mask k
   ·have E0:=Aside0.mk (qnh old now mask k hlt hb);unfold qjj at hb;go_wp2;go_roundw
    case rel=>exact⟨k+1,by omega,by go_num,⟨by rw[<-E0.out];exact g0.out⟩,g2,gb⟩
    case measure=>simp[intOf];omega
   ·have E0:=Aside0.mk (qlo old now mask k hlt hb);unfold qjj at hb;have hc0:wr.cell? ⟨w.heap.size,k,none⟩=some (.int .u64 ((nl old now mask k).getD k 0)):=by rw[aj g0.out];simp[br,List.getElem?_eq_getElem (show k<(nl old now mask k).length by rw[mz];exact hlt)]
    have hf0:wr.frozen? ⟨w.heap.size,k,none⟩=false:=ak g0.out k;go_wp2;go_roundw
    case rel=>exact⟨k+1,by omega,by go_num,⟨by
     rw[heap_setCell_same _ _ _ _ _ _ g0.out,←E0.out,List.setIfInBounds_toArray];simp only[br,List.map_set,List.getD_eq_getElem?_getD]⟩,⟨by rw[Below.heap_setCell _ _ _ _ (by simp)];exact g2.out⟩,⟨gb.out.setCell (Nat.le_refl _) _⟩⟩
    case measure=>simp[intOf];omega
  ·have hb8:decide ((k:Int)<8)=false:=decide_eq_false (by omega);have hk8:k=8:=by omega
   subst hk8;have hcl:=Aside0.mk (mz old now mask 8);go_wp2_with (first|((with_reducible refine fz (.load 73 (.tmp 3)) rfl ?_);refine wpList_load_row rfl 73 (.tmp 3) rfl w.heap.size rfl 73 (br (nl old now mask 8)).toArray (0,0) _ g0.out Tryz.underlying73 rfl ?hi ?_;(case hi=>rw[List.size_toArray,au,hcl.out];exact ez))|((with_reducible refine bp (t:=73) (p:=6) rfl ?_);refine wpList_store_row rfl 73 (.tmp 6) (.tmp 23) rfl (w.heap.size+2) (br (nl old now mask 8)).toArray rfl rfl 73 _ g2.out ?hi ?ho ?h1 ?_;(case hi=>rw[List.size_toArray,au,hcl.out];exact ez);(case ho=>simp[au,hcl.out]);(case h1=>simp[br,Value.oneCell'])))
   exact vk rfl (w.heap.size+2) 73 (br (nl old now mask 8)) _ rfl (setRow_heap _ _ _ _ _ _ g2.out) Tryz.underlying73 rfl (by rw[au,hcl.out];exact ez) rfl ⟨rfl,gc gb.out (by omega) _⟩
def zL:List Int:=[0,0,0,0,0,0,0,0]
def Nvm.get(m:Mem)(i:Int):List Int×Int:=if Nvm.has m i then(if m.down then(zL,2)else((m.cells.getD i.toNat ⟨zL,0,0⟩).line,0))else(zL,1)
theorem ig{fn:Func}{R:Ending->World->Prop}{a:Act}{w:World}{p u:Tmp}{ty:TypeId}(h:fn.results=#[.cell p ty, .tmp u])(g:Nat)(t:TypeId)(cs:List Value)(d:TypeDesc)
  (hp:a.tmps.getD p undef=.pointer (some ⟨g,0,none⟩)) (hg:w.heap[g]? =some (.cells cs.toArray t (0,0)))
  (hu:Tryz.prog.underlying ty=some d) (hd:qd9 d=true) (hi:(Tryz.prog.info? ty).map (·.size)=some cs.length)
  (hdf:a.defers=[]) (hR:R (.returned (.tuple #[.agg cs.toArray,a.tmps.getD u undef])) w):bodyPost Tryz.prog fn R .ret a w:=
 bodyPost_ret (qbz h _ w g cs d hp (bt hg) hu hd hi) hdf hR
section
variable{w:World}{M C:Nat}{m:Mem}
theorem y8{i:Int}(h:Nvm.has m i=true):0<=i/\i<m.cells.length:=by
 unfold Nvm.has at h;simp only[Bool.and_eq_true,decide_eq_true_eq]at h;omega
theorem MemAt.cellOf(h:MemAt w M C m){i:Int}(h0:0<=i)(h1:i<m.cells.length):∃ c,m.cells[i.toNat]? =some c/\c.line.length=8/\m.cells.getD i.toNat ⟨zL,0,0⟩=c∧∀ j v,(lf c)[j]? =some v->w.cell? ⟨C,i.toNat*10+j,none⟩=some v:=by
 have hlt:i.toNat<m.cells.length:=by omega
 have hc:m.cells[i.toNat]? =some m.cells[i.toNat]:=List.getElem?_eq_getElem hlt;have hl:=h.lines _ (List.getElem_mem hlt);refine⟨_,hc,hl,by simp[List.getD,hc],fun j v hv=>?_⟩;have hj:j<10:=by rw[<-lq hl];exact(List.getElem?_eq_some_iff.1 hv).1
 rw[aj h.arr];rw[List.getElem?_toArray,o8 j h.lines hc hj];exact hv
theorem qkr(h:MemAt w M C m)(i:Int):Calls Tryz.prog 127 #[.pointer (some ⟨M,0,none⟩), .int .i64 i] w fun e w'=>e=.returned (.tuple #[iw (Nvm.get m i).1, .int .i64 (Nvm.get m i).2])/\Below w.heap.size w w':=by
 have H:=Aside0.mk h;have hlt:=h.lt;have h0:=h.c0;have h3:=h.down;clear h;by_cases c0:Nvm.has m i=true
 ·have b0:(!Nvm.has m i)=false:=by rw[c0];rfl
  obtain⟨hi0,hi1⟩:=y8 c0;cases hd:m.down
  ·have e:Nvm.get m i=((m.cells.getD i.toNat ⟨zL,0,0⟩).line,0):=by unfold Nvm.get;rw[c0,hd];rfl
   rw[e];obtain⟨c,hc,hl,hq,hcs⟩:=H.out.cellOf hi0 hi1;rw[hq];rw[hd]at h3;have hcs':Aside0 (∀ j v,(br c.line)[j]? =some v->w.cell? ⟨C,i.toNat*10+j,none⟩=some v):=⟨fun j v hv=>hcs j v (by unfold lf;rw[List.getElem?_append_left (List.getElem?_eq_some_iff.1 hv).1];exact hv)⟩;have hl':Aside0 (c.line.length=8):=⟨hl⟩;have C0:=Aside0.mk c0;clear e hd hq hc hcs hl c0;go_enter Tryz.func127,Tryz.ntmps127;go_wp2_with (first|(go_at_call 108;(with_reducible refine(rp (H.out.alloc _) i).mono ?_);rintro e w' ⟨rfl,rfl⟩)|((with_reducible refine b9 (N:=25) rfl ?_);refine bc rfl 73 (.tmp 24) rfl C (i.toNat*10) rfl (br c.line) _ (fun j v hv=>(World.cell?_alloc_lt _ _ ⟨C,i.toNat*10+j,none⟩ hlt.2).trans (hcs'.out j v hv)) Tryz.underlying73 rfl (by rw[au,hl'.out];exact ez) ?_)|((with_reducible refine bp (t:=73) (p:=4) rfl ?_);refine wpList_store_row rfl 73 (.tmp 4) (.tmp 25) rfl w.heap.size (br c.line).toArray rfl rfl 73 _ (heap_alloc_new w _) (by rw[List.size_toArray,au,hl'.out];exact ez) (by simp[au,hl'.out]) (by simp[br,Value.oneCell']) ?_))
   exact ig rfl w.heap.size 73 (br c.line) _ rfl (setRow_heap _ _ _ _ _ _ (heap_alloc_new w _)) Tryz.underlying73 rfl (by rw[au,hl'.out];exact ez) rfl ⟨rfl,gc ((Below.refl _ _).alloc (Nat.le_refl _) _) (Nat.le_refl _) _⟩
  ·have e:Nvm.get m i=(zL,2):=by unfold Nvm.get;rw[c0,hd];rfl
   rw[e];rw[hd]at h3;clear e hd c0;go_enter Tryz.func127,Tryz.ntmps127;go_wp2_with (first|(go_at_call 108;(with_reducible refine(rp (H.out.alloc _) i).mono ?_);rintro e w' ⟨rfl,rfl⟩))
   exact ig rfl w.heap.size 73 (br zL) _ rfl (heap_alloc_new w _) (Tryz.underlying73) rfl ez rfl ⟨rfl,(Below.refl _ _).alloc (Nat.le_refl _) _⟩
 ·have c1:Nvm.has m i=false:=by simpa using c0
  have e:Nvm.get m i=(zL,1):=by unfold Nvm.get;rw[c1];rfl
  rw[e];clear c0 e;have b0:(!Nvm.has m i)=true:=by rw[c1];rfl
  go_enter Tryz.func127,Tryz.ntmps127;go_wp2_with (go_at_call 108;(with_reducible refine(rp (H.out.alloc _) i).mono ?_);rintro e w' ⟨rfl,rfl⟩)
  exact ig rfl w.heap.size 73 (br zL) _ rfl (heap_alloc_new w _) (Tryz.underlying73) rfl ez rfl ⟨rfl,(Below.refl _ _).alloc (Nat.le_refl _) _⟩
end
end Go.Proofs.YtmfhaliclnnbaaaGreat.Sys
namespace Go.Proofs.YtmfhaliclnnbaaaGreat.Sys
open Go.RowKit Go.Proofs.YtmfhaliclnnbaaaGreatW.PrintWords Go.Proofs.YtmfhaliclnnbaaaGreatW.PrintLast Go.Proofs.YtmfhaliclnnbaaaGreatW.PrintMore
open Go.Proofs.YtmfhaliclnnbaaaGreat.XTopWhole (tt_ ff_ onA am bA nm af ah ax bx az ai an)
set_option linter.unusedVariables false
set_option linter.unusedSimpArgs false
set_option maxRecDepth 100000
set_option maxHeartbeats 8000000
namespace Nvm
def hit(m:Mem)(i:Nat)(l:List Int)(mask:Int):Mem:={m with cells:=m.cells.set i ⟨mix (m.cells.getD i ⟨zL,0,0⟩).line l mask,wrap64 ((m.cells.getD i ⟨zL,0,0⟩).wear+1),(m.cells.getD i ⟨zL,0,0⟩).limit⟩}
def worn(m:Mem)(i:Nat):Bool:=decide ((m.cells.getD i ⟨zL,0,0⟩).limit>=0)&&decide ((m.cells.getD i ⟨zL,0,0⟩).wear>=(m.cells.getD i ⟨zL,0,0⟩).limit)
def put(m:Mem)(i:Int)(l:List Int):Int×Mem:=
 if has m i then
  if m.down then(2,m)
  else
   if worn m i.toNat then(told (write m).2 true,(write m).2)
   else(told (hit (write m).2 i.toNat l (write m).1) false,hit (write m).2 i.toNat l (write m).1)
 else(1,m)
end Nvm
section
variable{w:World}{M C:Nat}{m:Mem}
theorem xf(m:Mem):(Nvm.write m).2.cells=m.cells:=by unfold Nvm.write;split;rfl;split <;> rfl
theorem qay{m:Mem}{i:Nat}{c:Cell}(h:m.cells[i]? =some c):m.cells.getD i ⟨zL,0,0⟩=c:=by simp[List.getD,h]
theorem qek(h:MemAt w M C m)(i:Int)(l:List Int)(hl:l.length=8):Calls Tryz.prog 132 #[.pointer (some ⟨M,0,none⟩), .int .i64 i,iw l] w fun e w'=>e=.returned (.int .i64 (Nvm.put m i l).1)/\MemAt w' M C (Nvm.put m i l).2/\aq (MC M C) w w':=by
 have H:=am h;have hlt:=h.lt;have HL:=am hl;clear h hl;have HM:=am (H.out.alloc (.cells (br l).toArray 73));have h0:=HM.out.c0;have h3:=HM.out.down;unfold iw;by_cases c0:Nvm.has m i=true
 ·have b0:(!Nvm.has m i)=false:=by rw[c0];rfl
  obtain⟨hi0,hi1⟩:=y8 c0;cases hd:m.down
  ·rw [hd] at h3;have hwc := am (xf m);obtain ⟨c, hc⟩ : ∃ c, m.cells[i.toNat]? = some c := ⟨_, bx (by omega)⟩;have HC := am hc;have HCL := am (H.out.lines c (List.mem_of_getElem? hc));have ew : Aside0 (Nvm.worn m i.toNat = (decide (c.limit ≥ 0) && decide (c.wear ≥ c.limit))) := ⟨by unfold Nvm.worn; rw [qay hc]⟩;have ep : Aside0 (Nvm.put m i l = if (decide (c.limit ≥ 0) && decide (c.wear ≥ c.limit)) = true then (Nvm.told (Nvm.write m).2 true, (Nvm.write m).2) else (Nvm.told (Nvm.hit (Nvm.write m).2 i.toNat l (Nvm.write m).1) false, Nvm.hit (Nvm.write m).2 i.toNat l (Nvm.write m).1)) := ⟨by unfold Nvm.put; rw [c0, hd, ew.out]; rfl⟩;clear hc ew hd c0;generalize Nvm.put m i l = pr at ep ⊢;go_enter Tryz.func132, Tryz.ntmps132;go_wp2_with (first | (go_at_call 108; (with_reducible refine (rp HM.out i).mono ?_); rintro e w' ⟨rfl, rfl⟩) | (go_at_call 149; (with_reducible refine (xe HM.out).mono ?_); rintro e w1 ⟨rfl, h1, k1⟩; have K1 := am k1; have H1 := am h1; clear k1 h1; have h0 := H1.out.c0; rw [hwc.out] at h0))
   have HC1:Aside0 ((Nvm.write m).2.cells[i.toNat]? =some c):=⟨by rw[hwc.out];exact HC.out⟩;have hc8:=H1.out.wearCell HC1.out;have hc9:=H1.out.limitCell HC1.out;have B1:=am (K1.out.of (heap_alloc_new w (.cells (br l).toArray 73)) (sq (by omega) (by omega)));have K0:Aside0 (aq (MC M C) w w1):=⟨((aq.refl _ w).alloc _).step K1.out⟩;clear K1;have hfin:Aside0 ((decide (c.limit>=0)&&decide (c.wear>=c.limit))=true\/(decide (c.limit>=0)&&decide (c.wear>=c.limit))=false):=⟨by cases (decide (c.limit>=0)&&decide (c.wear>=c.limit)) <;> simp⟩;by_cases d0:c.limit>=0
   ·have d1:decide (c.limit>=0)=true:=af d0;by_cases d2:c.wear>=c.limit
    ·have d3:decide (c.wear>=c.limit)=true:=af d2;have e1:Aside0 (pr=(Nvm.told (Nvm.write m).2 true,(Nvm.write m).2)):=⟨by rw[ep.out,d1,d3];rfl⟩;clear ep hfin;go_quiet (fail);go_wp2_with (go_at_call 150;(with_reducible refine(sw (H1.out.drewN nq) true).mono ?_);rintro e w' ⟨rfl,rfl⟩)
     go_ret;rw[e1.out];exact⟨rfl,H1.out.drewN nq,K0.out.drewN nq⟩
    ·have d3:decide (c.wear>=c.limit)=false:=ah d2;have e1:Aside0 (pr=(Nvm.told (Nvm.hit (Nvm.write m).2 i.toNat l (Nvm.write m).1) false,Nvm.hit (Nvm.write m).2 i.toNat l (Nvm.write m).1)):=⟨by rw[ep.out,d1,d3];rfl⟩;clear ep hfin;go_quiet (fail);go_wp2;have B2:=am (cy B1.out nq);have H2:=am (H1.out.drewN nq);have K2:=am (K0.out.drewN nq);clear H1 K0 B1 hc8 hc9 h0 h3;generalize w1.drewN nq=w2 at B2 H2 K2 ⊢;refine dj (n:=11) (S:=fun w'=>(∀ j v,(br c.line)[j]? =some v->w'.cell? ⟨C,i.toNat*10+j,none⟩=some v)/\(∀ j v,(br l)[j]? =some v->w'.cell? ⟨w.heap.size,0+j,none⟩=some v)) (ds:=[7,10]) (onA 11 0) (by kernel_rfl) rfl rfl ⟨H2.out.lineCells HC1.out,fun j v hv=>by rw[Nat.zero_add];exact bt B2.out j v hv⟩ (fun hHeld=>?_);refine pu 0 (some 46) (bA 11 1) (h:=?_);refine pu 1 (some 47) (bA 11 3) (h:=?_);refine pu 2 (some 48) (bA 11 7) (h:=?_);refine pu 3 (some 49) (bA 11 15) (h:=?_);refine pu 6 (some 52) (bA 11 79) (h:=?_);refine tu 4 (some 50) (bA 11 95) hHeld (v:=.agg (br c.line).toArray) (fun w' hs=>dh 73 (.tmp 49) rfl C (i.toNat*10) rfl (br c.line) _ hs.1 Tryz.underlying73 rfl (by rw[au,HCL.out];exact ez)) (h:=?_);refine tu 5 (some 51) (bA 11 127) hHeld (v:=.agg (br l).toArray) (fun w' hs=>dh 73 (.tmp 5) rfl w.heap.size 0 rfl (br l) _ hs.2 Tryz.underlying73 rfl (by rw[au,HL.out];exact ez)) (h:=?_);refine ko (i:=7) (N:=some 53) (bA 11 255) rfl rfl (by kernel_rfl) (by decide) (fun K hK=>?_);refine fv Tryz.func160 (by kernel_rfl) rfl #[iw c.line,iw l, .int .i64 (Nvm.write m).1] (by rfl) rfl rfl (by simp only[List.map_toArray,List.map_cons,List.map_nil];rfl) ?_;refine(qej _ c.line l _ HCL.out HL.out).mono ?_;rintro e w3 ⟨rfl,hb2⟩;refine⟨_,rfl,?_⟩;refine hK.out _ _ ?_;clear hK K hHeld;have H3:=am (H2.out.drew.below hb2);have K3:Aside0 (aq (MC M C) w w3):=⟨K2.out.drew.step (.of_below hb2)⟩;clear H2 K2 B2 hb2;refine pu 8 (some 54) (bA 11 511) (h:=?_);refine pu 9 (some 55) (bA 11 1023) (h:=?_);have hsz:Aside0 (i.toNat*10+(br (mix c.line l (Nvm.write m).1)).length<=(gy (Nvm.write m).2.cells).length):=⟨by
      rw[au,pm H3.out.lines,hwc.out];show _+8<=_;omega⟩
     refine ko (i:=10) (N:=none) (bA 11 2047) rfl rfl (by kernel_rfl) (by decide) (fun K hK=>?_);refine su (by rfl) rfl (kj 73 (.tmp 55) (.tmp 53) rfl C (i.toNat*10) (br (mix c.line l (Nvm.write m).1)) rfl rfl 75 _ H3.out.arr (by rw[au];exact ez) hsz.out (kd _)) ?_;refine hK.out _ _ ?_;clear hK K;refine fa (by kernel_rfl) ?_;have H4:=am (H3.out.putLine HC1.out (n:=mix c.line l (Nvm.write m).1) (mz _ _ _ _));have K4:Aside0 (aq (MC M C) w _):=⟨K3.out.setRow (.inl (.inr rfl)) (spl (gy (Nvm.write m).2.cells) (i.toNat*10) (br (mix c.line l (Nvm.write m).1))).toArray⟩;clear H3 K3;generalize w3.setRow C _=w4 at H4 K4 ⊢;have HC4:Aside0 (((Nvm.write m).2.cells.set i.toNat ⟨mix c.line l (Nvm.write m).1,c.wear,c.limit⟩)[i.toNat]? =some ⟨mix c.line l (Nvm.write m).1,c.wear,c.limit⟩):=⟨by rw[List.getElem?_set_self (by rw[hwc.out];omega)]⟩;have hc8:=H4.out.wearCell HC4.out;have hf8:=H4.out.freeC (i.toNat*10+8);have H5:=am (show MemAt _ M C {(Nvm.write m).2 with cells:=(Nvm.write m).2.cells.set i.toNat ⟨mix c.line l (Nvm.write m).1,wrap64 (c.wear+1),c.limit⟩}by have h:=H4.out.setWear HC4.out (wrap64 (c.wear+1));rw[List.set_set]at h;exact h);have K5:Aside0 (aq (MC M C) w _):=⟨K4.out.set (p:=⟨C,i.toNat*10+8,none⟩) (.inl (.inr rfl)) (.int .i64 (wrap64 (c.wear+1)))⟩;clear H4 K4;have eh:Aside0 (Nvm.hit (Nvm.write m).2 i.toNat l (Nvm.write m).1={(Nvm.write m).2 with cells:=(Nvm.write m).2.cells.set i.toNat ⟨mix c.line l (Nvm.write m).1,wrap64 (c.wear+1),c.limit⟩}):=⟨by unfold Nvm.hit;rw[qay HC1.out]⟩;rw[eh.out]at e1;go_wp2_with (go_at_call 150;(with_reducible refine(sw H5.out false).mono ?_);rintro e w' ⟨rfl,rfl⟩)
     go_ret;rw[e1.out];exact⟨rfl,H5.out,K5.out⟩
   ·have d1:decide (c.limit>=0)=false:=ah d0;have e1:Aside0 (pr=(Nvm.told (Nvm.hit (Nvm.write m).2 i.toNat l (Nvm.write m).1) false,Nvm.hit (Nvm.write m).2 i.toNat l (Nvm.write m).1)):=⟨by rw[ep.out,d1];rfl⟩;clear ep hfin;go_quiet (fail);go_wp2;have B2:=am (cy B1.out nq);have H2:=am (H1.out.drewN nq);have K2:=am (K0.out.drewN nq);clear H1 K0 B1 hc8 hc9 h0 h3;generalize w1.drewN nq=w2 at B2 H2 K2 ⊢;refine dj (n:=11) (S:=fun w'=>(∀ j v,(br c.line)[j]? =some v->w'.cell? ⟨C,i.toNat*10+j,none⟩=some v)/\(∀ j v,(br l)[j]? =some v->w'.cell? ⟨w.heap.size,0+j,none⟩=some v)) (ds:=[7,10]) (onA 11 0) (by kernel_rfl) rfl rfl ⟨H2.out.lineCells HC1.out,fun j v hv=>by rw[Nat.zero_add];exact bt B2.out j v hv⟩ (fun hHeld=>?_);refine pu 0 (some 46) (bA 11 1) (h:=?_);refine pu 1 (some 47) (bA 11 3) (h:=?_);refine pu 2 (some 48) (bA 11 7) (h:=?_);refine pu 3 (some 49) (bA 11 15) (h:=?_);refine pu 6 (some 52) (bA 11 79) (h:=?_);refine tu 4 (some 50) (bA 11 95) hHeld (v:=.agg (br c.line).toArray) (fun w' hs=>dh 73 (.tmp 49) rfl C (i.toNat*10) rfl (br c.line) _ hs.1 Tryz.underlying73 rfl (by rw[au,HCL.out];exact ez)) (h:=?_);refine tu 5 (some 51) (bA 11 127) hHeld (v:=.agg (br l).toArray) (fun w' hs=>dh 73 (.tmp 5) rfl w.heap.size 0 rfl (br l) _ hs.2 Tryz.underlying73 rfl (by rw[au,HL.out];exact ez)) (h:=?_);refine ko (i:=7) (N:=some 53) (bA 11 255) rfl rfl (by kernel_rfl) (by decide) (fun K hK=>?_);refine fv Tryz.func160 (by kernel_rfl) rfl #[iw c.line,iw l, .int .i64 (Nvm.write m).1] (by rfl) rfl rfl (by simp only[List.map_toArray,List.map_cons,List.map_nil];rfl) ?_;refine(qej _ c.line l _ HCL.out HL.out).mono ?_;rintro e w3 ⟨rfl,hb2⟩;refine⟨_,rfl,?_⟩;refine hK.out _ _ ?_;clear hK K hHeld;have H3:=am (H2.out.drew.below hb2);have K3:Aside0 (aq (MC M C) w w3):=⟨K2.out.drew.step (.of_below hb2)⟩;clear H2 K2 B2 hb2;refine pu 8 (some 54) (bA 11 511) (h:=?_);refine pu 9 (some 55) (bA 11 1023) (h:=?_);have hsz:Aside0 (i.toNat*10+(br (mix c.line l (Nvm.write m).1)).length<=(gy (Nvm.write m).2.cells).length):=⟨by
     rw[au,pm H3.out.lines,hwc.out];show _+8<=_;omega⟩
    refine ko (i:=10) (N:=none) (bA 11 2047) rfl rfl (by kernel_rfl) (by decide) (fun K hK=>?_);refine su (by rfl) rfl (kj 73 (.tmp 55) (.tmp 53) rfl C (i.toNat*10) (br (mix c.line l (Nvm.write m).1)) rfl rfl 75 _ H3.out.arr (by rw[au];exact ez) hsz.out (kd _)) ?_;refine hK.out _ _ ?_;clear hK K;refine fa (by kernel_rfl) ?_;have H4:=am (H3.out.putLine HC1.out (n:=mix c.line l (Nvm.write m).1) (mz _ _ _ _));have K4:Aside0 (aq (MC M C) w _):=⟨K3.out.setRow (.inl (.inr rfl)) (spl (gy (Nvm.write m).2.cells) (i.toNat*10) (br (mix c.line l (Nvm.write m).1))).toArray⟩;clear H3 K3;generalize w3.setRow C _=w4 at H4 K4 ⊢;have HC4:Aside0 (((Nvm.write m).2.cells.set i.toNat ⟨mix c.line l (Nvm.write m).1,c.wear,c.limit⟩)[i.toNat]? =some ⟨mix c.line l (Nvm.write m).1,c.wear,c.limit⟩):=⟨by rw[List.getElem?_set_self (by rw[hwc.out];omega)]⟩;have hc8:=H4.out.wearCell HC4.out;have hf8:=H4.out.freeC (i.toNat*10+8);have H5:=am (show MemAt _ M C {(Nvm.write m).2 with cells:=(Nvm.write m).2.cells.set i.toNat ⟨mix c.line l (Nvm.write m).1,wrap64 (c.wear+1),c.limit⟩}by have h:=H4.out.setWear HC4.out (wrap64 (c.wear+1));rw[List.set_set]at h;exact h);have K5:Aside0 (aq (MC M C) w _):=⟨K4.out.set (p:=⟨C,i.toNat*10+8,none⟩) (.inl (.inr rfl)) (.int .i64 (wrap64 (c.wear+1)))⟩;clear H4 K4;have eh:Aside0 (Nvm.hit (Nvm.write m).2 i.toNat l (Nvm.write m).1={(Nvm.write m).2 with cells:=(Nvm.write m).2.cells.set i.toNat ⟨mix c.line l (Nvm.write m).1,wrap64 (c.wear+1),c.limit⟩}):=⟨by unfold Nvm.hit;rw[qay HC1.out]⟩;rw[eh.out]at e1;go_wp2_with (go_at_call 150;(with_reducible refine(sw H5.out false).mono ?_);rintro e w' ⟨rfl,rfl⟩)
    go_ret;rw[e1.out];exact⟨rfl,H5.out,K5.out⟩
  ·rw[hd]at h3;have e1:Nvm.put m i l=(2,m):=by unfold Nvm.put;rw[c0,hd];rfl
   rw[e1];clear e1 hd c0;go_enter Tryz.func132,Tryz.ntmps132;go_wp2_with (first|(go_at_call 108;(with_reducible refine(rp HM.out i).mono ?_);rintro e w' ⟨rfl,rfl⟩))
   go_ret;exact⟨rfl,HM.out,(aq.refl _ w).alloc _⟩
 ·have c1:Nvm.has m i=false:=by simpa using c0
  have b0:(!Nvm.has m i)=true:=by rw[c1];rfl
  have e1:Nvm.put m i l=(1,m):=by unfold Nvm.put;rw[c1];rfl
  rw[e1];clear e1 c0;go_enter Tryz.func132,Tryz.ntmps132;go_wp2_with (first|(go_at_call 108;(with_reducible refine(rp HM.out i).mono ?_);rintro e w' ⟨rfl,rfl⟩))
  go_ret;exact⟨rfl,HM.out,(aq.refl _ w).alloc _⟩
end
namespace Nvm
def reg(m:Mem)(i:Int):Int×Int:=if hasReg i then if m.down then(0,2)else(m.regs.getD i.toNat 0,0)else(0,1)
def bit0(mask:Int):Bool:=bits .and .i64 mask 1==1
def setReg(m:Mem)(i v:Int):Mem:={m with regs:=m.regs.set i.toNat v}
def set(m:Mem)(i v:Int):Int×Mem:=
 if hasReg i then
  if m.down then(2,m)
  else if bit0 (write m).1 then(told (setReg (write m).2 i v) false,setReg (write m).2 i v)else(told (write m).2 false,(write m).2)
 else(1,m)
def wear(m:Mem)(i:Int):Int:=if has m i then(m.cells.getD i.toNat ⟨zL,0,0⟩).wear else 0
def cutAt(m:Mem)(n mask:Int):Mem:={m with cut:=max n (-1),mask:=mask}
def power(m:Mem):Mem:={m with cut:= -1,down:=false}
end Nvm
section
variable{w:World}{M C:Nat}{m:Mem}
theorem yk{i:Int}(h:Nvm.hasReg i=true):0<=i/\i<35:=by
 unfold Nvm.hasReg at h;simp only[Bool.and_eq_true,decide_eq_true_eq]at h;omega
theorem qkk(h:MemAt w M C m){i:Int}(h0:0<=i)(h1:i<35):w.cell? ⟨M,1+i.toNat,none⟩=some (.int .u64 (m.regs.getD i.toNat 0)):=h.reg _ (by omega)
theorem kz(h:MemAt w M C m)(i:Int):Calls Tryz.prog 35 #[.pointer (some ⟨M,0,none⟩), .int .i64 i] w fun e w'=>e=.returned (.tuple #[.int .u64 (Nvm.reg m i).1, .int .i64 (Nvm.reg m i).2])/\w=w':=by
 have H:=am h;have h3:=h.down;by_cases c0:Nvm.hasReg i=true
 ·have b0:(!Nvm.hasReg i)=false:=by rw[c0];rfl
  obtain⟨hi0,hi1⟩:=yk c0;have hc:=qkk h hi0 hi1;clear h;cases hd:m.down
  ·have e1:Nvm.reg m i=(m.regs.getD i.toNat 0,0):=by unfold Nvm.reg;rw[c0,hd];rfl
   rw[hd]at h3;rw[e1];clear e1 hd c0;generalize m.regs.getD i.toNat 0=v at hc ⊢;go_enter Tryz.func35,Tryz.ntmps35;go_wp2_with (first|(go_at_call 81;(with_reducible refine(lx H.out i).mono ?_);rintro e w' ⟨rfl,rfl⟩))
   go_ret2;exact⟨rfl,rfl⟩
  ·have e1:Nvm.reg m i=(0,2):=by unfold Nvm.reg;rw[c0,hd];rfl
   rw[hd]at h3;rw[e1];clear e1 hd c0;go_enter Tryz.func35,Tryz.ntmps35;go_wp2_with (first|(go_at_call 81;(with_reducible refine(lx H.out i).mono ?_);rintro e w' ⟨rfl,rfl⟩))
   go_ret2;exact⟨rfl,rfl⟩
 ·have c1:Nvm.hasReg i=false:=by simpa using c0
  have b0:(!Nvm.hasReg i)=true:=by rw[c1];rfl
  have e1:Nvm.reg m i=(0,1):=by unfold Nvm.reg;rw[c1];rfl
  rw[e1];clear e1 c0 h;go_enter Tryz.func35,Tryz.ntmps35;go_wp2_with (first|(go_at_call 81;(with_reducible refine(lx H.out i).mono ?_);rintro e w' ⟨rfl,rfl⟩))
  go_ret2;exact⟨rfl,rfl⟩
theorem ob(h:MemAt w M C m)(i v:Int):Calls Tryz.prog 107 #[.pointer (some ⟨M,0,none⟩), .int .i64 i, .int .u64 v] w fun e w'=>e=.returned (.int .i64 (Nvm.set m i v).1)/\MemAt w' M C (Nvm.set m i v).2/\aq (MC M C) w w':=by
 have H:=am h;have h3:=h.down;clear h;by_cases c0:Nvm.hasReg i=true
 ·have b0:(!Nvm.hasReg i)=false:=by rw[c0];rfl
  obtain⟨hi0,hi1⟩:=yk c0;cases hd:m.down
  ·rw[hd]at h3;cases hb:Nvm.bit0 (Nvm.write m).1
   ·have e1:Aside0 (Nvm.set m i v=(Nvm.told (Nvm.write m).2 false,(Nvm.write m).2)):=⟨by unfold Nvm.set;rw[c0,hd,hb];rfl⟩;unfold Nvm.bit0 at hb;clear hd c0;generalize Nvm.set m i v=pr at e1 ⊢;go_enter Tryz.func107,Tryz.ntmps107;go_wp2_with (first|(go_at_call 81;(with_reducible refine(lx H.out i).mono ?_);rintro e w' ⟨rfl,rfl⟩)|(go_at_call 149;(with_reducible refine(xe H.out).mono ?_);rintro e w1 ⟨rfl,h1,k1⟩;have K1:=am k1;have H1:=am h1;clear k1 h1)|(go_at_call 150;(with_reducible refine(sw H1.out false).mono ?_);rintro e w' ⟨rfl,rfl⟩))
    go_ret;rw[e1.out];exact⟨rfl,H1.out,K1.out⟩
   ·have e1:Aside0 (Nvm.set m i v=(Nvm.told (Nvm.setReg (Nvm.write m).2 i v) false,Nvm.setReg (Nvm.write m).2 i v)):=⟨by unfold Nvm.set;rw[c0,hd,hb];rfl⟩;unfold Nvm.bit0 at hb;clear hd c0;generalize Nvm.set m i v=pr at e1 ⊢;go_enter Tryz.func107,Tryz.ntmps107;go_wp2_with (first|(go_at_call 81;(with_reducible refine(lx H.out i).mono ?_);rintro e w' ⟨rfl,rfl⟩)|(go_at_call 149;(with_reducible refine(xe H.out).mono ?_);rintro e w1 ⟨rfl,h1,k1⟩;have K1:=am k1;have H1:=am h1;clear k1 h1;have hc:=qkk H1.out hi0 hi1;have hf:=H1.out.free (1+i.toNat))|(go_at_call 150;(with_reducible refine(sw (m:=Nvm.setReg (Nvm.write m).2 i v) (H1.out.setReg i.toNat (by omega) v) false).mono ?_);rintro e w' ⟨rfl,rfl⟩))
    go_ret;rw[e1.out];exact⟨rfl,H1.out.setReg i.toNat (by omega) v,K1.out.set (.inl (.inl rfl)) _⟩
  ·have e1:Nvm.set m i v=(2,m):=by unfold Nvm.set;rw[c0,hd];rfl
   rw[hd]at h3;rw[e1];clear e1 hd c0;go_enter Tryz.func107,Tryz.ntmps107;go_wp2_with (first|(go_at_call 81;(with_reducible refine(lx H.out i).mono ?_);rintro e w' ⟨rfl,rfl⟩))
   go_ret;exact⟨rfl,H.out,aq.refl _ _⟩
 ·have c1:Nvm.hasReg i=false:=by simpa using c0
  have b0:(!Nvm.hasReg i)=true:=by rw[c1];rfl
  have e1:Nvm.set m i v=(1,m):=by unfold Nvm.set;rw[c1];rfl
  rw[e1];clear e1 c0;go_enter Tryz.func107,Tryz.ntmps107;go_wp2_with (first|(go_at_call 81;(with_reducible refine(lx H.out i).mono ?_);rintro e w' ⟨rfl,rfl⟩))
  go_ret;exact⟨rfl,H.out,aq.refl _ _⟩
theorem qgz(h:MemAt w M C m):Calls Tryz.prog 110 #[.pointer (some ⟨M,0,none⟩)] w fun e w'=>e=.returned (.tuple #[])/\MemAt w' M C (Nvm.power m)/\aq (MC M C) w w':=by
 have H:=am h;have h1:=h.cut;have h3:=h.down;have f1:=h.free 37;have f3:=h.free 39;clear h;go_enter Tryz.func110,Tryz.ntmps110;go_wp2;go_end0;exact⟨rfl,(H.out.setCut (-1)).setDown false,((aq.refl _ _).set (.inl (.inl rfl)) _).set (.inl (.inl rfl)) _⟩
theorem qkq(h:MemAt w M C m)(n mask:Int):Calls Tryz.prog 109 #[.pointer (some ⟨M,0,none⟩), .int .i64 n, .int .i64 mask] w fun e w'=>e=.returned (.tuple #[])/\MemAt w' M C (Nvm.cutAt m n mask)/\aq (MC M C) w w':=by
 have H:=am h;have h1:=h.cut;have h2:=h.mask;have f1:=h.free 37;have f2:=h.free 38;clear h;go_enter Tryz.func109,Tryz.ntmps109;go_wp2;go_end0;exact⟨rfl,(H.out.setCut _).setMask _,((aq.refl _ _).set (.inl (.inl rfl)) _).set (.inl (.inl rfl)) _⟩
end
namespace Nvm
def lim(limits:List Int)(i:Nat):Int:=if i<limits.length then limits.getD i 0 else-1
def freshTo(n:Nat)(limits:List Int)(k:Nat):Mem:=⟨(List.range n).map fun i=>⟨zL,0,if i<k then lim limits i else 0⟩,List.replicate 35 0,0,-1,0,false⟩
def fresh(n:Nat)(limits:List Int):Mem:=freshTo n limits n
end Nvm
theorem qq4:(Tryz.prog.info? 75).map (fun i=>(i.zero,i.size,i.bytes))=some (some (.agg #[.int .u64 0, .int .u64 0, .int .u64 0, .int .u64 0, .int .u64 0, .int .u64 0, .int .u64 0, .int .u64 0, .int .i64 0, .int .i64 0]),10,80):=by kernel_rfl
theorem ik(n:Nat)(limits:List Int)(k:Nat):(Nvm.freshTo n limits k).cells.length=n:=by simp[Nvm.freshTo]
theorem tp(n:Nat)(limits:List Int)(k:Nat):∀ c∈(Nvm.freshTo n limits k).cells,c.line.length=8:=fun c hc=>by
 simp only[Nvm.freshTo,List.mem_map]at hc;obtain⟨i,_,rfl⟩:=hc;rfl
theorem od(n:Nat)(limits:List Int)(k i:Nat)(hi:i<n):(Nvm.freshTo n limits k).cells[i]? =some ⟨zL,0,if i<k then Nvm.lim limits i else 0⟩:=by
 simp[Nvm.freshTo,hi]
theorem qbh(n:Nat)(limits:List Int)(k:Nat)(hk:k<n)(x:Int):((Nvm.freshTo n limits k).cells.set k ⟨zL,0,x⟩).set k ⟨zL,0,Nvm.lim limits k⟩=(Nvm.freshTo n limits (k+1)).cells:=by
 rw[List.set_set];apply List.ext_getElem
 ·simp[Nvm.freshTo]
 ·intro j h1 h2;simp only[Nvm.freshTo,List.getElem_set,List.getElem_map,List.getElem_range];by_cases e:k=j
  ·subst e;simp
  ·rw[if_neg e];simp only[show(j<k+1)=(j<k)from by simp only[eq_iff_iff];omega]
theorem qf2(n:Nat)(limits:List Int)(k:Nat)(hk:k<n)(h:Nvm.lim limits k= -1):(Nvm.freshTo n limits k).cells.set k ⟨zL,0,-1⟩=(Nvm.freshTo n limits (k+1)).cells:=by
 rw[<-qbh n limits k hk (-1),h,List.set_set]
theorem qra(n:Nat)(limits:List Int):madeCells (Value.agg #[.int .u64 0, .int .u64 0, .int .u64 0, .int .u64 0, .int .u64 0, .int .u64 0, .int .u64 0, .int .u64 0, .int .i64 0, .int .i64 0]).cells (n*10)=(gy (Nvm.freshTo n limits 0).cells).toArray:=by
 apply Array.ext';apply List.ext_getElem?;intro j;have hl:=pm (tp n limits 0);rw[ik]at hl;by_cases hj:j<n*10
 ·have h1:=o8 (j % 10) (tp n limits 0) (od n limits 0 (j / 10) (by omega)) (by omega);rw[show j / 10*10+j % 10=j by omega]at h1;rw[h1];simp only[Nat.not_lt_zero,if_false];simp only[madeCells,Array.toList_map,List.getElem?_map,Array.toList_range,List.getElem?_range hj,Option.map_some];have h10:j % 10<10:=by omega
  show some ((Value.agg #[.int .u64 0, .int .u64 0, .int .u64 0, .int .u64 0, .int .u64 0, .int .u64 0, .int .u64 0, .int .u64 0, .int .i64 0, .int .i64 0]).cells[j % 10]!)=_;generalize j % 10=q at h10 ⊢
  match q,h10 with
  |0,_=>rfl
  |1,_=>rfl
  |2,_=>rfl
  |3,_=>rfl
  |4,_=>rfl
  |5,_=>rfl
  |6,_=>rfl
  |7,_=>rfl
  |8,_=>rfl
  |9,_=>rfl
 ·rw[List.getElem?_eq_none (by simp[madeCells];omega),List.getElem?_eq_none (by show(gy _).length<=j;omega)]
theorem qkv(w:World)(n:Nat)(A:Option Addr)(c:Nat)(limits:List Int)(hn:1<=n)(hn2:n<=200)(hr:Kd.C (Kd.int .i64) w A limits.length limits)(hc:limits.length<=c):Calls Tryz.prog 8 #[.int .i64 n, .slice A limits.length c] w fun e w'=>∃ M C,e=.returned (.pointer (some ⟨M,0,none⟩))/\MemAt w' M C (Nvm.fresh n limits)/\w.heap.size<=M/\w.heap.size<=C/\Below w.heap.size w w':=by
 have HR:=am hr;have HM:=Kd.C_max hr;clear hr;obtain⟨i0,hi,hz0,hz1,hz2⟩:=info_parts qq4;have hmk:(Instr.makeSlice 68 (.int .i64 (n:Int)) (.int .i64 (n:Int))).run Tryz.prog w=.ok (.slice (some ⟨w.heap.size,0,none⟩) n n) (w.alloc (.cells (gy (Nvm.freshTo n limits 0).cells).toArray 75)):=by have h:=run_make (P:=Tryz.prog) w 68 75 i0 _ Tryz.underlying68 hi hz0 .i64 .i64 (n:Int) (n:Int) (by omega) (by omega) (by rw[hz2];omega) (by omega);rw[hz1,Int.toNat_natCast,qra n limits]at h;exact h
 clear hi hz0 hz1 hz2;have hn1:decide ((n:Int)<1)=false:=ah (by omega);have hn3:decide ((n:Int)>200)=false:=ah (by omega);go_enter Tryz.func8,Tryz.ntmps8;go_wp2;have HMem:Aside0 (MemAt ((w.alloc (.cells (gy (Nvm.freshTo n limits 0).cells).toArray 75)).alloc (.cells (qae w.heap.size n (Nvm.freshTo n limits 0)).toArray 71)) (w.heap.size+1) w.heap.size (Nvm.freshTo n limits 0)):=⟨by
  refine⟨?_,?_,by omega,by simp[Nvm.freshTo],tp _ _ _,by rw[ik];exact hn2⟩
  ·rw[ik];exact(by simp:(w.alloc (.cells (gy (Nvm.freshTo n limits 0).cells).toArray 75)).heap.size=w.heap.size+1) ▸ heap_alloc_new _ _
  ·exact(heap_alloc_old _ _ (by simp)).trans (heap_alloc_new _ _)⟩
 have HB:Aside0 (Below w.heap.size w ((w.alloc (.cells (gy (Nvm.freshTo n limits 0).cells).toArray 75)).alloc (.cells (qae w.heap.size n (Nvm.freshTo n limits 0)).toArray 71))):=⟨((ai _ _).alloc (an _) _).alloc (by simp) _⟩;change Code.wp _ _ _ _ ((w.alloc (.cells (gy (Nvm.freshTo n limits 0).cells).toArray 75)).alloc (.cells (qae w.heap.size n (Nvm.freshTo n limits 0)).toArray 71));generalize ((w.alloc (.cells (gy (Nvm.freshTo n limits 0).cells).toArray 75)).alloc (.cells (qae w.heap.size n (Nvm.freshTo n limits 0)).toArray 71))=w1 at HMem HB ⊢;clear hmk;go_loopw [22] (fun i wr=>∃ (k:Nat),k<=n/\i=.int .i64 k/\Aside0 (MemAt wr (w.heap.size+1) w.heap.size (Nvm.freshTo n limits k))/\Aside0 (Below w.heap.size w wr)) (fun i _=>n-(intOf i).toNat)
 case atStart=>exact⟨0,by omega,rfl,HMem,HB⟩
 case round=>
  clear HMem HB;obtain⟨k,hk,rfl,HMem,HB⟩:=hrel;by_cases hlt:k<n
  ·have h0:=HMem.out.c0;rw[ik]at h0;have hcl:=HMem.out.limitCell (od n limits k k hlt);have hfl:=HMem.out.freeC (k*10+9);by_cases hl:k<limits.length
   ·have hl2:decide ((k:Int)<limits.length)=true:=af (by omega);obtain⟨ad,rfl,hx⟩:=Kd.at_int (Kd.C_below HR.out HB.out) (k:Int) (by omega) (by omega);rw[Int.toNat_natCast]at hx;have hg1:(Nvm.freshTo n limits k).cells.set k ⟨zL,0,-1⟩=(Nvm.freshTo n limits k).cells.set k ⟨zL,0,-1⟩:=rfl;have H1:=am (HMem.out.setLimit (od n limits k k hlt) (-1));have B1:Aside0 (Below w.heap.size w _):=⟨HB.out.setCell (p:=⟨w.heap.size,k*10+9,none⟩) (an _) (.int .i64 (-1))⟩;go_wp2;clear h0 hcl hfl hx HMem HB hg1;generalize wr.setCell ⟨w.heap.size,k*10+9,none⟩ (.int .i64 (-1))=w2 at H1 B1 ⊢;have h02:=H1.out.c0;rw[List.length_set,ik]at h02;have hg2:((Nvm.freshTo n limits k).cells.set k ⟨zL,0,-1⟩)[k]? =some ⟨zL,0,-1⟩:=List.getElem?_set_self (by rw[ik];exact hlt);have hcl:=H1.out.limitCell hg2;have hfl:=H1.out.freeC (k*10+9);obtain⟨ad2,e2,hx⟩:=Kd.at_int (Kd.C_below HR.out B1.out) (k:Int) (by omega) (by omega);cases e2;rw[Int.toNat_natCast]at hx;have H3:=am (H1.out.drew.setLimit hg2 (rd limits k));have B3:Aside0 (Below w.heap.size w _):=⟨B1.out.drew.setCell (p:=⟨w.heap.size,k*10+9,none⟩) (an _) (.int .i64 (rd limits k))⟩;have E3:Aside0 (((Nvm.freshTo n limits k).cells.set k ⟨zL,0,-1⟩).set k ⟨zL,0,rd limits k⟩=(Nvm.freshTo n limits (k+1)).cells):=⟨by
     have e:=qbh n limits k hlt (-1);rw[<-e];unfold Nvm.lim;rw[if_pos hl];rfl⟩
    clear hg2;go_region
    all_goals
     go_wp2
     go_roundw
     case rel=>exact⟨k+1,by omega,by go_num,⟨by have h:=H3.out;rw[E3.out]at h;exact h⟩,B3⟩
     case measure=>simp[intOf];omega
   ·have hl2:decide ((k:Int)<limits.length)=false:=ah (by omega);have H1:=am (HMem.out.setLimit (od n limits k k hlt) (-1));have B1:Aside0 (Below w.heap.size w _):=⟨HB.out.setCell (p:=⟨w.heap.size,k*10+9,none⟩) (an _) (.int .i64 (-1))⟩;have E3:Aside0 ((Nvm.freshTo n limits k).cells.set k ⟨zL,0,-1⟩=(Nvm.freshTo n limits (k+1)).cells):=⟨qf2 n limits k hlt (by unfold Nvm.lim;rw[if_neg hl])⟩;go_wp2;go_roundw
    case rel=>exact⟨k+1,by omega,by go_num,⟨by have h:=H1.out;rw[E3.out]at h;exact h⟩,B1⟩
    case measure=>simp[intOf];omega
  ·have hkn:k=n:=by omega
   subst hkn;go_wp2;go_ret;exact⟨w.heap.size+1,w.heap.size,rfl,HMem.out,by omega,an _,HB.out⟩
end Go.Proofs.YtmfhaliclnnbaaaGreat.Sys
namespace Go.Proofs.YtmfhaliclnnbaaaGreat.Sys
open Go.RowKit Go.Proofs.YtmfhaliclnnbaaaGreatW.PrintWords Go.Proofs.YtmfhaliclnnbaaaGreatW.PrintLast Go.Proofs.YtmfhaliclnnbaaaGreatW.PrintMore
open Go.Proofs.YtmfhaliclnnbaaaGreat.XTopWhole Go.Proofs.YtmfhaliclnnbaaaGreat.Pl
set_option linter.unusedVariables false
set_option linter.unusedSimpArgs false
set_option maxRecDepth 100000
set_option maxHeartbeats 8000000
namespace Lns
def tableTo(m:Mem)(k:Nat):List Int:=(List.range k).map fun i=>m.regs.getD (3+i) 0
def get(m:Mem)(slots:Int)(spares:Nat)(slot:Int):List Int×Int:=if m.down then(zL,2)else Nvm.get m (ia (tableTo m spares) slots slot)
def putLoop(slots slot:Int)(d:List Int):Nat->Nat->Mem->Int×Mem
 |0,_,m=>(3,m)
 |n+1,i,m=>
  if(Nvm.put m (slots+i) d).1=0 then Nvm.set (Nvm.put m (slots+i) d).2 (3+i) (slot+1)
  else if(Nvm.put m (slots+i) d).1=3 then
   if(Nvm.set (Nvm.put m (slots+i) d).2 (3+i) (slots+1)).1=0 then putLoop slots slot d n (i+1) (Nvm.set (Nvm.put m (slots+i) d).2 (3+i) (slots+1)).2
   else Nvm.set (Nvm.put m (slots+i) d).2 (3+i) (slots+1)
  else Nvm.put m (slots+i) d
def put(m:Mem)(slots:Int)(spares:Nat)(slot:Int)(d:List Int):Int×Mem:=
 if m.down then(2,m)
 else if(Nvm.put m (ia (tableTo m spares) slots slot) d).1=3 then
  if sj (tableTo m spares)<0 then Nvm.put m (ia (tableTo m spares) slots slot) d
  else putLoop slots slot d (spares-(sj (tableTo m spares)).toNat) (sj (tableTo m spares)).toNat (Nvm.put m (ia (tableTo m spares) slots slot) d).2
 else Nvm.put m (ia (tableTo m spares) slots slot) d
def table(m:Mem)(spares:Nat):List Int×Int:=if m.down then([],2)else(tableTo m spares,0)
end Lns
def ib(w:World)(L M:Nat)(slots spares:Int):Prop:=w.heap[L]? =some (.cells #[.pointer (some ⟨M,0,none⟩), .int .i64 slots, .int .i64 spares] 167 (0,0))
theorem ib.kept{w w':World}{L M:Nat}{slots spares:Int}{S:Nat->Prop}(h:ib w L M slots spares)(k:aq S w w')(hS:¬ S L):ib w' L M slots spares:=aq.of k h hS
theorem ib.alloc{w:World}{L M:Nat}{slots spares:Int}(h:ib w L M slots spares)(o:Obj):ib (w.alloc o) L M slots spares:=h.kept ((aq.refl (fun _=>False) w).alloc o) id
theorem ib.below{w w':World}{L M:Nat}{slots spares:Int}(h:ib w L M slots spares)(hb:Below w.heap.size w w'):ib w' L M slots spares:=h.kept (aq.of_below (S:=fun _=>False) hb) id
theorem qgm(m:Mem)(k:Nat):Lns.tableTo m (k+1)=Lns.tableTo m k++[m.regs.getD (3+k) 0]:=by simp[Lns.tableTo,List.range_succ]
theorem fx(m:Mem)(k:Nat):(Lns.tableTo m k).length=k:=by simp[Lns.tableTo]
section
variable{w:World}{M C L:Nat}{m:Mem}
theorem qbs(h:MemAt w M C m){slots:Int}{spares:Nat}(hL:ib w L M slots (spares:Int))(hs:spares<=16):Calls Tryz.prog 157 #[.pointer (some ⟨L,0,none⟩)] w fun e w'=>∃ v,e=.returned (.tuple #[v, .int .i64 (Lns.table m spares).2])/\Kd.R (Kd.int .u64) 25 w' w.heap.size (fun _=>True) v (Lns.table m spares).1/\Below w.heap.size w w':=by
 have H:=am h;have HL:=am hL;have l0:w.cell? ⟨L,0,none⟩=some (.pointer (some ⟨M,0,none⟩)):=(aj hL 0).trans rfl;have l2:w.cell? ⟨L,2,none⟩=some (.int .i64 spares):=(aj hL 2).trans rfl;clear h hL;cases hd:m.down
 ·have E:=am (show Lns.table m spares=(Lns.tableTo m spares,0)by unfold Lns.table;rw[hd];rfl);have HD:=am hd;clear hd;rw[E.out];have HB:=am (ai w.heap.size w);go_enter Tryz.func157,Tryz.ntmps157;go_wp2;clear l0 l2;go_loopw [4,12] (fun v i wr=>∃ (k:Nat),k<=spares/\i=.int .i64 k/\Aside0 (Kd.R (Kd.int .u64) 25 wr w.heap.size (fun _=>True) v (Lns.tableTo m k))/\Aside0 (Below w.heap.size w wr)) (fun _ i _=>spares-(intOf i).toNat)
  case atStart=>exact⟨0,by omega,rfl,⟨Kd.R_nil _ _ _ _ _⟩,HB⟩
  case round=>
   clear HB;obtain⟨k,hk,rfl,HO,HB⟩:=hrel;have HM:=am (H.out.below HB.out);have HLr:=HL.out.below HB.out;have l0:wr.cell? ⟨L,0,none⟩=some (.pointer (some ⟨M,0,none⟩)):=(aj HLr 0).trans rfl;clear HLr;by_cases hlt:k<spares
   ·have e1:Nvm.reg m (3+(k:Int))=(m.regs.getD (3+k) 0,0):=by
     unfold Nvm.reg;have:Nvm.hasReg (3+(k:Int))=true:=by unfold Nvm.hasReg;simp;omega
     rw[this,HD.out,show(3+(k:Int)).toNat=3+k by omega];rfl
    have E1:=am e1;have E2:=am (qgm m k);have LM:=am (fx m k);clear e1;go_wp2_with (first
     |(go_at_call 35;(with_reducible refine(kz HM.out (3+(k:Int))).mono ?_);rintro e w' ⟨rfl,rfl⟩;rw[E1.out])
     |((with_reducible refine di (b:=.append) (xs:=#[.tmp 28, .tmp 30]) rfl ?_);at_builtin;refine Kd.R_append (Kd.int .u64) (w0:=w) w.heap.size rfl (.tmp 28) (.tmp 30) 51 25 (.int .u64 0) 8 rfl Tryz.underlying51 wi rfl (by decide) (by omega) _ (Lns.tableTo m k) (m.regs.getD (3+k) 0) [.int .u64 (m.regs.getD (3+k) 0)] (fun _=>True) (fun _=>False) rfl rfl ?aP (fun _ hk=>hk.elim) ?aF HO.out HB.out (bk HB.out) ?aL ?_;(case aP=>exact rfl);(case aF=>exact(fun _ _=>trivial));(case aL=>have:=LM.out;omega);intro v1 w1 ho hb hg hat;rw[<-E2.out]at ho;have HO1:=am ho;have HB1:=am hb;clear ho hb hg hat))
    go_roundw
    case rel=>exact⟨k+1,by omega,by go_num,HO1,HB1⟩
    case measure=>simp[intOf];omega
   ·have hks:k=spares:=by omega
    subst hks;have hd':=HD.out;go_wp2_with (first|(go_at_call 30;(with_reducible refine(ll HM.out).mono ?_);rintro e w' ⟨rfl,rfl⟩;rw[HD.out]))
    go_ret2;exact⟨_,rfl,HO.out,HB.out⟩
 ·have E:=am (show Lns.table m spares=([],2)by unfold Lns.table;rw[hd];rfl);have hd':=hd;rw[E.out];by_cases hs0:spares=0
  ·subst hs0;go_enter Tryz.func157,Tryz.ntmps157;go_wp2;go_loop [12] (fun i=>i=.int .i64 0) (fun _=>0)
   case atStart=>exact rfl
   case round=>
    obtain rfl:=hrel;go_wp2_with (first|(go_at_call 30;(with_reducible refine(ll H.out).mono ?_);rintro e w' ⟨rfl,rfl⟩))
    go_ret2;exact⟨_,rfl,Kd.R_nil _ _ _ _ _,ai _ _⟩
  ·have hp:decide ((0:Int)<spares)=true:=af (by omega);have E1:=am (show Nvm.reg m 3=(0,2)by unfold Nvm.reg;rw[hd];rfl);go_enter Tryz.func157,Tryz.ntmps157;go_wp2;go_loop [12] (fun i=>i=.int .i64 0) (fun _=>0)
   case atStart=>exact rfl
   case round=>
    obtain rfl:=hrel;go_wp2_with (first|(go_at_call 35;(with_reducible refine(kz H.out 3).mono ?_);rintro e w' ⟨rfl,rfl⟩;rw[E1.out]))
    go_ret2;exact⟨_,rfl,Kd.R_nil _ _ _ _ _,ai _ _⟩
theorem qc4(h:MemAt w M C m)(i:Int):(Nvm.get m i).1.length=8:=by
 unfold Nvm.get;split
 ·split
  ·rfl
  ·rename_i h1 _
   obtain⟨h0,h1⟩:=y8 h1;rw[ax,bx (show i.toNat<m.cells.length by omega)];exact h.lines _ (List.getElem_mem _)
 ·rfl
def gf(m:Mem):Prop:=∀ x∈m.regs,0<=x/\x<=18446744073709551615
theorem gf.get(h:gf m)(i:Nat):0<=m.regs.getD i 0/\m.regs.getD i 0<=18446744073709551615:=by
 rw[ax];by_cases hi:i<m.regs.length
 ·rw[bx hi];exact h _ (List.getElem_mem hi)
 ·rw[List.getElem?_eq_none (by omega)];exact⟨by decide,by decide⟩
theorem qa7(h:gf m){spares:Nat}(hs:spares<=16):Tab (Lns.tableTo m spares):=by
 refine⟨by rw[fx];omega,fun j=>?_⟩;unfold rd;rw[ax];by_cases hj:j.toNat<(Lns.tableTo m spares).length
 ·rw[bx hj];simp only[Lns.tableTo,List.getElem_map,Option.getD_some];exact h.get _
 ·rw[List.getElem?_eq_none (by omega)];exact⟨by decide,by decide⟩
theorem ta(h:MemAt w M C m){slots:Int}{spares:Nat}(hL:ib w L M slots (spares:Int))(hs:spares<=16)(hR:gf m){slot:Int}(h0:0<=slot)(h1:slot<slots)(h2:slots<=1099511627776):Calls Tryz.prog 126 #[.pointer (some ⟨L,0,none⟩), .int .i64 slot] w fun e w'=>∃ v,e=.returned (.tuple #[.int .i64 (ia (Lns.table m spares).1 slots slot),v, .int .i64 (Lns.table m spares).2])/\Kd.R (Kd.int .u64) 25 w' w.heap.size (fun _=>True) v (Lns.table m spares).1/\Below w.heap.size w w':=by
 have ht:Tab (Lns.table m spares).1:=by
  unfold Lns.table;split
  ·exact⟨by simp,fun j=>⟨by simp[rd],by simp[rd]⟩⟩
  ·exact qa7 hR hs
 obtain⟨k,hk⟩:=qnp ht h2 h0 h1;have HP:=am hk;have H:=am h;have HL:=am hL;have l1:w.cell? ⟨L,1,none⟩=some (.int .i64 slots):=(aj hL 1).trans rfl;have d0:decide (slot<0)=false:=ah (by omega);have d1:decide (slot>=slots)=false:=ah (by omega);clear h hL hk ht;go_enter Tryz.func126,Tryz.ntmps126;go_wp2_with (first
  |(go_at_call 157;(with_reducible refine(qbs H.out HL.out hs).mono ?_);rintro e w1 ⟨v,rfl,ho,hb⟩;have HO:=am ho;have HB:=am hb;have l1:w1.cell? ⟨L,1,none⟩=some (.int .i64 slots):=(aj (HL.out.below hb) 1).trans rfl;clear ho hb;obtain⟨Ao,co,eo⟩:=Kd.R_slice HO.out;subst eo)
  |(go_at_call 159;(with_reducible refine(dk.calls k _ _ (Lns.table m spares).1 slots slot _ _ (Kd.R_reads' HO.out).2.2 (Kd.R_reads' HO.out).2.1 HP.out).mono ?_);rintro e w2 ⟨rfl,⟨nd,rfl⟩⟩))
 go_ret3;exact⟨_,rfl,Kd.R_drewN HO.out nd,bq HB.out nd⟩
theorem yw(h:MemAt w M C m){slots:Int}{spares:Nat}(hL:ib w L M slots (spares:Int))(hs:spares<=16)(hR:gf m){slot:Int}(h0:0<=slot)(h1:slot<slots)(h2:slots<=1099511627776):Calls Tryz.prog 86 #[.pointer (some ⟨L,0,none⟩), .int .i64 slot] w fun e w'=>e=.returned (.tuple #[iw (Lns.get m slots spares slot).1, .int .i64 (Lns.get m slots spares slot).2])/\Below w.heap.size w w':=by
 have H:=am h;have HL:=am hL;have HR:=am hR;clear h hL hR;cases hd:m.down
 ·have E:=am (show Lns.table m spares=(Lns.tableTo m spares,0)by unfold Lns.table;rw[hd];rfl);have E2:=am (show Lns.get m slots spares slot=Nvm.get m (ia (Lns.tableTo m spares) slots slot)by unfold Lns.get;rw[hd];rfl);clear hd;rw[E2.out];generalize hp:ia (Lns.tableTo m spares) slots slot=pl at E2 ⊢;have HP:=am hp;have HG:=am (qc4 H.out pl);clear hp;generalize hg:Nvm.get m pl=g at HG ⊢;have HGE:=am hg;clear hg;obtain⟨gl,ge⟩:=g;go_enter Tryz.func86,Tryz.ntmps86;go_wp2_with (first
   |(go_at_call 126;(with_reducible refine(ta (H.out.alloc _) (HL.out.alloc _) hs HR.out h0 h1 h2).mono ?_);rintro e w1 ⟨v,rfl,ho,hb⟩;rw[E.out,HP.out];have HB:Aside0 (Below w.heap.size w w1):=⟨aa ((ai _ _).alloc (an _) _) hb⟩;have BX:=am (ap (heap_alloc_new w _) hb);have l0:w1.cell? ⟨L,0,none⟩=some (.pointer (some ⟨M,0,none⟩)):=(aj (HL.out.below HB.out) 0).trans rfl;clear ho hb)
   |(go_at_call 127;(with_reducible refine(qkr (H.out.below HB.out) pl).mono ?_);rintro e w2 ⟨rfl,hb⟩;rw[HGE.out];have HB2:=am (aa HB.out hb);have BX2:=am (ap BX.out hb);clear hb)
   |((with_reducible refine bp (t:=73) (p:=4) rfl ?_);refine wpList_store_row rfl 73 (.tmp 4) (.tmp 26) rfl w.heap.size (br gl).toArray rfl rfl 73 _ BX2.out ?hi ?ho ?h1 ?_;(case hi=>rw[List.size_toArray,au,HG.out];exact ez);(case ho=>simp[au,HG.out]);(case h1=>simp[br,Value.oneCell'])))
  exact ig rfl w.heap.size 73 (br gl) _ rfl (setRow_heap _ _ _ _ _ _ BX2.out) Tryz.underlying73 rfl (by rw[au,HG.out];exact ez) rfl ⟨rfl,gc HB2.out (an _) _⟩
 ·have E:=am (show Lns.table m spares=([],2)by unfold Lns.table;rw[hd];rfl);have E2:=am (show Lns.get m slots spares slot=(zL,2)by unfold Lns.get;rw[hd];rfl);clear hd;rw[E2.out];go_enter Tryz.func86,Tryz.ntmps86;go_wp2_with (first
   |(go_at_call 126;(with_reducible refine(ta (H.out.alloc _) (HL.out.alloc _) hs HR.out h0 h1 h2).mono ?_);rintro e w1 ⟨v,rfl,ho,hb⟩;rw[E.out];have HB:Aside0 (Below w.heap.size w w1):=⟨aa ((ai _ _).alloc (an _) _) hb⟩;have BX:=am (ap (heap_alloc_new w _) hb);clear ho hb)
   |((with_reducible refine bp (t:=73) (p:=4) rfl ?_);refine wpList_store_row rfl 73 (.tmp 4) (.tmp 18) rfl w.heap.size (br zL).toArray rfl rfl 73 _ BX.out ?hi ?ho ?h1 ?_;(case hi=>exact ez);(case ho=>simp[au,zL]);(case h1=>exact zy _)))
  exact ig rfl w.heap.size 73 (br zL) _ rfl (setRow_heap _ _ _ _ _ _ BX.out) Tryz.underlying73 rfl ez rfl ⟨rfl,gc HB.out (an _) _⟩
end
theorem oq{α:Type}{d:Kd α}{e:Nat}{w w1:World}{base:Nat}{ok:Nat->Prop}{v:Value}{xs:List α}{S:Nat->Prop}(h:d.R e w base ok v xs)(k:aq S w w1)(hS:∀ j,base<=j→¬ S j):d.R e w1 base ok v xs:=
 Kd.R_mono (Kd.R_step (Kd.R_bound h) (fun j hj hlt=>k.block j hlt (hS j hj.2.1))) (fun _ hk=>hk.1)
section
variable{w:World}{M C L:Nat}{m:Mem}
theorem yx (h : MemAt w M C m) {slots : Int} {spares : Nat} (hL : ib w L M slots (spares : Int)) (hLM : ¬ MC M C L) (hs : spares ≤ 16) (hR : gf m) {slot : Int} (h0 : 0 ≤ slot) (h1 : slot < slots) (h2 : slots ≤ 1099511627776) (d : List Int) (hd8 : d.length = 8) : Calls Tryz.prog 89 #[.pointer (some ⟨L, 0, none⟩), .int .i64 slot, iw d] w fun e w' => e = .returned (.int .i64 (Lns.put m slots spares slot d).1) ∧ MemAt w' M C (Lns.put m slots spares slot d).2 ∧ aq (MC M C) w w' := by
 have H:=am h;have HLM:=am hLM;have HL:=am hL;have HR:=am hR;have HD:=am hd8;have hlt:=h.lt;clear h hL hR hd8 hLM;unfold iw;cases hd:m.down
 ·have E := am (show Lns.table m spares = (Lns.tableTo m spares, 0) by unfold Lns.table; rw [hd]; rfl);have HT := am (qa7 HR.out hs);obtain ⟨kn, hkn⟩ := qpl HT.out;have HN := am hkn;have hNP := qde (Lns.tableTo m spares);have HLen := am (fx m spares);have EP : Aside0 (Lns.put m slots spares slot d = if (Nvm.put m (ia (Lns.tableTo m spares) slots slot) d).1 = 3 then
    if sj (Lns.tableTo m spares)<0 then Nvm.put m (ia (Lns.tableTo m spares) slots slot) d
    else Lns.putLoop slots slot d (spares-(sj (Lns.tableTo m spares)).toNat) (sj (Lns.tableTo m spares)).toNat (Nvm.put m (ia (Lns.tableTo m spares) slots slot) d).2
   else Nvm.put m (ia (Lns.tableTo m spares) slots slot) d):=⟨by unfold Lns.put;rw[hd];rfl⟩
  clear hkn hd;generalize Lns.put m slots spares slot d=RR at EP ⊢;generalize hp:ia (Lns.tableTo m spares) slots slot=pl at EP ⊢;have HP:=am hp;clear hp;generalize hnx:sj (Lns.tableTo m spares)=nx at EP HN hNP ⊢;clear hnx;generalize hpr:Nvm.put m pl d=pr at EP ⊢;have HPR:=am hpr;clear hpr;obtain⟨p1,m1⟩:=pr;go_enter Tryz.func89,Tryz.ntmps89;go_wp2_with (first
   |(go_at_call 126;(with_reducible refine(ta (H.out.alloc _) (HL.out.alloc _) hs HR.out h0 h1 h2).mono ?_);rintro e w1 ⟨v,rfl,ho,hb⟩;rw[E.out,HP.out];rw[E.out]at ho;have HO:=am ho;have HB:Aside0 (Below w.heap.size w w1):=⟨aa ((ai _ _).alloc (an _) _) hb⟩;have BX:=am (ap (heap_alloc_new w (.cells (br d).toArray 73)) hb);clear ho hb))
  have H1:=am (H.out.below HB.out);have HL1:=am (HL.out.below HB.out);refine dj (n:=8) (S:=fun w'=>w'.cell? ⟨L,0,none⟩=some (.pointer (some ⟨M,0,none⟩))/\(∀ j v,(br d)[j]? =some v->w'.cell? ⟨w.heap.size,0+j,none⟩=some v)) (ds:=[6]) (onA 8 0) (by kernel_rfl) rfl rfl ⟨(aj HL1.out 0).trans rfl,fun j v hv=>by rw[Nat.zero_add];exact bt BX.out j v hv⟩ (fun hHeld=>?_);refine pu 0 (some 26) (bA 8 1) (h:=?_);refine pu 1 (some 27) (bA 8 3) (h:=?_);refine pu 2 (some 28) (bA 8 7) (h:=?_);refine pu 4 (some 30) (bA 8 23) (h:=?_);refine tv 3 (some 29) (bA 8 31) rfl hHeld (fun w' hs=>aw 26 (.tmp 28) rfl L 0 _ rfl hs.1 _ Tryz.underlying26 rfl) (h:=?_);refine tv 5 (some 31) (bA 8 63) rfl hHeld (v:=.agg (br d).toArray) (fun w' hs=>dh 73 (.tmp 5) rfl w.heap.size 0 rfl (br d) _ hs.2 Tryz.underlying73 rfl (by rw[au,HD.out];exact ez)) (h:=?_);refine ko (i:=6) (N:=some 32) (bA 8 127) rfl rfl (by kernel_rfl) (by decide) (fun K hK=>?_);refine fv Tryz.func132 (by kernel_rfl) rfl #[.pointer (some ⟨M,0,none⟩), .int .i64 pl,iw d] (by rfl) rfl rfl (by simp only[List.map_toArray,List.map_cons,List.map_nil];rfl) ?_;refine(qek H1.out.drew pl d HD.out).mono ?_;rintro e w2 ⟨rfl,h2_,k2_⟩;refine⟨_,rfl,?_⟩;refine hK.out _ _ ?_;clear hK K hHeld;rw[HPR.out]at h2_ ⊢;have H2:=am h2_;have K2:Aside0 (aq (MC M C) w1 w2):=⟨((aq.refl _ w1).drew).step k2_⟩;clear h2_ k2_;refine pu 7 (some 10) (bA 8 255) (h:=?_);refine fa (by kernel_rfl) ?_;by_cases c3:p1=3
  ·subst c3;have hMC : ∀ j, (w.alloc (.cells (br d).toArray 73)).heap.size ≤ j → ¬ MC M C j := fun j hj => by simp at hj; exact sq (by omega) (by omega)
   obtain⟨Ao,co,eo⟩:=Kd.R_slice HO.out;subst eo;have HO2:=am (oq HO.out K2.out hMC);clear HO hMC;have KW:Aside0 (aq (MC M C) w w2):=⟨(aq.of_below HB.out).step K2.out⟩;have HL2:Aside0 (ib w2 L M slots (spares:Int)):=⟨ib.kept HL1.out K2.out HLM.out⟩;have BX2:Aside0 (w2.heap[w.heap.size]? =some (.cells (br d).toArray 73 (0,0))):=⟨K2.out.of BX.out (sq (by omega) (by omega))⟩;clear HL1 H1 BX HB K2;by_cases hn:nx<0
   ·have hn1:decide (nx<0)=true:=af hn;have e1:Aside0 (RR=(3,m1)):=⟨by rw[EP.out];exact(if_pos rfl).trans (if_pos hn)⟩;go_wp2_with (first|(go_at_call 133;(with_reducible refine(ga.calls kn _ _ (Lns.tableTo m spares) nx _ (Kd.R_reads' HO2.out).2.2 (Kd.R_reads' HO2.out).2.1 HN.out).mono ?_);rintro e w3 ⟨rfl,⟨nd,rfl⟩⟩))
    go_ret;rw[e1.out];exact⟨rfl,H2.out.drewN nd,KW.out.drewN nd⟩
   ·have hn1 : decide (nx < 0) = false := ah hn;have e1 : Aside0 (RR = Lns.putLoop slots slot d (spares - nx.toNat) nx.toNat m1) := ⟨by rw [EP.out]; exact (if_pos rfl).trans (if_neg hn)⟩;have hnr : 0 ≤ nx ∧ nx < spares := by
     rcases hNP with⟨n0,n1,_⟩|⟨n0,_⟩
     ·rw[HLen.out]at n1;exact⟨n0,n1⟩
     ·omega
    have whs:=am (qoi (a:=slot) h0 (by omega));have hdead:=am (qb9 (s:=slots) (by omega) (by omega));clear hNP EP;go_wp2_with (first|(go_at_call 133;(with_reducible refine(ga.calls kn _ _ (Lns.tableTo m spares) nx _ (Kd.R_reads' HO2.out).2.2 (Kd.R_reads' HO2.out).2.1 HN.out).mono ?_);rintro e w3 ⟨rfl,⟨nd,rfl⟩⟩))
    have H3:=am (H2.out.drewN nd);have K3:=am (KW.out.drewN nd);have HL3:Aside0 (ib (w2.drewN nd) L M slots (spares:Int)):=⟨cy HL2.out nd⟩;have BX3:=am (cy BX2.out nd);clear H2 KW HL2 BX2 HO2;generalize w2.drewN nd=w3 at H3 K3 HL3 BX3 ⊢;go_loopw [12] (fun i wr=>∃ (k:Nat) (mm:Mem),k<=spares/\i=.int .i64 k/\Aside0 (MemAt wr M C mm)/\Aside0 (aq (MC M C) w wr)/\Aside0 (ib wr L M slots (spares:Int))/\Aside0 (wr.heap[w.heap.size]? =some (.cells (br d).toArray 73 (0,0)))/\Aside0 (RR=Lns.putLoop slots slot d (spares-k) k mm)) (fun i _=>spares-(intOf i).toNat)
    case atStart=>exact⟨nx.toNat,m1,by omega,by rw[show((nx.toNat:Nat):Int)=nx by omega],H3,K3,HL3,BX3,e1⟩
    case round =>
     clear H3 K3 HL3 BX3 e1;obtain⟨k,mm,hk,rfl,HMr,HKr,HLr,BXr,HE⟩:=hrel;have l2:wr.cell? ⟨L,2,none⟩=some (.int .i64 spares):=(aj HLr.out 2).trans rfl;by_cases hlt:k<spares
     ·have hk1:Aside0 (spares-k=(spares-(k+1))+1):=⟨by omega⟩;rw[hk1.out,Lns.putLoop]at HE;generalize hq:Nvm.put mm (slots+(k:Int)) d=q at HE;have HQR:=am hq;clear hq;obtain⟨q1,m4⟩:=q;have hw61:Aside0 (wrap64 (slots+(k:Int))=slots+k):=⟨by unfold wrap64;omega⟩;go_wp2;clear l2;refine dj (n:=13) (S:=fun w'=>w'.cell? ⟨L,0,none⟩=some (.pointer (some ⟨M,0,none⟩))/\w'.cell? ⟨L,1,none⟩=some (.int .i64 slots)/\(∀ j v,(br d)[j]? =some v->w'.cell? ⟨w.heap.size,0+j,none⟩=some v)) (ds:=[11]) (onA 13 0) (by kernel_rfl) rfl rfl ⟨(aj HLr.out 0).trans rfl,(aj HLr.out 1).trans rfl,fun j v hv=>by rw[Nat.zero_add];exact bt BXr.out j v hv⟩ (fun hHeld=>?_);refine pu 0 (some 52) (bA 13 1) (h:=?_);refine pu 1 (some 53) (bA 13 3) (h:=?_);refine pu 2 (some 54) (bA 13 7) (h:=?_);refine pu 4 (some 56) (bA 13 23) (h:=?_);refine pu 5 (some 57) (bA 13 55) (h:=?_);refine pu 6 (some 58) (bA 13 119) (h:=?_);refine pu 8 (some 60) (bA 13 375) (h:=?_);refine tv 3 (some 55) (bA 13 383) rfl hHeld (fun w' hs=>aw 26 (.tmp 54) rfl L 0 _ rfl hs.1 _ Tryz.underlying26 rfl) (h:=?_);refine tv 7 (some 59) (bA 13 511) rfl hHeld (fun w' hs=>aw 3 (.tmp 58) rfl L 1 _ rfl hs.2.1 _ Tryz.underlying3 rfl) (h:=?_);refine pu 9 (some 61) (bA 13 1023) (h:=?_);refine tv 10 (some 62) (bA 13 2047) rfl hHeld (v:=.agg (br d).toArray) (fun w' hs=>dh 73 (.tmp 5) rfl w.heap.size 0 rfl (br d) _ hs.2.2 Tryz.underlying73 rfl (by rw[au,HD.out];exact ez)) (h:=?_);refine ko (i:=11) (N:=some 63) (bA 13 4095) rfl rfl (by kernel_rfl) (by decide) (fun K hK=>?_);refine fv Tryz.func132 (by kernel_rfl) rfl #[.pointer (some ⟨M,0,none⟩), .int .i64 (wrap64 (slots+(k:Int))),iw d] (by rfl) rfl rfl (by simp only[List.map_toArray,List.map_cons,List.map_nil];first|rfl|(simp only[bu];rfl)) ?_;rw[hw61.out];refine(qek HMr.out.drew (slots+(k:Int)) d HD.out).mono ?_;rintro e w4 ⟨rfl,h4_,k4_⟩;refine⟨_,rfl,?_⟩;refine hK.out _ _ ?_;clear hK K hHeld;rw[HQR.out]at h4_ ⊢;have H4:=am h4_;have K4:Aside0 (aq (MC M C) w w4):=⟨(HKr.out.drew).step k4_⟩;have HL4:Aside0 (ib w4 L M slots (spares:Int)):=⟨ib.kept (w:=wr.drew) HLr.out k4_ HLM.out⟩;have BX4:Aside0 (w4.heap[w.heap.size]? =some (.cells (br d).toArray 73 (0,0))):=⟨aq.of (a:=wr.drew) k4_ BXr.out (sq (by omega) (by omega))⟩;clear h4_ k4_ HMr HKr HLr BXr;refine pu 12 (some 14) (bA 13 8191) (h:=?_);refine fa (by kernel_rfl) ?_;by_cases c0:q1=0
      ·subst c0;have e2:Aside0 (RR=Nvm.set m4 (3+(k:Int)) (slot+1)):=⟨by rw[HE.out];exact if_pos rfl⟩;have l0:w4.cell? ⟨L,0,none⟩=some (.pointer (some ⟨M,0,none⟩)):=(aj HL4.out 0).trans rfl;go_wp2_with (first|(go_at_call 107;(with_reducible refine(ob H4.out (3+(k:Int)) (slot+1)).mono ?_);rintro e w5 ⟨rfl,h5_,k5_⟩;have H5:=am h5_;have K5:=am k5_;clear h5_ k5_))
       go_ret;rw[e2.out];exact⟨rfl,H5.out,K4.out.step K5.out⟩
      ·by_cases c3:q1=3
       ·subst c3;have l0:w4.cell? ⟨L,0,none⟩=some (.pointer (some ⟨M,0,none⟩)):=(aj HL4.out 0).trans rfl;have l1:w4.cell? ⟨L,1,none⟩=some (.int .i64 slots):=(aj HL4.out 1).trans rfl;generalize hsr:Nvm.set m4 (3+(k:Int)) (slots+1)=sr at HE;have HSR:=am hsr;clear hsr;obtain⟨s1,m5⟩:=sr;by_cases c5:s1=0
        ·subst c5;have e2:Aside0 (RR=Lns.putLoop slots slot d (spares-(k+1)) (k+1) m5):=⟨by rw[HE.out];exact(if_neg (by decide)).trans ((if_pos rfl).trans (if_pos rfl))⟩;go_wp2_with (first|(go_at_call 134;(with_reducible refine(iq.calls slots (slots+1) _ hdead.out).mono ?_);rintro e w5 ⟨rfl,⟨nd2,rfl⟩⟩)|(go_at_call 107;(with_reducible refine(ob (H4.out.drewN nd2) (3+(k:Int)) (slots+1)).mono ?_);rintro e w5 ⟨rfl,h5_,k5_⟩;rw[HSR.out]at h5_ ⊢;have H5:=am h5_;have K5:=am k5_;clear h5_ k5_))
         go_roundw
         case rel=>exact⟨k+1,m5,by omega,by go_num,H5,⟨(K4.out.drewN nd2).step K5.out⟩,⟨ib.kept (w:=w4.drewN nd2) (cy HL4.out nd2) K5.out HLM.out⟩,⟨K5.out.of (cy BX4.out nd2) (sq (by omega) (by omega))⟩,e2⟩
         case measure=>simp[intOf];omega
        ·have b5:(s1 != 0)=true:=by simpa using c5
         have e2:Aside0 (RR=(s1,m5)):=⟨by rw[HE.out];exact(if_neg (by decide)).trans ((if_pos rfl).trans (if_neg c5))⟩;go_wp2_with (first|(go_at_call 134;(with_reducible refine(iq.calls slots (slots+1) _ hdead.out).mono ?_);rintro e w5 ⟨rfl,⟨nd2,rfl⟩⟩)|(go_at_call 107;(with_reducible refine(ob (H4.out.drewN nd2) (3+(k:Int)) (slots+1)).mono ?_);rintro e w5 ⟨rfl,h5_,k5_⟩;rw[HSR.out]at h5_ ⊢;have H5:=am h5_;have K5:=am k5_;clear h5_ k5_))
         go_ret;rw[e2.out];exact⟨rfl,H5.out,(K4.out.drewN nd2).step K5.out⟩
       ·have b0:(q1==0)=false:=beq_eq_false_iff_ne.2 c0;have b3:(q1==3)=false:=beq_eq_false_iff_ne.2 c3;have e2:Aside0 (RR=(q1,m4)):=⟨by rw[HE.out];exact(if_neg c0).trans (if_neg c3)⟩;go_wp2;go_ret;rw[e2.out];exact⟨rfl,H4.out,K4.out⟩
     ·have hks:k=spares:=by omega
      subst hks;rw[Nat.sub_self,Lns.putLoop]at HE;go_wp2;go_ret;rw[HE.out];exact⟨rfl,HMr.out,HKr.out⟩
  ·have b3:(p1 != 3)=true:=by simpa using c3
   have e1:Aside0 (RR=(p1,m1)):=⟨by rw[EP.out];exact if_neg c3⟩;go_wp2;go_ret;rw[e1.out];exact⟨rfl,H2.out,(aq.of_below HB.out).step K2.out⟩
 ·have E:=am (show Lns.table m spares=([],2)by unfold Lns.table;rw[hd];rfl);have EP:=am (show Lns.put m slots spares slot d=(2,m)by unfold Lns.put;rw[hd];rfl);clear hd;rw[EP.out];go_enter Tryz.func89,Tryz.ntmps89;go_wp2_with (first
   |(go_at_call 126;(with_reducible refine(ta (H.out.alloc _) (HL.out.alloc _) hs HR.out h0 h1 h2).mono ?_);rintro e w1 ⟨v,rfl,ho,hb⟩;rw[E.out];have HB:Aside0 (Below w.heap.size w w1):=⟨aa ((ai _ _).alloc (an _) _) hb⟩;clear ho hb))
  go_ret;exact⟨rfl,H.out.below HB.out,aq.of_below HB.out⟩
end
section
variable{w:World}{M C L:Nat}{m:Mem}
theorem qig(h:MemAt w M C m){slots:Int}{spares:Nat}(hs:spares<=16)(hR:gf m)(h1:1<=slots)(h2:slots<=1000000)(hl:(m.cells.length:Int)=slots+spares)(hd:m.down=false)(hm:qbv (Lns.tableTo m spares) slots):Calls Tryz.prog 124 #[.pointer (some ⟨M,0,none⟩), .int .i64 slots, .int .i64 spares] w fun e w'=>∃ L,e=.returned (.pointer (some ⟨L,0,none⟩))/\ib w' L M slots (spares:Int)/\w.heap.size<=L/\Below w.heap.size w w':=by
 have H:=am h;have E:=am (show Lns.table m spares=(Lns.tableTo m spares,0)by unfold Lns.table;rw[hd];rfl);obtain⟨k,hk⟩:=(qpc (qa7 hR hs) (by omega) hm).rounds;have HK:=am hk;have HCL:=am hl;have d0:decide (slots<1)=false:=ah (by omega);have d1:decide ((spares:Int)<0)=false:=ah (by omega);have d2:decide ((spares:Int)>16)=false:=ah (by omega);have d3:((slots+(spares:Int)-spares) != slots)=false:=by simp
 have hw:Aside0 (wrap64 (slots+(spares:Int)-spares)=slots):=⟨by unfold wrap64;omega⟩;clear h hR hl hd hm hk;have HLin:=am (sy H.out);rw[HCL.out]at HLin;have HL1:Aside0 (ib (w.alloc (.cells #[.pointer (some ⟨M,0,none⟩), .int .i64 slots, .int .i64 spares] 167)) w.heap.size M slots (spares:Int)):=⟨heap_alloc_new w _⟩;go_enter Tryz.func124,Tryz.ntmps124;go_wp2_with (first
  |(go_at_call 56;(with_reducible refine HLin.out.mono ?_);rintro e w1 ⟨rfl,rfl⟩)
  |(go_at_call 157;(with_reducible refine(qbs (H.out.alloc _) HL1.out hs).mono ?_);rintro e w1 ⟨v,rfl,ho,hb⟩;rw[E.out]at ho ⊢;obtain⟨Ao,co,eo⟩:=Kd.R_slice ho;subst eo;have HO:=am ho;have HB:=am hb;clear ho hb)
  |(go_at_call 158;(with_reducible refine(fg.calls k _ _ (Lns.tableTo m spares) slots true _ (Kd.R_reads' HO.out).2.2 (Kd.R_reads' HO.out).2.1 HK.out).mono ?_);rintro e w2 ⟨rfl,⟨nd,rfl⟩⟩))
 go_ret;exact⟨w.heap.size,rfl,ib.below (HL1.out.below HB.out) (bq (ai _ _) nd),an _,bq (aa ((ai _ _).alloc (an _) _) HB.out) nd⟩
end
end Go.Proofs.YtmfhaliclnnbaaaGreat.Sys
