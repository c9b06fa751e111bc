import Derived.Test.YtmfhaliclnnbaaaGreatZTopWholeM15
import Derived.Test.YtmfhaliclnnbaaaGreatZTopWholeM6
import Derived.ChangeKeysEq
namespace Go.Proofs.YtmfhaliclnnbaaaGreat.Sys
open Go.RowKit Go.Proofs.YtmfhaliclnnbaaaGreatW.PrintWords Go.Proofs.YtmfhaliclnnbaaaGreatW.PrintLast Go.Proofs.YtmfhaliclnnbaaaGreatW.PrintMore
open Go.Proofs.YtmfhaliclnnbaaaGreat.XTopWhole Go.Proofs.YtmfhaliclnnbaaaGreat.Pl Go.Maps
set_option linter.unusedVariables false
set_option linter.unusedSimpArgs false
set_option maxRecDepth 100000
set_option maxHeartbeats 8000000
theorem qm7:∀ q,q∈3::(Kd.int .i64).E->q≠141:=by
 intro q hq;rcases List.mem_cons.1 hq with rfl|h
 ·decide
 ·cases h
structure NewP (w0 W:World) (v1 v2:Value) (xs ys:List Int):Prop where
 r1:Kd.R (Kd.int .i64) 3 W w0.heap.size (fun k=>True/\some k≠v2.ownBlock) v1 xs
 r2:Kd.R (Kd.int .i64) 3 W w0.heap.size (fun k=>True/\some k≠v1.ownBlock) v2 ys
 bel:Below w0.heap.size w0 W
theorem NewP.swap{w0 W:World}{v1 v2:Value}{xs ys:List Int}(h:NewP w0 W v1 v2 xs ys):NewP w0 W v2 v1 ys xs:=⟨h.r2,h.r1,h.bel⟩
theorem NewP.below{w0 W W':World}{v1 v2:Value}{xs ys:List Int}(h:NewP w0 W v1 v2 xs ys)(hb:Below W.heap.size W W'):NewP w0 W' v1 v2 xs ys:=⟨Kd.R_below h.r1 hb,Kd.R_below h.r2 hb,aa h.bel hb⟩
theorem qn4:(Tryz.prog.info? 44).map (·.size)=some 1:=by kernel_rfl
theorem NewP.set1{w0 W:World}{v1 v2:Value}{xs ys:List Int}(h:NewP w0 W v1 v2 xs ys){g:Nat}{cs:Array Value}(hg:W.heap[g]? =some (.cells cs 141 (0,0)))(hb:w0.heap.size<=g)(i:Nat)(u:Value):NewP w0 (W.setCell ⟨g,i,none⟩ u) v1 v2 xs ys:=
 ⟨Kd.R_set h.r1 hg qm7 i u,Kd.R_set h.r2 hg qm7 i u,h.bel.setCell hb _⟩
theorem qhz{w:World}{base g n c:Nat}{ok:Nat->Prop}{xs:List Int}(h:Kd.R (Kd.int .i64) 3 w base ok (.slice (some ⟨g,0,none⟩) n c) xs):Kd.R (Kd.int .i64) 3 w base (fun k=>k=g) (.slice (some ⟨g,0,none⟩) n c) xs:=
 ⟨fun k hk=>(by simpa[Value.ownBlock]using hk:g=k).symm,h.2.imp_ (fun _ _ hp=>hp)⟩
theorem qlk{w:World}{g:Nat}{n:Int}(h:w.heap[g]? =some (.cells #[.int .i64 n] 3 (0,0))):iy (fun(x:Int) cs=>cs=[Value.int .i64 x]) 1 w (some ⟨g,0,none⟩) 1 [n]:=by
 refine⟨rfl,by decide,fun _=>⟨⟨g,0,none⟩,rfl,fun j p hp=>?_⟩⟩
 match j,hp with
 |0,hp=>
  obtain rfl:n=p:=by simpa using hp
  refine⟨[.int .i64 n],rfl,rfl,fun i u hu=>?_⟩
  match i,hu with
  |0,hu=>
   obtain rfl:Value.int .i64 n=u:=by simpa using hu
   exact(aj h 0).trans rfl
section
variable{ops:Array Oper}{o:Oper}{a:Act}{Q:Exit->Act->World->Prop}{Kc:Act->World->Prop}
theorem rl{w0 W:World}{v1 v2:Value}{xs ys:List Int}{n:Int}{g:Nat}(hw:Region.wanted o (yielded ops a.tmps)=true)(s x:Operand)(ho:o.op=.call {callee:=.builtin .append,args:=#[s,x],argTypes:=#[44,44]})(hs:a.eval s=v1)(hx:a.eval x=.slice (some ⟨g,0,none⟩) 1 1)(hg:W.heap[g]? =some (.cells #[.int .i64 n] 3 (0,0)))(hP:NewP w0 W v1 v2 xs ys)(hl:xs.length<=1000)(h:∀ v1' w1,NewP w0 w1 v1' v2 (xs++[n]) ys->W.grownBy w1 v1.ownBlock->Kc (a.put o.dst v1') w1):if Region.wanted o (yielded ops a.tmps)=true then Oper.wp Tryz.prog o a W Kc Q else Kc (a.put o.dst undef) W:=by
 refine Kd.R_append_rows_step (Kd.int .i64) (Rr:=fun x cs=>cs=[Value.int .i64 x]) (w0:=w0) w0.heap.size hw s x 44 3 (.int .i64 0) 8 ho Tryz.underlying44 qbj rfl (by decide) (by omega) v1 xs [n] (some ⟨g,0,none⟩) 1 1 (fun k=>True/\some k≠v2.ownBlock) (fun _=>False) hs hx hP.r1 (qlk hg) (fun _ _ h=>h) (fun _ h=>h.elim) (fun k hk=>⟨trivial,fun e=>?_⟩) hP.bel hP.bel.size (by omega) (fun v1' w1 ho hb hg hat=>h v1' w1 ⟨ho,Kd.R_after hP.r2 hg hat,hb⟩ hg);have:=Kd.R_lt hP.r2 k e.symm;omega
end
section
theorem qci(w:World)(b:Int)(hb1:1<=b)(hb2:b<=100)(A:Option Addr)(c:Nat)(ks:List Int)(base:Nat)(ok:Nat->Prop)(hr:Kd.R (Kd.int .i64) 3 w base ok (.slice A ks.length c) ks)(h0:0<ks.length)(hl:ks.length<=16)(hk:∀ x∈ks,0<=x/\x<=1099511627776):Calls Tryz.prog 48 #[.int .i64 b, .slice A ks.length c] w fun e w'=>∃ q:CBlk,e=.returned (.pointer (some ⟨q.K,0,none⟩))/\CntAt w' q b ks ks/\(∀ j,q.At j->w.heap.size<=j)/\Below w.heap.size w w':=by
 have HR:=am hr;have HKs:=am hk;clear hr hk;have HBw:Aside0 (Below w.heap.size w (w.alloc (.cells #[.int .i64 b, .slice none 0 0, .slice none 0 0] 141))):=⟨(ai _ _).alloc (an _) _⟩;have HG0:Aside0 ((w.alloc (.cells #[.int .i64 b, .slice none 0 0, .slice none 0 0] 141)).heap[w.heap.size]? =some (.cells #[.int .i64 b, .slice none 0 0, .slice none 0 0] 141 (0,0))):=⟨heap_alloc_new w _⟩;go_enter Tryz.func48,Tryz.ntmps48;go_wp2;go_loopw [7,24] (fun _ i wr=>∃ (k:Nat) (va vb:Value),i=.int .i64 k/\k<=ks.length/\Aside0 (NewP w wr va vb (ks.take k) (ks.take k))/\Aside0 (wr.heap[w.heap.size]? =some (.cells #[.int .i64 b,va,vb] 141 (0,0)))) (fun _ i _=>ks.length-(intOf i).toNat)
 case atStart=>exact⟨0,_,_,rfl,by omega,⟨⟨Kd.R_nil _ _ _ _ _,Kd.R_nil _ _ _ _ _,HBw.out⟩⟩,HG0⟩
 case round =>
  clear HBw HG0;obtain⟨k,va,vb,rfl,hk,HP,HG⟩:=hrel;by_cases hlt:k<ks.length
  ·have HLT:=am hlt;have hx0:=HKs.out (ks.getD k 0) (by rw[ax,bx hlt];exact List.getElem_mem _);have HTk:Aside0 (ks.take (k+1)=ks.take k++[ks.getD k 0]):=⟨by rw[List.take_succ_eq_append_getElem hlt,ax,bx hlt];rfl⟩;have hxl:(ks.take k).length<=1000:=by rw[List.length_take];omega
   have HLr:=am (Kd.R_below HR.out HP.out.bel);obtain⟨gl,cap,ev,_⟩:=Kd.R_form HLr.out (by omega);injection ev with e1 _ e2;subst e1;subst e2;have hcell:=(i8 HLr.out k hlt).1;generalize ks.getD k 0=nv at hx0 HTk hcell;have e1:max nv 0=nv:=by omega
   have e2:min nv 1099511627776=nv:=by omega
   have d3:decide ((k:Int)<ks.length)=true:=af (by omega);have HVa:Aside0 (∀ j,va.ownBlock=some j->j<wr.heap.size):=⟨fun j hj=>Kd.R_lt HP.out.r1 j hj⟩;have HVb:Aside0 (∀ j,vb.ownBlock=some j->j<wr.heap.size):=⟨fun j hj=>Kd.R_lt HP.out.r2 j hj⟩;go_wp2;clear e1 e2;refine dj (n:=22) (S:=fun w'=>w'.heap[w.heap.size]? =some (.cells #[.int .i64 b,va,vb] 141 (0,0))) (ds:=[18,21]) (onA 22 0) (by kernel_rfl) rfl rfl HG.out (fun hHeld=>?_);refine pu 0 (some 31) (bA 22 1) (h:=?_);refine pu 1 (some 32) (bA 22 3) (h:=?_);refine pu 2 (some 33) (bA 22 7) (h:=?_);refine pu 3 (some 34) (bA 22 15) (h:=?_);refine pu 4 (some 35) (bA 22 31) (h:=?_);refine pu 6 (some 37) (bA 22 95) (h:=?_);refine pu 9 (some 40) (bA 22 607) (h:=?_);refine pu 10 (some 41) (bA 22 1631) (h:=?_);refine pu 11 (some 42) (bA 22 3679) (h:=?_);refine pu 13 (some 44) (bA 22 11871) (h:=?_);refine tv 5 (some 36) (bA 22 11903) rfl hHeld (fun w' hs=>aw 44 (.tmp 35) rfl w.heap.size 1 va rfl (by rw[aj hs];rfl) _ Tryz.underlying44 rfl) (h:=?_);refine tv 12 (some 43) (bA 22 15999) rfl hHeld (fun w' hs=>aw 44 (.tmp 42) rfl w.heap.size 2 vb rfl (by rw[aj hs];rfl) _ Tryz.underlying44 rfl) (h:=?_);refine qkc (σ:=Value×Value×Value×Value) 6 (bA 22 65535) (fun s=>[(38,s.1),(45,s.2.1),(39,s.2.2.1),(46,s.2.2.2)]) (fun s w'=>NewP w w' s.2.2.1 s.2.2.2 (ks.take k++[nv]) (ks.take k++[nv])/\w'.heap[w.heap.size]? =some (.cells #[.int .i64 b,va,vb] 141 (0,0))) ?_ ?_;rotate_left
   ·intro hCont;have hp_0:=HP.out.below (bg (ai _ _));have h_0:wr.drew.heap[w.heap.size]? =_:=HG.out;have hva:=HVa.out;have hvb:=HVb.out;refine qgo (i:=7) (j:=14) (Ni:=some 38) (Nj:=some 45) (bA 22 16127) (bA 22 32383) rfl rfl rfl rfl (by kernel_rfl) (by decide) (by decide) (fun K hK=>?_) (fun K hK=>?_)
    ·skip;refine jt (w1:=wr.drew.alloc (.cells #[.int .i64 nv] 3)) (v:=.slice (some ⟨wr.drew.heap.size,0,none⟩) 1 1) (by rfl) rfl ?_ ?_
     ·first|(go_simp;done)|(go_simp;rfl)
     have l_1:=heap_alloc_new wr.drew (.cells #[.int .i64 nv] 3);have p_2:=hp_0.below (ca (ai _ _) (.cells #[.int .i64 nv] 3));have h_3:=ap h_0 (ca (ai _ _) (.cells #[.int .i64 nv] 3));refine hK.out _ _ h_3 (fun hHeld=>?_);clear hK K;refine nm ?_;refine qgo (i:=8) (j:=14) (Ni:=some 39) (Nj:=some 45) (bA 22 16383) (bA 22 32511) rfl rfl rfl rfl (by kernel_rfl) (by decide) (by decide) (fun K hK=>?_) (fun K hK=>?_)
     ·skip;refine rl rfl (.tmp 36) (.tmp 38) rfl rfl rfl l_1 p_2 hxl ?_;intro v_4 w_5 hp_6 hg_7;have h_8:=l6 h_3 hg_7 (Kd.R_ne (p_2).r1 h_3 (by decide));have p_9:=hp_6;refine hK.out _ _ h_8 (fun hHeld=>?_);clear hK K;refine nm ?_;refine ip (i:=14) (N:=some 45) (bA 22 32767) rfl rfl (by kernel_rfl) (by decide) (fun K hK=>?_);refine jt (w1:=w_5.alloc (.cells #[.int .i64 nv] 3)) (v:=.slice (some ⟨w_5.heap.size,0,none⟩) 1 1) (by rfl) rfl ?_ ?_
      ·first|(go_simp;done)|(go_simp;rfl)
      have l_10:=heap_alloc_new w_5 (.cells #[.int .i64 nv] 3);have p_11:=p_9.below (ca (ai _ _) (.cells #[.int .i64 nv] 3));have h_12:=ap h_8 (ca (ai _ _) (.cells #[.int .i64 nv] 3));have l_13:=ap l_1 (ca (ai _ _) (.cells #[.int .i64 nv] 3));refine hK.out _ _ h_12 (fun hHeld=>?_);clear hK K;refine nm ?_;refine ip (i:=15) (N:=some 46) (bA 22 65535) rfl rfl (by kernel_rfl) (by decide) (fun K hK=>?_);refine rl rfl (.tmp 43) (.tmp 45) rfl rfl rfl l_10 p_11.swap hxl ?_;intro v_14 w_15 hp_16 hg_17;have h_18:=l6 h_12 hg_17 (Kd.R_ne (p_11.swap).r1 h_12 (by decide));have p_19:=hp_16.swap;refine hK.out _ _ h_18 (fun hHeld=>?_);clear hK K;refine nm ?_;exact mq (by simp only[ly,Act.put,List.setIfInBounds_toArray,List.set_cons_zero,List.set_cons_succ,bu] <;> rfl) (hCont (.slice (some ⟨wr.drew.heap.size,0,none⟩) 1 1, .slice (some ⟨w_5.heap.size,0,none⟩) 1 1,v_4,v_14) _ ⟨p_19,h_18⟩)
     ·skip;refine jt (w1:=(wr.drew.alloc (.cells #[.int .i64 nv] 3)).alloc (.cells #[.int .i64 nv] 3)) (v:=.slice (some ⟨(wr.drew.alloc (.cells #[.int .i64 nv] 3)).heap.size,0,none⟩) 1 1) (by rfl) rfl ?_ ?_
      ·first|(go_simp;done)|(go_simp;rfl)
      have l_20:=heap_alloc_new (wr.drew.alloc (.cells #[.int .i64 nv] 3)) (.cells #[.int .i64 nv] 3);have p_21:=p_2.below (ca (ai _ _) (.cells #[.int .i64 nv] 3));have h_22:=ap h_3 (ca (ai _ _) (.cells #[.int .i64 nv] 3));have l_23:=ap l_1 (ca (ai _ _) (.cells #[.int .i64 nv] 3));refine hK.out _ _ h_22 (fun hHeld=>?_);clear hK K;refine nm ?_;refine ip (i:=8) (N:=some 39) (bA 22 32767) rfl rfl (by kernel_rfl) (by decide) (fun K hK=>?_);refine rl rfl (.tmp 36) (.tmp 38) rfl rfl rfl l_23 p_21 hxl ?_;intro v_24 w_25 hp_26 hg_27;have h_28:=l6 h_22 hg_27 (Kd.R_ne (p_21).r1 h_22 (by decide));have l_29:=l6 l_20 hg_27 (by have:=hva;intro e;have:=this _ e.symm;simp at this;try omega);have p_30:=hp_26;refine hK.out _ _ h_28 (fun hHeld=>?_);clear hK K;refine nm ?_;refine ip (i:=15) (N:=some 46) (bA 22 65535) rfl rfl (by kernel_rfl) (by decide) (fun K hK=>?_);refine rl rfl (.tmp 43) (.tmp 45) rfl rfl rfl l_29 p_30.swap hxl ?_;intro v_31 w_32 hp_33 hg_34;have h_35:=l6 h_28 hg_34 (Kd.R_ne (p_30.swap).r1 h_28 (by decide));have p_36:=hp_33.swap;refine hK.out _ _ h_35 (fun hHeld=>?_);clear hK K;refine nm ?_;exact mq (by simp only[ly,Act.put,List.setIfInBounds_toArray,List.set_cons_zero,List.set_cons_succ,bu] <;> rfl) (hCont (.slice (some ⟨wr.drew.heap.size,0,none⟩) 1 1, .slice (some ⟨(wr.drew.alloc (.cells #[.int .i64 nv] 3)).heap.size,0,none⟩) 1 1,v_24,v_31) _ ⟨p_36,h_35⟩)
    ·skip;refine jt (w1:=wr.drew.alloc (.cells #[.int .i64 nv] 3)) (v:=.slice (some ⟨wr.drew.heap.size,0,none⟩) 1 1) (by rfl) rfl ?_ ?_
     ·first|(go_simp;done)|(go_simp;rfl)
     have l_37:=heap_alloc_new wr.drew (.cells #[.int .i64 nv] 3);have p_38:=hp_0.below (ca (ai _ _) (.cells #[.int .i64 nv] 3));have h_39:=ap h_0 (ca (ai _ _) (.cells #[.int .i64 nv] 3));refine hK.out _ _ h_39 (fun hHeld=>?_);clear hK K;refine nm ?_;refine ip (i:=7) (N:=some 38) (bA 22 32511) rfl rfl (by kernel_rfl) (by decide) (fun K hK=>?_);refine jt (w1:=(wr.drew.alloc (.cells #[.int .i64 nv] 3)).alloc (.cells #[.int .i64 nv] 3)) (v:=.slice (some ⟨(wr.drew.alloc (.cells #[.int .i64 nv] 3)).heap.size,0,none⟩) 1 1) (by rfl) rfl ?_ ?_
     ·first|(go_simp;done)|(go_simp;rfl)
     have l_40:=heap_alloc_new (wr.drew.alloc (.cells #[.int .i64 nv] 3)) (.cells #[.int .i64 nv] 3);have p_41:=p_38.below (ca (ai _ _) (.cells #[.int .i64 nv] 3));have h_42:=ap h_39 (ca (ai _ _) (.cells #[.int .i64 nv] 3));have l_43:=ap l_37 (ca (ai _ _) (.cells #[.int .i64 nv] 3));refine hK.out _ _ h_42 (fun hHeld=>?_);clear hK K;refine nm ?_;refine ip (i:=8) (N:=some 39) (bA 22 32767) rfl rfl (by kernel_rfl) (by decide) (fun K hK=>?_);refine rl rfl (.tmp 36) (.tmp 38) rfl rfl rfl l_40 p_41 hxl ?_;intro v_44 w_45 hp_46 hg_47;have h_48:=l6 h_42 hg_47 (Kd.R_ne (p_41).r1 h_42 (by decide));have l_49:=l6 l_43 hg_47 (by have:=hva;intro e;have:=this _ e.symm;simp at this;try omega);have p_50:=hp_46;refine hK.out _ _ h_48 (fun hHeld=>?_);clear hK K;refine nm ?_;refine ip (i:=15) (N:=some 46) (bA 22 65535) rfl rfl (by kernel_rfl) (by decide) (fun K hK=>?_);refine rl rfl (.tmp 43) (.tmp 45) rfl rfl rfl l_49 p_50.swap hxl ?_;intro v_51 w_52 hp_53 hg_54;have h_55:=l6 h_48 hg_54 (Kd.R_ne (p_50.swap).r1 h_48 (by decide));have p_56:=hp_53.swap;refine hK.out _ _ h_55 (fun hHeld=>?_);clear hK K;refine nm ?_;exact mq (by simp only[ly,Act.put,List.setIfInBounds_toArray,List.set_cons_zero,List.set_cons_succ,bu] <;> rfl) (hCont (.slice (some ⟨(wr.drew.alloc (.cells #[.int .i64 nv] 3)).heap.size,0,none⟩) 1 1, .slice (some ⟨wr.drew.heap.size,0,none⟩) 1 1,v_44,v_51) _ ⟨p_56,h_55⟩)
   rintro⟨a38,a45,v39,v46⟩ W' ⟨hP,hG'⟩;dsimp only at hP hG' ⊢;obtain⟨A1,c1,ea⟩:=Kd.R_slice hP.r1;obtain⟨A2,c2,eb⟩:=Kd.R_slice hP.r2;subst ea;subst eb;have hL:(ks.take k++[nv]).length=k+1:=by rw[List.length_append,List.length_take];simp;omega
   rw[hL]at hP ⊢;clear hL;have HP1:=am hP;have HG1:=am hG';clear hP hG' hHeld;refine mq (a':=?_) ?_ ?_;rotate_left
   ·simp only[ly,Act.put,List.setIfInBounds_toArray,List.set_cons_zero,List.set_cons_succ,bu,iu];rfl
   refine pu 16 (some 47) (bA 22 131071) (h:=?_);refine pu 17 (some 48) (bA 22 262143) (h:=?_);refine ko (i:=18) (N:=none) (bA 22 524287) rfl rfl (by kernel_rfl) (by decide) (fun K hK=>?_);refine su (by rfl) rfl (mi 44 (.tmp 48) (.tmp 39) rfl w.heap.size 1 (.slice A1 (k+1) c1) rfl rfl rfl rfl (by rw[aj HG1.out];rfl) (ak HG1.out 1) qn4) ?_;refine hK.out _ _ ?_;clear hK K;refine pu 19 (some 49) (bA 22 1048575) (h:=?_);refine pu 20 (some 50) (bA 22 2097151) (h:=?_);refine ko (i:=21) (N:=none) (bA 22 4194303) rfl rfl (by kernel_rfl) (by decide) (fun K hK=>?_);have HG2:Aside0 ((W'.setCell ⟨w.heap.size,1,none⟩ (.slice A1 (k+1) c1)).heap[w.heap.size]? =some (.cells #[.int .i64 b, .slice A1 (k+1) c1,vb] 141 (0,0))):=⟨by rw[heap_setCell_same _ _ _ _ _ _ HG1.out];rfl⟩;refine su (by rfl) rfl (mi 44 (.tmp 50) (.tmp 46) rfl w.heap.size 2 (.slice A2 (k+1) c2) rfl rfl rfl rfl (by rw[aj HG2.out];rfl) (ak HG2.out 2) qn4) ?_;refine hK.out _ _ ?_;clear hK K;refine fa (by kernel_rfl) ?_;have HG3:Aside0 (((W'.setCell ⟨w.heap.size,1,none⟩ (.slice A1 (k+1) c1)).setCell ⟨w.heap.size,2,none⟩ (.slice A2 (k+1) c2)).heap[w.heap.size]? =some (.cells #[.int .i64 b, .slice A1 (k+1) c1, .slice A2 (k+1) c2] 141 (0,0))):=⟨by rw[heap_setCell_same _ _ _ _ _ _ HG2.out];rfl⟩;have HP3:=am ((HP1.out.set1 HG1.out (an _) 1 (.slice A1 (k+1) c1)).set1 HG2.out (an _) 2 (.slice A2 (k+1) c2));clear HP1 HG1 HG2;go_wp2;go_roundw
   case rel=>exact⟨k+1,_,_,by go_num,HLT.out,⟨by rw[HTk.out];exact HP3.out⟩,HG3⟩
   case measure=>have:=HLT.out;simp[intOf];omega
  ·have hkk:k=ks.length:=by omega
   subst hkk;rw[List.take_length]at HP;have d3:decide ((ks.length:Int)<ks.length)=false:=ah (by omega);go_wp2;go_ret;obtain⟨g1,c1,rfl,e1,_⟩:=Kd.R_form HP.out.r1 (by omega);obtain⟨g2,c2,rfl,e2,_⟩:=Kd.R_form HP.out.r2 (by omega);refine⟨⟨w.heap.size,g1,g2,c1,c2⟩,rfl,⟨HG.out,qhz (Kd.R_lower HP.out.r1 (Nat.zero_le _)),qhz (Kd.R_lower HP.out.r2 (Nat.zero_le _)),?_,?_,?_,rfl⟩,?_,HP.out.bel⟩
   ·intro e;exact Kd.R_ne HP.out.r1 HG.out (by decide) (congrArg some e)
   ·intro e;exact Kd.R_ne HP.out.r2 HG.out (by decide) (congrArg some e)
   ·intro e;exact(HP.out.r1.1 g1 rfl).2 (congrArg some e)
   ·rintro j (rfl|rfl|rfl)
    ·exact an _
    ·exact e1
    ·exact e2
end
theorem yg{o:Oper}{a:Act}{w:World}(t:TypeId)(parts:Array (Nat×Operand))(ho:o.op=.build t parts)(vals:List (Nat×Value))(hv:(parts.map fun(i,x)=>(i,a.eval x)).toList=vals)(cells:Array Value)(hb:Tryz.prog.built t vals=some cells):(execOp a.eval o).run Tryz.prog w=.ok (.value (.agg cells)) w:=by
 have h:=run_build (P:=Tryz.prog) w t (parts.map fun(i,x)=>(i,a.eval x)) cells (by rw[hv];exact hb);unfold execOp;simp only[ho,Sem.run_bind,h];rfl
theorem qix(M:Nat)(p:Pn)(T:Nat):Tryz.prog.built 90 [(0, .pointer (some ⟨M,0,none⟩)),(1, .agg (fk p).toArray),(2, .pointer (some ⟨T,0,none⟩))]=some (wa M p T (.pointer none) (.pointer none) false).toArray:=by kernel_rfl
theorem qlz{p:Pn}(h:p.Ok):n5.f p.lines p.spare p.period p.batch=some (((p.lines+3) / 4).toNat:Int):=by
 have h1:=h.l1;have h2:=h.l2;unfold n5.f;rw[uy h,Option.bind_some,if_pos rfl,w64 (n:=p.lines-1) (by omega),qjp (by omega) (by omega),Option.bind_some,w64 (by omega)];congr 1;omega
theorem qri{w:World}{g M:Nat}{p:Pn}{T:Nat}{c:Value}{f:Bool}(h:w.heap[g]? =some (.cells (wa M p T (.pointer none) c f).toArray 90 (0,0)))(G:Nat):oa (w.setCell ⟨g,6,none⟩ (.pointer (some ⟨G,0,none⟩))) g M p T (.pointer (some ⟨G,0,none⟩)) c f:=by
 show(w.setCell ⟨g,6,none⟩ _).heap[g]? =_;rw[heap_setCell_same _ _ _ _ _ _ h];rfl
theorem qsj{w:World}{g M:Nat}{p:Pn}{T:Nat}{l:Value}{f:Bool}(h:oa w g M p T l (.pointer none) f)(K:Nat):oa (w.setCell ⟨g,7,none⟩ (.pointer (some ⟨K,0,none⟩))) g M p T l (.pointer (some ⟨K,0,none⟩)) f:=by
 show(w.setCell ⟨g,7,none⟩ _).heap[g]? =_;rw[heap_setCell_same _ _ _ _ _ _ h];rfl
structure OpenOk (p:Pn) (m:Mem):Prop where
 len:(m.cells.length:Int)=16+p.lines+1+p.spare
 regs:gf m
 may:qbv (Lns.tableTo m p.shape.spares) (p.shape.n+1)
 mv:m.regs.getD 0 0<=1099511627776
 rd:Lg.Rd p.shape m
 cnt:Lg.count m<=14
namespace Hp
def pages(p:Pn):Nat:=((p.lines+3) / 4).toNat
def keptTo(m:Mem)(k:Nat):List Int:=(List.range k).map fun i=>min (m.regs.getD (19+i) 0) 1099511627776
def opened(p:Pn)(m:Mem)(puts:Int):St:=⟨m,puts,keptTo m (pages p),keptTo m (pages p),false⟩
end Hp
structure OpenOk2 (p:Pn) (m:Mem):Prop where
 up:m.down=false
 rd:Lg.Rd p.shape m
 cnt:Lg.count m<=14
 blk:∃ l,Ev (fun k=>cf.f k (Hp.wordsTo p m p.lines.toNat)) (l,true)
 root:m.regs.getD 2 0=0\/(m.regs.getD 2 0≠0/\(0<=m.regs.getD 2 0/\m.regs.getD 2 0<=1048576)/\Ev (fun k=>jn.f k (Hp.wordsTo p m p.lines.toNat) (m.regs.getD 2 0)) true)
section
variable{w:World}{M C:Nat}{m:Mem}{p:Pn}
theorem qii(h:MemAt w M C m)(hp:p.Ok)(hd:m.down=false)(ho:OpenOk p m)(h2:(Lg.recover p.shape m 0).1=0->OpenOk2 p (Lg.recover p.shape m 0).2.1):Calls Tryz.prog 11 #[.pointer (some ⟨M,0,none⟩),oz p] w fun e w'=>aq (MC M C) w w'∧((Lg.recover p.shape m 0).1=0→∃ b:Bl,b.M=M/\b.C=C/\e=.returned (.tuple #[.pointer (some ⟨b.H,0,none⟩), .int .i64 0])/\HeapAt w' b p (Hp.opened p (Lg.recover p.shape m 0).2.1 (Lg.recover p.shape m 0).2.2)/\(∀ j,b.All j->j=M\/j=C\/w.heap.size<=j))/\((Lg.recover p.shape m 0).1≠0->e=.returned (.tuple #[.pointer none, .int .i64 (Lg.recover p.shape m 0).1])/\MemAt w' M C (Lg.recover p.shape m 0).2.1):=by
 have HM:=am (fun(w':World) (hw':MemAt w' M C m)=>yl (p:=p) hw' hp ho.len);have HLn:=am (fun(w':World) (hw':MemAt w' M C m)=>vo (p:=p) hw' hp ho.regs ho.len hd ho.may ho.mv);have H:=am h;have BX:Aside0 ((w.alloc (.cells (fk p).toArray 23)).heap[w.heap.size]? =some (.cells (fk p).toArray 23 (0,0))):=⟨heap_alloc_new w _⟩;have HBx:Aside0 (Below w.heap.size w (w.alloc (.cells (fk p).toArray 23))):=⟨(ai _ _).alloc (an _) _⟩;have HD:=am hd;have HO:=am ho;have HP:=am hp;have H2:=am h2;clear h hp hd ho h2;obtain⟨rc,hrc⟩:∃ rc,Lg.recover p.shape m 0=rc:=⟨_,rfl⟩;have HRc:=am hrc;rw[hrc]at H2 ⊢;clear hrc;go_enter Tryz.func11,Tryz.ntmps11;go_wp2_with (first
  |((with_reducible refine fz (.load 23 (.tmp 3)) rfl ?_);refine bc rfl 23 (.tmp 3) rfl w.heap.size 0 rfl (fk p) _ (fun j v hv=>by rw[Nat.zero_add];exact bt BX.out j v hv) Tryz.underlying23 rfl jh ?_)
  |(go_at_call 34;refine(HM.out _ (H.out.alloc _)).mono ?_;rintro e w1 ⟨rfl,hb⟩;rw[HD.out];have HB1:=am (aa HBx.out hb);have BX1:=am (ap BX.out hb);have H1:=am ((H.out.alloc _).below hb);clear hb))
 refine dj (n:=8) (S:=fun w'=>w'.heap[w.heap.size]? =some (.cells (fk p).toArray 23 (0,0))) (ds:=[]) (onA 8 0) (by kernel_rfl) rfl rfl BX1.out (fun hHeld=>?_);refine pu 0 (some 24) (bA 8 1) (h:=?_);refine pu 2 (some 26) (bA 8 5) (h:=?_);refine tv 1 (some 25) (bA 8 7) rfl hHeld (fun w' hs=>dh 23 (.tmp 3) rfl w.heap.size 0 rfl (fk p) _ (fun j v hv=>by rw[Nat.zero_add];exact bt hs j v hv) Tryz.underlying23 rfl jh) (h:=?_);refine tv 3 (some 27) (bA 8 15) rfl hHeld (fun w' hs=>dh 23 (.tmp 3) rfl w.heap.size 0 rfl (fk p) _ (fun j v hv=>by rw[Nat.zero_add];exact bt hs j v hv) Tryz.underlying23 rfl jh) (h:=?_);refine ip (i:=4) (N:=some 28) (bA 8 31) rfl rfl (by kernel_rfl) (by decide) (fun K hK=>?_);refine fv Tryz.func36 (by kernel_rfl) rfl #[.pointer (some ⟨M,0,none⟩),oz p] (by rfl) rfl rfl (by simp only[List.map_toArray,List.map_cons,List.map_nil];rfl) ?_;have H1d:=am (H1.out.below (bg (ai _ _)));refine(HLn.out _ H1d.out).mono ?_;rintro e w2 ⟨L,T,rfl,ht,hL,hT,hb⟩;refine⟨_,rfl,?_⟩;have hb2:=aa (bg (ai w1.heap.size w1)) hb;have BX2:=am (ap BX1.out hb2);have HB2:=am (aa HB1.out hb2);have HT2:=am ht;have hs1:=HB1.out.size;have hLw:w.heap.size<=L:=Nat.le_trans hs1 hL;have hTw:w.heap.size<=T:=Nat.le_trans hs1 hT;refine hK.out _ _ BX2.out (fun hHeld=>?_);clear hK K hb hb2 ht hL hT H1d;refine ip (i:=5) (N:=some 29) (bA 8 63) rfl rfl (by kernel_rfl) (by decide) (fun K hK=>?_);refine jt (by rfl) rfl (yg 90 _ rfl [(0, .pointer (some ⟨M,0,none⟩)),(1, .agg (fk p).toArray),(2, .pointer (some ⟨T,0,none⟩))] (by simp;exact⟨rfl,rfl,rfl⟩) _ (qix M p T)) ?_;refine hK.out _ _ BX2.out (fun hHeld=>?_);clear hK K;refine nm ?_;refine ip (i:=6) (N:=some 30) (bA 8 127) rfl rfl (by kernel_rfl) (by decide) (fun K hK=>?_);refine jt (w1:=w2.alloc (.cells (wa M p T (.pointer none) (.pointer none) false).toArray 90)) (v:=.pointer (some ⟨w2.heap.size,0,none⟩)) (by rfl) rfl ?_ ?_
 ·first|(go_simp;done)|(go_simp;rfl)
 have hb3:Below w2.heap.size w2 (w2.alloc (.cells (wa M p T (.pointer none) (.pointer none) false).toArray 90)):=(ai _ _).alloc (an _) _;have BX3:=am (ap BX2.out hb3);have HB3:=am (aa HB2.out hb3);have HT3:=am (HT2.out.below hb3);have HX3:=am (heap_alloc_new w2 (.cells (wa M p T (.pointer none) (.pointer none) false).toArray 90));have hML:M<w2.heap.size/\C<w2.heap.size/\L<w2.heap.size/\T<w2.heap.size:=⟨HT2.out.mem.lt.1,HT2.out.mem.lt.2,d7 HT2.out.lin,d7 HT2.out.tur⟩;have hHw:w.heap.size<w2.heap.size:=d7 BX2.out;have hH3:w2.heap.size<(w2.alloc (.cells (wa M p T (.pointer none) (.pointer none) false).toArray 90)).heap.size:=by simp
 refine hK.out _ _ BX3.out (fun hHeld=>?_);clear hK K hb3 BX2 HB2 HT2 hHeld;generalize w2.alloc (.cells (wa M p T (.pointer none) (.pointer none) false).toArray 90)=w3 at BX3 HB3 HT3 HX3 hH3 ⊢;generalize w2.heap.size=Hn at HX3 hML hHw hH3 ⊢;refine nm ?_;refine pu 7 (some 7) (bA 8 255) (h:=?_);refine fa (by kernel_rfl) ?_;have hl1:=HP.out.l1;have hl2:=HP.out.l2;have HMH:Aside0 (¬ MCT M C T Hn):=⟨s8 (by omega) (by omega) (by omega)⟩;have hMw:=H.out.lt;have HMB:Aside0 (¬ MCT M C T w.heap.size):=⟨s8 (by omega) (by omega) (by have:=HT3.out.tm;have hne:T≠w.heap.size:=fun e=>(by have h1:=HT3.out.tur;rw[e,BX3.out]at h1;cases h1);omega)⟩;have HNe:Aside0 (∀ j,j=M\/j=C\/j=L\/j=T→¬ j=Hn):=⟨fun j hj=>by omega⟩;have h17:17<=p.shape.n:=by show 17<=16+p.lines;omega
 have k2:w3.cell? ⟨Hn,5,none⟩=some (.pointer (some ⟨T,0,none⟩)):=(aj HX3.out 5).trans rfl;have HRec:Aside0 (∀ (w':World) (G:Nat),TurnAt w' M C L T p.shape m 0->j7 w' G M T→¬ MCT M C T G->Calls Tryz.prog 44 #[.pointer (some ⟨G,0,none⟩)] w' fun e w''=>e=.returned (.int .i64 rc.1)/\TurnAt w'' M C L T p.shape rc.2.1 rc.2.2/\aq (MCT M C T) w' w''):=⟨fun w' G h1 h2 h3=>by
  rw[<-HRc.out];exact qd6 h1 h2 h3 h17 (fun _=>HO.out.rd) HO.out.cnt (by have:=HO.out.mv;omega)⟩
 by_cases c0:rc.1=0
 ·have O2 := am (H2.out c0);have b0 : (rc.1 != 0) = false := bne_eq_false_iff_eq.2 c0;have C0 := am c0;obtain ⟨e0, m1, p1⟩ := rc;dsimp only at O2 b0 C0 HRec ⊢;clear c0;have HUp := am O2.out.up;have HWd : Aside0 (∀ (w' : World) (G : Nat), TurnAt w' M C L T p.shape m1 p1 → j7 w' G M T → oa w' Hn M p T (.pointer (some ⟨G, 0, none⟩)) (.pointer none) false → Calls Tryz.prog 20 #[.pointer (some ⟨Hn, 0, none⟩)] w' fun e w'' => ∃ v, e = .returned (.tuple #[v, .int .i64 0]) ∧ Kd.R (Kd.int .u64) 25 w'' w'.heap.size (fun _ => True) v (Hp.wordsTo p m1 p.lines.toNat) ∧ Below w'.heap.size w' w'') := ⟨fun w' G h1 h2 h3 => by
   have hh:=pw h1 h2 h3 HP.out (fun _=>O2.out.rd) O2.out.cnt;have E:Hp.words p m1=(Hp.wordsTo p m1 p.lines.toNat,0):=by unfold Hp.words;rw[HUp.out];rfl
   rw[E]at hh;exact hh⟩
  have HRegs:Aside0 (∀ (w':World) (i:Nat),i<35->MemAt w' M C m1->Calls Tryz.prog 35 #[.pointer (some ⟨M,0,none⟩), .int .i64 i] w' fun e w''=>e=.returned (.tuple #[.int .u64 (m1.regs.getD i 0), .int .i64 0])/\w'=w''):=⟨fun w' i hi h1=>by
   have hh:=kz h1 (i:Int);have E:Nvm.reg m1 (i:Int)=(m1.regs.getD i 0,0):=by unfold Nvm.reg Nvm.hasReg;rw[HUp.out];have h1:decide ((i:Int)>=0)=true:=af (by omega);have h2:decide ((i:Int)<35)=true:=af (by omega);rw[h1,h2];rfl
   rw[E]at hh;exact hh⟩
  obtain⟨lb,k1,hk1⟩:=O2.out.blk;have HK1:=am (hk1 k1 (an _));have hroot:=O2.out.root;clear hk1;have HOp:Aside0 (Hp.opened p m1 p1=⟨m1,p1,Hp.keptTo m1 (Hp.pages p),Hp.keptTo m1 (Hp.pages p),false⟩):=⟨rfl⟩;have HNp:Aside0 (Hp.pages p=((p.lines+3) / 4).toNat):=⟨rfl⟩;have HReg:Aside0 (∀ (w':World),MemAt w' M C m1->Calls Tryz.prog 35 #[.pointer (some ⟨M,0,none⟩), .int .i64 2] w' fun e w''=>e=.returned (.tuple #[.int .u64 (m1.regs.getD 2 0), .int .i64 0])/\w'=w''):=⟨fun w' h1=>HRegs.out w' 2 (by omega) h1⟩;generalize Hp.wordsTo p m1 p.lines.toNat=ws at HWd HK1 hroot;generalize m1.regs.getD 2 0=rv at HReg hroot;have HPg:=am (qlz HP.out);have hnp1:1<=Hp.pages p:=by unfold Hp.pages;omega
  have hnp2:Hp.pages p<=16:=by unfold Hp.pages;omega
  rw[<-HNp.out]at HPg;generalize Hp.pages p=np at HPg HNp HOp hnp1 hnp2;have d17:decide (Hn<Hn)=false:=by simp
  clear d17;rcases hroot with hr0|⟨hr0,hr1,k2,hk2⟩
  ·have b1:(rv != 0)=false:=bne_eq_false_iff_eq.2 hr0;clear hr0;go_wp2_with (first
    |(go_at_call 43;(with_reducible refine(yv HT3.out h17).mono ?_);rintro e w4 ⟨G,rfl,hg_,hG_,hb⟩;have hG4:Hn<G:=Nat.lt_of_lt_of_le hH3 hG_;have HBw4:=am (aa HB3.out hb);have HT4:=am (HT3.out.below hb);have HX4:=am (ap HX3.out hb);have BX4:=am (ap BX3.out hb);have HG4:=am hg_;have c6:w4.cell? ⟨Hn,6,none⟩=some (.pointer none):=(aj HX4.out 6).trans rfl;have f6:w4.frozen? ⟨Hn,6,none⟩=false:=ak HX4.out 6;have HB5:=am (HBw4.out.setCell (p:=⟨Hn,6,none⟩) (Nat.le_of_lt hHw) (.pointer (some ⟨G,0,none⟩)));have HX5:=am (qri HX4.out G);have KS:=aq.set (S:=fun j=>j=Hn) (aq.refl (fun j=>j=Hn) w4) (p:=⟨Hn,6,none⟩) (.inl rfl) (.pointer (some ⟨G,0,none⟩));have HT5:=am (HT4.out.kept KS (fun j hj e=>HNe.out j hj e));have HG5:=am (HG4.out.kept KS (fun e=>by omega));have BX5:=am (KS.of BX4.out (fun e=>by omega));have HNG:Aside0 (¬ MCT M C T G):=⟨s8 (by omega) (by omega) (by omega)⟩;clear hg_ hG_ hb KS)
    |(go_at_call 44;(with_reducible refine(HRec.out _ G HT5.out HG5.out HNG.out).mono ?_);rintro e w6 ⟨rfl,ht_,kk_⟩;have HT6:=am ht_;have K6:Aside0 (aq (MC M C) w w6):=⟨(aq.of_below HB5.out:aq (MC M C) w _).trans kk_ (fun j hj hs=>by rcases hs with e|e|e;exact .inl e;exact .inr e;omega)⟩;have HX6:Aside0 (oa w6 Hn M p T (.pointer (some ⟨G,0,none⟩)) (.pointer none) false):=⟨kk_.of HX5.out HMH.out⟩;have HG6:Aside0 (j7 w6 G M T):=⟨kk_.of HG5.out HNG.out⟩;have BX6:=am (kk_.of BX5.out HMB.out);clear ht_ kk_)
    |(go_at_call 20;(with_reducible refine(HWd.out _ G HT6.out HG6.out HX6.out).mono ?_);rintro e w7 ⟨v,rfl,ho,hb⟩;obtain⟨Aw,cw,ew,hcw,hrw⟩:=Kd.R_reads ho;subst ew;have HW7:=am hrw;have HC7:=am hcw;have HT7:=am (HT6.out.below hb);have HX7:=am (HX6.out.below hb);have HG7:=am (HG6.out.below hb);have BX7:=am (ap BX6.out hb);have K7:=am (aq.step K6.out (aq.of_below hb));clear ho hb hcw hrw)
    |(go_at_call 35;(with_reducible refine(HReg.out _ HT7.out.mem).mono ?_);rintro e w' ⟨rfl,rfl⟩)
    |(go_at_call 45;(with_reducible refine(cf.calls k1 Aw cw ws lb true _ HW7.out HC7.out HK1.out).mono ?_);rintro e w8 ⟨v8,rfl,ho,hb⟩;have HW8:=am (Kd.C_below HW7.out hb);have HT8:=am (HT7.out.below hb);have HX8:=am (HX7.out.below hb);have HG8:=am (HG7.out.below hb);have BX8:=am (ap BX7.out hb);have K8:=am (aq.step K7.out (aq.of_below hb));clear ho hb)
    |((with_reducible refine fz (.load 23 (.tmp 3)) rfl ?_);refine bc rfl 23 (.tmp 3) rfl w.heap.size 0 rfl (fk p) _ (fun j v hv=>by rw[Nat.zero_add];exact bt BX8.out j v hv) Tryz.underlying23 rfl jh ?_)
    |(go_at_call 47;refine(n5.calls p.lines p.spare p.period p.batch (np:Int) _ HPg.out).mono ?_;rintro e w10 ⟨rfl,hb⟩;have HTa:=am (HT8.out.below hb);have HXa:=am (HX8.out.below hb);have HGa:=am (HG8.out.below hb);have BXa:=am (ap BX8.out hb);have Ka:=am (aq.step K8.out (aq.of_below hb));clear hb))
   go_loopw [14,93] (fun v i wr=>∃ k:Nat,i=.int .i64 k/\k<=np/\Aside0 (Kd.R (Kd.int .i64) 3 wr w10.heap.size (fun _=>True) v (Hp.keptTo m1 k))/\Aside0 (Below w10.heap.size w10 wr)) (fun _ i _=>np-(intOf i).toNat)
   case atStart=>exact⟨0,rfl,by omega,⟨Kd.R_nil _ _ _ _ _⟩,⟨ai _ _⟩⟩
   case round=>
    obtain⟨k,rfl,hk,HO,HB⟩:=hrel;by_cases hlt:k<np
    ·have HLT:=am hlt;have d3:decide ((k:Int)<(np:Int))=true:=af (by omega);have HSu:Aside0 (Hp.keptTo m1 (k+1)=Hp.keptTo m1 k++[min (m1.regs.getD (19+k) 0) 1099511627776]):=⟨by unfold Hp.keptTo;rw[List.range_succ,List.map_append];rfl⟩;have HRk:Aside0 (∀ (w':World),MemAt w' M C m1->Calls Tryz.prog 35 #[.pointer (some ⟨M,0,none⟩), .int .i64 (19+(k:Int))] w' fun e w''=>e=.returned (.tuple #[.int .u64 (m1.regs.getD (19+k) 0), .int .i64 0])/\w'=w''):=⟨fun w' h1=>by
      have hh:=HRegs.out w' (19+k) (by omega) h1;rw[show((19+k:Nat):Int)=19+(k:Int)by omega]at hh;exact hh⟩
     have hrr:=HTa.out.regs.get (19+k);have hkl:(Hp.keptTo m1 k).length=k:=by unfold Hp.keptTo;rw[List.length_map,List.length_range]
     have HTr:=am (HTa.out.below HB.out);generalize m1.regs.getD (19+k) 0=x at HRk HSu hrr;generalize Hp.keptTo m1 k=ks at HO HSu hkl;have hmn:0<=min x 1099511627776/\min x 1099511627776<=1099511627776:=by omega
     obtain⟨nk,hnk⟩:∃ nk,min x 1099511627776=nk:=⟨_,rfl⟩;rw[hnk]at HSu hmn;go_wp2_with (first
      |(go_at_call 35;(with_reducible refine(HRk.out _ HTr.out.mem).mono ?_);rintro e w' ⟨rfl,rfl⟩)
      |((with_reducible refine b9 (N:=110) rfl ?_);refine mr rfl (.tmp 109) rfl nk ?lv ?_;(case lv=>first|rfl|(show Value.int _ _=_;congr 1;rw[IntKind.wrap_i64];omega)))
      |((with_reducible refine di (b:=.append) (xs:=#[.tmp 106, .tmp 110]) rfl ?_);at_builtin;refine Kd.R_append (Kd.int .i64) (w0:=w10) w10.heap.size rfl (.tmp 106) (.tmp 110) 44 3 (.int .i64 0) 8 rfl Tryz.underlying44 qbj rfl (by decide) (by omega) _ ks nk [.int .i64 nk] (fun _=>True) (fun _=>False) rfl rfl ?aP (fun _ hk=>hk.elim) ?aF HO.out HB.out (bk HB.out) ?aL ?_;(case aP=>rfl);(case aF=>exact(fun _ _=>trivial));(case aL=>omega);intro v1 w8 ho hb hg hat;have HO8:=am ho;have HB8:=am hb;clear ho hb hg hat))
     go_roundw
     case rel=>exact⟨k+1,by go_num,HLT.out,⟨by rw[HSu.out];exact HO8.out⟩,HB8⟩
     case measure=>have:=HLT.out;simp[intOf];omega
    ·have hkk:k=np:=by omega
     subst hkk;have d3:decide ((k:Int)<(k:Int))=false:=ah (by omega);obtain⟨Ak,ck,ek⟩:=Kd.R_slice HO.out;subst ek;have BXr:=am (ap BXa.out HB.out);have HXr:=am (HXa.out.below HB.out);have HGr:=am (HGa.out.below HB.out);have HTr:=am (HTa.out.below HB.out);have Kr:=am (aq.step Ka.out (aq.of_below HB.out));have hHr:Hn<wr.heap.size:=d7 HXr.out;have hGr:G<wr.heap.size:=d7 HGr.out;have kb:wr.cell? ⟨w.heap.size,3,none⟩=some (.int .i64 p.batch):=(aj BXr.out 3).trans rfl;have HCn:=am (qci wr p.batch HP.out.b1 HP.out.b2 Ak ck (Hp.keptTo m1 k) _ _ HO.out (by unfold Hp.keptTo;simp;omega) (by unfold Hp.keptTo;simp;omega) (fun x hx=>by
      unfold Hp.keptTo at hx;obtain⟨i,_,rfl⟩:=List.mem_map.1 hx;have:=HTr.out.regs.get (19+i);omega))
     go_wp2_with (first
      |(go_at_call 48;(with_reducible refine HCn.out.mono ?_);rintro e w11 ⟨q,rfl,hc_,hf_,hb⟩;have HCt:=am hc_;have HFr:=am hf_;have HX11:=am (HXr.out.below hb);have HT11:=am (HTr.out.below hb);have HG11:=am (HGr.out.below hb);have K11:=am (aq.step Kr.out (aq.of_below hb));have c7:w11.cell? ⟨Hn,7,none⟩=some (.pointer none):=(aj HX11.out 7).trans rfl;have f7:w11.frozen? ⟨Hn,7,none⟩=false:=ak HX11.out 7;clear hc_ hf_ hb))
     go_ret2;have KS:=aq.set (S:=fun j=>j=Hn) (aq.refl (fun j=>j=Hn) w11) (p:=⟨Hn,7,none⟩) (.inl rfl) (.pointer (some ⟨q.K,0,none⟩));have hfr:=HFr.out;refine⟨K11.out.set (p:=⟨Hn,7,none⟩) (.inr (Nat.le_of_lt hHw)) _,fun _=>⟨⟨M,C,L,T,G,Hn,q⟩,rfl,rfl,rfl,⟨HT11.out.kept KS (fun j hj e=>HNe.out j hj e),HG11.out.kept KS (fun e=>by omega),?_,?_,?_,?_,HMH.out,fun j hj hm=>?_,fun e=>?_⟩,?_⟩,fun h=>absurd C0.out h⟩
     ·rw[HOp.out];exact qsj HX11.out q.K
     ·rw[HOp.out];exact HCt.out.step KS (fun j hj e=>by have:=hfr j hj;omega)
     ·rintro (e|e|e)
      ·exact HNG.out e
      ·dsimp only at e;omega
      ·have:=hfr _ e;dsimp only at this;omega
     ·rintro (e|e|e)
      ·rcases e with e|e|e
       ·exact HT11.out.lm (.inl e)
       ·exact HT11.out.lm (.inr e)
       ·exact HT11.out.tl e.symm
      ·dsimp only at e;omega
      ·have:=hfr _ e;dsimp only at this;omega
     ·have:=hfr _ hj;rcases hm with e|e|e <;> (dsimp only at e;omega)
     ·have:=hfr _ e;dsimp only at this;omega
     ·rintro j ((e|e|e)|e|e)
      ·rcases e with e|e|e
       ·exact .inl e
       ·exact .inr (.inl e)
       ·exact .inr (.inr (by dsimp only at e;omega))
      ·exact .inr (.inr (by dsimp only at e;omega))
      ·have:=hfr _ e;exact .inr (.inr (by omega))
      ·exact .inr (.inr (by dsimp only at e;omega))
      ·exact .inr (.inr (by dsimp only at e;omega))
  ·have b1:(rv != 0)=true:=bne_iff_ne.2 hr0;have HK2:=am (hk2 k2 (an _));have b2:decide (rv>1048576)=false:=ah (by omega);have e3:wrap64 rv=rv:=w64 (by omega);clear hr0 hr1 hk2;go_wp2_with (first
    |(go_at_call 43;(with_reducible refine(yv HT3.out h17).mono ?_);rintro e w4 ⟨G,rfl,hg_,hG_,hb⟩;have hG4:Hn<G:=Nat.lt_of_lt_of_le hH3 hG_;have HBw4:=am (aa HB3.out hb);have HT4:=am (HT3.out.below hb);have HX4:=am (ap HX3.out hb);have BX4:=am (ap BX3.out hb);have HG4:=am hg_;have c6:w4.cell? ⟨Hn,6,none⟩=some (.pointer none):=(aj HX4.out 6).trans rfl;have f6:w4.frozen? ⟨Hn,6,none⟩=false:=ak HX4.out 6;have HB5:=am (HBw4.out.setCell (p:=⟨Hn,6,none⟩) (Nat.le_of_lt hHw) (.pointer (some ⟨G,0,none⟩)));have HX5:=am (qri HX4.out G);have KS:=aq.set (S:=fun j=>j=Hn) (aq.refl (fun j=>j=Hn) w4) (p:=⟨Hn,6,none⟩) (.inl rfl) (.pointer (some ⟨G,0,none⟩));have HT5:=am (HT4.out.kept KS (fun j hj e=>HNe.out j hj e));have HG5:=am (HG4.out.kept KS (fun e=>by omega));have BX5:=am (KS.of BX4.out (fun e=>by omega));have HNG:Aside0 (¬ MCT M C T G):=⟨s8 (by omega) (by omega) (by omega)⟩;clear hg_ hG_ hb KS)
    |(go_at_call 44;(with_reducible refine(HRec.out _ G HT5.out HG5.out HNG.out).mono ?_);rintro e w6 ⟨rfl,ht_,kk_⟩;have HT6:=am ht_;have K6:Aside0 (aq (MC M C) w w6):=⟨(aq.of_below HB5.out:aq (MC M C) w _).trans kk_ (fun j hj hs=>by rcases hs with e|e|e;exact .inl e;exact .inr e;omega)⟩;have HX6:Aside0 (oa w6 Hn M p T (.pointer (some ⟨G,0,none⟩)) (.pointer none) false):=⟨kk_.of HX5.out HMH.out⟩;have HG6:Aside0 (j7 w6 G M T):=⟨kk_.of HG5.out HNG.out⟩;have BX6:=am (kk_.of BX5.out HMB.out);clear ht_ kk_)
    |(go_at_call 20;(with_reducible refine(HWd.out _ G HT6.out HG6.out HX6.out).mono ?_);rintro e w7 ⟨v,rfl,ho,hb⟩;obtain⟨Aw,cw,ew,hcw,hrw⟩:=Kd.R_reads ho;subst ew;have HW7:=am hrw;have HC7:=am hcw;have HT7:=am (HT6.out.below hb);have HX7:=am (HX6.out.below hb);have HG7:=am (HG6.out.below hb);have BX7:=am (ap BX6.out hb);have K7:=am (aq.step K6.out (aq.of_below hb));clear ho hb hcw hrw)
    |(go_at_call 35;(with_reducible refine(HReg.out _ HT7.out.mem).mono ?_);rintro e w' ⟨rfl,rfl⟩)
    |(go_at_call 45;(with_reducible refine(cf.calls k1 Aw cw ws lb true _ HW7.out HC7.out HK1.out).mono ?_);rintro e w8 ⟨v8,rfl,ho,hb⟩;have HW8:=am (Kd.C_below HW7.out hb);have HT8:=am (HT7.out.below hb);have HX8:=am (HX7.out.below hb);have HG8:=am (HG7.out.below hb);have BX8:=am (ap BX7.out hb);have K8:=am (aq.step K7.out (aq.of_below hb));clear ho hb)
    |(go_at_call 46;(with_reducible refine(jn.calls k2 Aw cw ws rv true _ HW8.out HC7.out HK2.out).mono ?_);rintro e w9 ⟨rfl,hb⟩;have HT9:=am (HT8.out.below hb);have HX9:=am (HX8.out.below hb);have HG9:=am (HG8.out.below hb);have BX9:=am (ap BX8.out hb);have K9:=am (aq.step K8.out (aq.of_below hb));clear hb)
    |((with_reducible refine fz (.load 23 (.tmp 3)) rfl ?_);refine bc rfl 23 (.tmp 3) rfl w.heap.size 0 rfl (fk p) _ (fun j v hv=>by rw[Nat.zero_add];exact bt BX9.out j v hv) Tryz.underlying23 rfl jh ?_)
    |(go_at_call 47;refine(n5.calls p.lines p.spare p.period p.batch (np:Int) _ HPg.out).mono ?_;rintro e w10 ⟨rfl,hb⟩;have HTa:=am (HT9.out.below hb);have HXa:=am (HX9.out.below hb);have HGa:=am (HG9.out.below hb);have BXa:=am (ap BX9.out hb);have Ka:=am (aq.step K9.out (aq.of_below hb));clear hb))
   go_loopw [14,93] (fun v i wr=>∃ k:Nat,i=.int .i64 k/\k<=np/\Aside0 (Kd.R (Kd.int .i64) 3 wr w10.heap.size (fun _=>True) v (Hp.keptTo m1 k))/\Aside0 (Below w10.heap.size w10 wr)) (fun _ i _=>np-(intOf i).toNat)
   case atStart=>exact⟨0,rfl,by omega,⟨Kd.R_nil _ _ _ _ _⟩,⟨ai _ _⟩⟩
   case round=>
    obtain⟨k,rfl,hk,HO,HB⟩:=hrel;by_cases hlt:k<np
    ·have HLT:=am hlt;have d3:decide ((k:Int)<(np:Int))=true:=af (by omega);have HSu:Aside0 (Hp.keptTo m1 (k+1)=Hp.keptTo m1 k++[min (m1.regs.getD (19+k) 0) 1099511627776]):=⟨by unfold Hp.keptTo;rw[List.range_succ,List.map_append];rfl⟩;have HRk:Aside0 (∀ (w':World),MemAt w' M C m1->Calls Tryz.prog 35 #[.pointer (some ⟨M,0,none⟩), .int .i64 (19+(k:Int))] w' fun e w''=>e=.returned (.tuple #[.int .u64 (m1.regs.getD (19+k) 0), .int .i64 0])/\w'=w''):=⟨fun w' h1=>by
      have hh:=HRegs.out w' (19+k) (by omega) h1;rw[show((19+k:Nat):Int)=19+(k:Int)by omega]at hh;exact hh⟩
     have hrr:=HTa.out.regs.get (19+k);have hkl:(Hp.keptTo m1 k).length=k:=by unfold Hp.keptTo;rw[List.length_map,List.length_range]
     have HTr:=am (HTa.out.below HB.out);generalize m1.regs.getD (19+k) 0=x at HRk HSu hrr;generalize Hp.keptTo m1 k=ks at HO HSu hkl;have hmn:0<=min x 1099511627776/\min x 1099511627776<=1099511627776:=by omega
     obtain⟨nk,hnk⟩:∃ nk,min x 1099511627776=nk:=⟨_,rfl⟩;rw[hnk]at HSu hmn;go_wp2_with (first
      |(go_at_call 35;(with_reducible refine(HRk.out _ HTr.out.mem).mono ?_);rintro e w' ⟨rfl,rfl⟩)
      |((with_reducible refine b9 (N:=110) rfl ?_);refine mr rfl (.tmp 109) rfl nk ?lv ?_;(case lv=>first|rfl|(show Value.int _ _=_;congr 1;rw[IntKind.wrap_i64];omega)))
      |((with_reducible refine di (b:=.append) (xs:=#[.tmp 106, .tmp 110]) rfl ?_);at_builtin;refine Kd.R_append (Kd.int .i64) (w0:=w10) w10.heap.size rfl (.tmp 106) (.tmp 110) 44 3 (.int .i64 0) 8 rfl Tryz.underlying44 qbj rfl (by decide) (by omega) _ ks nk [.int .i64 nk] (fun _=>True) (fun _=>False) rfl rfl ?aP (fun _ hk=>hk.elim) ?aF HO.out HB.out (bk HB.out) ?aL ?_;(case aP=>rfl);(case aF=>exact(fun _ _=>trivial));(case aL=>omega);intro v1 w8 ho hb hg hat;have HO8:=am ho;have HB8:=am hb;clear ho hb hg hat))
     go_roundw
     case rel=>exact⟨k+1,by go_num,HLT.out,⟨by rw[HSu.out];exact HO8.out⟩,HB8⟩
     case measure=>have:=HLT.out;simp[intOf];omega
    ·have hkk:k=np:=by omega
     subst hkk;have d3:decide ((k:Int)<(k:Int))=false:=ah (by omega);obtain⟨Ak,ck,ek⟩:=Kd.R_slice HO.out;subst ek;have BXr:=am (ap BXa.out HB.out);have HXr:=am (HXa.out.below HB.out);have HGr:=am (HGa.out.below HB.out);have HTr:=am (HTa.out.below HB.out);have Kr:=am (aq.step Ka.out (aq.of_below HB.out));have hHr:Hn<wr.heap.size:=d7 HXr.out;have hGr:G<wr.heap.size:=d7 HGr.out;have kb:wr.cell? ⟨w.heap.size,3,none⟩=some (.int .i64 p.batch):=(aj BXr.out 3).trans rfl;have HCn:=am (qci wr p.batch HP.out.b1 HP.out.b2 Ak ck (Hp.keptTo m1 k) _ _ HO.out (by unfold Hp.keptTo;simp;omega) (by unfold Hp.keptTo;simp;omega) (fun x hx=>by
      unfold Hp.keptTo at hx;obtain⟨i,_,rfl⟩:=List.mem_map.1 hx;have:=HTr.out.regs.get (19+i);omega))
     go_wp2_with (first
      |(go_at_call 48;(with_reducible refine HCn.out.mono ?_);rintro e w11 ⟨q,rfl,hc_,hf_,hb⟩;have HCt:=am hc_;have HFr:=am hf_;have HX11:=am (HXr.out.below hb);have HT11:=am (HTr.out.below hb);have HG11:=am (HGr.out.below hb);have K11:=am (aq.step Kr.out (aq.of_below hb));have c7:w11.cell? ⟨Hn,7,none⟩=some (.pointer none):=(aj HX11.out 7).trans rfl;have f7:w11.frozen? ⟨Hn,7,none⟩=false:=ak HX11.out 7;clear hc_ hf_ hb))
     go_ret2;have KS:=aq.set (S:=fun j=>j=Hn) (aq.refl (fun j=>j=Hn) w11) (p:=⟨Hn,7,none⟩) (.inl rfl) (.pointer (some ⟨q.K,0,none⟩));have hfr:=HFr.out;refine⟨K11.out.set (p:=⟨Hn,7,none⟩) (.inr (Nat.le_of_lt hHw)) _,fun _=>⟨⟨M,C,L,T,G,Hn,q⟩,rfl,rfl,rfl,⟨HT11.out.kept KS (fun j hj e=>HNe.out j hj e),HG11.out.kept KS (fun e=>by omega),?_,?_,?_,?_,HMH.out,fun j hj hm=>?_,fun e=>?_⟩,?_⟩,fun h=>absurd C0.out h⟩
     ·rw[HOp.out];exact qsj HX11.out q.K
     ·rw[HOp.out];exact HCt.out.step KS (fun j hj e=>by have:=hfr j hj;omega)
     ·rintro (e|e|e)
      ·exact HNG.out e
      ·dsimp only at e;omega
      ·have:=hfr _ e;dsimp only at this;omega
     ·rintro (e|e|e)
      ·rcases e with e|e|e
       ·exact HT11.out.lm (.inl e)
       ·exact HT11.out.lm (.inr e)
       ·exact HT11.out.tl e.symm
      ·dsimp only at e;omega
      ·have:=hfr _ e;dsimp only at this;omega
     ·have:=hfr _ hj;rcases hm with e|e|e <;> (dsimp only at e;omega)
     ·have:=hfr _ e;dsimp only at this;omega
     ·rintro j ((e|e|e)|e|e)
      ·rcases e with e|e|e
       ·exact .inl e
       ·exact .inr (.inl e)
       ·exact .inr (.inr (by dsimp only at e;omega))
      ·exact .inr (.inr (by dsimp only at e;omega))
      ·have:=hfr _ e;exact .inr (.inr (by omega))
      ·exact .inr (.inr (by dsimp only at e;omega))
      ·exact .inr (.inr (by dsimp only at e;omega))
 ·have C0:=am c0;have b0:(rc.1 != 0)=true:=bne_iff_ne.2 c0;clear c0;go_wp2_with (first
   |(go_at_call 43;(with_reducible refine(yv HT3.out h17).mono ?_);rintro e w4 ⟨G,rfl,hg_,hG_,hb⟩;have hG4:Hn<G:=Nat.lt_of_lt_of_le hH3 hG_;have HBw4:=am (aa HB3.out hb);have HT4:=am (HT3.out.below hb);have HX4:=am (ap HX3.out hb);have BX4:=am (ap BX3.out hb);have HG4:=am hg_;have c6:w4.cell? ⟨Hn,6,none⟩=some (.pointer none):=(aj HX4.out 6).trans rfl;have f6:w4.frozen? ⟨Hn,6,none⟩=false:=ak HX4.out 6;have HB5:=am (HBw4.out.setCell (p:=⟨Hn,6,none⟩) (Nat.le_of_lt hHw) (.pointer (some ⟨G,0,none⟩)));have HX5:=am (qri HX4.out G);have KS:=aq.set (S:=fun j=>j=Hn) (aq.refl (fun j=>j=Hn) w4) (p:=⟨Hn,6,none⟩) (.inl rfl) (.pointer (some ⟨G,0,none⟩));have HT5:=am (HT4.out.kept KS (fun j hj e=>HNe.out j hj e));have HG5:=am (HG4.out.kept KS (fun e=>by omega));have BX5:=am (KS.of BX4.out (fun e=>by omega));have HNG:Aside0 (¬ MCT M C T G):=⟨s8 (by omega) (by omega) (by omega)⟩;clear hg_ hG_ hb KS)
   |(go_at_call 44;(with_reducible refine(HRec.out _ G HT5.out HG5.out HNG.out).mono ?_);rintro e w6 ⟨rfl,ht_,kk_⟩;have HT6:=am ht_;have K6:Aside0 (aq (MC M C) w w6):=⟨(aq.of_below HB5.out:aq (MC M C) w _).trans kk_ (fun j hj hs=>by rcases hs with e|e|e;exact .inl e;exact .inr e;omega)⟩;have HX6:Aside0 (oa w6 Hn M p T (.pointer (some ⟨G,0,none⟩)) (.pointer none) false):=⟨kk_.of HX5.out HMH.out⟩;have HG6:Aside0 (j7 w6 G M T):=⟨kk_.of HG5.out HNG.out⟩;have BX6:=am (kk_.of BX5.out HMB.out);clear ht_ kk_))
  go_ret2;exact⟨K6.out,fun h=>absurd h C0.out,fun _=>⟨rfl,HT6.out.mem⟩⟩
end
theorem qe2{l:List Int}(h:l.length=8){k:Nat}(hk:k<8)(w:World):(part 25 (br l).toArray (k*Tryz.prog.cellsOf 25)).run Tryz.prog w=.ok (.int .u64 (l.getD k 0)) w:=by
 obtain⟨a,b,c,d,e,f,g,i,rfl⟩:=qhr h
 match k,hk with
 |0,_=>rfl
 |1,_=>rfl
 |2,_=>rfl
 |3,_=>rfl
 |4,_=>rfl
 |5,_=>rfl
 |6,_=>rfl
 |7,_=>rfl
theorem qda{a b:List Int}(ha:a.length=8)(hb:b.length=8)(w:World)(d:Nat):∀ is:List Nat,(∀ i∈is,i<8)->(Op.eqItems (d+1) 25 (Tryz.prog.cellsOf 25) (br a).toArray (br b).toArray is).run Tryz.prog w=.ok (decide (∀ i∈is,a.getD i 0=b.getD i 0)) w
 |[],_=>by simp[Op.eqItems]
 |i::is,h=>by
  have ih:=qda ha hb w d is (fun j hj=>h j (List.mem_cons_of_mem _ hj))
  have e1:=qe2 ha (h i List.mem_cons_self) w
  have e2:=qe2 hb (h i List.mem_cons_self) w
  have e3:(Op.equalIn (d+1) 25 (.int .u64 (a.getD i 0)) (.int .u64 (b.getD i 0))).run Tryz.prog w=.ok (a.getD i 0==b.getD i 0) w:=by
   unfold Op.equalIn
   rw[Sem.run_bind,run_underlying Tryz.underlying25 w]
   simp
  simp only[Op.eqItems,Sem.run_bind,e1,e2,e3,Result.andThen_ok]
  by_cases hab:a.getD i 0=b.getD i 0
  ·have:(a.getD i 0==b.getD i 0)=true:=beq_iff_eq.2 hab
   rw[this]
   simp only[Bool.not_true,Bool.false_eq_true,if_false]
   rw[ih]
   congr 1
   simp only[List.mem_cons,forall_eq_or_imp,hab,true_and]
  ·have:(a.getD i 0==b.getD i 0)=false:=beq_eq_false_iff_ne.2 hab
   rw[this]
   simp only[Bool.not_false,if_true,Sem.run_pure]
   congr 1
   simp only[List.mem_cons,forall_eq_or_imp,hab,false_and,decide_false]
theorem qnb{a b:List Int}(ha:a.length=8)(hb:b.length=8)(w:World):(binOp .neq 73 (.agg (br a).toArray) (.agg (br b).toArray)).run Tryz.prog w=.ok (.bool (decide (a≠b))) w:=by
 have h:(Op.equal 73 (.agg (br a).toArray) (.agg (br b).toArray)).run Tryz.prog w=.ok (decide (a=b)) w:=by
  unfold Op.equal;obtain⟨i,hi⟩:∃ i,Tryz.prog.info? 25=some i:=Option.isSome_iff_exists.1 (by kernel_rfl);rw[show Op.maxDepth=(Op.maxDepth-2)+1+1 from by decide,run_equalIn_array _ _ _ _ Tryz.underlying73 hi,qda ha hb w _ _ (fun i hi=>List.mem_range.1 hi)];congr 1;rw[decide_eq_decide];constructor
  ·intro hh;refine List.ext_getElem (by rw[ha,hb]) (fun i h1 h2=>?_);have:=hh i (List.mem_range.2 (by omega));rw[ax,ax,bx h1,bx h2]at this;simpa using this
  ·rintro rfl i _;rfl
 unfold binOp;simp only[Sem.run_bind,h,Result.andThen_ok,Sem.run_pure];simp
theorem qlr:Tryz.prog.eqGuardType Tryz.prog.depth 73=false:=by kernel_rfl
theorem yh{o:Oper}{a:Act}{w:World}(x y:Operand)(ho:o.op=.binOp .neq 73 x y 73)(l m:List Int)(hl:l.length=8)(hm:m.length=8)(hx:a.eval x=.agg (br l).toArray)(hy:a.eval y=.agg (br m).toArray):(execOp a.eval o).run Tryz.prog w=.ok (.value (.bool (decide (l≠m)))) w:=by
 have h:=qnb hl hm w;unfold execOp;simp only[ho,hx,hy];have hg:(eqGuard .neq 73 x y (.agg (br l).toArray) (.agg (br m).toArray)).run Tryz.prog w=.ok () w:=by unfold eqGuard;simp[qlr]
 rw[Sem.run_bind,Sem.run_bind,hg];simp only[Result.andThen_ok,h,Sem.run_pure]
namespace Hp
def firstW(p:Pn):List Int:=(List.replicate (p.lines*8).toNat 0).set 0 (2*(p.lines*8))
def fmtAt(p:Pn)(m:Mem):Nat->Int×Mem×Int
 |0=>(0,m,0)
 |k+1=>if(fmtAt p m k).1=0 then(if(Trn.get p.shape (fmtAt p m k).2.1 (16+(k:Int))).1=fd (firstW p) k then fmtAt p m k else Trn.put p.shape (fmtAt p m k).2.1 (fmtAt p m k).2.2 (16+(k:Int)) (fd (firstW p) k))else fmtAt p m k
end Hp
theorem po(p:Pn):(Hp.firstW p).length=(p.lines*8).toNat:=by unfold Hp.firstW;simp
theorem qhi{p:Pn}(h:p.Ok):oc.f (p.lines*8)=some (Hp.firstW p):=by
 have h1:=h.l1;have h2:=h.l2;rw[qmy,if_pos (by unfold sx;omega)];rfl
theorem qlg{p:Pn}{m:Mem}{j:Nat}(h:(Hp.fmtAt p m j).1≠0):∀ n,j<=n->Hp.fmtAt p m n=Hp.fmtAt p m j:=by
 intro n hn
 induction n with
 |zero=>rw[show j=0 by omega]
 |succ n ih=>
  by_cases e:j=n+1
  ·rw[e]
  ·rw[Hp.fmtAt,ih (by omega),if_neg h]
structure FmtOk (p:Pn) (m:Mem):Prop where
 up:m.down=false
 len:(m.cells.length:Int)=16+p.lines+1+p.spare
 regs:gf m
 may:qbv (Lns.tableTo m p.shape.spares) (p.shape.n+1)
 zero:∀ i,i<35->m.regs.getD i 0=0
 st:∀ k:Nat,(k:Int)<p.lines->(Hp.fmtAt p m k).1=0->(Hp.fmtAt p m k).2.1.down=false/\Lg.Rd p.shape (Hp.fmtAt p m k).2.1/\(Hp.fmtAt p m k).2.1.regs.getD 0 0+2<=4611686018427387904
section
variable{w:World}{M C:Nat}{m:Mem}{p:Pn}
theorem qfk (h : MemAt w M C m) (hp : p.Ok) (hf : FmtOk p m) : Calls Tryz.prog 10 #[.pointer (some ⟨M, 0, none⟩), oz p] w fun e w' => e = .returned (.int .i64 (Hp.fmtAt p m p.lines.toNat).1) ∧ MemAt w' M C (Hp.fmtAt p m p.lines.toNat).2.1 ∧ aq (MC M C) w w' := by
 have HM:=am (fun(w':World) (hw':MemAt w' M C m)=>yl (p:=p) hw' hp hf.len);have HLn:=am (fun(w':World) (hw':MemAt w' M C m)=>vo (p:=p) hw' hp hf.regs hf.len hf.up hf.may (by rw[hf.zero 0 (by omega)];decide));have H:=am h;have BX:Aside0 ((w.alloc (.cells (fk p).toArray 23)).heap[w.heap.size]? =some (.cells (fk p).toArray 23 (0,0))):=⟨heap_alloc_new w _⟩;have HBx:Aside0 (Below w.heap.size w (w.alloc (.cells (fk p).toArray 23))):=⟨(ai _ _).alloc (an _) _⟩;have HD:=am hf.up;have HF:=am hf;have HP:=am hp;have hl1:=hp.l1;have hl2:=hp.l2;clear h hp hf;go_enter Tryz.func10,Tryz.ntmps10;go_wp2_with (first
  |((with_reducible refine fz (.load 23 (.tmp 3)) rfl ?_);refine bc rfl 23 (.tmp 3) rfl w.heap.size 0 rfl (fk p) _ (fun j v hv=>by rw[Nat.zero_add];exact bt BX.out j v hv) Tryz.underlying23 rfl jh ?_)
  |(go_at_call 34;refine(HM.out _ (H.out.alloc _)).mono ?_;rintro e w1 ⟨rfl,hb⟩;rw[HD.out];have HB1:=am (aa HBx.out hb);have BX1:=am (ap BX.out hb);have H1:=am ((H.out.alloc _).below hb);clear hb))
 go_loopw [20] (fun i wr=>∃ k:Nat,i=.int .i64 k/\k<=35/\Aside0 (wr=w1)) (fun i _=>35-(intOf i).toNat)
 case atStart=>exact⟨0,rfl,by omega,⟨rfl⟩⟩
 case round =>
  obtain⟨k,rfl,hk,HW⟩:=hrel;have hw:=HW.out.symm;subst hw;clear HW;by_cases hlt:k<35
  ·have d3:decide ((k:Int)<35)=true:=af (by omega);have hz:=HF.out.zero k hlt;have HRk:Aside0 (Calls Tryz.prog 35 #[.pointer (some ⟨M,0,none⟩), .int .i64 (k:Int)] w1 fun e w''=>e=.returned (.tuple #[.int .u64 0, .int .i64 0])/\w1=w''):=⟨by
    have hh:=kz H1.out (k:Int);have E:Nvm.reg m (k:Int)=(0,0):=by unfold Nvm.reg Nvm.hasReg;rw[HD.out];have h1:decide ((k:Int)>=0)=true:=af (by omega);have h2:decide ((k:Int)<35)=true:=af (by omega);rw[h1,h2,Int.toNat_natCast,hz];rfl
    rw[E]at hh;exact hh⟩
   clear hz;go_wp2_with (first
    |(go_at_call 35;(with_reducible refine HRk.out.mono ?_);rintro e w' ⟨rfl,rfl⟩))
   go_roundw
   case rel=>exact⟨k+1,by go_num,by omega,⟨trivial⟩⟩
   case measure=>simp[intOf];omega
  ·have hkk : k = 35 := by omega
   subst hkk;have HPw:=am (ql0 HP.out);have HFi:=am (qhi HP.out);have HFl:=am (po p);have d3:decide (((35:Nat):Int)<35)=false:=rfl;have HFa:Aside0 (∀ k,Hp.fmtAt p m (k+1)=if(Hp.fmtAt p m k).1=0 then(if(Trn.get p.shape (Hp.fmtAt p m k).2.1 (16+(k:Int))).1=fd (Hp.firstW p) k then Hp.fmtAt p m k else Trn.put p.shape (Hp.fmtAt p m k).2.1 (Hp.fmtAt p m k).2.2 (16+(k:Int)) (fd (Hp.firstW p) k))else Hp.fmtAt p m k):=⟨fun _=>rfl⟩;have HF0:Aside0 (Hp.fmtAt p m 0=(0,m,0)):=⟨rfl⟩;go_wp2_with (first
    |((with_reducible refine fz (.load 23 (.tmp 3)) rfl ?_);first|(refine bc rfl 23 (.tmp 3) rfl w.heap.size 0 rfl (fk p) _ (fun j v hv=>by rw[Nat.zero_add];exact bt BX1.out j v hv) Tryz.underlying23 rfl jh ?_)|(refine bc rfl 23 (.tmp 3) rfl w.heap.size 0 rfl (fk p) _ (fun j v hv=>by rw[Nat.zero_add];exact bt BX2.out j v hv) Tryz.underlying23 rfl jh ?_))
    |(go_at_call 36;refine(HLn.out _ H1.out).mono ?_;rintro e w2 ⟨L,T,rfl,ht,hL,hT,hb⟩;have HB2:=am (aa HB1.out hb);have BX2:=am (ap BX1.out hb);have HT2:=am ht;have hTw:w.heap.size<T:=Nat.lt_of_lt_of_le (d7 BX1.out) hT;clear ht hL hT hb)
    |(go_at_call 38;refine(pd.calls p.lines p.spare p.period p.batch (p.lines*8) _ HPw.out).mono ?_;rintro e w3 ⟨rfl,hb⟩;have HB3:=am (aa HB2.out hb);have BX3:=am (ap BX2.out hb);have HT3:=am (HT2.out.below hb);clear hb)
    |(go_at_call 37;(with_reducible refine(oc.calls (p.lines*8) (Hp.firstW p) _ HFi.out).mono ?_);rintro e w4 ⟨v,rfl,ho,hb⟩;obtain⟨Aw,cw,ew⟩:=Kd.R_slice ho;subst ew;have HW4:=am ho;have HB4:=am (aa HB3.out hb);have BX4:=am (ap BX3.out hb);have HT4:=am (HT3.out.below hb);have kl:w4.cell? ⟨w.heap.size,0,none⟩=some (.int .i64 p.lines):=(aj BX4.out 0).trans rfl;clear ho hb))
   have hmc:=H.out.lt;have hw3:w.heap.size<w3.heap.size:=d7 BX3.out;have hT3:T<w3.heap.size:=d7 HT3.out.tur;have HB34:=HB4.out.size;have HNb:Aside0 (∀ j,w3.heap.size<=j→¬ MCT M C T j):=⟨fun j hj=>s8 (by omega) (by omega) (by omega)⟩;have HNB:Aside0 (¬ MCT M C T w.heap.size):=⟨s8 (by omega) (by omega) (by omega)⟩;have hd0:(0:Int)<=p.lines:=by omega
   go_loopw [40] (fun i wr2=>∃ k:Nat,i=.int .i64 k/\(k:Int)<=p.lines/\Aside0 ((Hp.fmtAt p m k).1=0)/\Aside0 (TurnAt wr2 M C L T p.shape (Hp.fmtAt p m k).2.1 (Hp.fmtAt p m k).2.2)/\Aside0 (aq (MCT M C T) w4 wr2)) (fun i _=>p.lines.toNat-(intOf i).toNat)
   case atStart=>exact⟨0,rfl,hd0,⟨rfl⟩,HT4,⟨aq.refl _ _⟩⟩
   case round =>
    obtain⟨k,rfl,hk,HE,HTr,Kr⟩:=hrel;have BXr:=am (Kr.out.of BX4.out HNB.out);have HWr:=am (oq HW4.out Kr.out HNb.out);by_cases hlt:(k:Int)<p.lines
    ·have d3:decide ((k:Int)<p.lines)=true:=af hlt;have HSt:=am (HF.out.st k hlt HE.out);have HFk:=am (HFa.out k);have HHm:=am (qdj HP.out (i:=(k:Int)) (by omega) hlt);have hfl1:k*8+8<=(Hp.firstW p).length:=by rw[HFl.out];omega
     have hfl2:(Hp.firstW p).length<=1000000:=by rw[HFl.out];omega
     have HL8:=am (ii hfl1);obtain⟨sk,hsk⟩:∃ sk,Hp.fmtAt p m k=sk:=⟨_,rfl⟩;have HSk:=am hsk;rw[hsk]at HE HTr HSt HFk;clear hsk;obtain⟨e0,mk,pk⟩:=sk;dsimp only at HE HTr HSt HFk;obtain rfl:=HE.out;have hln:0<=16+(k:Int)/\16+(k:Int)<p.shape.n:=⟨by omega,by show 16+(k:Int)<16+p.lines;omega⟩;have HG8:=am (ol HTr.out (16+(k:Int)));have HGet:Aside0 (∀ w',TurnAt w' M C L T p.shape mk pk->Calls Tryz.prog 39 #[.pointer (some ⟨T,0,none⟩), .int .i64 (16+(k:Int))] w' fun e w''=>e=.returned (.tuple #[iw (Trn.get p.shape mk (16+(k:Int))).1, .int .i64 0])/\Below w'.heap.size w' w''):=⟨fun w' hw'=>by
      have hh:=nu hw' hln.1 hln.2;rw[(HSt.out.2.1 _ hln.1 hln.2).1]at hh;exact hh⟩
     have HPut:Aside0 (∀ w',TurnAt w' M C L T p.shape mk pk->Calls Tryz.prog 42 #[.pointer (some ⟨T,0,none⟩), .int .i64 (16+(k:Int)),iw (fd (Hp.firstW p) k)] w' fun e w''=>e=.returned (.int .i64 (Trn.put p.shape mk pk (16+(k:Int)) (fd (Hp.firstW p) k)).1)/\TurnAt w'' M C L T p.shape (Trn.put p.shape mk pk (16+(k:Int)) (fd (Hp.firstW p) k)).2.1 (Trn.put p.shape mk pk (16+(k:Int)) (fd (Hp.firstW p) k)).2.2/\aq (MCT M C T) w' w''):=⟨fun w' hw'=>yy hw' HSt.out.2.2 hln.1 hln.2 _ HL8.out⟩;generalize (Trn.get p.shape mk (16+(k:Int))).1=gl at HG8 HGet HFk;obtain⟨pr,hpr⟩:∃ pr,Trn.put p.shape mk pk (16+(k:Int)) (fd (Hp.firstW p) k)=pr:=⟨_,rfl⟩;rw[hpr]at HPut HFk;clear hpr hln HSt;by_cases hgl:gl=fd (Hp.firstW p) k
     ·have hd:decide (gl≠fd (Hp.firstW p) k)=false:=ah (fun h=>h hgl);have HE1:Aside0 (Hp.fmtAt p m (k+1)=(0,mk,pk)):=⟨by rw[HFk.out,if_pos rfl,if_pos hgl]⟩;clear hgl HFk;go_wp2_with (first
       |((with_reducible refine fz (.load 23 (.tmp 3)) rfl ?_);refine bc rfl 23 (.tmp 3) rfl w.heap.size 0 rfl (fk p) _ (fun j v hv=>by rw[Nat.zero_add];exact bt BXr.out j v hv) Tryz.underlying23 rfl jh ?_)
       |(go_at_call 40;refine(it.calls p.lines p.spare p.period p.batch (k:Int) (16+(k:Int)) _ HHm.out).mono ?_;rintro e w5 ⟨rfl,hb⟩;have HT5:=am (HTr.out.below hb);have HW5:=am (Kd.R_below HWr.out hb);have BX5:=am (ap BXr.out hb);have K5:=am (aq.step Kr.out (aq.of_below hb));clear hb)
       |(go_at_call 39;(with_reducible refine(HGet.out _ HT5.out).mono ?_);rintro e w6 ⟨rfl,hb⟩;have HT6:=am (HT5.out.below hb);have HW6:=am (Kd.R_below HW5.out hb);have BX6:=am (ap BX5.out hb);have K6:=am (aq.step K5.out (aq.of_below hb));clear hb)
       |((with_reducible refine bp (t:=73) (p:=12) rfl ?_);refine o3 rfl (.tmp 12) (.tmp 49) rfl gl rfl rfl HG8.out ?_;intro w7 BZ HZ;have HT7:=am (HT6.out.below HZ.out);have HW7:=am (Kd.R_below HW6.out HZ.out);have BX7:=am (ap BX6.out HZ.out);have K7:=am (aq.step K6.out (aq.of_below HZ.out))))
      refine dj (n:=9) (S:=fun w'=>w'.heap[w6.heap.size]? =some (.cells (br gl).toArray 73 (0,0))) (ds:=[]) (onA 9 0) (by kernel_rfl) rfl rfl BZ.out (fun hHeld=>?_);refine pu 0 (some 51) (bA 9 1) (h:=?_);refine pu 1 (some 52) (bA 9 3) (h:=?_);refine pu 2 (some 53) (bA 9 7) (h:=?_);refine pu 4 (some 55) (bA 9 23) (h:=?_);refine pu 5 (some 56) (bA 9 55) (h:=?_);refine tv 3 (some 54) (bA 9 63) rfl hHeld (fun w' hs=>dh 73 (.tmp 12) rfl w6.heap.size 0 rfl (br gl) _ (fun j v hv=>by rw[Nat.zero_add];exact bt hs j v hv) Tryz.underlying73 rfl (by rw[au,HG8.out];exact ez)) (h:=?_);refine ip (i:=6) (N:=some 57) (bA 9 127) rfl rfl (by kernel_rfl) (by decide) (fun K hK=>?_);refine fv Tryz.func41 (by kernel_rfl) rfl #[.slice Aw (Hp.firstW p).length cw, .int .i64 (k:Int)] (by rfl) rfl rfl (by simp only[List.map_toArray,List.map_cons,List.map_nil];rfl) ?_;have HWd:=Kd.R_below HW7.out (bg (ai w7.heap.size w7));refine(ml _ _ Aw cw (Hp.firstW p) HWd k (by rw[HFl.out];omega) (by rw[HFl.out];omega)).mono ?_;rintro e w8 ⟨rfl,hb⟩;refine⟨_,rfl,?_⟩;have hb8:=aa (bg (ai w7.heap.size w7)) hb;have HT8:=am (HT7.out.below hb8);have HW8:=am (Kd.R_below HW7.out hb8);have BX8:=am (ap BX7.out hb8);have K8:=am (aq.step K7.out (aq.of_below hb8));refine hK.out _ _ (ap BZ.out hb8) (fun hHeld=>?_);clear hK K hb hb8 hHeld HWd;refine nm ?_;refine pu (v:=.bool (decide (gl≠fd (Hp.firstW p) k))) 7 (some 58) (bA 9 255) (hy:=fun w'=>yh (.tmp 54) (.tmp 57) rfl gl (fd (Hp.firstW p) k) HG8.out HL8.out rfl rfl) (h:=?_);rw[hd];refine pu 8 (some 59) (bA 9 511) (h:=?_);refine fa (by kernel_rfl) ?_;clear hd;go_wp2;go_roundw
      case rel=>exact⟨k+1,by go_num,by omega,⟨by rw[HE1.out]⟩,⟨by rw[HE1.out];exact HT8.out⟩,K8⟩
      case measure=>simp[intOf];omega
     ·have hd:decide (gl≠fd (Hp.firstW p) k)=true:=af hgl;have HE1:Aside0 (Hp.fmtAt p m (k+1)=pr):=⟨by rw[HFk.out,if_pos rfl,if_neg hgl]⟩;clear hgl HFk;go_wp2_with (first
       |((with_reducible refine fz (.load 23 (.tmp 3)) rfl ?_);refine bc rfl 23 (.tmp 3) rfl w.heap.size 0 rfl (fk p) _ (fun j v hv=>by rw[Nat.zero_add];exact bt BXr.out j v hv) Tryz.underlying23 rfl jh ?_)
       |(go_at_call 40;refine(it.calls p.lines p.spare p.period p.batch (k:Int) (16+(k:Int)) _ HHm.out).mono ?_;rintro e w5 ⟨rfl,hb⟩;have HT5:=am (HTr.out.below hb);have HW5:=am (Kd.R_below HWr.out hb);have BX5:=am (ap BXr.out hb);have K5:=am (aq.step Kr.out (aq.of_below hb));clear hb)
       |(go_at_call 39;(with_reducible refine(HGet.out _ HT5.out).mono ?_);rintro e w6 ⟨rfl,hb⟩;have HT6:=am (HT5.out.below hb);have HW6:=am (Kd.R_below HW5.out hb);have BX6:=am (ap BX5.out hb);have K6:=am (aq.step K5.out (aq.of_below hb));clear hb)
       |((with_reducible refine bp (t:=73) (p:=12) rfl ?_);refine o3 rfl (.tmp 12) (.tmp 49) rfl gl rfl rfl HG8.out ?_;intro w7 BZ HZ;have HT7:=am (HT6.out.below HZ.out);have HW7:=am (Kd.R_below HW6.out HZ.out);have BX7:=am (ap BX6.out HZ.out);have K7:=am (aq.step K6.out (aq.of_below HZ.out))))
      refine dj (n:=9) (S:=fun w'=>w'.heap[w6.heap.size]? =some (.cells (br gl).toArray 73 (0,0))) (ds:=[]) (onA 9 0) (by kernel_rfl) rfl rfl BZ.out (fun hHeld=>?_);refine pu 0 (some 51) (bA 9 1) (h:=?_);refine pu 1 (some 52) (bA 9 3) (h:=?_);refine pu 2 (some 53) (bA 9 7) (h:=?_);refine pu 4 (some 55) (bA 9 23) (h:=?_);refine pu 5 (some 56) (bA 9 55) (h:=?_);refine tv 3 (some 54) (bA 9 63) rfl hHeld (fun w' hs=>dh 73 (.tmp 12) rfl w6.heap.size 0 rfl (br gl) _ (fun j v hv=>by rw[Nat.zero_add];exact bt hs j v hv) Tryz.underlying73 rfl (by rw[au,HG8.out];exact ez)) (h:=?_);refine ip (i:=6) (N:=some 57) (bA 9 127) rfl rfl (by kernel_rfl) (by decide) (fun K hK=>?_);refine fv Tryz.func41 (by kernel_rfl) rfl #[.slice Aw (Hp.firstW p).length cw, .int .i64 (k:Int)] (by rfl) rfl rfl (by simp only[List.map_toArray,List.map_cons,List.map_nil];rfl) ?_;have HWd:=Kd.R_below HW7.out (bg (ai w7.heap.size w7));refine(ml _ _ Aw cw (Hp.firstW p) HWd k (by rw[HFl.out];omega) (by rw[HFl.out];omega)).mono ?_;rintro e w8 ⟨rfl,hb⟩;refine⟨_,rfl,?_⟩;have hb8:=aa (bg (ai w7.heap.size w7)) hb;have HT8:=am (HT7.out.below hb8);have HW8:=am (Kd.R_below HW7.out hb8);have BX8:=am (ap BX7.out hb8);have K8:=am (aq.step K7.out (aq.of_below hb8));refine hK.out _ _ (ap BZ.out hb8) (fun hHeld=>?_);clear hK K hb hb8 hHeld HWd;refine nm ?_;refine pu (v:=.bool (decide (gl≠fd (Hp.firstW p) k))) 7 (some 58) (bA 9 255) (hy:=fun w'=>yh (.tmp 54) (.tmp 57) rfl gl (fd (Hp.firstW p) k) HG8.out HL8.out rfl rfl) (h:=?_);rw[hd];refine pu 8 (some 59) (bA 9 511) (h:=?_);refine fa (by kernel_rfl) ?_;clear hd;by_cases c0:pr.1=0
      ·have b1:(pr.1 != 0)=false:=bne_eq_false_iff_eq.2 c0;have C0:=am c0;clear c0;go_wp2_with (first
        |((with_reducible refine fz (.load 23 (.tmp 3)) rfl ?_);refine bc rfl 23 (.tmp 3) rfl w.heap.size 0 rfl (fk p) _ (fun j v hv=>by rw[Nat.zero_add];exact bt BX8.out j v hv) Tryz.underlying23 rfl jh ?_)
        |(go_at_call 40;refine(it.calls p.lines p.spare p.period p.batch (k:Int) (16+(k:Int)) _ HHm.out).mono ?_;rintro e w9 ⟨rfl,hb⟩;have HT9:=am (HT8.out.below hb);have HW9:=am (Kd.R_below HW8.out hb);have K9:=am (aq.step K8.out (aq.of_below hb));clear hb)
        |(go_at_call 41;(with_reducible refine(ml _ _ Aw cw (Hp.firstW p) HW9.out k hfl1 hfl2).mono ?_);rintro e w10 ⟨rfl,hb⟩;have HT10:=am (HT9.out.below hb);have K10:=am (aq.step K9.out (aq.of_below hb));clear hb)
        |(go_at_call 42;(with_reducible refine(HPut.out _ HT10.out).mono ?_);rintro e w11 ⟨rfl,ht_,kk_⟩;have HT11:=am ht_;have K11:=am (aq.step K10.out kk_);clear ht_ kk_))
       go_roundw
       case rel=>exact⟨k+1,by go_num,by omega,⟨by rw[HE1.out];exact C0.out⟩,⟨by rw[HE1.out];exact HT11.out⟩,K11⟩
       case measure=>simp[intOf];omega
      ·have b1:(pr.1 != 0)=true:=bne_iff_ne.2 c0;have C0:=am c0;clear c0;go_wp2_with (first
        |((with_reducible refine fz (.load 23 (.tmp 3)) rfl ?_);refine bc rfl 23 (.tmp 3) rfl w.heap.size 0 rfl (fk p) _ (fun j v hv=>by rw[Nat.zero_add];exact bt BX8.out j v hv) Tryz.underlying23 rfl jh ?_)
        |(go_at_call 40;refine(it.calls p.lines p.spare p.period p.batch (k:Int) (16+(k:Int)) _ HHm.out).mono ?_;rintro e w9 ⟨rfl,hb⟩;have HT9:=am (HT8.out.below hb);have HW9:=am (Kd.R_below HW8.out hb);have K9:=am (aq.step K8.out (aq.of_below hb));clear hb)
        |(go_at_call 41;(with_reducible refine(ml _ _ Aw cw (Hp.firstW p) HW9.out k hfl1 hfl2).mono ?_);rintro e w10 ⟨rfl,hb⟩;have HT10:=am (HT9.out.below hb);have K10:=am (aq.step K9.out (aq.of_below hb));clear hb)
        |(go_at_call 42;(with_reducible refine(HPut.out _ HT10.out).mono ?_);rintro e w11 ⟨rfl,ht_,kk_⟩;have HT11:=am ht_;have K11:=am (aq.step K10.out kk_);clear ht_ kk_))
       have HEnd:Aside0 (Hp.fmtAt p m p.lines.toNat=pr):=⟨by rw[qlg (j:=k+1) (by rw[HE1.out];exact C0.out) _ (by omega),HE1.out]⟩;go_ret;rw[HEnd.out];exact⟨rfl,HT11.out.mem,(aq.of_below HB4.out:aq (MC M C) w w4).trans K11.out (fun j hj hs=>by rcases hs with e|e|e;exact .inl e;exact .inr e;omega)⟩
    ·have hkk:k=p.lines.toNat:=by omega
     subst hkk;have d3:decide (((p.lines.toNat:Nat):Int)<p.lines)=false:=ah hlt;go_wp2;go_ret;exact⟨by rw[HE.out];rfl,HTr.out.mem,(aq.of_below HB4.out:aq (MC M C) w w4).trans Kr.out (fun j hj hs=>by rcases hs with e|e|e;exact .inl e;exact .inr e;omega)⟩
end
def qib(p:Pn)(M:Nat)(hv:Value)(cost:Int):List Value:=[.int .i64 p.lines, .int .i64 p.spare, .int .i64 p.period, .int .i64 p.batch, .pointer (some ⟨M,0,none⟩),hv, .int .i64 cost]
def nh(w:World)(W:Nat)(p:Pn)(M:Nat)(hv:Value)(cost:Int):Prop:=w.heap[W]? =some (.cells (qib p M hv cost).toArray 104 (0,0))
theorem nh.kept{w w':World}{W M:Nat}{p:Pn}{hv:Value}{cost:Int}{S:Nat->Prop}(h:nh w W p M hv cost)(k:aq S w w')(hS:¬ S W):nh w' W p M hv cost:=k.of h hS
theorem nh.below{w w':World}{W M:Nat}{p:Pn}{hv:Value}{cost:Int}(h:nh w W p M hv cost)(hb:Below w.heap.size w w'):nh w' W p M hv cost:=ap h hb
theorem qmd{p:Pn}{M:Nat}{hv:Value}{cost:Int}(j:Nat)(v:Value)(h:(fk p)[j]? =some v):(qib p M hv cost)[j]? =some v:=by
 have hj:=(List.getElem?_eq_some_iff.1 h).1;rw[show qib p M hv cost=fk p++[.pointer (some ⟨M,0,none⟩),hv, .int .i64 cost]from rfl,List.getElem?_append_left hj];exact h
section
variable{w:World}{W M:Nat}{p:Pn}{hv:Value}{cost:Int}
theorem nh.heap(h:nh w W p M hv cost)(hv':Value):nh (w.setCell ⟨W,5,none⟩ hv') W p M hv' cost:=by
 show(w.setCell ⟨W,5,none⟩ hv').heap[W]? =_;rw[heap_setCell_same _ _ _ _ _ _ h];rfl
theorem nh.costs(h:nh w W p M hv cost)(c:Int):nh (w.setCell ⟨W,6,none⟩ (.int .i64 c)) W p M hv c:=by
 show(w.setCell ⟨W,6,none⟩ _).heap[W]? =_;rw[heap_setCell_same _ _ _ _ _ _ h];rfl
theorem qg4(h:nh w W p M hv cost):Calls Tryz.prog 18 #[.pointer (some ⟨W,0,none⟩)] w fun e w'=>e=.returned hv/\w=w':=by
 have k1:w.cell? ⟨W,5,none⟩=some hv:=(aj h 5).trans rfl;clear h;go_enter Tryz.func18,Tryz.ntmps18;go_wp2;go_ret;exact⟨rfl,rfl⟩
theorem qd8(h:nh w W p M hv cost):Calls Tryz.prog 29 #[.pointer (some ⟨W,0,none⟩)] w fun e w'=>e=.returned (.pointer (some ⟨M,0,none⟩))/\w=w':=by
 have k1:w.cell? ⟨W,4,none⟩=some (.pointer (some ⟨M,0,none⟩)):=(aj h 4).trans rfl;clear h;go_enter Tryz.func29,Tryz.ntmps29;go_wp2;go_ret;exact⟨rfl,rfl⟩
theorem qmc(h:nh w W p M hv cost)(F:Option Addr->Int->World->Prop)(hF:∀ w',Below w.heap.size w w'→Calls Tryz.prog 11 #[.pointer (some ⟨M,0,none⟩),oz p] w' fun e w''=>∃ a n,e=.returned (.tuple #[.pointer a, .int .i64 n])/\F a n w''∧nh w'' W p M hv cost):Calls Tryz.prog 59 #[.pointer (some ⟨W,0,none⟩)] w fun e w''=>∃ a n w1,e=.returned (.int .i64 n)/\F a n w1/\nh w1 W p M hv cost/\w''=w1.setCell ⟨W,5,none⟩ (.pointer a):=by
 have H:=am h;have HF:=am hF;clear h hF;go_enter Tryz.func59,Tryz.ntmps59;go_wp2;refine dj (n:=14) (S:=fun w'=>nh w' W p M hv cost) (ds:=[8]) (onA 14 0) (by kernel_rfl) rfl rfl H.out (fun hHeld=>?_);refine pu 0 (some 6) (bA 14 1) (h:=?_);refine pu 1 (some 7) (bA 14 3) (h:=?_);refine pu 2 (some 8) (bA 14 7) (h:=?_);refine pu 4 (some 10) (bA 14 23) (h:=?_);refine pu 5 (some 11) (bA 14 55) (h:=?_);refine pu 6 (some 12) (bA 14 119) (h:=?_);refine tv 3 (some 9) (bA 14 127) rfl hHeld (fun w' hs=>aw 26 (.tmp 8) rfl W 4 (.pointer (some ⟨M,0,none⟩)) rfl ((aj hs 4).trans rfl) _ Tryz.underlying26 rfl) (h:=?_);refine tv 7 (some 13) (bA 14 255) rfl hHeld (fun w' hs=>dh 23 (.tmp 12) rfl W 0 rfl (fk p) _ (fun j v hv=>by rw[Nat.zero_add];exact bt hs j v (qmd j v hv)) Tryz.underlying23 rfl jh) (h:=?_);refine ko (i:=8) (N:=some 14) (bA 14 511) rfl rfl (by kernel_rfl) (by decide) (fun K hK=>?_);refine fv Tryz.func11 (by kernel_rfl) rfl #[.pointer (some ⟨M,0,none⟩),oz p] (by rfl) rfl rfl (by simp only[List.map_toArray,List.map_cons,List.map_nil];rfl) ?_;refine(HF.out w.drew (bg (ai _ _))).mono ?_;rintro e w2 ⟨a,n,rfl,hf_,hw_⟩;have HF2:=am hf_;have HW2:=am hw_;refine⟨_,rfl,?_⟩;refine hK.out _ _ ?_;clear hK K hf_ hw_ hHeld;refine nm ?_;refine pu 9 (some 5) (bA 14 1023) (h:=?_);refine pu 10 (some 15) (bA 14 2047) (h:=?_);refine pu 11 (some 16) (bA 14 4095) (h:=?_);refine pu 12 (some 3) (bA 14 8191) (h:=?_);refine pu 13 (some 4) (bA 14 16383) (h:=?_);refine fa (by kernel_rfl) ?_;have c5:w2.cell? ⟨W,5,none⟩=some hv:=(aj HW2.out 5).trans rfl;have f5:w2.frozen? ⟨W,5,none⟩=false:=ak HW2.out 5;go_wp2;go_ret;exact⟨a,n,w2,rfl,HF2.out,HW2.out,rfl⟩
end
inductive TS where
 |off (m:Mem)
 |on (st:St)
def TS.mem:TS->Mem
 | .off m=>m
 | .on st=>st.m
def TS.withMem:TS->Mem->TS
 | .off _,m=>.off m
 | .on st,m=>.on {st with m:=m}
def la(w:World)(W M C:Nat)(p:Pn)(s:TS)(cost:Int)(F:Nat->Prop):Prop:=
 match s with
 | .off m=>MemAt w M C m/\nh w W p M (.pointer none) cost/\W≠M/\W≠C/\(∀ j,F j<->j=M\/j=C\/j=W)
 | .on st=>∃ b:Bl,b.M=M/\b.C=C/\HeapAt w b p st/\nh w W p M (.pointer (some ⟨b.H,0,none⟩)) cost∧¬ b.All W/\(∀ j,F j<->b.All j\/j=W)
section
variable{w:World}{W M C:Nat}{p:Pn}{s:TS}{cost:Int}{F:Nat->Prop}
theorem la.memAt(h:la w W M C p s cost F):MemAt w M C s.mem:=by
 cases s with
 |off m=>exact h.1
 |on st=>
  obtain⟨b,rfl,rfl,hh,_⟩:=h;exact hh.tur.mem
theorem la.box(h:la w W M C p s cost F):∃ hv,nh w W p M hv cost:=by
 cases s with
 |off m=>exact⟨_,h.2.1⟩
 |on st=>
  obtain⟨b,_,_,_,hh,_⟩:=h;exact⟨_,hh⟩
theorem la.lt(h:la w W M C p s cost F):∀ j,F j->j<w.heap.size:=by
 intro j hj;obtain⟨hv,hb⟩:=h.box;have hW:=d7 hb;cases s with
 |off m=>
  have:=h.1.lt;rcases (h.2.2.2.2 j).1 hj with e|e|e <;> omega
 |on st=>
  obtain⟨b,_,_,hh,_,_,hf⟩:=h;rcases (hf j).1 hj with e|e
  ·exact Nat.lt_of_not_le (fun hle=>hh.lt j hle e)
  ·omega
theorem la.inW(h:la w W M C p s cost F):F W/\F M/\F C:=by
 cases s with
 |off m=>exact⟨(h.2.2.2.2 W).2 (.inr (.inr rfl)),(h.2.2.2.2 M).2 (.inl rfl),(h.2.2.2.2 C).2 (.inr (.inl rfl))⟩
 |on st=>
  obtain⟨b,rfl,rfl,hh,_,_,hf⟩:=h;exact⟨(hf W).2 (.inr rfl),(hf _).2 (.inl (.inl (.inl (.inl rfl)))),(hf _).2 (.inl (.inl (.inl (.inr (.inl rfl)))))⟩
theorem la.kept(h:la w W M C p s cost F){w':World}{S:Nat->Prop}(k:aq S w w')(hS:∀ j,F j→¬ S j):la w' W M C p s cost F:=by
 have hi:=h.inW;cases s with
 |off m=>exact⟨h.1.kept k (hS _ hi.2.1) (hS _ hi.2.2),h.2.1.kept k (hS _ hi.1),h.2.2⟩
 |on st=>
  obtain⟨b,h1,h2,hh,hb,hn,hf⟩:=h;exact⟨b,h1,h2,hh.step k (fun j hj=>hS j ((hf j).2 (.inl hj))),hb.kept k (hS _ hi.1),hn,hf⟩
theorem la.below(h:la w W M C p s cost F){w':World}(hb:Below w.heap.size w w'):la w' W M C p s cost F:=h.kept (S:=fun _=>False) (aq.of_below hb) (fun _ _=>id)
theorem la.costs(h:la w W M C p s cost F)(c:Int):la (w.setCell ⟨W,6,none⟩ (.int .i64 c)) W M C p s c F:=by
 have hi:=h.inW;have k:=aq.set (S:=fun j=>j=W) (aq.refl (fun j=>j=W) w) (p:=⟨W,6,none⟩) (.inl rfl) (.int .i64 c);cases s with
 |off m=>exact⟨h.1.kept k (fun e=>h.2.2.1 e.symm) (fun e=>h.2.2.2.1 e.symm),h.2.1.costs c,h.2.2⟩
 |on st=>
  obtain⟨b,h1,h2,hh,hb,hn,hf⟩:=h;exact⟨b,h1,h2,hh.step k (fun j hj e=>hn (by rw[<-e];exact hj)),hb.costs c,hn,hf⟩
theorem la.remem(h:la w W M C p s cost F){w':World}{m':Mem}(hm:MemAt w' M C m')(k:aq (MC M C) w w')(hr:m'.regs=s.mem.regs):la w' W M C p (s.withMem m') cost F:=by
 cases s with
 |off m=>
  exact⟨hm,h.2.1.kept k (fun e=>by rcases e with e|e;exact h.2.2.1 e;exact h.2.2.2.1 e),h.2.2⟩
 |on st=>
  obtain⟨b,rfl,rfl,hh,hb,hn,hf⟩:=h;refine⟨b,rfl,rfl,hh.turned (hh.tur.step hm k (hh.tur.regs.of hr) (by rw[hr];exact hh.tur.mv)) k.MCT,hb.kept k (fun e=>hn ?_),hn,hf⟩;rcases e with e|e
  ·exact .inl (.inl (.inl e))
  ·exact .inl (.inl (.inr (.inl e)))
end
def qbb(w:World)(W M C:Nat)(p:Pn)(cost:Int)(F:Nat->Prop)(e off:Int)(bs:List Int)(s':TS)(x:Ending)(w':World):Prop:=
 ∃ d F',x=.returned (.agg (fq e off d).toArray)/\Kd.R (Kd.int .u8) 5 w' w.heap.size (fun _=>True) d bs/\la w' W M C p s' cost F'∧aq F w w'∧(∀ j,F' j->F j\/w.heap.size<=j)
theorem qel{w:World}{base g:Nat}{v:Value}{xs:List Int}{cs cs':Array Value}(h:Kd.R (Kd.int .u8) 5 w base (fun _=>True) v xs)(hg:w.heap[g]? =some (.cells cs 36 (0,0)))(_:cs'=cs'):Kd.R (Kd.int .u8) 5 (w.setRow g cs') base (fun _=>True) v xs:=by
 have hne:=Kd.R_ne h hg (by decide);have h2:Kd.R (Kd.int .u8) 5 w base (fun k=>k≠g) v xs:=⟨fun k hk e=>hne (by rw[<-e];exact hk.symm),h.2.imp_ (fun _ _ hp=>hp)⟩;exact Kd.R_mono (Kd.R_step h2 (fun j hj _=>setRow_other _ _ _ _ hj)) (fun _ _=>trivial)
theorem qgk:(Tryz.prog.info? 39).map (·.size)=some 5:=by kernel_rfl
section
variable{w:World}{W M C:Nat}{p:Pn}{s:TS}{cost:Int}{F:Nat->Prop}
theorem la.awayRow(h:la w W M C p s cost F){g:Nat}(hg:¬ F g)(cs:Array Value):la (w.setRow g cs) W M C p s cost F:=
 h.kept (S:=fun k=>k=g) ((aq.refl (fun k=>k=g) w).setRow (.inl rfl) cs) (fun j hj e=>hg (by rw[<-e];exact hj))
theorem qei{ops:Array Oper}{rest:List Oper}{o:Oper}{a:Act}{w:World}{Q:Exit->Act->World->Prop}(hg:o.guard=none)(t:TypeId)(ho:o.op=.build t #[])(cells:Array Value)(hb:Tryz.prog.built t []=some cells)
  (h:wpList Tryz.prog ops Q rest (a.put o.dst (.agg cells)) w):wpList Tryz.prog ops Q (o::rest) a w:=
 q9 hg t _ ho [] cells (by simp) hb h
theorem qiw:Tryz.prog.built 36 []=some (fq 0 0 (.slice none 0 0)).toArray:=by kernel_rfl
theorem qmr(h:la w W M C p s cost F)(op:S39)(A:Option Addr)(c:Nat)(hbs:Kd.C (Kd.int .u8) w A op.f4.length op.f4)(hbc:op.f4.length<=c)(hk:op.f0=7):Calls Tryz.prog 63 #[.pointer (some ⟨W,0,none⟩), .agg (opV op A c).toArray] w (qbb w W M C p cost F 0 0 [] (s.withMem (Nvm.cutAt s.mem op.f2 op.f3))):=by
 unfold opV;have H:=am h;obtain⟨k0,k1,k2,k3,k4⟩:=op;dsimp only at *;have HBs:=am hbs;have HBc:=am hbc;clear hbs hbc;have HBz:Aside0 (Below w.heap.size w ((w.alloc (.cells #[.int .i64 k0, .int .i64 k1, .int .i64 k2, .int .i64 k3, .slice A k4.length c] 39)).alloc (.cells #[.int .i64 0, .int .i64 0, .slice none 0 0] 36))):=⟨((ai _ _).alloc (an _) _).alloc (by simp) _⟩;have HOz:Aside0 (((w.alloc (.cells #[.int .i64 k0, .int .i64 k1, .int .i64 k2, .int .i64 k3, .slice A k4.length c] 39)).alloc (.cells #[.int .i64 0, .int .i64 0, .slice none 0 0] 36)).heap[w.heap.size]? =some (.cells [.int .i64 k0, .int .i64 k1, .int .i64 k2, .int .i64 k3, .slice A k4.length c].toArray 39 (0,0))):=⟨(heap_alloc_old _ _ (by simp)).trans (heap_alloc_new w _)⟩;have HGz:Aside0 (((w.alloc (.cells #[.int .i64 k0, .int .i64 k1, .int .i64 k2, .int .i64 k3, .slice A k4.length c] 39)).alloc (.cells #[.int .i64 0, .int .i64 0, .slice none 0 0] 36)).heap[w.heap.size+1]? =some (.cells (fq 0 0 (.slice none 0 0)).toArray 36 (0,0))):=⟨heap_alloc2_new w _ _⟩;have HZ:=am (h.below HBz.out);have HLt:=am h.lt;subst hk;have HF:=am h.inW;obtain⟨hv,hbx⟩:=h.box;have HX:=am (hbx.below HBz.out);clear h hbx;go_enter Tryz.func63,Tryz.ntmps63;go_wp2;refine dj (n:=9) (S:=fun w'=>nh w' W p M hv cost/\w'.heap[w.heap.size]? =some (.cells [.int .i64 7, .int .i64 k1, .int .i64 k2, .int .i64 k3, .slice A k4.length c].toArray 39 (0,0))) (ds:=[8]) (onA 9 0) (by kernel_rfl) rfl rfl ⟨HX.out,HOz.out⟩ (fun hHeld=>?_);refine pu 0 (some 9) (bA 9 1) (h:=?_);refine pu 1 (some 10) (bA 9 3) (h:=?_);refine pu 2 (some 11) (bA 9 7) (h:=?_);refine pu 4 (some 13) (bA 9 23) (h:=?_);refine pu 6 (some 15) (bA 9 87) (h:=?_);refine tv 3 (some 12) (bA 9 95) rfl hHeld (fun w' hs=>aw 26 (.tmp 11) rfl W 4 (.pointer (some ⟨M,0,none⟩)) rfl ((aj hs.1 4).trans rfl) _ Tryz.underlying26 rfl) (h:=?_);refine tv 5 (some 14) (bA 9 127) rfl hHeld (fun w' hs=>aw 3 (.tmp 13) rfl w.heap.size 2 (.int .i64 k2) rfl ((aj hs.2 2).trans rfl) _ Tryz.underlying3 rfl) (h:=?_);refine tv 7 (some 16) (bA 9 255) rfl hHeld (fun w' hs=>aw 3 (.tmp 15) rfl w.heap.size 3 (.int .i64 k3) rfl ((aj hs.2 3).trans rfl) _ Tryz.underlying3 rfl) (h:=?_);refine ko (i:=8) (N:=some 17) (bA 9 511) rfl rfl (by kernel_rfl) (by decide) (fun K hK=>?_);refine fv Tryz.func109 (by kernel_rfl) rfl #[.pointer (some ⟨M,0,none⟩), .int .i64 k2, .int .i64 k3] (by rfl) rfl rfl (by simp only[List.map_toArray,List.map_cons,List.map_nil];rfl) ?_;have HZd:=HZ.out.below (bg (ai _ _));refine(qkq HZd.memAt k2 k3).mono ?_;rintro e w2 ⟨rfl,hm,kk⟩;have HT2:=am (HZd.remem hm kk (m':=Nvm.cutAt s.mem k2 k3) rfl);have KF:aq F _ w2:=kk.mono (fun j _ e=>by rcases e with e|e;exact(by rw[e];exact HF.out.2.1);exact(by rw[e];exact HF.out.2.2));have HnG:¬ F (w.heap.size+1):=fun e=>by have:=HLt.out _ e;omega
 have HG2:=am (KF.of (a:=((w.alloc (.cells #[.int .i64 7, .int .i64 k1, .int .i64 k2, .int .i64 k3, .slice A k4.length c] 39)).alloc (.cells #[.int .i64 0, .int .i64 0, .slice none 0 0] 36)).drew) HGz.out HnG);have K2:Aside0 (aq F w w2):=⟨(aq.of_below (aa HBz.out (bg (ai _ _)))).step KF⟩;refine⟨_,rfl,?_⟩;refine hK.out _ _ ?_;clear hK K hm kk hHeld KF HZd;refine nm ?_;refine fa (by kernel_rfl) ?_;go_wp2_with (first
  |((with_reducible refine b9 (N:=18) rfl ?_);refine qei rfl 36 rfl _ qiw ?_)
  |((with_reducible refine bp (t:=36) (p:=4) rfl ?_);refine ff rfl 36 (.tmp 4) (.tmp 18) rfl (w.heap.size+1) 0 (fq 0 0 (.slice none 0 0)) rfl rfl 36 (fq 0 0 (.slice none 0 0)) HG2.out gj (an _) ld ?_;rw[kf (fq 0 0 (.slice none 0 0)) (fq 0 0 (.slice none 0 0)) rfl]))
 exact vk rfl (w.heap.size+1) 36 (fq 0 0 (.slice none 0 0)) _ rfl (setRow_heap _ _ _ _ _ _ HG2.out) Tryz.underlying36 rfl gj rfl ⟨_,F,rfl,Kd.R_nil _ _ _ _ _,HT2.out.awayRow HnG _,K2.out.setRow (.inr (by omega)) _,fun j hj=>.inl hj⟩
theorem qk9{m:Mem}(h:la w W M C p (.off m) cost F)(op:S39)(A:Option Addr)(c:Nat)(hk7:op.f0≠7)(hk8:op.f0≠8):Calls Tryz.prog 63 #[.pointer (some ⟨W,0,none⟩), .agg (opV op A c).toArray] w (qbb w W M C p cost F 5 0 [] (.off m)):=by
 unfold opV;have H:=am h;obtain⟨k0,k1,k2,k3,k4⟩:=op;dsimp only at *;have HBz:Aside0 (Below w.heap.size w ((w.alloc (.cells #[.int .i64 k0, .int .i64 k1, .int .i64 k2, .int .i64 k3, .slice A k4.length c] 39)).alloc (.cells #[.int .i64 0, .int .i64 0, .slice none 0 0] 36))):=⟨((ai _ _).alloc (an _) _).alloc (by simp) _⟩;have HOz:Aside0 (((w.alloc (.cells #[.int .i64 k0, .int .i64 k1, .int .i64 k2, .int .i64 k3, .slice A k4.length c] 39)).alloc (.cells #[.int .i64 0, .int .i64 0, .slice none 0 0] 36)).heap[w.heap.size]? =some (.cells [.int .i64 k0, .int .i64 k1, .int .i64 k2, .int .i64 k3, .slice A k4.length c].toArray 39 (0,0))):=⟨(heap_alloc_old _ _ (by simp)).trans (heap_alloc_new w _)⟩;have HGz:Aside0 (((w.alloc (.cells #[.int .i64 k0, .int .i64 k1, .int .i64 k2, .int .i64 k3, .slice A k4.length c] 39)).alloc (.cells #[.int .i64 0, .int .i64 0, .slice none 0 0] 36)).heap[w.heap.size+1]? =some (.cells (fq 0 0 (.slice none 0 0)).toArray 36 (0,0))):=⟨heap_alloc2_new w _ _⟩;have HZ:=am (h.below HBz.out);have HLt:=am h.lt;have b7:(k0==7)=false:=beq_eq_false_iff_ne.2 hk7;have b8:(k0==8)=false:=beq_eq_false_iff_ne.2 hk8;have kh:((w.alloc (.cells #[.int .i64 k0, .int .i64 k1, .int .i64 k2, .int .i64 k3, .slice A k4.length c] 39)).alloc (.cells #[.int .i64 0, .int .i64 0, .slice none 0 0] 36)).cell? ⟨W,5,none⟩=some (.pointer none):=(aj HZ.out.2.1 5).trans rfl;have HnG:¬ F (w.heap.size+1):=fun e=>by have:=HLt.out _ e;omega
 clear h hk7 hk8;go_enter Tryz.func63,Tryz.ntmps63;go_wp2_with (first
  |((with_reducible refine b9 (N:=37) rfl ?_);refine tq rfl 36 0 (.const (.int .i64 5)) rfl (.int .i64 5) rfl _ (qat 5) ?_)
  |((with_reducible refine bp (t:=36) (p:=4) rfl ?_);refine ff rfl 36 (.tmp 4) (.tmp 37) rfl (w.heap.size+1) 0 (fq 5 0 (.slice none 0 0)) rfl rfl 36 (fq 0 0 (.slice none 0 0)) HGz.out gj (an _) ld ?_;rw[kf (fq 5 0 (.slice none 0 0)) (fq 0 0 (.slice none 0 0)) rfl]))
 exact vk rfl (w.heap.size+1) 36 (fq 5 0 (.slice none 0 0)) _ rfl (setRow_heap _ _ _ _ _ _ HGz.out) Tryz.underlying36 rfl gj rfl ⟨_,F,rfl,Kd.R_nil _ _ _ _ _,HZ.out.awayRow HnG _,(aq.of_below HBz.out).setRow (.inr (by omega)) _,fun j hj=>.inl hj⟩
theorem qoy{st st':St}(h:la w W M C p (.on st) cost F)(hp:p.Ok)(hs:StOk p st)(op:S39)(A:Option Addr)(c:Nat)(hbs:Kd.C (Kd.int .u8) w A op.f4.length op.f4)(hbc:op.f4.length<=c)(hk7:op.f0≠7)(hk8:op.f0≠8)(e off:Int)(bs:List Int)(hr:Hp.DoR p st op e off bs st'):Calls Tryz.prog 63 #[.pointer (some ⟨W,0,none⟩), .agg (opV op A c).toArray] w (qbb w W M C p cost F e off bs (.on st')):=by
 have HDo:=am (fun(w':World) (b:Bl) (A:Option Addr) (hw':HeapAt w' b p st) (hbs':Kd.C (Kd.int .u8) w' A op.f4.length op.f4)=>qeq hw' hp hs op A c hbs' hbc e off bs st' hr);unfold opV at *;have H:=am h;obtain⟨k0,k1,k2,k3,k4⟩:=op;dsimp only at *;have HBs:=am hbs;have HBc:=am hbc;clear hbs hbc;have HBz:Aside0 (Below w.heap.size w ((w.alloc (.cells #[.int .i64 k0, .int .i64 k1, .int .i64 k2, .int .i64 k3, .slice A k4.length c] 39)).alloc (.cells #[.int .i64 0, .int .i64 0, .slice none 0 0] 36))):=⟨((ai _ _).alloc (an _) _).alloc (by simp) _⟩;have HOz:Aside0 (((w.alloc (.cells #[.int .i64 k0, .int .i64 k1, .int .i64 k2, .int .i64 k3, .slice A k4.length c] 39)).alloc (.cells #[.int .i64 0, .int .i64 0, .slice none 0 0] 36)).heap[w.heap.size]? =some (.cells [.int .i64 k0, .int .i64 k1, .int .i64 k2, .int .i64 k3, .slice A k4.length c].toArray 39 (0,0))):=⟨(heap_alloc_old _ _ (by simp)).trans (heap_alloc_new w _)⟩;have HGz:Aside0 (((w.alloc (.cells #[.int .i64 k0, .int .i64 k1, .int .i64 k2, .int .i64 k3, .slice A k4.length c] 39)).alloc (.cells #[.int .i64 0, .int .i64 0, .slice none 0 0] 36)).heap[w.heap.size+1]? =some (.cells (fq 0 0 (.slice none 0 0)).toArray 36 (0,0))):=⟨heap_alloc2_new w _ _⟩;have HZ:=am (h.below HBz.out);have HLt:=am h.lt;have b7:(k0==7)=false:=beq_eq_false_iff_ne.2 hk7;have b8:(k0==8)=false:=beq_eq_false_iff_ne.2 hk8;have HnG:¬ F (w.heap.size+1):=fun e=>by have:=HLt.out _ e;omega
 clear h hk7 hk8 hp hs hr;obtain⟨b,h1,h2,hh,hb,hn,hf⟩:=HZ.out;have HH:=am hh;have HX:=am hb;have HN:=am hn;have HFf:=am hf;have H1:=am h1;have H2:=am h2;have kh:((w.alloc (.cells #[.int .i64 k0, .int .i64 k1, .int .i64 k2, .int .i64 k3, .slice A k4.length c] 39)).alloc (.cells #[.int .i64 0, .int .i64 0, .slice none 0 0] 36)).cell? ⟨W,5,none⟩=some (.pointer (some ⟨b.H,0,none⟩)):=(aj hb 5).trans rfl;clear hh hb hn hf h1 h2;go_enter Tryz.func63,Tryz.ntmps63;go_wp2;clear kh;refine dj (n:=7) (S:=fun w'=>nh w' W p M (.pointer (some ⟨b.H,0,none⟩)) cost/\w'.heap[w.heap.size]? =some (.cells [.int .i64 k0, .int .i64 k1, .int .i64 k2, .int .i64 k3, .slice A k4.length c].toArray 39 (0,0))) (ds:=[5,6]) (onA 7 0) (by kernel_rfl) rfl rfl ⟨HX.out,HOz.out⟩ (fun hHeld=>?_);refine pu 0 (some 38) (bA 7 1) (h:=?_);refine pu 1 (some 39) (bA 7 3) (h:=?_);refine pu 2 (some 40) (bA 7 7) (h:=?_);refine tv 3 (some 41) (bA 7 15) rfl hHeld (fun w' hs=>aw 31 (.tmp 40) rfl W 5 (.pointer (some ⟨b.H,0,none⟩)) rfl ((aj hs.1 5).trans rfl) _ Tryz.underlying31 rfl) (h:=?_);refine tv 4 (some 42) (bA 7 31) rfl hHeld (fun w' hs=>dh 39 (.tmp 3) rfl w.heap.size 0 rfl [.int .i64 k0, .int .i64 k1, .int .i64 k2, .int .i64 k3, .slice A k4.length c] _ (fun j v hv=>by rw[Nat.zero_add];exact bt hs.2 j v hv) Tryz.underlying39 rfl qgk) (h:=?_);refine ko (i:=5) (N:=some 43) (bA 7 63) rfl rfl (by kernel_rfl) (by decide) (fun K hK=>?_);refine fv Tryz.func12 (by kernel_rfl) rfl #[.pointer (some ⟨b.H,0,none⟩), .agg [.int .i64 k0, .int .i64 k1, .int .i64 k2, .int .i64 k3, .slice A k4.length c].toArray] (by rfl) rfl rfl (by simp only[List.map_toArray,List.map_cons,List.map_nil];rfl) ?_;have HBd:=aa HBz.out (bg (ai _ _));have HHd:=am (HH.out.below (bg (ai _ _)));refine(HDo.out _ b A HHd.out (Kd.C_below HBs.out HBd)).mono ?_;rintro x w2 ⟨d,rfl,ho,hh2,kk⟩;obtain⟨Ad,cd,ed⟩:=Kd.R_slice ho;subst ed;have hnG:¬ b.W (w.heap.size+1):=fun e=>HnG ((HFf.out _).2 (.inl (.inl e)));have HG2:=am (kk.of (a:=((w.alloc (.cells #[.int .i64 k0, .int .i64 k1, .int .i64 k2, .int .i64 k3, .slice A k4.length c] 39)).alloc (.cells #[.int .i64 0, .int .i64 0, .slice none 0 0] 36)).drew) HGz.out hnG);have HX2:=am (nh.kept (w:=((w.alloc (.cells #[.int .i64 k0, .int .i64 k1, .int .i64 k2, .int .i64 k3, .slice A k4.length c] 39)).alloc (.cells #[.int .i64 0, .int .i64 0, .slice none 0 0] 36)).drew) HX.out kk (fun e=>HN.out (.inl e)));have HH2:=am hh2;have HO2:=am (Kd.R_lower ho HBd.size);have K2:Aside0 (aq F w w2):=⟨(aq.of_below HBd).step (kk.mono (fun j _ e=>(HFf.out j).2 (.inl (.inl e))))⟩;refine⟨_,rfl,?_⟩;refine hK.out _ _ ?_;clear hK K hh2 kk hHeld ho HBd;refine nm ?_;refine ko (i:=6) (N:=none) (bA 7 127) rfl rfl (by kernel_rfl) (by decide) (fun K hK=>?_);refine su (by rfl) rfl (kj 36 (.tmp 4) (.tmp 43) rfl (w.heap.size+1) 0 (fq e off (.slice Ad bs.length cd)) rfl rfl 36 (fq 0 0 (.slice none 0 0)) HG2.out gj (an _) ld) ?_;rw[kf (fq e off (.slice Ad bs.length cd)) (fq 0 0 (.slice none 0 0)) rfl];refine hK.out _ _ ?_;clear hK K;refine fa (by kernel_rfl) ?_;go_wp2;exact vk rfl (w.heap.size+1) 36 (fq e off (.slice Ad bs.length cd)) _ rfl (setRow_heap _ _ _ _ _ _ HG2.out) Tryz.underlying36 rfl gj rfl ⟨_,F,rfl,qel HO2.out HG2.out rfl,la.awayRow (s:=.on st') ⟨b,H1.out,H2.out,HH2.out,HX2.out,HN.out,HFf.out⟩ HnG _,K2.out.setRow (.inr (by omega)) _,fun j hj=>.inl hj⟩
end
def qcn(w:World)(W M C:Nat)(p:Pn)(cost:Int)(rc:Int×Mem×Int)(e:Ending)(w':World):Prop:=
 (rc.1=0->e=.returned (.int .i64 0)∧∃ b:Bl,b.M=M/\b.C=C/\HeapAt w' b p (Hp.opened p rc.2.1 rc.2.2)/\nh w' W p M (.pointer (some ⟨b.H,0,none⟩)) cost∧¬ b.All W/\(∀ j,b.All j->j=M\/j=C\/w.heap.size<=j))∧
 (rc.1≠0->e=.returned (.int .i64 rc.1)/\MemAt w' M C rc.2.1/\nh w' W p M (.pointer none) cost)/\aq (fun k=>MC M C k\/k=W) w w'
section
variable{w:World}{W M C:Nat}{p:Pn}{hv:Value}{cost:Int}{m:Mem}
theorem qbu(h:nh w W p M hv cost)(hm:MemAt w M C m)(h1:W≠M)(h2:W≠C)(hp:p.Ok)(hd:m.down=false)(ho:OpenOk p m)(hO2:(Lg.recover p.shape m 0).1=0->OpenOk2 p (Lg.recover p.shape m 0).2.1):Calls Tryz.prog 59 #[.pointer (some ⟨W,0,none⟩)] w (qcn w W M C p cost (Lg.recover p.shape m 0)):=by
 have hWlt:=d7 h;refine(qmc h (fun a n w''=>aq (MC M C) w w''∧((Lg.recover p.shape m 0).1=0->n=0∧∃ b:Bl,a=some ⟨b.H,0,none⟩/\b.M=M/\b.C=C/\HeapAt w'' b p (Hp.opened p (Lg.recover p.shape m 0).2.1 (Lg.recover p.shape m 0).2.2)/\(∀ j,b.All j->j=M\/j=C\/w.heap.size<=j))∧
  ((Lg.recover p.shape m 0).1≠0->a=none/\n=(Lg.recover p.shape m 0).1/\MemAt w'' M C (Lg.recover p.shape m 0).2.1)) (fun w' hb=>?_)).mono ?_
 ·refine(qii (hm.below hb) hp hd ho hO2).mono ?_;rintro e w'' ⟨k,hy,hn⟩;have hk:aq (MC M C) w w'':=(aq.of_below hb).step k;have hT:=h.kept hk (sq h1 h2);by_cases c0:(Lg.recover p.shape m 0).1=0
  ·obtain⟨b,e1,e2,e3,hh,hf⟩:=hy c0;refine⟨_,_,e3,⟨hk,fun _=>⟨rfl,b,rfl,e1,e2,hh,fun j hj=>?_⟩,fun hne=>absurd c0 hne⟩,hT⟩;rcases hf j hj with e|e|e
   ·exact .inl e
   ·exact .inr (.inl e)
   ·exact .inr (.inr (Nat.le_trans hb.size e))
  ·obtain⟨e1,e2⟩:=hn c0;exact⟨none,_,e1,⟨hk,fun h0=>absurd h0 c0,fun _=>⟨rfl,rfl,e2⟩⟩,hT⟩
 ·rintro e w'' ⟨a,n,w1,rfl,⟨hk,hy,hn⟩,hT,rfl⟩;have KS:=aq.set (S:=fun j=>j=W) (aq.refl (fun j=>j=W) w1) (p:=⟨W,5,none⟩) (.inl rfl) (.pointer a);refine⟨fun c0=>?_,fun c0=>?_,(hk.mono (fun _ _ e=>.inl e)).set (p:=⟨W,5,none⟩) (.inl (.inr rfl)) _⟩
  ·obtain⟨rfl,b,rfl,e1,e2,hh,hf⟩:=hy c0;have hnW:¬ b.All W:=fun e=>by
    rcases hf W e with e|e|e
    ·exact h1 e
    ·exact h2 e
    ·omega
   exact⟨rfl,b,e1,e2,hh.step KS (fun j hj e=>hnW (by rw[<-e];exact hj)),hT.heap _,hnW,hf⟩
  ·obtain⟨rfl,rfl,hm2⟩:=hn c0;exact⟨rfl,hm2.kept KS (fun e=>h1 e.symm) (fun e=>h2 e.symm),hT.heap _⟩
end
theorem qcn.ret{w w':World}{W M C:Nat}{p:Pn}{cost:Int}{rc:Int×Mem×Int}{e:Ending}(h:qcn w W M C p cost rc e w'):e=.returned (.int .i64 rc.1):=by
 by_cases c:rc.1=0
 ·rw[c];exact(h.1 c).1
 ·exact(h.2.1 c).1
theorem qcn.state{w w':World}{W M C:Nat}{p:Pn}{cost:Int}{rc:Int×Mem×Int}{e:Ending}(h:qcn w W M C p cost rc e w'){F:Nat->Prop}(h1:W≠M)(h2:W≠C)(hF:∀ j,MC M C j\/j=W->F j):∃ F',la w' W M C p (if rc.1=0 then .on (Hp.opened p rc.2.1 rc.2.2)else .off rc.2.1) cost F'∧(∀ j,F' j->F j\/w.heap.size<=j):=by
 by_cases c:rc.1=0
 ·rw[if_pos c];obtain⟨_,b,e1,e2,hh,hb,hn,hf⟩:=h.1 c;refine⟨fun j=>b.All j\/j=W,⟨b,e1,e2,hh,hb,hn,fun _=>Iff.rfl⟩,fun j hj=>?_⟩;rcases hj with e|e
  ·rcases hf j e with e|e|e
   ·exact .inl (hF j (.inl (.inl e)))
   ·exact .inl (hF j (.inl (.inr e)))
   ·exact .inr e
  ·exact .inl (hF j (.inr e))
 ·rw[if_neg c];obtain⟨_,hm,hb⟩:=h.2.1 c;refine⟨fun j=>j=M\/j=C\/j=W,⟨hm,hb,h1,h2,fun _=>Iff.rfl⟩,fun j hj=>.inl ?_⟩;rcases hj with e|e|e
  ·exact hF j (.inl (.inl e))
  ·exact hF j (.inl (.inr e))
  ·exact hF j (.inr e)
section
variable{w:World}{W M C:Nat}{p:Pn}{s:TS}{cost:Int}{F:Nat->Prop}
theorem la.apart(h:la w W M C p s cost F):W≠M/\W≠C:=by
 cases s with
 |off m=>exact⟨h.2.2.1,h.2.2.2.1⟩
 |on st=>
  obtain⟨b,rfl,rfl,_,_,hn,_⟩:=h;exact⟨fun e=>hn (.inl (.inl (.inl e))),fun e=>hn (.inl (.inl (.inr (.inl e))))⟩
theorem qi3(h:la w W M C p s cost F)(op:S39)(A:Option Addr)(c:Nat)(hbs:Kd.C (Kd.int .u8) w A op.f4.length op.f4)(hbc:op.f4.length<=c)(hk:op.f0=8)(hp:p.Ok)(ho:OpenOk p (Nvm.power s.mem))(hO2:(Lg.recover p.shape (Nvm.power s.mem) 0).1=0->OpenOk2 p (Lg.recover p.shape (Nvm.power s.mem) 0).2.1):Calls Tryz.prog 63 #[.pointer (some ⟨W,0,none⟩), .agg (opV op A c).toArray] w (qbb w W M C p cost F (Lg.recover p.shape (Nvm.power s.mem) 0).1 0 [] (if(Lg.recover p.shape (Nvm.power s.mem) 0).1=0 then .on (Hp.opened p (Lg.recover p.shape (Nvm.power s.mem) 0).2.1 (Lg.recover p.shape (Nvm.power s.mem) 0).2.2)else .off (Lg.recover p.shape (Nvm.power s.mem) 0).2.1)):=by
 have HOpen:Aside0 (∀ (w':World) (hv:Value),nh w' W p M hv cost->MemAt w' M C (Nvm.power s.mem)->Calls Tryz.prog 59 #[.pointer (some ⟨W,0,none⟩)] w' (qcn w' W M C p cost (Lg.recover p.shape (Nvm.power s.mem) 0))):=⟨fun w' hv h1 h2=>qbu h1 h2 h.apart.1 h.apart.2 hp rfl ho hO2⟩;have HAp:=am h.apart;clear hp ho hO2;generalize Lg.recover p.shape (Nvm.power s.mem) 0=rc at HOpen ⊢;unfold opV;have H:=am h;obtain⟨k0,k1,k2,k3,k4⟩:=op;dsimp only at *;have HBs:=am hbs;have HBc:=am hbc;clear hbs hbc;have HBz:Aside0 (Below w.heap.size w ((w.alloc (.cells #[.int .i64 k0, .int .i64 k1, .int .i64 k2, .int .i64 k3, .slice A k4.length c] 39)).alloc (.cells #[.int .i64 0, .int .i64 0, .slice none 0 0] 36))):=⟨((ai _ _).alloc (an _) _).alloc (by simp) _⟩;have HOz:Aside0 (((w.alloc (.cells #[.int .i64 k0, .int .i64 k1, .int .i64 k2, .int .i64 k3, .slice A k4.length c] 39)).alloc (.cells #[.int .i64 0, .int .i64 0, .slice none 0 0] 36)).heap[w.heap.size]? =some (.cells [.int .i64 k0, .int .i64 k1, .int .i64 k2, .int .i64 k3, .slice A k4.length c].toArray 39 (0,0))):=⟨(heap_alloc_old _ _ (by simp)).trans (heap_alloc_new w _)⟩;have HGz:Aside0 (((w.alloc (.cells #[.int .i64 k0, .int .i64 k1, .int .i64 k2, .int .i64 k3, .slice A k4.length c] 39)).alloc (.cells #[.int .i64 0, .int .i64 0, .slice none 0 0] 36)).heap[w.heap.size+1]? =some (.cells (fq 0 0 (.slice none 0 0)).toArray 36 (0,0))):=⟨heap_alloc2_new w _ _⟩;have HZ:=am (h.below HBz.out);have HLt:=am h.lt;subst hk;have HF:=am h.inW;obtain⟨hv,hbx⟩:=h.box;have HX:=am (hbx.below HBz.out);have km:((w.alloc (.cells #[.int .i64 8, .int .i64 k1, .int .i64 k2, .int .i64 k3, .slice A k4.length c] 39)).alloc (.cells #[.int .i64 0, .int .i64 0, .slice none 0 0] 36)).cell? ⟨W,4,none⟩=some (.pointer (some ⟨M,0,none⟩)):=(aj HX.out 4).trans rfl;have HnG:¬ F (w.heap.size+1):=fun e=>by have:=HLt.out _ e;omega
 have HFm:Aside0 (∀ j,MC M C j\/j=W->F j):=⟨fun j e=>by
  rcases e with (e|e)|e
  ·rw[e];exact HF.out.2.1
  ·rw[e];exact HF.out.2.2
  ·rw[e];exact HF.out.1⟩
 clear h hbx;obtain⟨re,hre⟩:∃ re,rc.1=re:=⟨_,rfl⟩;have HRe:=am hre;obtain⟨sn,hsn⟩:∃ sn,(if rc.1=0 then TS.on (Hp.opened p rc.2.1 rc.2.2)else TS.off rc.2.1)=sn:=⟨_,rfl⟩;have HSn:=am hsn;rw[hsn,hre];clear hre hsn;go_enter Tryz.func63,Tryz.ntmps63;go_wp2_with (first
  |(go_at_call 110;(with_reducible refine(qgz HZ.out.memAt).mono ?_);rintro e w2 ⟨rfl,hm,kk⟩;have HM2:=am hm;have HX2:=am (HX.out.kept kk (sq HAp.out.1 HAp.out.2));have KF:=am (aq.mono (S':=F) kk (fun j _ e=>HFm.out j (.inl e)));have K2:=am ((aq.of_below HBz.out:aq F w _).step KF.out);have HG2:=am (KF.out.of HGz.out HnG);clear hm kk)
  |(go_at_call 59;(with_reducible refine(HOpen.out _ hv HX2.out HM2.out).mono ?_);rintro e w3 hq;have hq1:=hq.2.2;have hret:e=.returned (.int .i64 re):=(by rw[<-HRe.out];exact hq.ret);subst hret;have HQ:=am hq;have KF3:=am (aq.mono (S':=F) hq1 (fun j _ e=>HFm.out j e));have K3:=am (aq.step K2.out KF3.out);have HG3:=am (KF3.out.of HG2.out HnG);clear hq hq1)
  |((with_reducible refine b9 (N:=30) rfl ?_);refine tq rfl 36 0 (.tmp 29) rfl (.int .i64 re) rfl _ (qat re) ?_)
  |((with_reducible refine bp (t:=36) (p:=4) rfl ?_);refine ff rfl 36 (.tmp 4) (.tmp 30) rfl (w.heap.size+1) 0 (fq re 0 (.slice none 0 0)) rfl rfl 36 (fq 0 0 (.slice none 0 0)) HG3.out gj (an _) ld ?_;rw[kf (fq re 0 (.slice none 0 0)) (fq 0 0 (.slice none 0 0)) rfl]))
 obtain⟨F',hT,hF'⟩:=HQ.out.state HAp.out.1 HAp.out.2 (fun j hj=>HFm.out j hj);have hn':¬ F' (w.heap.size+1):=fun e=>by rcases hF' _ e with e|e;exact HnG e;have:=d7 HG2.out;omega
 exact vk rfl (w.heap.size+1) 36 (fq re 0 (.slice none 0 0)) _ rfl (setRow_heap _ _ _ _ _ _ HG3.out) Tryz.underlying36 rfl gj rfl ⟨_,F',rfl,Kd.R_nil _ _ _ _ _,by rw[<-HSn.out];exact hT.awayRow hn' _,K3.out.setRow (.inr (by omega)) _,fun j hj=>(hF' j hj).imp_right (fun h=>Nat.le_trans (by have:=K2.out.size;omega) h)⟩
end
end Go.Proofs.YtmfhaliclnnbaaaGreat.Sys
