import Derived.Test.YtmfhaliclnnbaaaGreatZTopWholeM1
import Derived.Test.YtmfhaliclnnbaaaGreatZTopWholeM2
namespace Go.Proofs.YtmfhaliclnnbaaaGreat.XTopWhole
open Go.RowKit Go.Proofs.YtmfhaliclnnbaaaGreatW.PrintWords Go.Proofs.YtmfhaliclnnbaaaGreatW.PrintLast Go.Proofs.YtmfhaliclnnbaaaGreatW.PrintMore
attribute [local go_sem] uf uh xn xp ry r9 ug ui
set_option linter.unusedVariables false
set_option linter.unusedSimpArgs false
set_option maxRecDepth 100000
set_option maxHeartbeats 8000000
def dc.l0:Nat->Int->Int->Bool->List (S116)->Int->Int->Option (Bool)
 |0,_,_,_,_,_,_=>none
 |k+1,x1,x5,x6,x12,x13,x14=>if x14<x13 then(if 0<=x14 then(if x14<(x12.length:Int)then(if((ab x12 x14).f0)=x5 then((ec.f ((ab x12 x14).f1)).bind fun t139=>(if t139=true then(if x6=true then(if((ab x12 x14).f2=true)then(if((ab x12 x14).f1)>(wrap64 (x1-x5))then(some false)else(dc.l0 k x1 (wrap64 (x5+((ab x12 x14).f1))) (!((ab x12 x14).f2)) x12 x13 (wrap64 (x14+1))))else(some false))else(if((ab x12 x14).f1)>(wrap64 (x1-x5))then(some false)else(dc.l0 k x1 (wrap64 (x5+((ab x12 x14).f1))) (!((ab x12 x14).f2)) x12 x13 (wrap64 (x14+1)))))else(some false)))else(some false))else(none))else(none))else(some (x5==x1))
def dc.f(k:Nat)(l0:List (S116))(a1:Int):Option (Bool):=(fc.f a1).bind fun t136=>(if t136=true then(dc.l0 k a1 0 false l0 (l0.length:Int) 0)else(some false))
theorem dc.calls (k : Nat) (A0 : Option Addr) (c0 : Nat) (l0 : List (S116)) (a1 : Int) (r : Bool) (w : World) (hr0 : Kd.C e6 w A0 l0.length l0) (hc0 : l0.length ≤ c0) (h : dc.f k l0 a1 = some r) : Calls Tryz.prog 95 #[.slice A0 l0.length c0, .int .i64 a1] w fun e w' => e = .returned (.bool r) ∧ Below w.heap.size w w' := by
 have hu116:=Tryz.underlying116;have HR0:=am hr0;have HC0:=am hc0;clear hr0 hc0;have HB:=am (ai w.heap.size w);have H:((fc.f a1).bind fun t136=>(if t136=true then(dc.l0 k a1 0 false l0 (l0.length:Int) 0)else(some false)))=some r:=h;clear h;replace H:=Option.bind_eq_some_iff.mp H;obtain⟨t136,A30,H⟩:=H
 try dsimp only at H
 have A3:=am A30;clear A30;by_cases c4:t136=true
 ·subst c4;have H1 : (dc.l0 k a1 0 false l0 (l0.length : Int) 0) = some r := by rw [if_pos rfl] at H; exact H
  clear H;have H:=H1;clear H1;have H':=am H;clear H;go_enter Tryz.func95,Tryz.ntmps95;go_wp2_with (first|((with_reducible refine ay (f:=83) rfl ?_);refine zl (some 10) Tryz.func83 #[.int .i64 a1] ?_;(with_reducible refine(fc.calls a1 true _ A3.out).mono ?_);rintro e w' ⟨rfl,⟨nd,rfl⟩⟩;refine⟨_,rfl,?_⟩))
  go_loopg [5,6,14] k (fun kq v5 v6 v14 w'=>∃ (x5_1:Int) (x6_1:Bool) (x14_1:Int),v5=.int .i64 x5_1/\v6=.bool x6_1/\v14=.int .i64 x14_1/\Aside0 (dc.l0 kq a1 x5_1 x6_1 l0 (l0.length:Int) x14_1=some r)/\Aside0 (kq<=k)/\Aside0 (Below w.heap.size w w'))
  case atStart=>exact⟨(0),(false),(0),zs,zs,zs,H',⟨an _⟩,⟨zB HB⟩⟩
  case round =>
   clear H'
   try clear c4
   obtain⟨x5_1,x6_1,x14_1,rfl,rfl,rfl,HA,HK1,HB⟩:=hrel;cases gk with
   |zero=>exact absurd HA.out (by simp[dc.l0])
   | succ k1 =>
    have H:=HA.out;clear HA;simp only[dc.l0]at H;by_cases c5:x14_1<(l0.length:Int)
    ·rw [if_pos c5] at H;have c5b0 := af c5;clear c5;by_cases c6 : 0 ≤ x14_1
     ·rw [if_pos c6] at H;have c6b0 := af c6;clear c6;by_cases c7 : x14_1 < (l0.length : Int)
      ·rw [if_pos c7] at H;have c7b0 := af c7;clear c7;by_cases c8 : ((ab l0 x14_1).f0) = x5_1
       ·rw [if_pos c8] at H;have c8b0 : (((ab l0 x14_1).f0) == x5_1) = true := beq_iff_eq.mpr c8;have c8b1 : (((ab l0 x14_1).f0) != x5_1) = false := bne_eq_false_iff_eq.mpr c8;clear c8;replace H := Option.bind_eq_some_iff.mp H;obtain ⟨t139, A90, H⟩ := H
        try dsimp only at H
        have A9:=am A90;clear A90;by_cases c10:t139=true
        ·subst c10;have H1:(if x6_1=true then(if((ab l0 x14_1).f2=true)then(if((ab l0 x14_1).f1)>(wrap64 (a1-x5_1))then(some false)else(dc.l0 k1 a1 (wrap64 (x5_1+((ab l0 x14_1).f1))) (!((ab l0 x14_1).f2)) l0 (l0.length:Int) (wrap64 (x14_1+1))))else(some false))else(if((ab l0 x14_1).f1)>(wrap64 (a1-x5_1))then(some false)else(dc.l0 k1 a1 (wrap64 (x5_1+((ab l0 x14_1).f1))) (!((ab l0 x14_1).f2)) l0 (l0.length:Int) (wrap64 (x14_1+1)))))=some r:=by rw[if_pos rfl]at H;exact H
         clear H;have H:=H1;clear H1;by_cases c11:x6_1=true
         ·subst c11;have H1:(if((ab l0 x14_1).f2=true)then(if((ab l0 x14_1).f1)>(wrap64 (a1-x5_1))then(some false)else(dc.l0 k1 a1 (wrap64 (x5_1+((ab l0 x14_1).f1))) (!((ab l0 x14_1).f2)) l0 (l0.length:Int) (wrap64 (x14_1+1))))else(some false))=some r:=by rw[if_pos rfl]at H;exact H
          clear H;have H:=H1;clear H1
          first|(generalize hbq12:(ab l0 x14_1).f2=bq12 at *;replace hbq12:=hbq12.symm)|(obtain⟨bq12,hbq12⟩:∃ b_:Bool,b_=((ab l0 x14_1).f2):=⟨_,rfl⟩)
          replace H:(if(bq12=true)then(if((ab l0 x14_1).f1)>(wrap64 (a1-x5_1))then(some false)else(dc.l0 k1 a1 (wrap64 (x5_1+((ab l0 x14_1).f1))) (!bq12) l0 (l0.length:Int) (wrap64 (x14_1+1))))else(some false))=some r:=by first|exact H|(rw[<-hbq12]at H;exact H)
          have Nbq12:=am hbq12;clear hbq12
          (try rw[<-Nbq12.out])
          by_cases c13:(bq12=true)
          ·subst c13;have H1:(if((ab l0 x14_1).f1)>(wrap64 (a1-x5_1))then(some false)else(dc.l0 k1 a1 (wrap64 (x5_1+((ab l0 x14_1).f1))) (!true) l0 (l0.length:Int) (wrap64 (x14_1+1))))=some r:=by rw[if_pos rfl]at H;exact H
           clear H;have H:=H1;clear H1;by_cases c14:((ab l0 x14_1).f1)>(wrap64 (a1-x5_1))
           ·rw[if_pos c14]at H;have c14b0:decide ((wrap64 (a1-x5_1))<((ab l0 x14_1).f1))=true:=af c14;clear c14;obtain rfl:=az H;have p137:0<=(x14_1:Int):=zu;have q137:x14_1<(l0.length:Int):=zu;obtain⟨ad137,e137,hx137_0,hx137_1,hx137_2⟩:=fj HR0.out x14_1 p137 q137
            (try rw[<-Nbq12.out]at hx137_2)
            cases e137;replace hx137_0:=zw HB hx137_0;replace hx137_1:=zw HB hx137_1;replace hx137_2:=zw HB hx137_2;replace p137:=eq_true p137;replace q137:=eq_true q137;go_wp2_with (first|((with_reducible refine b9 (N:=8) rfl ?_);refine db ?hg (N:=8) ?hd (cs:=#[.int .i64 0, .int .i64 0, .bool false]) (t:=116) ?hr ?_;(case hd=>rfl);(case hg=>rfl);(case hr=>first|(go_simp;done)|(go_simp;rfl));intro gb138 hg w15 hbox hb;have GW138:=zg HB hg;have GE138:=GW138;replace HB:=zb HB hb;have BK138:=am hbox;clear hb hbox hg;have hcz16_0:=zk BK138 0 (.int .i64 0);have hcz16_1:=zk BK138 1 (.int .i64 0);have hcz16_2:=zk BK138 2 (.bool false);have hfz16_0:=ak BK138.out 0;have hfz16_1:=ak BK138.out 1;have hfz16_2:=ak BK138.out 2)|(go_at_call 125;(with_reducible refine(ec.calls ((ab l0 x14_1).f1) true _ A9.out).mono ?_);rintro e w' ⟨rfl,⟨nd,rfl⟩⟩))
            go_ret;exact⟨ze,by repeat (first|(with_reducible first|exact HB.out|apply qd|apply qe|apply qf|refine bj ?_ GE138.out)|exact HB.out)⟩
           ·rw[if_neg c14]at H;have c14b0:decide ((wrap64 (a1-x5_1))<((ab l0 x14_1).f1))=false:=ah c14;clear c14;have H':=am H;clear H;have p137:0<=(x14_1:Int):=zu;have q137:x14_1<(l0.length:Int):=zu;obtain⟨ad137,e137,hx137_0,hx137_1,hx137_2⟩:=fj HR0.out x14_1 p137 q137
            (try rw[<-Nbq12.out]at hx137_2)
            cases e137;replace hx137_0:=zw HB hx137_0;replace hx137_1:=zw HB hx137_1;replace hx137_2:=zw HB hx137_2;replace p137:=eq_true p137;replace q137:=eq_true q137;go_wp2_with (first|((with_reducible refine b9 (N:=8) rfl ?_);refine db ?hg (N:=8) ?hd (cs:=#[.int .i64 0, .int .i64 0, .bool false]) (t:=116) ?hr ?_;(case hd=>rfl);(case hg=>rfl);(case hr=>first|(go_simp;done)|(go_simp;rfl));intro gb138 hg w17 hbox hb;have GW138:=zg HB hg;have GE138:=GW138;replace HB:=zb HB hb;have BK138:=am hbox;clear hb hbox hg;have hcz18_0:=zk BK138 0 (.int .i64 0);have hcz18_1:=zk BK138 1 (.int .i64 0);have hcz18_2:=zk BK138 2 (.bool false);have hfz18_0:=ak BK138.out 0;have hfz18_1:=ak BK138.out 1;have hfz18_2:=ak BK138.out 2)|(go_at_call 125;(with_reducible refine(ec.calls ((ab l0 x14_1).f1) true _ A9.out).mono ?_);rintro e w' ⟨rfl,⟨nd,rfl⟩⟩))
            go_roundg k1
            case measure=>have:=HK1.out;omega
            case rel=>exact⟨(wrap64 (x5_1+((ab l0 x14_1).f1))),(!true),(wrap64 (x14_1+1)),zs,zs,zs,H',⟨by have:=HK1.out;omega⟩,⟨by repeat (first|(with_reducible first|exact HB.out|apply qd|apply qe|apply qf|refine bj ?_ GE138.out)|exact HB.out)⟩⟩
          ·replace c13:=Bool.eq_false_iff.mpr c13;subst c13;have H1:(some false)=some r:=by rw[if_neg (show ¬ (false=true)by decide)]at H;exact H
           clear H;have H:=H1;clear H1;obtain rfl:=az H;have p137:0<=(x14_1:Int):=zu;have q137:x14_1<(l0.length:Int):=zu;obtain⟨ad137,e137,hx137_0,hx137_1,hx137_2⟩:=fj HR0.out x14_1 p137 q137
           (try rw[<-Nbq12.out]at hx137_2)
           cases e137;replace hx137_0:=zw HB hx137_0;replace hx137_1:=zw HB hx137_1;replace hx137_2:=zw HB hx137_2;replace p137:=eq_true p137;replace q137:=eq_true q137;go_wp2_with (first|((with_reducible refine b9 (N:=8) rfl ?_);refine db ?hg (N:=8) ?hd (cs:=#[.int .i64 0, .int .i64 0, .bool false]) (t:=116) ?hr ?_;(case hd=>rfl);(case hg=>rfl);(case hr=>first|(go_simp;done)|(go_simp;rfl));intro gb138 hg w19 hbox hb;have GW138:=zg HB hg;have GE138:=GW138;replace HB:=zb HB hb;have BK138:=am hbox;clear hb hbox hg;have hcz20_0:=zk BK138 0 (.int .i64 0);have hcz20_1:=zk BK138 1 (.int .i64 0);have hcz20_2:=zk BK138 2 (.bool false);have hfz20_0:=ak BK138.out 0;have hfz20_1:=ak BK138.out 1;have hfz20_2:=ak BK138.out 2)|(go_at_call 125;(with_reducible refine(ec.calls ((ab l0 x14_1).f1) true _ A9.out).mono ?_);rintro e w' ⟨rfl,⟨nd,rfl⟩⟩))
           go_ret;exact⟨ze,by repeat (first|(with_reducible first|exact HB.out|apply qd|apply qe|apply qf|refine bj ?_ GE138.out)|exact HB.out)⟩
         ·replace c11:=Bool.eq_false_iff.mpr c11;subst c11;have H1:(if((ab l0 x14_1).f1)>(wrap64 (a1-x5_1))then(some false)else(dc.l0 k1 a1 (wrap64 (x5_1+((ab l0 x14_1).f1))) (!((ab l0 x14_1).f2)) l0 (l0.length:Int) (wrap64 (x14_1+1))))=some r:=by rw[if_neg (show ¬ (false=true)by decide)]at H;exact H
          clear H;have H:=H1;clear H1;by_cases c21:((ab l0 x14_1).f1)>(wrap64 (a1-x5_1))
          ·rw[if_pos c21]at H;have c21b0:decide ((wrap64 (a1-x5_1))<((ab l0 x14_1).f1))=true:=af c21;clear c21;obtain rfl:=az H;have p137:0<=(x14_1:Int):=zu;have q137:x14_1<(l0.length:Int):=zu;obtain⟨ad137,e137,hx137_0,hx137_1,hx137_2⟩:=fj HR0.out x14_1 p137 q137;cases e137;replace hx137_0:=zw HB hx137_0;replace hx137_1:=zw HB hx137_1;replace hx137_2:=zw HB hx137_2;replace p137:=eq_true p137;replace q137:=eq_true q137;go_wp2_with (first|((with_reducible refine b9 (N:=8) rfl ?_);refine db ?hg (N:=8) ?hd (cs:=#[.int .i64 0, .int .i64 0, .bool false]) (t:=116) ?hr ?_;(case hd=>rfl);(case hg=>rfl);(case hr=>first|(go_simp;done)|(go_simp;rfl));intro gb138 hg w22 hbox hb;have GW138:=zg HB hg;have GE138:=GW138;replace HB:=zb HB hb;have BK138:=am hbox;clear hb hbox hg;have hcz23_0:=zk BK138 0 (.int .i64 0);have hcz23_1:=zk BK138 1 (.int .i64 0);have hcz23_2:=zk BK138 2 (.bool false);have hfz23_0:=ak BK138.out 0;have hfz23_1:=ak BK138.out 1;have hfz23_2:=ak BK138.out 2)|(go_at_call 125;(with_reducible refine(ec.calls ((ab l0 x14_1).f1) true _ A9.out).mono ?_);rintro e w' ⟨rfl,⟨nd,rfl⟩⟩))
           go_ret;exact⟨ze,by repeat (first|(with_reducible first|exact HB.out|apply qd|apply qe|apply qf|refine bj ?_ GE138.out)|exact HB.out)⟩
          ·rw[if_neg c21]at H;have c21b0:decide ((wrap64 (a1-x5_1))<((ab l0 x14_1).f1))=false:=ah c21;clear c21;have H':=am H;clear H;have p137:0<=(x14_1:Int):=zu;have q137:x14_1<(l0.length:Int):=zu;obtain⟨ad137,e137,hx137_0,hx137_1,hx137_2⟩:=fj HR0.out x14_1 p137 q137;cases e137;replace hx137_0:=zw HB hx137_0;replace hx137_1:=zw HB hx137_1;replace hx137_2:=zw HB hx137_2;replace p137:=eq_true p137;replace q137:=eq_true q137;go_wp2_with (first|((with_reducible refine b9 (N:=8) rfl ?_);refine db ?hg (N:=8) ?hd (cs:=#[.int .i64 0, .int .i64 0, .bool false]) (t:=116) ?hr ?_;(case hd=>rfl);(case hg=>rfl);(case hr=>first|(go_simp;done)|(go_simp;rfl));intro gb138 hg w24 hbox hb;have GW138:=zg HB hg;have GE138:=GW138;replace HB:=zb HB hb;have BK138:=am hbox;clear hb hbox hg;have hcz25_0:=zk BK138 0 (.int .i64 0);have hcz25_1:=zk BK138 1 (.int .i64 0);have hcz25_2:=zk BK138 2 (.bool false);have hfz25_0:=ak BK138.out 0;have hfz25_1:=ak BK138.out 1;have hfz25_2:=ak BK138.out 2)|(go_at_call 125;(with_reducible refine(ec.calls ((ab l0 x14_1).f1) true _ A9.out).mono ?_);rintro e w' ⟨rfl,⟨nd,rfl⟩⟩))
           go_roundg k1
           case measure=>have:=HK1.out;omega
           case rel=>exact⟨(wrap64 (x5_1+((ab l0 x14_1).f1))),(!((ab l0 x14_1).f2)),(wrap64 (x14_1+1)),zs,zs,zs,H',⟨by have:=HK1.out;omega⟩,⟨by repeat (first|(with_reducible first|exact HB.out|apply qd|apply qe|apply qf|refine bj ?_ GE138.out)|exact HB.out)⟩⟩
        ·replace c10:=Bool.eq_false_iff.mpr c10;subst c10;have H1:(some false)=some r:=by rw[if_neg (show ¬ (false=true)by decide)]at H;exact H
         clear H;have H:=H1;clear H1;obtain rfl:=az H;have p137:0<=(x14_1:Int):=zu;have q137:x14_1<(l0.length:Int):=zu;obtain⟨ad137,e137,hx137_0,hx137_1,hx137_2⟩:=fj HR0.out x14_1 p137 q137;cases e137;replace hx137_0:=zw HB hx137_0;replace hx137_1:=zw HB hx137_1;replace hx137_2:=zw HB hx137_2;replace p137:=eq_true p137;replace q137:=eq_true q137;go_wp2_with (first|((with_reducible refine b9 (N:=8) rfl ?_);refine db ?hg (N:=8) ?hd (cs:=#[.int .i64 0, .int .i64 0, .bool false]) (t:=116) ?hr ?_;(case hd=>rfl);(case hg=>rfl);(case hr=>first|(go_simp;done)|(go_simp;rfl));intro gb138 hg w26 hbox hb;have GW138:=zg HB hg;have GE138:=GW138;replace HB:=zb HB hb;have BK138:=am hbox;clear hb hbox hg;have hcz27_0:=zk BK138 0 (.int .i64 0);have hcz27_1:=zk BK138 1 (.int .i64 0);have hcz27_2:=zk BK138 2 (.bool false);have hfz27_0:=ak BK138.out 0;have hfz27_1:=ak BK138.out 1;have hfz27_2:=ak BK138.out 2)|(go_at_call 125;(with_reducible refine(ec.calls ((ab l0 x14_1).f1) false _ A9.out).mono ?_);rintro e w' ⟨rfl,⟨nd,rfl⟩⟩))
         go_ret;exact⟨ze,by repeat (first|(with_reducible first|exact HB.out|apply qd|apply qe|apply qf|refine bj ?_ GE138.out)|exact HB.out)⟩
       ·rw[if_neg c8]at H;have c8b0:(((ab l0 x14_1).f0)==x5_1)=false:=beq_eq_false_iff_ne.mpr c8;have c8b1:(((ab l0 x14_1).f0) != x5_1)=true:=bne_iff_ne.mpr c8;obtain rfl:=az H;have p137:0<=(x14_1:Int):=zu;have q137:x14_1<(l0.length:Int):=zu;obtain⟨ad137,e137,hx137_0,hx137_1,hx137_2⟩:=fj HR0.out x14_1 p137 q137;cases e137;replace hx137_0:=zw HB hx137_0;replace hx137_1:=zw HB hx137_1;replace hx137_2:=zw HB hx137_2;replace p137:=eq_true p137;replace q137:=eq_true q137;go_wp2_with (first|((with_reducible refine b9 (N:=8) rfl ?_);refine db ?hg (N:=8) ?hd (cs:=#[.int .i64 0, .int .i64 0, .bool false]) (t:=116) ?hr ?_;(case hd=>rfl);(case hg=>rfl);(case hr=>first|(go_simp;done)|(go_simp;rfl));intro gb138 hg w28 hbox hb;have GW138:=zg HB hg;have GE138:=GW138;replace HB:=zb HB hb;have BK138:=am hbox;clear hb hbox hg;have hcz29_0:=zk BK138 0 (.int .i64 0);have hcz29_1:=zk BK138 1 (.int .i64 0);have hcz29_2:=zk BK138 2 (.bool false);have hfz29_0:=ak BK138.out 0;have hfz29_1:=ak BK138.out 1;have hfz29_2:=ak BK138.out 2))
        go_ret;exact⟨ze,by repeat (first|(with_reducible first|exact HB.out|apply qd|apply qe|apply qf|refine bj ?_ GE138.out)|exact HB.out)⟩
      ·rw[if_neg c7]at H;exact absurd H (by simp)
     ·rw[if_neg c6]at H;exact absurd H (by simp)
    ·rw[if_neg c5]at H;have c5b0:=ah c5;clear c5;obtain rfl:=az H;go_wp2;go_ret;exact⟨ze,zB HB⟩
 ·replace c4:=Bool.eq_false_iff.mpr c4;subst c4;have H1:(some false)=some r:=by rw[if_neg (show ¬ (false=true)by decide)]at H;exact H
  clear H;have H:=H1;clear H1;obtain rfl:=az H;go_enter Tryz.func95,Tryz.ntmps95;go_wp2_with (first|((with_reducible refine ay (f:=83) rfl ?_);refine zl (some 10) Tryz.func83 #[.int .i64 a1] ?_;(with_reducible refine(fc.calls a1 false _ A3.out).mono ?_);rintro e w' ⟨rfl,⟨nd,rfl⟩⟩;refine⟨_,rfl,?_⟩))
  go_ret;exact⟨ze,zB HB⟩
def cf.l0:Nat->List Int->List (S116)->Int->Option ((List (S116))×Bool)
 |0,_,_,_=>none
 |k+1,x0,x4,x5=>if x5<(x0.length:Int)then(if 0<=x5 then((ka.f (rd x0 x5)).bind fun bt141=>(if bt141.2.2=true then(if x4.length<5864062014805 then(cf.l0 k x0 (x4++[(⟨x5,bt141.1,bt141.2.1⟩:S116)]) (wrap64 (x5+bt141.1)))else(none))else(some (([]:List (S116)),false))))else(none))else((dc.f k x4 (x0.length:Int)).bind fun t147=>(if t147=true then(some (x4,true))else(some (([]:List (S116)),false))))
def cf.f(k:Nat)(l0:List Int):Option ((List (S116))×Bool):=cf.l0 k l0 ([]:List (S116)) 0
theorem cf.calls(k:Nat)(A0:Option Addr)(c0:Nat)(l0:List Int)(r1:List (S116))(r2:Bool)(w:World)(hr0:Kd.C (Kd.int .u64) w A0 l0.length l0)(hc0:l0.length<=c0)(h:cf.f k l0=some (r1,r2)):Calls Tryz.prog 45 #[.slice A0 l0.length c0] w fun e w'=>∃ v0_:Value,e=.returned (.tuple #[v0_, .bool r2])/\Kd.R e6 116 w' w.heap.size (fun _=>True) v0_ r1/\Below w.heap.size w w':=by
 have hu116:=Tryz.underlying116;have HR0:=am hr0;have HC0:=am hc0;clear hr0 hc0;have HB:=am (ai w.heap.size w);have H:(cf.l0 k l0 ([]:List (S116)) 0)=some (r1,r2):=h;clear h;have H':=am H;clear H;go_enter Tryz.func45,Tryz.ntmps45;go_wp2;go_loopg [4,5] k (fun kq v4 v5 w'=>∃ (x4_1:List (S116)) (x5_1:Int),v5=.int .i64 x5_1/\Aside0 (cf.l0 kq l0 x4_1 x5_1=some (r1,r2))/\Aside0 (kq<=k)/\Aside0 (Kd.R e6 116 w' w.heap.size (fun _=>True) v4 x4_1)/\Aside0 (Below w.heap.size w w'))
 case atStart=>exact⟨(([]:List (S116))),(0),zs,H',⟨an _⟩,⟨by first|exact Kd.R_nil _ _ _ _ _|exact Kd.N_nil _ _ _ _ _|exact Kd.V_nil _ _ _ _ _|exact Kd.Q_nil _ _ _ _ _|exact Kd.S_nil _ _ _ _ _⟩,⟨zB HB⟩⟩
 case round =>
  clear H';obtain⟨x4_1,x5_1,rfl,HA,HK1,HO_4,HB⟩:=hrel;cases gk with
  |zero=>exact absurd HA.out (by simp[cf.l0])
  |succ k1=>
   have H:=HA.out;clear HA;simp only[cf.l0]at H;by_cases c2:x5_1<(l0.length:Int)
   ·rw [if_pos c2] at H;have c2b0 := af c2;clear c2;by_cases c3 : 0 ≤ x5_1
    ·rw[if_pos c3]at H;have c3b0:=af c3;clear c3;replace H:=Option.bind_eq_some_iff.mp H;obtain⟨⟨t141,t142,t143⟩,A40,H⟩:=H
     try dsimp only at H
     have A4:=am A40;clear A40;by_cases c5:t143=true
     ·subst c5;have H1:(if x4_1.length<5864062014805 then(cf.l0 k1 l0 (x4_1++[(⟨x5_1,t141,t142⟩:S116)]) (wrap64 (x5_1+t141)))else(none))=some (r1,r2):=by rw[if_pos rfl]at H;exact H
      clear H;have H:=H1;clear H1;by_cases c6:x4_1.length<5864062014805
      ·rw[if_pos c6]at H;have LMc6:=am c6;clear c6;obtain⟨y144,hy144⟩:∃ y_:List (S116),y_=(x4_1++[(⟨x5_1,t141,t142⟩:S116)]):=⟨_,rfl⟩;replace H:(cf.l0 k1 l0 y144 (wrap64 (x5_1+t141)))=some (r1,r2):=by first|(rw[hy144];with_reducible exact H)|(have H2_:=(Option.bind_some _ _).symm.trans H;rw[hy144];with_reducible exact H2_)|(have H2_:=(Option.bind_some _ _).symm.trans H;with_reducible exact H2_)|with_reducible exact H|(rw[hy144];exact H)|exact H
       have Ny144:=am hy144;clear hy144;have H':=am H;clear H;have p140:0<=(x5_1:Int):=zu;have q140:x5_1<(l0.length:Int):=zu;obtain⟨ad140,e140,hx140_0⟩:=Kd.at_int HR0.out x5_1 p140 q140;cases e140;replace hx140_0:=zw HB hx140_0;replace p140:=eq_true p140;replace q140:=eq_true q140;go_wp2_with (first|((with_reducible refine ay (f:=94) rfl ?_);refine zl (some 18) Tryz.func94 #[.int .u64 (rd l0 x5_1)] ?_;(with_reducible refine(ka.calls (rd l0 x5_1) t141 t142 true _ A4.out).mono ?_);rintro e w' ⟨rfl,⟨nd,rfl⟩⟩;refine⟨_,rfl,?_⟩)|((with_reducible refine di (b:=.append) (xs:=#[.tmp 24, .tmp 29]) rfl ?_);at_builtin;refine Kd.R_append e6 (w0:=w) w.heap.size rfl (.tmp 24) (.tmp 29) 93 116 (.agg #[(.int .i64 0),(.int .i64 0),(.bool false)]) 24 rfl Tryz.underlying93 mh rfl (by decide) (by omega) u4 x4_1 (⟨x5_1,t141,t142⟩:S116) [.int .i64 x5_1, .int .i64 t141, .bool t142] (fun _=>True) (fun _=>False) rfl rfl ?aP (fun _ hk=>hk.elim) ?aF ?aO ?aB ?aS ?aL ?_;(case aP=>exact wj _ _ _ (⟨x5_1,t141,t142⟩:S116));(case aB=>exact(zB HB));(case aF=>exact(fun _ _=>trivial));(case aO=>exact(zr HO_4));(case aS=>exact(bk (zB HB)));(case aL=>have:=LMc6.out;omega);intro v145 w7 ho hb hg hat;rw[<-Ny144.out]at ho;have n0_:=am (hb);have n1_:=am (ho);clear HB;clear HO_4;have HB:=n0_;have HO146:=n1_;clear n0_ n1_;clear ho hb hg hat))
       go_roundg k1
       case measure=>have:=HK1.out;omega
       case rel=>exact⟨(y144),(wrap64 (x5_1+t141)),zs,H',⟨by have:=HK1.out;omega⟩,⟨zr HO146⟩,⟨zB HB⟩⟩
      ·rw[if_neg c6]at H;exact absurd H (by simp)
     ·replace c5:=Bool.eq_false_iff.mpr c5;subst c5;have H1:(some (([]:List (S116)),false))=some (r1,r2):=by rw[if_neg (show ¬ (false=true)by decide)]at H;exact H
      clear H;have H:=H1;clear H1;simp only[Option.some.injEq,Prod.mk.injEq]at H;obtain⟨rfl,rfl⟩:=H;have p140:0<=(x5_1:Int):=zu;have q140:x5_1<(l0.length:Int):=zu;obtain⟨ad140,e140,hx140_0⟩:=Kd.at_int HR0.out x5_1 p140 q140;cases e140;replace hx140_0:=zw HB hx140_0;replace p140:=eq_true p140;replace q140:=eq_true q140;go_wp2_with (first|((with_reducible refine ay (f:=94) rfl ?_);refine zl (some 18) Tryz.func94 #[.int .u64 (rd l0 x5_1)] ?_;(with_reducible refine(ka.calls (rd l0 x5_1) t141 t142 false _ A4.out).mono ?_);rintro e w' ⟨rfl,⟨nd,rfl⟩⟩;refine⟨_,rfl,?_⟩))
      go_ret2;exact⟨_,ze,by first|exact Kd.R_nil _ _ _ _ _|exact Kd.N_nil _ _ _ _ _|exact Kd.V_nil _ _ _ _ _|exact Kd.Q_nil _ _ _ _ _|exact Kd.S_nil _ _ _ _ _,zB HB⟩
    ·rw[if_neg c3]at H;exact absurd H (by simp)
   ·rw[if_neg c2]at H;have c2b0:=ah c2;clear c2;replace H:=Option.bind_eq_some_iff.mp H;obtain⟨t147,A80,H⟩:=H
    try dsimp only at H
    have A8:=am A80;clear A80;by_cases c9:t147=true
    ·subst c9;have H1:(some (x4_1,true))=some (r1,r2):=by rw[if_pos rfl]at H;exact H
     clear H;have H:=H1;clear H1;simp only[Option.some.injEq,Prod.mk.injEq]at H;obtain⟨rfl,rfl⟩:=H;obtain⟨Ao10,co10,eo10⟩:=Kd.R_slice HO_4.out;subst eo10;go_wp2_with (first|((with_reducible refine ay (f:=95) rfl ?_);refine zl (some 37) Tryz.func95 #[.slice Ao10 x4_1.length co10, .int .i64 (l0.length:Int)] ?_;(with_reducible refine(dc.calls k1 _ _ x4_1 (l0.length:Int) true _ ?side1 ?side2 A8.out).mono ?_);(case side1=>exact zc (Kd.R_reads' HO_4.out).2.2);(case side2=>exact(Kd.R_reads' HO_4.out).2.1);rintro e w11 ⟨rfl,hb⟩;refine⟨_,rfl,?_⟩;have n0_:=za HO_4 hb;have n1_:=zb HB hb;replace HO_4:=n0_;replace HB:=n1_;clear n0_ n1_;(try clear hb)))
     go_ret2;exact⟨_,ze,by(with_reducible repeat (first|apply qa|apply qb|apply qc));exact HO_4.out,zB HB⟩
    ·replace c9:=Bool.eq_false_iff.mpr c9;subst c9;have H1:(some (([]:List (S116)),false))=some (r1,r2):=by rw[if_neg (show ¬ (false=true)by decide)]at H;exact H
     clear H;have H:=H1;clear H1;simp only[Option.some.injEq,Prod.mk.injEq]at H;obtain⟨rfl,rfl⟩:=H;obtain⟨Ao12,co12,eo12⟩:=Kd.R_slice HO_4.out;subst eo12;go_wp2_with (first|((with_reducible refine ay (f:=95) rfl ?_);refine zl (some 37) Tryz.func95 #[.slice Ao12 x4_1.length co12, .int .i64 (l0.length:Int)] ?_;(with_reducible refine(dc.calls k1 _ _ x4_1 (l0.length:Int) false _ ?side1 ?side2 A8.out).mono ?_);(case side1=>exact zc (Kd.R_reads' HO_4.out).2.2);(case side2=>exact(Kd.R_reads' HO_4.out).2.1);rintro e w13 ⟨rfl,hb⟩;refine⟨_,rfl,?_⟩;have n0_:=za HO_4 hb;have n1_:=zb HB hb;replace HO_4:=n0_;replace HB:=n1_;clear n0_ n1_;(try clear hb)))
     go_ret2;exact⟨_,ze,by first|exact Kd.R_nil _ _ _ _ _|exact Kd.N_nil _ _ _ _ _|exact Kd.V_nil _ _ _ _ _|exact Kd.Q_nil _ _ _ _ _|exact Kd.S_nil _ _ _ _ _,zB HB⟩
def mu.f(a0_0:Int)(a0_1:Int)(a0_2:Bool):Option (Int):=if a0_0<0 then(some 0)else(if a0_0>512 then(some 0)else(some (wrap64 ((wrap64 (a0_0+1))*8))))
theorem mu.calls(a0_0:Int)(a0_1:Int)(a0_2:Bool)(r:Int)(w:World)(h:mu.f a0_0 a0_1 a0_2=some r):Calls Tryz.prog 138 #[.agg #[.int .i64 a0_0, .int .i64 a0_1, .bool a0_2]] w fun e w'=>e=.returned (.int .i64 r)/\Below w.heap.size w w':=by
 have hu116:=Tryz.underlying116;have HB:=am (ai w.heap.size w);have H:(if a0_0<0 then(some 0)else(if a0_0>512 then(some 0)else(some (wrap64 ((wrap64 (a0_0+1))*8)))))=some r:=h;clear h;by_cases c2:a0_0<0
 ·rw[if_pos c2]at H;have c2b0:=af c2;clear c2;obtain rfl:=az H;go_enter Tryz.func138,Tryz.ntmps138;go_wp2_with (first|((with_reducible refine b9 (N:=1) rfl ?_);refine db ?hg (N:=1) ?hd (cs:=#[.int .i64 a0_0, .int .i64 a0_1, .bool a0_2]) (t:=116) ?hr ?_;(case hd=>rfl);(case hg=>rfl);(case hr=>first|(go_simp;done)|(go_simp;rfl));intro gb155 hg w3 hbox hb;have GW155:=zg HB hg;have GE155:=GW155;replace HB:=zb HB hb;have BK155:=am hbox;clear hb hbox hg;have hcz4_0:=zk BK155 0 (.int .i64 a0_0);have hcz4_1:=zk BK155 1 (.int .i64 a0_1);have hcz4_2:=zk BK155 2 (.bool a0_2);have hfz4_0:=ak BK155.out 0;have hfz4_1:=ak BK155.out 1;have hfz4_2:=ak BK155.out 2))
  go_ret;exact⟨by first|rfl|(simp[e8,e9] <;> rfl)|(simp[*,e8,e9] <;> (first|rfl|rw[Int.tdiv_eq_ediv_of_nonneg (by omega)])),by repeat (first|(with_reducible first|exact HB.out|apply qd|apply qe|apply qf|refine bj ?_ GE155.out)|exact HB.out)⟩
 ·rw[if_neg c2]at H;have c2b0:=ah c2;clear c2;by_cases c5:a0_0>512
  ·rw[if_pos c5]at H;have c5b0:decide (512<a0_0)=true:=af c5;clear c5;obtain rfl:=az H;go_enter Tryz.func138,Tryz.ntmps138;go_wp2_with (first|((with_reducible refine b9 (N:=1) rfl ?_);refine db ?hg (N:=1) ?hd (cs:=#[.int .i64 a0_0, .int .i64 a0_1, .bool a0_2]) (t:=116) ?hr ?_;(case hd=>rfl);(case hg=>rfl);(case hr=>first|(go_simp;done)|(go_simp;rfl));intro gb155 hg w6 hbox hb;have GW155:=zg HB hg;have GE155:=GW155;replace HB:=zb HB hb;have BK155:=am hbox;clear hb hbox hg;have hcz7_0:=zk BK155 0 (.int .i64 a0_0);have hcz7_1:=zk BK155 1 (.int .i64 a0_1);have hcz7_2:=zk BK155 2 (.bool a0_2);have hfz7_0:=ak BK155.out 0;have hfz7_1:=ak BK155.out 1;have hfz7_2:=ak BK155.out 2))
   go_ret;exact⟨by first|rfl|(simp[e8,e9] <;> rfl)|(simp[*,e8,e9] <;> (first|rfl|rw[Int.tdiv_eq_ediv_of_nonneg (by omega)])),by repeat (first|(with_reducible first|exact HB.out|apply qd|apply qe|apply qf|refine bj ?_ GE155.out)|exact HB.out)⟩
  ·rw[if_neg c5]at H;have c5b0:decide (512<a0_0)=false:=ah c5;clear c5;obtain rfl:=az H;go_enter Tryz.func138,Tryz.ntmps138;go_wp2_with (first|((with_reducible refine b9 (N:=1) rfl ?_);refine db ?hg (N:=1) ?hd (cs:=#[.int .i64 a0_0, .int .i64 a0_1, .bool a0_2]) (t:=116) ?hr ?_;(case hd=>rfl);(case hg=>rfl);(case hr=>first|(go_simp;done)|(go_simp;rfl));intro gb155 hg w8 hbox hb;have GW155:=zg HB hg;have GE155:=GW155;replace HB:=zb HB hb;have BK155:=am hbox;clear hb hbox hg;have hcz9_0:=zk BK155 0 (.int .i64 a0_0);have hcz9_1:=zk BK155 1 (.int .i64 a0_1);have hcz9_2:=zk BK155 2 (.bool a0_2);have hfz9_0:=ak BK155.out 0;have hfz9_1:=ak BK155.out 1;have hfz9_2:=ak BK155.out 2))
   go_ret;exact⟨by first|rfl|(simp[e8,e9] <;> rfl)|(simp[*,e8,e9] <;> (first|rfl|rw[Int.tdiv_eq_ediv_of_nonneg (by omega)])),by repeat (first|(with_reducible first|exact HB.out|apply qd|apply qe|apply qf|refine bj ?_ GE155.out)|exact HB.out)⟩
section
open Go.Shelf Go.Lib Go.Proofs
def qkl:Ren:={f:=fun x=>match x with|8=>178|6=>136|n=>n,t:=fun x=>match x with|22=>93|23=>116|25=>174|n=>n,g:=fun n=>n}
theorem qqf:SlLaysH0.n6 Tryz.prog qkl:=
  { mixed := by kernel_rfl, f6 := ⟨"slices.IndexFunc[[]darning/api.Block,darning/api.Block]", qu (by kernel_rfl), Tryz.func136.trans (congrArg some (by kernel_rfl))⟩,
    t0:=Tryz.underlying0,a0:=Tryz.isAgg0,z0:=Tryz.sizeOf0,v0:=Tryz.zeroValue0,t3:=Tryz.underlying3,a3:=Tryz.isAgg3,z3:=Tryz.sizeOf3,v3:=Tryz.zeroValue3,t4:=Tryz.underlying4,a4:=Tryz.isAgg4,z4:=Tryz.sizeOf4,v4:=Tryz.zeroValue4,
    t22:=Tryz.underlying93,a22:=Tryz.isAgg93,z22:=Tryz.sizeOf93,v22:=Tryz.zeroValue93,t25:=Tryz.underlying174,a25:=Tryz.isAgg174,z25:=Tryz.sizeOf174,v25:=Tryz.zeroValue174}
theorem qsa:SlLaysH0.n8 Tryz.prog qkl:=
  { mixed := by kernel_rfl, f6 := qqf.f6, f8 := ⟨"slices.ContainsFunc[[]darning/api.Block,darning/api.Block]", qu (by kernel_rfl), Tryz.func178.trans (congrArg some (by kernel_rfl))⟩,
    t0:=Tryz.underlying0,a0:=Tryz.isAgg0,z0:=Tryz.sizeOf0,v0:=Tryz.zeroValue0,t3:=Tryz.underlying3,a3:=Tryz.isAgg3,z3:=Tryz.sizeOf3,v3:=Tryz.zeroValue3,t4:=Tryz.underlying4,a4:=Tryz.isAgg4,z4:=Tryz.sizeOf4,v4:=Tryz.zeroValue4,
    t22:=Tryz.underlying93,a22:=Tryz.isAgg93,z22:=Tryz.sizeOf93,v22:=Tryz.zeroValue93,t25:=Tryz.underlying174,a25:=Tryz.isAgg174,z25:=Tryz.sizeOf174,v25:=Tryz.zeroValue174}
def oo(a:Int):Int:=if a<0 then 0 else if a>512 then 0 else wrap64 ((wrap64 (a+1))*8)
theorem qki(a b:Int)(c:Bool):mu.f a b c=some (oo a):=by
  unfold mu.f oo;split
  · rfl
  · split <;> rfl
def qcy(x:S116):List Value:=[.int .i64 x.f0, .int .i64 x.f1, .bool x.f2]
def qgv(B C:Nat)(off n x0 x1:Int)(w W w':World):Prop:=
  w'.cell? ⟨B,0,none⟩=some (.int .i64 off)/\w'.cell? ⟨C,0,none⟩=some (.int .i64 n)/\w'.cell? ⟨W.heap.size,0,none⟩=some (.int .i64 x0)/\w'.cell? ⟨W.heap.size,1,none⟩=some (.int .i64 x1)/\w'.cell? ⟨W.heap.size,2,none⟩=some (.bool true)/\Below w.heap.size w w'∧W.heap.size<w'.heap.size
theorem qgv.below{B C:Nat}{off n x0 x1:Int}{w W w' w1:World}(h:qgv B C off n x0 x1 w W w')(hb:Below w'.heap.size w' w1):qgv B C off n x0 x1 w W w1:=by
  obtain⟨h1,h2,h3,h4,h5,h6,h7⟩:=h;exact⟨fy hb h1,fy hb h2,fy hb h3,fy hb h4,fy hb h5,qw h6 hb,Nat.lt_of_lt_of_le h7 hb.size⟩
def qx(off n:Int)(x:S116):Bool:=x.f2&&(decide (oo x.f0<=off)&&decide (off<=wrap64 (wrap64 (wrap64 (x.f0+x.f1)*8)-n)))
theorem qrg(off n:Int)(B C:Nat)(w:World)(hB:B<w.heap.size)(hC:C<w.heap.size)(hcell:w.cell? ⟨B,0,none⟩=some (.int .i64 off))(hcell2:w.cell? ⟨C,0,none⟩=some (.int .i64 n)):PredBelow Tryz.prog 179 #[.pointer (some ⟨B,0,none⟩), .pointer (some ⟨C,0,none⟩)] (fun x:S116=>.agg (qcy x).toArray) (qx off n) w:=fun W x hb=>by
  have hc:W.cell? ⟨B,0,none⟩=some (.int .i64 off):=(hb.cell (p:=⟨B,0,none⟩) hB).trans hcell;have hd:W.cell? ⟨C,0,none⟩=some (.int .i64 n):=(hb.cell (p:=⟨C,0,none⟩) hC).trans hcell2;have hBW:B<W.heap.size:=Nat.lt_of_lt_of_le hB hb.size;have hCW:C<W.heap.size:=Nat.lt_of_lt_of_le hC hb.size;obtain⟨x0,x1,x2⟩:=x;have ho:=qki x0 x1 x2;obtain⟨v,hv⟩:∃ v,oo x0=v:=⟨_,rfl⟩;rw[hv]at ho;replace ho:=Lib.hid ho;show Calls Tryz.prog 179 #[.agg #[.int .i64 x0, .int .i64 x1, .bool x2], .pointer (some ⟨B,0,none⟩), .pointer (some ⟨C,0,none⟩)] W _;cases x2
  · go_enter Tryz.func179, Tryz.ntmps179
    go_wp2
    go_quiet (fail)
    go_wp2
    go_ret
    exact⟨by simp[qx],by repeat (first|exact hb.alloc hb.size _|apply qd|apply qe|apply qf)⟩
  have hS0:qgv B C off n x0 x1 w W (W.alloc (.cells #[.int .i64 x0, .int .i64 x1, .bool true] 116)).drew:=by have hblk:(W.alloc (.cells #[.int .i64 x0, .int .i64 x1, .bool true] 116)).heap[W.heap.size]? =some (.cells #[.int .i64 x0, .int .i64 x1, .bool true] 116 (0,0)):=heap_alloc_new W _;refine⟨fy (qd (ai _ _) _) hc,fy (qd (ai _ _) _) hd,(aj hblk 0).trans rfl,(aj hblk 1).trans rfl,(aj hblk 2).trans rfl,qf (hb.alloc hb.size _),by simp⟩
  replace hS0:=Lib.hid hS0;by_cases cv:v<=off
  · have cvb : decide (v ≤ off) = true := af cv
    clear cv
    have hfin:Hid (qx off n ⟨x0,x1,true⟩=decide (off<=wrap64 (wrap64 (wrap64 (x0+x1)*8)-n))):=Lib.hid (by simp only[qx];rw[hv,cvb];simp)
    replace hv:=Lib.hid hv
    go_enter Tryz.func179,Tryz.ntmps179
    go_wp2
    refine dj (n:=21) (S:=qgv B C off n x0 x1 w W) (ds:=[]) (bA 21 0) (by kernel_rfl) rfl rfl hS0.out (fun hS=>?_)
    refine ja (i:=0) (N:=some 5) (v:=.pointer (some ⟨W.heap.size,2,none⟩)) (a':= ?a1_) (bA 21 1) rfl rfl (by kernel_rfl) (fun _ _ _ h=>h) (.inl ⟨by rfl,?hy1_⟩) ?ha1_ ?h1_
    case hy1_=>
      intro w';go_simp
      try first|rfl|exact bu _|(simp only[bu];done)
    case ha1_=>simp only[Act.put,qg,qh,qi];rfl
    refine take_ (i:=1) (N:=some 6) (v:=.bool true) (a':= ?a2_) (bA 21 3) rfl rfl (by kernel_rfl) (fun _ _ _ h=>h) (.inl ⟨by rfl,?hy2_⟩) hS ?ha2_ ?h2_
    case hy2_=>
      rintro w' ⟨q1,q2,q3,q4,q5,q6,q7⟩;go_simp
      try first|rfl|exact bu _|(simp only[bu];done)
    case ha2_=>simp only[Act.put,qg,qh,qi];rfl
    refine ja (i:=2) (N:=some 7) (v:=.bool true) (a':= ?a3_) (bA 21 7) rfl rfl (by kernel_rfl) (fun _ _ _ h=>h) (.inl ⟨by rfl,?hy3_⟩) ?ha3_ ?h3_
    case hy3_=>
      intro w';go_simp
      try first|rfl|exact bu _|(simp only[bu];done)
    case ha3_=>simp only[Act.put,qg,qh,qi];rfl
    refine take_ (i:=3) (N:=some 8) (v:=.int .i64 off) (a':= ?a4_) (bA 21 15) rfl rfl (by kernel_rfl) (fun _ _ _ h=>h) (.inl ⟨by rfl,?hy4_⟩) hS ?ha4_ ?h4_
    case hy4_=>
      rintro w' ⟨q1,q2,q3,q4,q5,q6,q7⟩;go_simp
      try first|rfl|exact bu _|(simp only[bu];done)
    case ha4_=>simp only[Act.put,qg,qh,qi];rfl
    refine take_ (i:=4) (N:=some 9) (v:=.agg #[.int .i64 x0, .int .i64 x1, .bool true]) (a':= ?a5_) (bA 21 31) rfl rfl (by kernel_rfl) (fun _ _ _ h=>h) (.inl ⟨by rfl,?hy5_⟩) hS ?ha5_ ?h5_
    case hy5_=>
      rintro w' ⟨q1,q2,q3,q4,q5,q6,q7⟩;go_simp
      try first|rfl|exact bu _|(simp only[bu];done)
    case ha5_=>simp only[Act.put,qg,qh,qi];rfl
    refine ip (i:=5) (N:=some 10) (bA 21 63) rfl rfl (by kernel_rfl) (by decide) (fun K hK=>?_)
    refine fv Tryz.func138 (by kernel_rfl) rfl #[.agg #[.int .i64 x0, .int .i64 x1, .bool true]] (by rfl) rfl rfl (by simp[Act.eval]) ?_
    with_reducible refine(mu.calls x0 x1 true v _ ho.out).mono ?_
    rintro e w1 ⟨rfl,hb1⟩
    refine⟨_,rfl,?_⟩
    have hS1:=qgv.below hS hb1
    refine hK.out _ _ hS1 (fun hS=>?_)
    clear hK K
    refine mq (a':= ?a6_) ?ha6_ ?h6_
    case ha6_=>simp only[Act.put,qg,qh,qi];rfl
    refine ja (i:=6) (N:=some 11) (v:=.bool true) (a':= ?a7_) (bA 21 127) rfl rfl (by kernel_rfl) (fun _ _ _ h=>h) (.inl ⟨by rfl,?hy7_⟩) ?ha7_ ?h7_
    case hy7_=>
      intro w';go_simp
      try first|rfl|exact bu _|(simp only[bu];done)
    case ha7_=>simp only[Act.put,qg,qh,qi];rfl
    refine ja (i:=7) (N:=some 12) (v:=.bool true) (a':= ?a8_) (bA 21 255) rfl rfl (by kernel_rfl) (fun _ _ _ h=>h) (.inl ⟨by rfl,?hy8_⟩) ?ha8_ ?h8_
    case hy8_=>
      intro w';go_simp
      try first|rfl|exact bu _|(simp only[bu];done)
    case ha8_=>simp only[Act.put,qg,qh,qi];rfl
    refine ja (i:=8) (N:=some 13) (v:=.bool true) (a':= ?a9_) (bA 21 511) rfl rfl (by kernel_rfl) (fun _ _ _ h=>h) (.inl ⟨by rfl,?hy9_⟩) ?ha9_ ?h9_
    case hy9_=>
      intro w';go_simp
      try first|rfl|exact bu _|(simp only[bu];done)
    case ha9_=>simp only[Act.put,qg,qh,qi];rfl
    refine take_ (i:=9) (N:=some 14) (v:=.int .i64 off) (a':= ?a10_) (bA 21 1023) rfl rfl (by kernel_rfl) (fun _ _ _ h=>h) (.inl ⟨by rfl,?hy10_⟩) hS ?ha10_ ?h10_
    case hy10_=>
      rintro w' ⟨q1,q2,q3,q4,q5,q6,q7⟩;go_simp
      try first|rfl|exact bu _|(simp only[bu];done)
    case ha10_=>simp only[Act.put,qg,qh,qi];rfl
    refine ja (i:=10) (N:=some 15) (v:=.pointer (some ⟨W.heap.size,0,none⟩)) (a':= ?a11_) (bA 21 2047) rfl rfl (by kernel_rfl) (fun _ _ _ h=>h) (.inl ⟨by rfl,?hy11_⟩) ?ha11_ ?h11_
    case hy11_=>
      intro w';go_simp
      try first|rfl|exact bu _|(simp only[bu];done)
    case ha11_=>simp only[Act.put,qg,qh,qi];rfl
    refine take_ (i:=11) (N:=some 16) (v:=.int .i64 x0) (a':= ?a12_) (bA 21 4095) rfl rfl (by kernel_rfl) (fun _ _ _ h=>h) (.inl ⟨by rfl,?hy12_⟩) hS ?ha12_ ?h12_
    case hy12_=>
      rintro w' ⟨q1,q2,q3,q4,q5,q6,q7⟩;go_simp
      try first|rfl|exact bu _|(simp only[bu];done)
    case ha12_=>simp only[Act.put,qg,qh,qi];rfl
    refine ja (i:=12) (N:=some 17) (v:=.pointer (some ⟨W.heap.size,1,none⟩)) (a':= ?a13_) (bA 21 8191) rfl rfl (by kernel_rfl) (fun _ _ _ h=>h) (.inl ⟨by rfl,?hy13_⟩) ?ha13_ ?h13_
    case hy13_=>
      intro w';go_simp
      try first|rfl|exact bu _|(simp only[bu];done)
    case ha13_=>simp only[Act.put,qg,qh,qi];rfl
    refine take_ (i:=13) (N:=some 18) (v:=.int .i64 x1) (a':= ?a14_) (bA 21 16383) rfl rfl (by kernel_rfl) (fun _ _ _ h=>h) (.inl ⟨by rfl,?hy14_⟩) hS ?ha14_ ?h14_
    case hy14_=>
      rintro w' ⟨q1,q2,q3,q4,q5,q6,q7⟩;go_simp
      try first|rfl|exact bu _|(simp only[bu];done)
    case ha14_=>simp only[Act.put,qg,qh,qi];rfl
    refine ja (i:=14) (N:=some 19) (v:=.int .i64 (wrap64 (x0+x1))) (a':= ?a15_) (bA 21 32767) rfl rfl (by kernel_rfl) (fun _ _ _ h=>h) (.inl ⟨by rfl,?hy15_⟩) ?ha15_ ?h15_
    case hy15_=>
      intro w';go_simp
      try first|rfl|exact bu _|(simp only[bu];done)
    case ha15_=>simp only[Act.put,qg,qh,qi];rfl
    refine ja (i:=15) (N:=some 20) (v:=.int .i64 (wrap64 (wrap64 (x0+x1)*8))) (a':= ?a16_) (bA 21 65535) rfl rfl (by kernel_rfl) (fun _ _ _ h=>h) (.inl ⟨by rfl,?hy16_⟩) ?ha16_ ?h16_
    case hy16_=>
      intro w';go_simp
      try first|rfl|exact bu _|(simp only[bu];done)
    case ha16_=>simp only[Act.put,qg,qh,qi];rfl
    refine take_ (i:=16) (N:=some 21) (v:=.int .i64 n) (a':= ?a17_) (bA 21 131071) rfl rfl (by kernel_rfl) (fun _ _ _ h=>h) (.inl ⟨by rfl,?hy17_⟩) hS ?ha17_ ?h17_
    case hy17_=>
      rintro w' ⟨q1,q2,q3,q4,q5,q6,q7⟩;go_simp
      try first|rfl|exact bu _|(simp only[bu];done)
    case ha17_=>simp only[Act.put,qg,qh,qi];rfl
    refine ja (i:=17) (N:=some 22) (v:=.int .i64 (wrap64 (wrap64 (wrap64 (x0+x1)*8)-n))) (a':= ?a18_) (bA 21 262143) rfl rfl (by kernel_rfl) (fun _ _ _ h=>h) (.inl ⟨by rfl,?hy18_⟩) ?ha18_ ?h18_
    case hy18_=>
      intro w';go_simp
      try first|rfl|exact bu _|(simp only[bu];done)
    case ha18_=>simp only[Act.put,qg,qh,qi];rfl
    refine ja (i:=18) (N:=some 23) (v:=.bool (decide (off<=wrap64 (wrap64 (wrap64 (x0+x1)*8)-n)))) (a':= ?a19_) (bA 21 524287) rfl rfl (by kernel_rfl) (fun _ _ _ h=>h) (.inl ⟨by rfl,?hy19_⟩) ?ha19_ ?h19_
    case hy19_=>
      intro w';go_simp
      try first|rfl|exact bu _|(simp only[bu];done)
    case ha19_=>simp only[Act.put,qg,qh,qi];rfl
    refine ja (i:=19) (N:=some 24) (v:=.bool (decide (off<=wrap64 (wrap64 (wrap64 (x0+x1)*8)-n)))) (a':= ?a20_) (bA 21 1048575) rfl rfl (by kernel_rfl) (fun _ _ _ h=>h) (.inl ⟨by rfl,?hy20_⟩) ?ha20_ ?h20_
    case hy20_=>
      intro w';go_simp
      try first|rfl|exact bu _|(simp only[bu];done)
    case ha20_=>simp only[Act.put,qg,qh,qi];rfl
    refine ja (i:=20) (N:=some 4) (v:=.bool (decide (off<=wrap64 (wrap64 (wrap64 (x0+x1)*8)-n)))) (a':= ?a21_) (bA 21 2097151) rfl rfl (by kernel_rfl) (fun _ _ _ h=>h) (.inl ⟨by rfl,?hy21_⟩) ?ha21_ ?h21_
    case hy21_=>
      intro w';go_simp
      try first|rfl|exact bu _|(simp only[bu];done)
    case ha21_=>simp only[Act.put,qg,qh,qi];rfl
    refine fa (by kernel_rfl) ?_
    simp only[Act.put,qg,qh,qi,Exit.then]
    go_wp2
    go_ret
    exact⟨by rw[hfin.out];rfl,hS.2.2.2.2.2.1⟩
  · have cvb : decide (v ≤ off) = false := ah cv
    clear cv
    have hfin:Hid (qx off n ⟨x0,x1,true⟩=false):=Lib.hid (by simp only[qx];rw[hv,cvb];simp)
    replace hv:=Lib.hid hv
    go_enter Tryz.func179,Tryz.ntmps179
    go_wp2
    refine dj (n:=21) (S:=qgv B C off n x0 x1 w W) (ds:=[]) (bA 21 0) (by kernel_rfl) rfl rfl hS0.out (fun hS=>?_)
    refine ja (i:=0) (N:=some 5) (v:=.pointer (some ⟨W.heap.size,2,none⟩)) (a':= ?a22_) (bA 21 1) rfl rfl (by kernel_rfl) (fun _ _ _ h=>h) (.inl ⟨by rfl,?hy22_⟩) ?ha22_ ?h22_
    case hy22_=>
      intro w';go_simp
      try first|rfl|exact bu _|(simp only[bu];done)
    case ha22_=>simp only[Act.put,qg,qh,qi];rfl
    refine take_ (i:=1) (N:=some 6) (v:=.bool true) (a':= ?a23_) (bA 21 3) rfl rfl (by kernel_rfl) (fun _ _ _ h=>h) (.inl ⟨by rfl,?hy23_⟩) hS ?ha23_ ?h23_
    case hy23_=>
      rintro w' ⟨q1,q2,q3,q4,q5,q6,q7⟩;go_simp
      try first|rfl|exact bu _|(simp only[bu];done)
    case ha23_=>simp only[Act.put,qg,qh,qi];rfl
    refine ja (i:=2) (N:=some 7) (v:=.bool true) (a':= ?a24_) (bA 21 7) rfl rfl (by kernel_rfl) (fun _ _ _ h=>h) (.inl ⟨by rfl,?hy24_⟩) ?ha24_ ?h24_
    case hy24_=>
      intro w';go_simp
      try first|rfl|exact bu _|(simp only[bu];done)
    case ha24_=>simp only[Act.put,qg,qh,qi];rfl
    refine take_ (i:=3) (N:=some 8) (v:=.int .i64 off) (a':= ?a25_) (bA 21 15) rfl rfl (by kernel_rfl) (fun _ _ _ h=>h) (.inl ⟨by rfl,?hy25_⟩) hS ?ha25_ ?h25_
    case hy25_=>
      rintro w' ⟨q1,q2,q3,q4,q5,q6,q7⟩;go_simp
      try first|rfl|exact bu _|(simp only[bu];done)
    case ha25_=>simp only[Act.put,qg,qh,qi];rfl
    refine take_ (i:=4) (N:=some 9) (v:=.agg #[.int .i64 x0, .int .i64 x1, .bool true]) (a':= ?a26_) (bA 21 31) rfl rfl (by kernel_rfl) (fun _ _ _ h=>h) (.inl ⟨by rfl,?hy26_⟩) hS ?ha26_ ?h26_
    case hy26_=>
      rintro w' ⟨q1,q2,q3,q4,q5,q6,q7⟩;go_simp
      try first|rfl|exact bu _|(simp only[bu];done)
    case ha26_=>simp only[Act.put,qg,qh,qi];rfl
    refine ip (i:=5) (N:=some 10) (bA 21 63) rfl rfl (by kernel_rfl) (by decide) (fun K hK=>?_)
    refine fv Tryz.func138 (by kernel_rfl) rfl #[.agg #[.int .i64 x0, .int .i64 x1, .bool true]] (by rfl) rfl rfl (by simp[Act.eval]) ?_
    with_reducible refine(mu.calls x0 x1 true v _ ho.out).mono ?_
    rintro e w1 ⟨rfl,hb1⟩
    refine⟨_,rfl,?_⟩
    have hS1:=qgv.below hS hb1
    refine hK.out _ _ hS1 (fun hS=>?_)
    clear hK K
    refine mq (a':= ?a27_) ?ha27_ ?h27_
    case ha27_=>simp only[Act.put,qg,qh,qi];rfl
    refine ja (i:=6) (N:=some 11) (v:=.bool false) (a':= ?a28_) (bA 21 127) rfl rfl (by kernel_rfl) (fun _ _ _ h=>h) (.inl ⟨by rfl,?hy28_⟩) ?ha28_ ?h28_
    case hy28_=>
      intro w';go_simp
      try first|rfl|exact bu _|(simp only[bu];done)
    case ha28_=>simp only[Act.put,qg,qh,qi];rfl
    refine ja (i:=7) (N:=some 12) (v:=.bool false) (a':= ?a29_) (bA 21 255) rfl rfl (by kernel_rfl) (fun _ _ _ h=>h) (.inl ⟨by rfl,?hy29_⟩) ?ha29_ ?h29_
    case hy29_=>
      intro w';go_simp
      try first|rfl|exact bu _|(simp only[bu];done)
    case ha29_=>simp only[Act.put,qg,qh,qi];rfl
    refine ja (i:=8) (N:=some 13) (v:=.bool false) (a':= ?a30_) (bA 21 511) rfl rfl (by kernel_rfl) (fun _ _ _ h=>h) (.inl ⟨by rfl,?hy30_⟩) ?ha30_ ?h30_
    case hy30_=>
      intro w';go_simp
      try first|rfl|exact bu _|(simp only[bu];done)
    case ha30_=>simp only[Act.put,qg,qh,qi];rfl
    refine ja (i:=9) (N:=some 14) (v:=undef) (a':= ?a31_) (bA 21 1023) rfl rfl (by kernel_rfl) (fun _ _ _ h=>h) (.inr ⟨by rfl,rfl⟩) ?ha31_ ?h31_
    case ha31_=>simp only[Act.put,qg,qh,qi];rfl
    refine ja (i:=10) (N:=some 15) (v:=undef) (a':= ?a32_) (bA 21 2047) rfl rfl (by kernel_rfl) (fun _ _ _ h=>h) (.inr ⟨by rfl,rfl⟩) ?ha32_ ?h32_
    case ha32_=>simp only[Act.put,qg,qh,qi];rfl
    refine ja (i:=11) (N:=some 16) (v:=undef) (a':= ?a33_) (bA 21 4095) rfl rfl (by kernel_rfl) (fun _ _ _ h=>h) (.inr ⟨by rfl,rfl⟩) ?ha33_ ?h33_
    case ha33_=>simp only[Act.put,qg,qh,qi];rfl
    refine ja (i:=12) (N:=some 17) (v:=undef) (a':= ?a34_) (bA 21 8191) rfl rfl (by kernel_rfl) (fun _ _ _ h=>h) (.inr ⟨by rfl,rfl⟩) ?ha34_ ?h34_
    case ha34_=>simp only[Act.put,qg,qh,qi];rfl
    refine ja (i:=13) (N:=some 18) (v:=undef) (a':= ?a35_) (bA 21 16383) rfl rfl (by kernel_rfl) (fun _ _ _ h=>h) (.inr ⟨by rfl,rfl⟩) ?ha35_ ?h35_
    case ha35_=>simp only[Act.put,qg,qh,qi];rfl
    refine ja (i:=14) (N:=some 19) (v:=undef) (a':= ?a36_) (bA 21 32767) rfl rfl (by kernel_rfl) (fun _ _ _ h=>h) (.inr ⟨by rfl,rfl⟩) ?ha36_ ?h36_
    case ha36_=>simp only[Act.put,qg,qh,qi];rfl
    refine ja (i:=15) (N:=some 20) (v:=undef) (a':= ?a37_) (bA 21 65535) rfl rfl (by kernel_rfl) (fun _ _ _ h=>h) (.inr ⟨by rfl,rfl⟩) ?ha37_ ?h37_
    case ha37_=>simp only[Act.put,qg,qh,qi];rfl
    refine ja (i:=16) (N:=some 21) (v:=undef) (a':= ?a38_) (bA 21 131071) rfl rfl (by kernel_rfl) (fun _ _ _ h=>h) (.inr ⟨by rfl,rfl⟩) ?ha38_ ?h38_
    case ha38_=>simp only[Act.put,qg,qh,qi];rfl
    refine ja (i:=17) (N:=some 22) (v:=undef) (a':= ?a39_) (bA 21 262143) rfl rfl (by kernel_rfl) (fun _ _ _ h=>h) (.inr ⟨by rfl,rfl⟩) ?ha39_ ?h39_
    case ha39_=>simp only[Act.put,qg,qh,qi];rfl
    refine ja (i:=18) (N:=some 23) (v:=undef) (a':= ?a40_) (bA 21 524287) rfl rfl (by kernel_rfl) (fun _ _ _ h=>h) (.inr ⟨by rfl,rfl⟩) ?ha40_ ?h40_
    case ha40_=>simp only[Act.put,qg,qh,qi];rfl
    refine ja (i:=19) (N:=some 24) (v:=.bool false) (a':= ?a41_) (bA 21 1048575) rfl rfl (by kernel_rfl) (fun _ _ _ h=>h) (.inl ⟨by rfl,?hy41_⟩) ?ha41_ ?h41_
    case hy41_=>
      intro w';go_simp
      try first|rfl|exact bu _|(simp only[bu];done)
    case ha41_=>simp only[Act.put,qg,qh,qi];rfl
    refine ja (i:=20) (N:=some 4) (v:=.bool false) (a':= ?a42_) (bA 21 2097151) rfl rfl (by kernel_rfl) (fun _ _ _ h=>h) (.inl ⟨by rfl,?hy42_⟩) ?ha42_ ?h42_
    case hy42_=>
      intro w';go_simp
      try first|rfl|exact bu _|(simp only[bu];done)
    case ha42_=>simp only[Act.put,qg,qh,qi];rfl
    refine fa (by kernel_rfl) ?_
    simp only[Act.put,qg,qh,qi,Exit.then]
    go_wp2
    go_ret
    exact⟨by rw[hfin.out];rfl,hS.2.2.2.2.2.1⟩
theorem qrh(off:Int)(B:Nat)(w:World)(hB:B<w.heap.size)(hcell:w.cell? ⟨B,0,none⟩=some (.int .i64 off)):PredBelow Tryz.prog 137 #[.pointer (some ⟨B,0,none⟩)] (fun x:S116=>.agg (qcy x).toArray) (fun x=>x.f2&&decide (oo x.f0=off)) w:=fun W x hb=>by
  have hc:W.cell? ⟨B,0,none⟩=some (.int .i64 off):=(hb.cell (p:=⟨B,0,none⟩) hB).trans hcell;have hBW:B<W.heap.size:=Nat.lt_of_lt_of_le hB hb.size;have hne:B≠W.heap.size:=by omega
  obtain⟨x0,x1,x2⟩:=x;have ho:=qki x0 x1 x2;obtain⟨v,hv⟩:∃ v,oo x0=v:=⟨_,rfl⟩;rw[hv]at ho;show Calls Tryz.prog 137 #[.agg #[.int .i64 x0, .int .i64 x1, .bool x2], .pointer (some ⟨B,0,none⟩)] W _;cases x2
  · go_enter Tryz.func137, Tryz.ntmps137
    go_wp2
    go_quiet (fail)
    go_wp2
    go_ret
    exact⟨by simp,by repeat (first|exact hb.alloc hb.size _|apply qd|apply qe|apply qf)⟩
  · go_enter Tryz.func137, Tryz.ntmps137
    go_wp2
    go_region_with (go_at_call 138;refine(mu.calls _ _ _ _ _ ho).mono ?_;rintro e w' ⟨rfl,hb'⟩;have hcB:w'.cell? ⟨B,0,none⟩=some (.int .i64 off):=(hb'.cell (p:=⟨B,0,none⟩) (by simp;omega)).trans (by go_simp))
    all_goals (try go_wp2)
    all_goals go_ret
    all_goals exact⟨by simp only[hv,Bool.true_and];congr 2,qw (by repeat (first|exact hb.alloc hb.size _|apply qf|apply qd|apply qe)) hb'⟩
theorem qqo{W:World}{A:Option Addr}{l:List S116}{g:Nat}(h:Kd.C e6 W A l.length l)(hA:A=some ⟨g,0,none⟩)(i35:Inhabited S116):∀ j,j<l.length→∀ i v,(qcy l[j]!)[i]? =some v->W.cell? ⟨g,0+j*3+i,none⟩=some v:=fun j hj i v hi=>by
  obtain⟨ad,e,hc⟩:=h.2.2 (by omega);rw[hA]at e;obtain rfl:=az e;obtain⟨c,hl,hK,hcell⟩:=hc j l[j] (bx hj);have hcs:=qeu hK;subst hcs;rw[getElem!_pos l j hj]at hi;have:=hcell i v hi;rw[o6]at this;rw[Nat.zero_add];exact this
def na(off:Int):List S116->Nat->Int
  |[],_=> -1
  |y::r,i=>if(y.f2&&decide (oo y.f0=off))=true then(i:Int)else na off r (i+1)
theorem qhh(off:Int)(d:S116):∀ (l:List S116) (i:Nat),Lib.idxByFrom (fun _ y=>y.f2&&decide (oo y.f0=off)) d l i=na off l i
  |[],_=>rfl
  | y :: r, i => by
    show(if(y.f2&&decide (oo y.f0=off))=true then(i:Int)else Lib.idxByFrom _ d r (i+1))=_
    rw[qhh off d r (i+1)]
    rfl
theorem qqk(c:Nat)(f:Value)(w:World):Calls Tryz.prog 136 #[.slice none 0 c,f] w fun e w'=>e=.returned (.int .i64 (-1))/\Below w.heap.size w w':=by
  go_enter Tryz.func136,Tryz.ntmps136;go_wp2;refine wp_loop_rounds 1 ?_;rw[rounds_succ];go_wp2;go_ret;exact⟨rfl,by repeat (first|exact ai _ _|apply qd|apply qe|apply qf)⟩
theorem qse(c:Nat)(f:Value)(w:World):Calls Tryz.prog 178 #[.slice none 0 c,f] w fun e w'=>e=.returned (.bool false)/\Below w.heap.size w w':=by
  go_enter Tryz.func178,Tryz.ntmps178;go_wp2_with (go_at_call 136;refine(qqk c f _).mono ?_;rintro e w' ⟨rfl,hb⟩)
  go_ret;exact⟨rfl,by first|exact hb|exact qw (by repeat (first|exact ai _ _|apply qd|apply qe|apply qf)) hb⟩
theorem qhy{W:World}{base:Nat}{v:Value}{l:List S116}(h:Kd.R e6 116 W base (fun _=>True) v l):(v=.slice none 0 0/\l=[])∨∃ g c,v=.slice (some ⟨g,0,none⟩) l.length c/\g<W.heap.size:=by
  obtain⟨inner,ho⟩:=Kd.R_own h;rcases ho.2 with⟨rfl,hn⟩|⟨g,cap,cur,rfl,hg,hh,_⟩
  · exact .inl ⟨rfl,List.eq_nil_of_length_eq_zero hn⟩
  · exact .inr ⟨g,cap,rfl,d7 hh⟩
theorem qo5(off:Int)(B:Nat)(W:World)(v:Value)(l:List S116)(base:Nat)(h:Kd.R e6 116 W base (fun _=>True) v l)(hB:B<W.heap.size)(hcell:W.cell? ⟨B,0,none⟩=some (.int .i64 off)):Calls Tryz.prog 136 #[v, .func (.func 137) #[] #[.pointer (some ⟨B,0,none⟩)]] W fun e w'=>e=.returned (.int .i64 (na off l 0))/\Below W.heap.size W w':=by
  rcases qhy h with⟨rfl,rfl⟩|⟨g,c,rfl,hg⟩
  · exact qqk 0 _ W
  · obtain ⟨A, c', e, hc, hC⟩ := Kd.R_reads h
    have hA:A=some ⟨g,0,none⟩:=by injection e with e1 _ _;exact e1.symm
    let i35:Inhabited S116:=⟨⟨0,0,false⟩⟩
    have H:=AnyQ.slices_IndexFunc (P:=Tryz.prog) (ρ:=qkl) (α:=S116) qqf 3 Tryz.isAgg116 Tryz.sizeOf116 qcy (fun _=>rfl) (fun x=>x.f2&&decide (oo x.f0=off)) 137 #[.pointer (some ⟨B,0,none⟩)] (qca Tryz.func137 (by kernel_rfl) rfl) g 0 l.length c l W (qrh off B W hB hcell) (an _) hC.2.1 hg (qqo hC hA i35)
    refine H.mono ?_
    rintro e w' ⟨rfl,hb⟩
    refine⟨?_,hb⟩
    rw[List.take_length]
    show Ending.returned (.int .i64 (Lib.idxByFrom _ _ l 0))=_
    rw[qhh]
theorem qi0(off n:Int)(B C:Nat)(W:World)(v:Value)(l:List S116)(base:Nat)(h:Kd.R e6 116 W base (fun _=>True) v l)(hB:B<W.heap.size)(hC':C<W.heap.size)(hcell:W.cell? ⟨B,0,none⟩=some (.int .i64 off))(hcell2:W.cell? ⟨C,0,none⟩=some (.int .i64 n)):Calls Tryz.prog 178 #[v, .func (.func 179) #[] #[.pointer (some ⟨B,0,none⟩), .pointer (some ⟨C,0,none⟩)]] W fun e w'=>e=.returned (.bool (l.any (qx off n)))/\Below W.heap.size W w':=by
  rcases qhy h with⟨rfl,rfl⟩|⟨g,c,rfl,hg⟩
  · exact qse 0 _ W
  · obtain ⟨A, c', e, hc, hC⟩ := Kd.R_reads h
    have hA:A=some ⟨g,0,none⟩:=by injection e with e1 _ _;exact e1.symm
    let i35:Inhabited S116:=⟨⟨0,0,false⟩⟩
    have H:=AnyQ.slices_ContainsFunc (P:=Tryz.prog) (ρ:=qkl) (α:=S116) qsa 3 Tryz.isAgg116 Tryz.sizeOf116 qcy (fun _=>rfl) (qx off n) 179 #[.pointer (some ⟨B,0,none⟩), .pointer (some ⟨C,0,none⟩)] (qca Tryz.func179 (by kernel_rfl) rfl) g 0 l.length c l W (qrg off n B C W hB hC' hcell hcell2) (an _) hC.2.1 hg (qqo hC hA i35)
    refine H.mono ?_
    rintro e w' ⟨rfl,hb⟩
    exact⟨by rw[List.take_length],hb⟩
end
def i7.f(k:Nat)(l0:List Int)(a1:Int):Option (List (S116)×Int):=(cf.f k l0).bind fun p=>(some (p.1,na a1 p.1 0))
theorem i7.calls(k:Nat)(A0:Option Addr)(c0:Nat)(l0:List Int)(a1:Int)(r1:List (S116))(r2:Int)(w:World)(hr0:Kd.C (Kd.int .u64) w A0 l0.length l0)(hc0:l0.length<=c0)(h:i7.f k l0 a1=some (r1,r2)):Calls Tryz.prog 96 #[.slice A0 l0.length c0, .int .i64 a1] w fun e w'=>∃ v0_:Value,e=.returned (.tuple #[v0_, .int .i64 r2])/\Kd.R e6 116 w' w.heap.size (fun _=>True) v0_ r1/\Below w.heap.size w w':=by
  have hmf:∀ (fn:Fn) (first cap:Array Value) (w:World),(Instr.makeFunc fn first cap).run Tryz.prog w=.ok (.func fn first cap) w:=fun _ _ _ _=>rfl;have HR:=Lib.hid hr0;have HC:=Lib.hid hc0;clear hr0 hc0;unfold i7.f at h;obtain⟨⟨m,ok⟩,hb,hm⟩:=Option.bind_eq_some_iff.1 h;simp only[Option.some.injEq,Prod.mk.injEq]at hm;obtain⟨rfl,rfl⟩:=hm;have hb:=Lib.hid hb;clear h;have hW:Below w.heap.size w (w.alloc (.cells #[.int .i64 a1] 3)):=qd (ai _ _) _;have hB0:(w.alloc (.cells #[.int .i64 a1] 3)).cell? ⟨w.heap.size,0,none⟩=some (.int .i64 a1):=by have hh:(w.alloc (.cells #[.int .i64 a1] 3)).heap[w.heap.size]? =some (.cells #[.int .i64 a1] 3 (0,0)):=heap_alloc_new w _;rw[aj hh];rfl
  replace hB0:=Lib.hid hB0;go_enter Tryz.func96,Tryz.ntmps96;go_wp2_with (first
    |(go_at_call 45;(with_reducible refine(cf.calls k _ _ l0 m ok _ ?s1 ?s2 hb.out).mono ?_);(case s1=>exact Kd.C_below HR.out hW);(case s2=>exact HC.out);rintro e w1 ⟨v,rfl,ho,hb1⟩;have hB1:=Lib.hid (fy hb1 hB0.out);have hB':=Lib.hid (qp w1 _ hB1.out);have ho:=Lib.hid ho)
    |(go_at_call 136;(with_reducible refine(qo5 a1 w.heap.size _ v m _ ho.out hB'.out hB1.out).mono ?_);rintro e w2 ⟨rfl,hb2⟩))
  go_ret2;exact⟨v,rfl,Kd.R_lower (qv ho.out hb2) (by simp),qw (qw hW hb1) hb2⟩
def jn.f(k:Nat)(l0:List Int)(a1:Int):Option (Bool):=(i7.f k l0 a1).bind fun bt148=>(some (decide (bt148.2>=0)))
theorem jn.calls(k:Nat)(A0:Option Addr)(c0:Nat)(l0:List Int)(a1:Int)(r:Bool)(w:World)(hr0:Kd.C (Kd.int .u64) w A0 l0.length l0)(hc0:l0.length<=c0)(h:jn.f k l0 a1=some r):Calls Tryz.prog 46 #[.slice A0 l0.length c0, .int .i64 a1] w fun e w'=>e=.returned (.bool r)/\Below w.heap.size w w':=by
 have HR0:=am hr0;have HC0:=am hc0;clear hr0 hc0;have HB:=am (ai w.heap.size w);have H:((i7.f k l0 a1).bind fun bt148=>(some (decide (bt148.2>=0))))=some r:=h;clear h;replace H:=Option.bind_eq_some_iff.mp H;obtain⟨⟨t148,t149⟩,A30,H⟩:=H
 try dsimp only at H
 have A3:=am A30;clear A30;obtain rfl:=az H;go_enter Tryz.func46,Tryz.ntmps46;go_wp2_with (first|((with_reducible refine ay (f:=96) rfl ?_);refine zl (some 10) Tryz.func96 #[.slice A0 l0.length c0, .int .i64 a1] ?_;(with_reducible refine(i7.calls k _ _ l0 a1 t148 t149 _ ?side1 ?side2 A3.out).mono ?_);(case side1=>exact zc HR0.out);(case side2=>exact HC0.out);rintro e w4 ⟨v150,rfl,ho0,hb⟩;refine⟨_,rfl,?_⟩;have n0_:=am (Kd.R_lower ho0 (bk (zB HB)));have n1_:=zb HB hb;clear HB;have HO151:=n0_;have HB:=n1_;clear n0_ n1_;(try clear hb);(try clear ho0)))
 go_ret;exact⟨by first|rfl|(simp[e8,e9] <;> rfl)|(simp[*,e8,e9] <;> (first|rfl|rw[Int.tdiv_eq_ediv_of_nonneg (by omega)])),zB HB⟩
def jm.f(a0:Int):Option (Int):=some (wrap64 ((mx a0 0) / 4))
theorem jm.calls(a0:Int)(r:Int)(w:World)(h:jm.f a0=some r):Calls Tryz.prog 97 #[.int .i64 a0] w fun e w'=>e=.returned (.int .i64 r)/\Below w.heap.size w w':=by
 have HB:=am (ai w.heap.size w);have H:(some (wrap64 ((mx a0 0) / 4)))=some r:=h;clear h;obtain⟨ji2,hji2⟩:∃ j_:Int,(mx a0 0)=j_:=⟨_,rfl⟩;replace H:(some (wrap64 ((ji2) / 4)))=some r:=by first|(rw[hji2]at H;exact H)|(simp only[hji2]at H ⊢;exact H)
 (try (have hji2l:0<=ji2:=by(rw[<-hji2];unfold mx;(repeat' split) <;> omega)))
 (try (have hji2m:0<=ji2:=by omega))
 have hji2_:(if a0<0 then 0 else a0)=ji2:=hji2;obtain rfl:=az H;go_enter Tryz.func97,Tryz.ntmps97;go_wp2;go_ret;exact⟨by first|rfl|(simp[e8,e9] <;> rfl)|(simp only[<-hji2];first|rfl|(simp[e8,e9] <;> rfl))|(simp[*,e8,e9] <;> (first|rfl|rw[Int.tdiv_eq_ediv_of_nonneg (by omega)])),zB HB⟩
def n5.f(a0_0:Int)(a0_1:Int)(a0_2:Int)(a0_3:Int):Option (Int):=(gi.f a0_0 a0_1 a0_2 a0_3).bind fun t153=>(if t153=true then((jm.f (wrap64 (a0_0-1))).bind fun t154=>(some (wrap64 (t154+1))))else(some 0))
theorem n5.calls(a0_0:Int)(a0_1:Int)(a0_2:Int)(a0_3:Int)(r:Int)(w:World)(h:n5.f a0_0 a0_1 a0_2 a0_3=some r):Calls Tryz.prog 47 #[.agg #[.int .i64 a0_0, .int .i64 a0_1, .int .i64 a0_2, .int .i64 a0_3]] w fun e w'=>e=.returned (.int .i64 r)/\Below w.heap.size w w':=by
 obtain⟨k0,k1,k2,k3⟩:=k4 (pj w (.cells #[.int .i64 a0_0, .int .i64 a0_1, .int .i64 a0_2, .int .i64 a0_3] 23));have BX:=am (pj w (.cells #[.int .i64 a0_0, .int .i64 a0_1, .int .i64 a0_2, .int .i64 a0_3] 23));have HB:=am (ca (ai w.heap.size w) (.cells #[.int .i64 a0_0, .int .i64 a0_1, .int .i64 a0_2, .int .i64 a0_3] 23));unfold n5.f at h;obtain⟨t,ht,h⟩:=Option.bind_eq_some_iff.mp h;have HM:=am ht;clear ht;cases t
 · simp only[Bool.false_eq_true,if_false]at h;cases h;go_enter Tryz.func47,Tryz.ntmps47;go_wp2_with (first
 |(go_at_call 32;(with_reducible refine(gi.calls a0_0 a0_1 a0_2 a0_3 _ _ HM.out).mono ?_);rintro e w1 ⟨rfl,hb⟩;obtain⟨j0,j1,j2,j3⟩:=k4 (ap BX.out hb);have BX1:=am (ap BX.out hb);have HB1:=am (aa HB.out hb);clear hb k0 k1 k2 k3 BX));go_ret;exact⟨rfl,HB1.out⟩
 · simp only [if_true] at h
   obtain⟨q,hq,h⟩:=Option.bind_eq_some_iff.mp h
   have HQ:=am hq
   cases h
   clear hq
   go_enter Tryz.func47,Tryz.ntmps47
   go_wp2_with (first
 | (go_at_call 32; (with_reducible refine (gi.calls a0_0 a0_1 a0_2 a0_3 _ _ HM.out).mono ?_); rintro e w1 ⟨rfl, hb⟩; obtain ⟨j0, j1, j2, j3⟩ := k4 (ap BX.out hb); have BX1 := am (ap BX.out hb); have HB1 := am (aa HB.out hb); clear hb k0 k1 k2 k3 BX)
   |(go_at_call 97;(with_reducible refine(jm.calls _ _ _ HQ.out).mono ?_);rintro e w2 ⟨rfl,hd⟩;have HB2:=am (aa HB1.out hd);clear hd))
   go_ret
   exact⟨rfl,HB2.out⟩
def qaz.f(a0:Int):Option (Unit):=if a0=0 then(some ())else(none)
theorem qaz.calls(a0:Int)(w:World)(h:qaz.f a0=some ()):Calls Tryz.prog 102 #[.int .i64 a0] w fun e w'=>e=.returned (.tuple #[])/\Drawn0 w w':=by
 have H:(if a0=0 then(some ())else(none))=some ():=h;clear h;by_cases c2:a0=0
 ·rw[if_pos c2]at H;have c2b0:(a0==0)=true:=beq_iff_eq.mpr c2;have c2b1:(a0 != 0)=false:=bne_eq_false_iff_eq.mpr c2;clear c2;go_enter Tryz.func102,Tryz.ntmps102;go_wp2
  first|go_end0|((try simp only[Exit.inBlock,Exit.then]);refine bodyPost_ret (results_none rfl _ _ _) rfl ?_)
  exact⟨zs,zd⟩
 ·rw[if_neg c2]at H;exact absurd H (by simp)
def jx.f(a0:Int):Option (Int):=if a0<1 then(some 0)else(if a0>448 then(some 0)else(some (wrap64 ((wrap64 (Int.tdiv (wrap64 (a0+7)) 8))+1))))
theorem jx.calls(a0:Int)(r:Int)(w:World)(h:jx.f a0=some r):Calls Tryz.prog 99 #[.int .i64 a0] w fun e w'=>e=.returned (.int .i64 r)/\Drawn0 w w':=by
 have H:(if a0<1 then(some 0)else(if a0>448 then(some 0)else(some (wrap64 ((wrap64 (Int.tdiv (wrap64 (a0+7)) 8))+1)))))=some r:=h;clear h;by_cases c2:a0<1
 ·rw[if_pos c2]at H;have c2b0:=af c2;clear c2;obtain rfl:=az H;go_enter Tryz.func99,Tryz.ntmps99;go_wp2;go_ret;exact⟨zs,zd⟩
 ·rw[if_neg c2]at H;have c2b0:=ah c2;clear c2;by_cases c3:a0>448
  ·rw[if_pos c3]at H;have c3b0:decide (448<a0)=true:=af c3;clear c3;obtain rfl:=az H;go_enter Tryz.func99,Tryz.ntmps99;go_wp2;go_ret;exact⟨zs,zd⟩
  ·rw[if_neg c3]at H;have c3b0:decide (448<a0)=false:=ah c3;clear c3;obtain rfl:=az H;go_enter Tryz.func99,Tryz.ntmps99;go_wp2;go_ret;exact⟨zs,zd⟩
def ue.f(a0_0:Int)(a0_1:Int)(a0_2:Bool)(l1:List Int):Option (Int):=if a0_0<0 then(some 0)else(if(wrap64 (Int.tdiv a0_0 32))>=(l1.length:Int)then(some 0)else(if 0<=(wrap64 (Int.tdiv a0_0 32))then(if(wrap64 (Int.tdiv a0_0 32))<(l1.length:Int)then(some (rd l1 (wrap64 (Int.tdiv a0_0 32))))else(none))else(none)))
theorem ue.calls(a0_0:Int)(a0_1:Int)(a0_2:Bool)(A1:Option Addr)(c1:Nat)(l1:List Int)(r:Int)(w:World)(hr1:Kd.C (Kd.int .i64) w A1 l1.length l1)(hc1:l1.length<=c1)(h:ue.f a0_0 a0_1 a0_2 l1=some r):Calls Tryz.prog 162 #[.agg #[.int .i64 a0_0, .int .i64 a0_1, .bool a0_2], .slice A1 l1.length c1] w fun e w'=>e=.returned (.int .i64 r)/\Below w.heap.size w w':=by
 have hu116:=Tryz.underlying116;have HR1:=am hr1;have HC1:=am hc1;clear hr1 hc1;have HB:=am (ai w.heap.size w);have H:(if a0_0<0 then(some 0)else(if(wrap64 (Int.tdiv a0_0 32))>=(l1.length:Int)then(some 0)else(if 0<=(wrap64 (Int.tdiv a0_0 32))then(if(wrap64 (Int.tdiv a0_0 32))<(l1.length:Int)then(some (rd l1 (wrap64 (Int.tdiv a0_0 32))))else(none))else(none))))=some r:=h;clear h;by_cases c3:a0_0<0
 ·rw[if_pos c3]at H;have c3b0:=af c3;clear c3;obtain rfl:=az H;go_enter Tryz.func162,Tryz.ntmps162;go_wp2_with (first|((with_reducible refine b9 (N:=2) rfl ?_);(try (refine il (by rfl) ?_;dsimp only));refine db ?hg (N:=2) ?hd (cs:=#[.int .i64 a0_0, .int .i64 a0_1, .bool a0_2]) (t:=116) ?hr ?_;(case hd=>rfl);(case hg=>rfl);(case hr=>first|(go_simp;done)|(go_simp;rfl));intro gb165 hg w4 hbox hb;have GW165:=zg HB hg;have GE165:=GW165;replace HB:=zb HB hb;have BK165:=am hbox;clear hb hbox hg;have hcz5_0:=zk BK165 0 (.int .i64 a0_0);have hcz5_1:=zk BK165 1 (.int .i64 a0_1);have hcz5_2:=zk BK165 2 (.bool a0_2);have hfz5_0:=ak BK165.out 0;have hfz5_1:=ak BK165.out 1;have hfz5_2:=ak BK165.out 2))
  go_ret;exact⟨ze,by repeat (first|(with_reducible first|exact HB.out|apply qd|apply qe|apply qf|refine bj ?_ GE165.out)|exact HB.out)⟩
 ·rw [if_neg c3] at H;have c3b0 := ah c3;clear c3;by_cases c6 : (wrap64 (Int.tdiv a0_0 32)) ≥ (l1.length : Int)
  ·rw[if_pos c6]at H;have c6b0:decide ((l1.length:Int)<=(wrap64 (Int.tdiv a0_0 32)))=true:=af c6;clear c6;obtain rfl:=az H;go_enter Tryz.func162,Tryz.ntmps162;go_wp2_with (first|((with_reducible refine b9 (N:=2) rfl ?_);(try (refine il (by rfl) ?_;dsimp only));refine db ?hg (N:=2) ?hd (cs:=#[.int .i64 a0_0, .int .i64 a0_1, .bool a0_2]) (t:=116) ?hr ?_;(case hd=>rfl);(case hg=>rfl);(case hr=>first|(go_simp;done)|(go_simp;rfl));intro gb165 hg w7 hbox hb;have GW165:=zg HB hg;have GE165:=GW165;replace HB:=zb HB hb;have BK165:=am hbox;clear hb hbox hg;have hcz8_0:=zk BK165 0 (.int .i64 a0_0);have hcz8_1:=zk BK165 1 (.int .i64 a0_1);have hcz8_2:=zk BK165 2 (.bool a0_2);have hfz8_0:=ak BK165.out 0;have hfz8_1:=ak BK165.out 1;have hfz8_2:=ak BK165.out 2))
   go_ret;exact⟨ze,by repeat (first|(with_reducible first|exact HB.out|apply qd|apply qe|apply qf|refine bj ?_ GE165.out)|exact HB.out)⟩
  ·rw[if_neg c6]at H;have c6b0:decide ((l1.length:Int)<=(wrap64 (Int.tdiv a0_0 32)))=false:=ah c6;clear c6;obtain⟨ji9,hji9⟩:∃ j_:Int,(wrap64 (Int.tdiv a0_0 32))=j_:=⟨_,rfl⟩;replace H:(if 0<=(ji9)then(if(ji9)<(l1.length:Int)then(some (rd l1 (ji9)))else(none))else(none))=some r:=by first|(rw[hji9]at H;exact H)|(simp only[hji9]at H ⊢;exact H)
   (try rw[hji9]at c6b0)
   have hji9w:(IntKind.i64.wrap (Int.tdiv a0_0 32))=ji9:=(bu _).trans hji9;by_cases c10:0<=(ji9)
   ·rw[if_pos c10]at H;have c10b0:=af c10;clear c10;by_cases c11:(ji9)<(l1.length:Int)
    ·rw[if_pos c11]at H;have c11b0:=af c11;clear c11;obtain rfl:=az H;go_enter Tryz.func162,Tryz.ntmps162;go_wp2_with (first|((with_reducible refine b9 (N:=2) rfl ?_);(try (refine il (by rfl) ?_;dsimp only));refine db ?hg (N:=2) ?hd (cs:=#[.int .i64 a0_0, .int .i64 a0_1, .bool a0_2]) (t:=116) ?hr ?_;(case hd=>rfl);(case hg=>rfl);(case hr=>first|(go_simp;done)|(go_simp;rfl));intro gb165 hg w12 hbox hb;have GW165:=zg HB hg;have GE165:=GW165;replace HB:=zb HB hb;have BK165:=am hbox;clear hb hbox hg;have hcz13_0:=zk BK165 0 (.int .i64 a0_0);have hcz13_1:=zk BK165 1 (.int .i64 a0_1);have hcz13_2:=zk BK165 2 (.bool a0_2);have hfz13_0:=ak BK165.out 0;have hfz13_1:=ak BK165.out 1;have hfz13_2:=ak BK165.out 2;have p166:0<=((ji9):Int):=zu;have q166:(ji9)<(l1.length:Int):=zu;obtain⟨ad166,e166,hx166_0⟩:=Kd.at_int HR1.out (ji9) p166 q166;cases e166;replace hx166_0:=zw HB hx166_0;replace p166:=eq_true p166;replace q166:=eq_true q166))
     go_ret;exact⟨by first|rfl|(simp[e8,e9] <;> rfl)|(simp only[<-hji9];first|rfl|(simp[e8,e9] <;> rfl))|(simp[*,e8,e9] <;> rfl),by repeat (first|(with_reducible first|exact HB.out|apply qd|apply qe|apply qf|refine bj ?_ GE165.out)|exact HB.out)⟩
    ·rw[if_neg c11]at H;exact absurd H (by simp)
   ·rw[if_neg c10]at H;exact absurd H (by simp)
def ie.j0:Nat->Int->Int->Bool->Option (Int)
 |0,_,_,_=>none
 |k+1,x0,x1,x5=>if x5=true then(some 0)else(if(wrap64 (x0-x1))<2 then(some x0)else(some x1))
def ie.f(k:Nat)(a0:Int)(a1:Int):Option (Int):=if a1<2 then(ie.j0 k a0 a1 true)else(ie.j0 k a0 a1 (decide (a1>a0)))
theorem ie.calls(k:Nat)(a0:Int)(a1:Int)(r:Int)(w:World)(h:ie.f k a0 a1=some r):Calls Tryz.prog 175 #[.int .i64 a0, .int .i64 a1] w fun e w'=>e=.returned (.int .i64 r)/\Drawn0 w w':=by
 have H:(if a1<2 then(ie.j0 k a0 a1 true)else(ie.j0 k a0 a1 (decide (a1>a0))))=some r:=h;clear h;have HC3:=am H;clear H;go_enter Tryz.func175,Tryz.ntmps175;go_upto_region 1 with (fail);go_cut [5] (fun v5 wc=>∃ (kq:Nat) (x5_2:Bool),v5=.bool x5_2/\Aside0 (ie.j0 kq a0 a1 x5_2=some r)/\Aside0 (kq<=k)/\Drawn0 w wc)
 case first=>
  have H:=HC3.out;clear HC3;by_cases c4:a1<2
  ·rw[if_pos c4]at H;have c4b0:=af c4;clear c4
   (first|rw[c4b0]|(simp only[bu,iu];rw[c4b0])|skip)
   have H':=am H;clear H;go_wp2;go_meet
   case rel=>exact⟨_,(true),zs,H',⟨by first|omega|exact an _⟩,zd⟩
  ·rw[if_neg c4]at H;have c4b0:=ah c4;clear c4
   (first|rw[c4b0]|(simp only[bu,iu];rw[c4b0])|skip)
   have H':=am H;clear H;go_wp2;go_meet
   case rel=>exact⟨_,(decide (a1>a0)),zs,H',⟨by first|omega|exact an _⟩,zd⟩
 case rest=>
  clear HC3
  try clear c4
  try clear c4b0
  obtain⟨kq,x5_2,rfl,HA,HJ2,⟨mc2,rfl⟩⟩:=hcut;cases kq with
  |zero=>exact absurd HA.out (by simp[ie.j0])
  |succ kj2=>
   have H:=HA.out;clear HA;simp only[ie.j0]at H;by_cases c5:x5_2=true
   ·subst c5;have H1:(some 0)=some r:=by rw[if_pos rfl]at H;exact H
    clear H;have H:=H1;clear H1;obtain rfl:=az H;go_wp2;go_ret;exact⟨zs,zd⟩
   ·replace c5:=Bool.eq_false_iff.mpr c5;subst c5;have H1:(if(wrap64 (a0-a1))<2 then(some a0)else(some a1))=some r:=by rw[if_neg (show ¬ (false=true)by decide)]at H;exact H
    clear H;have H:=H1;clear H1;by_cases c6:(wrap64 (a0-a1))<2
    ·rw[if_pos c6]at H;have c6b0:=af c6;clear c6;obtain rfl:=az H;go_wp2;go_ret;exact⟨zs,zd⟩
    ·rw[if_neg c6]at H;have c6b0:=ah c6;clear c6;obtain rfl:=az H;go_wp2;go_ret;exact⟨zs,zd⟩
end Go.Proofs.YtmfhaliclnnbaaaGreat.XTopWhole
