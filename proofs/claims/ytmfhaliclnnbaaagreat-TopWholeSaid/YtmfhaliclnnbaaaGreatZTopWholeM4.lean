import Derived.Test.YtmfhaliclnnbaaaGreatZTopWholeM1
import Derived.Test.YtmfhaliclnnbaaaGreatZTopWholeM2
import Derived.Test.YtmfhaliclnnbaaaGreatZTopWholeM3
namespace Go.Proofs.YtmfhaliclnnbaaaGreat.XTopWhole
open Go.RowKit Go.Proofs.YtmfhaliclnnbaaaGreatW.PrintWords Go.Proofs.YtmfhaliclnnbaaaGreatW.PrintLast Go.Proofs.YtmfhaliclnnbaaaGreatW.PrintMore
attribute [local go_sem] uf uh xn xp ry r9 ug ui
set_option linter.unusedVariables false
set_option linter.unusedSimpArgs false
set_option maxRecDepth 100000
set_option maxHeartbeats 8000000
def dd.l0:Nat->Int->List (S116)->Int->Int->Option (Int)
 |0,_,_,_,_=>none
 |k+1,x3,x6,x7,x8=>if x8<x7 then(if 0<=x8 then(if x8<(x6.length:Int)then((ec.f ((ab x6 x8).f1)).bind fun t356=>(if t356=true then(if x3>512 then(some 0)else(dd.l0 k (wrap64 (x3+((ab x6 x8).f1))) x6 x7 (wrap64 (x8+1))))else(some 0)))else(none))else(none))else(some x3)
def dd.f(k:Nat)(l0:List (S116)):Option (Int):=dd.l0 k 0 l0 (l0.length:Int) 0
theorem dd.calls (k : Nat) (A0 : Option Addr) (c0 : Nat) (l0 : List (S116)) (r : Int) (w : World) (hr0 : Kd.C e6 w A0 l0.length l0) (hc0 : l0.length ≤ c0) (h : dd.f k l0 = some r) : Calls Tryz.prog 170 #[.slice A0 l0.length c0] w fun e w' => e = .returned (.int .i64 r) ∧ Below w.heap.size w w' := by
 have hu116:=Tryz.underlying116;have HR0:=am hr0;have HC0:=am hc0;clear hr0 hc0;have HB:=am (ai w.heap.size w);have H:(dd.l0 k 0 l0 (l0.length:Int) 0)=some r:=h;clear h;have H':=am H;clear H;go_enter Tryz.func170,Tryz.ntmps170;go_wp2;go_loopg [3,8] k (fun kq v3 v8 w'=>∃ (x3_1:Int) (x8_1:Int),v3=.int .i64 x3_1/\v8=.int .i64 x8_1/\Aside0 (dd.l0 kq x3_1 l0 (l0.length:Int) x8_1=some r)/\Aside0 (kq<=k)/\Aside0 (Below w.heap.size w w'))
 case atStart=>exact⟨(0),(0),zs,zs,H',⟨an _⟩,⟨zB HB⟩⟩
 case round =>
  clear H';obtain⟨x3_1,x8_1,rfl,rfl,HA,HK1,HB⟩:=hrel;cases gk with
  |zero=>exact absurd HA.out (by simp[dd.l0])
  |succ k1=>
   have H:=HA.out;clear HA;simp only[dd.l0]at H;by_cases c2:x8_1<(l0.length:Int)
   ·rw [if_pos c2] at H;have c2b0 := af c2;clear c2;by_cases c3 : 0 ≤ x8_1
    ·rw [if_pos c3] at H;have c3b0 := af c3;clear c3;by_cases c4 : x8_1 < (l0.length : Int)
     ·rw[if_pos c4]at H;have c4b0:=af c4;clear c4;replace H:=Option.bind_eq_some_iff.mp H;obtain⟨t356,A50,H⟩:=H
      try dsimp only at H
      have A5:=am A50;clear A50;by_cases c6:t356=true
      ·subst c6;have H1:(if x3_1>512 then(some 0)else(dd.l0 k1 (wrap64 (x3_1+((ab l0 x8_1).f1))) l0 (l0.length:Int) (wrap64 (x8_1+1))))=some r:=by rw[if_pos rfl]at H;exact H
       clear H;have H:=H1;clear H1;by_cases c7:x3_1>512
       ·rw[if_pos c7]at H;have c7b0:decide (512<x3_1)=true:=af c7;clear c7;obtain rfl:=az H;have p354:0<=(x8_1:Int):=zu;have q354:x8_1<(l0.length:Int):=zu;obtain⟨ad354,e354,hx354_0,hx354_1,hx354_2⟩:=fj HR0.out x8_1 p354 q354;cases e354;replace hx354_0:=zw HB hx354_0;replace hx354_1:=zw HB hx354_1;replace hx354_2:=zw HB hx354_2;replace p354:=eq_true p354;replace q354:=eq_true q354;go_wp2_with (first|((with_reducible refine b9 (N:=5) rfl ?_);refine db ?hg (N:=5) ?hd (cs:=#[.int .i64 0, .int .i64 0, .bool false]) (t:=116) ?hr ?_;(case hd=>rfl);(case hg=>rfl);(case hr=>first|(go_simp;done)|(go_simp;rfl));intro gb355 hg w8 hbox hb;have GW355:=zg HB hg;have GE355:=GW355;replace HB:=zb HB hb;have BK355:=am hbox;clear hb hbox hg;have hcz9_0:=zk BK355 0 (.int .i64 0);have hcz9_1:=zk BK355 1 (.int .i64 0);have hcz9_2:=zk BK355 2 (.bool false);have hfz9_0:=ak BK355.out 0;have hfz9_1:=ak BK355.out 1;have hfz9_2:=ak BK355.out 2)|((with_reducible refine ay (f:=125) rfl ?_);refine zl (some 14) Tryz.func125 #[.int .i64 ((ab l0 x8_1).f1)] ?_;(with_reducible refine(ec.calls ((ab l0 x8_1).f1) true _ A5.out).mono ?_);rintro e w' ⟨rfl,⟨nd,rfl⟩⟩;refine⟨_,rfl,?_⟩))
        go_ret;exact⟨ze,by repeat (first|(with_reducible first|exact HB.out|apply qd|apply qe|apply qf|refine bj ?_ GE355.out)|exact HB.out)⟩
       ·rw[if_neg c7]at H;have c7b0:decide (512<x3_1)=false:=ah c7;clear c7;have H':=am H;clear H;have p354:0<=(x8_1:Int):=zu;have q354:x8_1<(l0.length:Int):=zu;obtain⟨ad354,e354,hx354_0,hx354_1,hx354_2⟩:=fj HR0.out x8_1 p354 q354;cases e354;replace hx354_0:=zw HB hx354_0;replace hx354_1:=zw HB hx354_1;replace hx354_2:=zw HB hx354_2;replace p354:=eq_true p354;replace q354:=eq_true q354;go_wp2_with (first|((with_reducible refine b9 (N:=5) rfl ?_);refine db ?hg (N:=5) ?hd (cs:=#[.int .i64 0, .int .i64 0, .bool false]) (t:=116) ?hr ?_;(case hd=>rfl);(case hg=>rfl);(case hr=>first|(go_simp;done)|(go_simp;rfl));intro gb355 hg w10 hbox hb;have GW355:=zg HB hg;have GE355:=GW355;replace HB:=zb HB hb;have BK355:=am hbox;clear hb hbox hg;have hcz11_0:=zk BK355 0 (.int .i64 0);have hcz11_1:=zk BK355 1 (.int .i64 0);have hcz11_2:=zk BK355 2 (.bool false);have hfz11_0:=ak BK355.out 0;have hfz11_1:=ak BK355.out 1;have hfz11_2:=ak BK355.out 2)|((with_reducible refine ay (f:=125) rfl ?_);refine zl (some 14) Tryz.func125 #[.int .i64 ((ab l0 x8_1).f1)] ?_;(with_reducible refine(ec.calls ((ab l0 x8_1).f1) true _ A5.out).mono ?_);rintro e w' ⟨rfl,⟨nd,rfl⟩⟩;refine⟨_,rfl,?_⟩))
        go_roundg k1
        case measure=>have:=HK1.out;omega
        case rel=>exact⟨(wrap64 (x3_1+((ab l0 x8_1).f1))),(wrap64 (x8_1+1)),zs,zs,H',⟨by have:=HK1.out;omega⟩,⟨by repeat (first|(with_reducible first|exact HB.out|apply qd|apply qe|apply qf|refine bj ?_ GE355.out)|exact HB.out)⟩⟩
      ·replace c6:=Bool.eq_false_iff.mpr c6;subst c6;have H1:(some 0)=some r:=by rw[if_neg (show ¬ (false=true)by decide)]at H;exact H
       clear H;have H:=H1;clear H1;obtain rfl:=az H;have p354:0<=(x8_1:Int):=zu;have q354:x8_1<(l0.length:Int):=zu;obtain⟨ad354,e354,hx354_0,hx354_1,hx354_2⟩:=fj HR0.out x8_1 p354 q354;cases e354;replace hx354_0:=zw HB hx354_0;replace hx354_1:=zw HB hx354_1;replace hx354_2:=zw HB hx354_2;replace p354:=eq_true p354;replace q354:=eq_true q354;go_wp2_with (first|((with_reducible refine b9 (N:=5) rfl ?_);refine db ?hg (N:=5) ?hd (cs:=#[.int .i64 0, .int .i64 0, .bool false]) (t:=116) ?hr ?_;(case hd=>rfl);(case hg=>rfl);(case hr=>first|(go_simp;done)|(go_simp;rfl));intro gb355 hg w12 hbox hb;have GW355:=zg HB hg;have GE355:=GW355;replace HB:=zb HB hb;have BK355:=am hbox;clear hb hbox hg;have hcz13_0:=zk BK355 0 (.int .i64 0);have hcz13_1:=zk BK355 1 (.int .i64 0);have hcz13_2:=zk BK355 2 (.bool false);have hfz13_0:=ak BK355.out 0;have hfz13_1:=ak BK355.out 1;have hfz13_2:=ak BK355.out 2)|((with_reducible refine ay (f:=125) rfl ?_);refine zl (some 14) Tryz.func125 #[.int .i64 ((ab l0 x8_1).f1)] ?_;(with_reducible refine(ec.calls ((ab l0 x8_1).f1) false _ A5.out).mono ?_);rintro e w' ⟨rfl,⟨nd,rfl⟩⟩;refine⟨_,rfl,?_⟩))
       go_ret;exact⟨ze,by repeat (first|(with_reducible first|exact HB.out|apply qd|apply qe|apply qf|refine bj ?_ GE355.out)|exact HB.out)⟩
     ·rw[if_neg c4]at H;exact absurd H (by simp)
    ·rw[if_neg c3]at H;exact absurd H (by simp)
   ·rw[if_neg c2]at H;have c2b0:=ah c2;clear c2;obtain rfl:=az H;go_wp2;go_ret;exact⟨ze,zB HB⟩
mutual
def bv.j0:Nat->List (S116)->Int->Bool->Option (Int×Int×Bool)
 |0,_,_,_=>none
 |k+1,x0,x1,x29=>if x29=true then(some (0,0,false))else(if x1>0 then(if 0<=(wrap64 (x1-1))then(if(wrap64 (x1-1))<(x0.length:Int)then(bv.j1 k x0 x1 (wrap64 (x1+1)) (!((ab x0 (wrap64 (x1-1))).f2)))else(none))else(none))else(bv.j1 k x0 x1 (wrap64 (x1+1)) false))
def bv.j1:Nat->List (S116)->Int->Int->Bool->Option (Int×Int×Bool)
 |0,_,_,_,_=>none
 |k+1,x0,x4,x5,x43=>if x43=true then(if x5<(x0.length:Int)then(if 0<=x5 then(if((ab x0 x5).f2=true)then(some (wrap64 (x4-1),x5,true))else(some (wrap64 (x4-1),wrap64 (x5+1),true)))else(none))else(some (wrap64 (x4-1),x5,true)))else(if x5<(x0.length:Int)then(if 0<=x5 then(if((ab x0 x5).f2=true)then(some (x4,x5,true))else(some (x4,wrap64 (x5+1),true)))else(none))else(some (x4,x5,true)))
end
def bv.f(k:Nat)(l0:List (S116))(a1:Int):Option (Int×Int×Bool):=(dd.f k l0).bind fun t357=>((dc.f k l0 t357).bind fun t358=>(if t358=true then(if a1<0 then(bv.j0 k l0 a1 true)else(if a1>=(l0.length:Int)then(bv.j0 k l0 a1 true)else(if 0<=a1 then(if a1<(l0.length:Int)then(bv.j0 k l0 a1 (!((ab l0 a1).f2)))else(none))else(none))))else(bv.j0 k l0 a1 true)))
theorem bv.calls (k : Nat) (A0 : Option Addr) (c0 : Nat) (l0 : List (S116)) (a1 : Int) (r1 : Int) (r2 : Int) (r3 : Bool) (w : World) (hr0 : Kd.C e6 w A0 l0.length l0) (hc0 : l0.length ≤ c0) (h : bv.f k l0 a1 = some (r1, r2, r3)) : Calls Tryz.prog 169 #[.slice A0 l0.length c0, .int .i64 a1] w fun e w' => e = .returned (.tuple #[.int .i64 r1, .int .i64 r2, .bool r3]) ∧ Below w.heap.size w w' := by
 have HR0:=am hr0;have HC0:=am hc0;clear hr0 hc0;have HB:=am (ai w.heap.size w);have H:((dd.f k l0).bind fun t357=>((dc.f k l0 t357).bind fun t358=>(if t358=true then(if a1<0 then(bv.j0 k l0 a1 true)else(if a1>=(l0.length:Int)then(bv.j0 k l0 a1 true)else(if 0<=a1 then(if a1<(l0.length:Int)then(bv.j0 k l0 a1 (!((ab l0 a1).f2)))else(none))else(none))))else(bv.j0 k l0 a1 true))))=some (r1,r2,r3):=h;clear h;have HC3:=am H;clear H;go_enter Tryz.func169,Tryz.ntmps169;go_upto_region 1 with (fail);go_cut [29] (fun v29 wc=>∃ (kq:Nat) (x29_2:Bool),v29=.bool x29_2/\Aside0 (bv.j0 kq l0 a1 x29_2=some (r1,r2,r3))/\Aside0 (kq<=k)/\Aside0 (Below w.heap.size w wc))
 case first =>
  have H:=HC3.out;clear HC3;replace H:=Option.bind_eq_some_iff.mp H;obtain⟨t357,A40,H⟩:=H
  try dsimp only at H
  have A4:=am A40;clear A40;replace H:=Option.bind_eq_some_iff.mp H;obtain⟨t358,A50,H⟩:=H
  try dsimp only at H
  have A5:=am A50;clear A50;by_cases c6:t358=true
  ·subst c6;have H1:(if a1<0 then(bv.j0 k l0 a1 true)else(if a1>=(l0.length:Int)then(bv.j0 k l0 a1 true)else(if 0<=a1 then(if a1<(l0.length:Int)then(bv.j0 k l0 a1 (!((ab l0 a1).f2)))else(none))else(none))))=some (r1,r2,r3):=by rw[if_pos rfl]at H;exact H
   clear H;have H:=H1;clear H1;by_cases c7:a1<0
   ·rw[if_pos c7]at H;have c7b0:=af c7;clear c7
    (first|rw[c7b0]|(simp only[bu,iu];rw[c7b0])|skip)
    have H':=am H;clear H;go_wp2_with (first|((with_reducible refine ay (f:=170) rfl ?_);refine zl (some 9) Tryz.func170 #[.slice A0 l0.length c0] ?_;(with_reducible refine(dd.calls k _ _ l0 t357 _ ?side1 ?side2 A4.out).mono ?_);(case side1=>exact zc (Kd.C_below HR0.out HB.out));(case side2=>exact HC0.out);rintro e w8 ⟨rfl,hb⟩;refine⟨_,rfl,?_⟩;have n0_:=zb HB hb;replace HB:=n0_;clear n0_;(try clear hb))|((with_reducible refine ay (f:=95) rfl ?_);refine zl (some 10) Tryz.func95 #[.slice A0 l0.length c0, .int .i64 t357] ?_;(with_reducible refine(dc.calls k _ _ l0 t357 true _ ?side1 ?side2 A5.out).mono ?_);(case side1=>exact zc (Kd.C_below HR0.out HB.out));(case side2=>exact HC0.out);rintro e w9 ⟨rfl,hb⟩;refine⟨_,rfl,?_⟩;have n0_:=zb HB hb;replace HB:=n0_;clear n0_;(try clear hb)))
    go_meet
    case rel=>exact⟨_,(true),zs,H',⟨by first|omega|exact an _⟩,⟨zB HB⟩⟩
   ·rw [if_neg c7] at H;have c7b0 := ah c7;clear c7
    (first|rw[c7b0]|(simp only[bu,iu];rw[c7b0])|skip)
    by_cases c10:a1>=(l0.length:Int)
    ·rw[if_pos c10]at H;have c10b0:decide ((l0.length:Int)<=a1)=true:=af c10;clear c10;have H':=am H;clear H;go_wp2_with (first|((with_reducible refine ay (f:=170) rfl ?_);refine zl (some 9) Tryz.func170 #[.slice A0 l0.length c0] ?_;(with_reducible refine(dd.calls k _ _ l0 t357 _ ?side1 ?side2 A4.out).mono ?_);(case side1=>exact zc (Kd.C_below HR0.out HB.out));(case side2=>exact HC0.out);rintro e w11 ⟨rfl,hb⟩;refine⟨_,rfl,?_⟩;have n0_:=zb HB hb;replace HB:=n0_;clear n0_;(try clear hb))|((with_reducible refine ay (f:=95) rfl ?_);refine zl (some 10) Tryz.func95 #[.slice A0 l0.length c0, .int .i64 t357] ?_;(with_reducible refine(dc.calls k _ _ l0 t357 true _ ?side1 ?side2 A5.out).mono ?_);(case side1=>exact zc (Kd.C_below HR0.out HB.out));(case side2=>exact HC0.out);rintro e w12 ⟨rfl,hb⟩;refine⟨_,rfl,?_⟩;have n0_:=zb HB hb;replace HB:=n0_;clear n0_;(try clear hb)))
     go_meet
     case rel=>exact⟨_,(true),zs,H',⟨by first|omega|exact an _⟩,⟨zB HB⟩⟩
    ·rw[if_neg c10]at H;have c10b0:decide ((l0.length:Int)<=a1)=false:=ah c10;clear c10;by_cases c13:0<=a1
     ·rw[if_pos c13]at H;have c13b0:=af c13;clear c13;by_cases c14:a1<(l0.length:Int)
      ·rw[if_pos c14]at H;have c14b0:=af c14;clear c14;have H':=am H;clear H;go_wp2_with (first|((with_reducible refine ay (f:=170) rfl ?_);refine zl (some 9) Tryz.func170 #[.slice A0 l0.length c0] ?_;(with_reducible refine(dd.calls k _ _ l0 t357 _ ?side1 ?side2 A4.out).mono ?_);(case side1=>exact zc (Kd.C_below HR0.out HB.out));(case side2=>exact HC0.out);rintro e w15 ⟨rfl,hb⟩;refine⟨_,rfl,?_⟩;have n0_:=zb HB hb;replace HB:=n0_;clear n0_;(try clear hb))|((with_reducible refine ay (f:=95) rfl ?_);refine zl (some 10) Tryz.func95 #[.slice A0 l0.length c0, .int .i64 t357] ?_;(with_reducible refine(dc.calls k _ _ l0 t357 true _ ?side1 ?side2 A5.out).mono ?_);(case side1=>exact zc (Kd.C_below HR0.out HB.out));(case side2=>exact HC0.out);rintro e w16 ⟨rfl,hb⟩;refine⟨_,rfl,?_⟩;have n0_:=zb HB hb;replace HB:=n0_;clear n0_;(try clear hb);have p359:0<=(a1:Int):=zu;have q359:a1<(l0.length:Int):=zu;obtain⟨ad359,e359,hx359_0,hx359_1,hx359_2⟩:=fj HR0.out a1 p359 q359;cases e359;replace hx359_0:=zw HB hx359_0;replace hx359_1:=zw HB hx359_1;replace hx359_2:=zw HB hx359_2;replace p359:=eq_true p359;replace q359:=eq_true q359))
       go_meet
       case rel=>exact⟨_,(!((ab l0 a1).f2)),zs,H',⟨by first|omega|exact an _⟩,⟨zB HB⟩⟩
      ·rw[if_neg c14]at H;exact absurd H (by simp)
     ·rw[if_neg c13]at H;exact absurd H (by simp)
  ·replace c6:=Bool.eq_false_iff.mpr c6;subst c6;have H1:(bv.j0 k l0 a1 true)=some (r1,r2,r3):=by rw[if_neg (show ¬ (false=true)by decide)]at H;exact H
   clear H;have H:=H1;clear H1;have H':=am H;clear H;go_wp2_with (first|((with_reducible refine ay (f:=170) rfl ?_);refine zl (some 9) Tryz.func170 #[.slice A0 l0.length c0] ?_;(with_reducible refine(dd.calls k _ _ l0 t357 _ ?side1 ?side2 A4.out).mono ?_);(case side1=>exact zc (Kd.C_below HR0.out HB.out));(case side2=>exact HC0.out);rintro e w17 ⟨rfl,hb⟩;refine⟨_,rfl,?_⟩;have n0_:=zb HB hb;replace HB:=n0_;clear n0_;(try clear hb))|((with_reducible refine ay (f:=95) rfl ?_);refine zl (some 10) Tryz.func95 #[.slice A0 l0.length c0, .int .i64 t357] ?_;(with_reducible refine(dc.calls k _ _ l0 t357 false _ ?side1 ?side2 A5.out).mono ?_);(case side1=>exact zc (Kd.C_below HR0.out HB.out));(case side2=>exact HC0.out);rintro e w18 ⟨rfl,hb⟩;refine⟨_,rfl,?_⟩;have n0_:=zb HB hb;replace HB:=n0_;clear n0_;(try clear hb)))
   go_meet
   case rel=>exact⟨_,(true),zs,H',⟨by first|omega|exact an _⟩,⟨zB HB⟩⟩
 case rest =>
  clear HC3
  try clear c6
  try clear c7
  try clear c7b0
  try clear c10
  try clear c10b0
  try clear c13
  try clear c13b0
  try clear c14
  try clear c14b0
  try clear hx359_0
  try clear hx359_1
  try clear hx359_2
  try clear p359
  try clear q359
  obtain⟨kq,x29_2,rfl,HA,HJ2,HB⟩:=hcut;cases kq with
  |zero=>exact absurd HA.out (by simp[bv.j0])
  | succ kj2 =>
   have H:=HA.out;clear HA;simp only[bv.j0]at H;by_cases c19:x29_2=true
   ·subst c19;have H1:(some (0,0,false))=some (r1,r2,r3):=by rw[if_pos rfl]at H;exact H
    clear H;have H:=H1;clear H1;simp only[Option.some.injEq,Prod.mk.injEq]at H;obtain⟨rfl,rfl,rfl⟩:=H;go_wp2;go_ret3;exact⟨ze,zB HB⟩
   ·replace c19:=Bool.eq_false_iff.mpr c19;subst c19;have H1:(if a1>0 then(if 0<=(wrap64 (a1-1))then(if(wrap64 (a1-1))<(l0.length:Int)then(bv.j1 kj2 l0 a1 (wrap64 (a1+1)) (!((ab l0 (wrap64 (a1-1))).f2)))else(none))else(none))else(bv.j1 kj2 l0 a1 (wrap64 (a1+1)) false))=some (r1,r2,r3):=by rw[if_neg (show ¬ (false=true)by decide)]at H;exact H
    clear H;have H:=H1;clear H1;have HC20:=am H;clear H;go_upto_region 4 with (fail);go_cut [43] (fun v43 wc=>∃ (kq:Nat) (x43_19:Bool),v43=.bool x43_19/\Aside0 (bv.j1 kq l0 a1 (wrap64 (a1+1)) x43_19=some (r1,r2,r3))/\Aside0 (kq<=kj2)/\Aside0 (Below w.heap.size w wc))
    case first=>
     have H:=HC20.out;clear HC20;by_cases c21:a1>0
     ·rw[if_pos c21]at H;have c21b0:decide (0<a1)=true:=af c21;clear c21
      (first|rw[c21b0]|(simp only[bu,iu];rw[c21b0])|skip)
      obtain⟨ji22,hji22⟩:∃ j_:Int,(wrap64 (a1-1))=j_:=⟨_,rfl⟩;replace H:(if 0<=(ji22)then(if(ji22)<(l0.length:Int)then(bv.j1 kj2 l0 a1 (wrap64 (a1+1)) (!((ab l0 (ji22)).f2)))else(none))else(none))=some (r1,r2,r3):=by first|(rw[hji22]at H;exact H)|(simp only[hji22]at H ⊢;exact H)
      have hji22w:(IntKind.i64.wrap (a1-1))=ji22:=(bu _).trans hji22;by_cases c23:0<=(ji22)
      ·rw[if_pos c23]at H;have c23b0:=af c23;clear c23;by_cases c24:(ji22)<(l0.length:Int)
       ·rw[if_pos c24]at H;have c24b0:=af c24;clear c24;have H':=am H;clear H;have p360:0<=((ji22):Int):=zu;have q360:(ji22)<(l0.length:Int):=zu;obtain⟨ad360,e360,hx360_0,hx360_1,hx360_2⟩:=fj HR0.out (ji22) p360 q360;cases e360;replace hx360_0:=zw HB hx360_0;replace hx360_1:=zw HB hx360_1;replace hx360_2:=zw HB hx360_2;replace p360:=eq_true p360;replace q360:=eq_true q360;go_wp2;go_meet
        case rel=>exact⟨_,(!((ab l0 (ji22)).f2)),(by first|rfl|(simp;done)|(simp only[<-hji22] <;> (first|rfl|simp))|(simp[*];done)),(by first|exact H'|(simp only[hji22];exact H')),⟨by have:=HJ2.out;first|omega|exact an _⟩,⟨zB HB⟩⟩
       ·rw[if_neg c24]at H;exact absurd H (by simp)
      ·rw[if_neg c23]at H;exact absurd H (by simp)
     ·rw[if_neg c21]at H;have c21b0:decide (0<a1)=false:=ah c21;clear c21
      (first|rw[c21b0]|(simp only[bu,iu];rw[c21b0])|skip)
      have H':=am H;clear H;go_wp2;go_meet
      case rel=>exact⟨_,(false),zs,(by first|exact H'|((try rw[hji22]);exact H')),⟨by have:=HJ2.out;first|omega|exact an _⟩,⟨zB HB⟩⟩
    case rest =>
     clear HC20
     try clear c6
     try clear c7
     try clear c7b0
     try clear c10
     try clear c10b0
     try clear c13
     try clear c13b0
     try clear c14
     try clear c14b0
     try clear c19
     try clear c21
     try clear c21b0
     try clear c23
     try clear c23b0
     try clear c24
     try clear c24b0
     try clear hx359_0
     try clear hx359_1
     try clear hx359_2
     try clear hx360_0
     try clear hx360_1
     try clear hx360_2
     try clear p359
     try clear p360
     try clear q359
     try clear q360
     obtain⟨kq,x43_19,rfl,HA,HJ19,HB⟩:=hcut;cases kq with
     |zero=>exact absurd HA.out (by simp[bv.j1])
     |succ kj19=>
      have H:=HA.out;clear HA;simp only[bv.j1]at H;by_cases c25:x43_19=true
      ·subst c25;have H1:(if(wrap64 (a1+1))<(l0.length:Int)then(if 0<=(wrap64 (a1+1))then(if((ab l0 (wrap64 (a1+1))).f2=true)then(some (wrap64 (a1-1),(wrap64 (a1+1)),true))else(some (wrap64 (a1-1),wrap64 ((wrap64 (a1+1))+1),true)))else(none))else(some (wrap64 (a1-1),(wrap64 (a1+1)),true)))=some (r1,r2,r3):=by rw[if_pos rfl]at H;exact H
       clear H;have H:=H1;clear H1;by_cases c26:(wrap64 (a1+1))<(l0.length:Int)
       ·rw[if_pos c26]at H;have c26b0:=af c26;clear c26;obtain⟨ji27,hji27⟩:∃ j_:Int,(wrap64 (a1+1))=j_:=⟨_,rfl⟩;replace H:(if 0<=(ji27)then(if((ab l0 (ji27)).f2=true)then(some (wrap64 (a1-1),(ji27),true))else(some (wrap64 (a1-1),wrap64 ((ji27)+1),true)))else(none))=some (r1,r2,r3):=by first|(rw[hji27]at H;exact H)|(simp only[hji27]at H ⊢;exact H)
        (try rw[hji27]at c26b0)
        have hji27w:(IntKind.i64.wrap (a1+1))=ji27:=(bu _).trans hji27;by_cases c28:0<=(ji27)
        ·rw[if_pos c28]at H;have c28b0:=af c28;clear c28
         first|(generalize hbq29:(ab l0 (ji27)).f2=bq29 at *;replace hbq29:=hbq29.symm)|(obtain⟨bq29,hbq29⟩:∃ b_:Bool,b_=((ab l0 (ji27)).f2):=⟨_,rfl⟩)
         replace H:(if(bq29=true)then(some (wrap64 (a1-1),(ji27),true))else(some (wrap64 (a1-1),wrap64 ((ji27)+1),true)))=some (r1,r2,r3):=by first|exact H|(rw[<-hbq29]at H;exact H)
         have Nbq29:=am hbq29;clear hbq29
         (try rw[<-Nbq29.out])
         by_cases c30:(bq29=true)
         ·subst c30;have H1:(some (wrap64 (a1-1),(ji27),true))=some (r1,r2,r3):=by rw[if_pos rfl]at H;exact H
          clear H;have H:=H1;clear H1;simp only[Option.some.injEq,Prod.mk.injEq]at H;obtain⟨rfl,rfl,rfl⟩:=H;have p361:0<=((ji27):Int):=zu;have q361:(ji27)<(l0.length:Int):=zu;obtain⟨ad361,e361,hx361_0,hx361_1,hx361_2⟩:=fj HR0.out (ji27) p361 q361
          (try rw[<-Nbq29.out]at hx361_2)
          cases e361;replace hx361_0:=zw HB hx361_0;replace hx361_1:=zw HB hx361_1;replace hx361_2:=zw HB hx361_2;replace p361:=eq_true p361;replace q361:=eq_true q361;go_wp2;go_ret3;exact⟨by first|rfl|(simp[e8,e9] <;> rfl)|(simp only[<-hji27];first|rfl|(simp[e8,e9] <;> rfl))|(simp[*,e8,e9] <;> rfl),zB HB⟩
         ·replace c30:=Bool.eq_false_iff.mpr c30;subst c30;have H1:(some (wrap64 (a1-1),wrap64 ((ji27)+1),true))=some (r1,r2,r3):=by rw[if_neg (show ¬ (false=true)by decide)]at H;exact H
          clear H;have H:=H1;clear H1;simp only[Option.some.injEq,Prod.mk.injEq]at H;obtain⟨rfl,rfl,rfl⟩:=H;have p361:0<=((ji27):Int):=zu;have q361:(ji27)<(l0.length:Int):=zu;obtain⟨ad361,e361,hx361_0,hx361_1,hx361_2⟩:=fj HR0.out (ji27) p361 q361
          (try rw[<-Nbq29.out]at hx361_2)
          cases e361;replace hx361_0:=zw HB hx361_0;replace hx361_1:=zw HB hx361_1;replace hx361_2:=zw HB hx361_2;replace p361:=eq_true p361;replace q361:=eq_true q361;go_wp2;go_ret3;exact⟨by first|rfl|(simp[e8,e9] <;> rfl)|(simp only[<-hji27];first|rfl|(simp[e8,e9] <;> rfl))|(simp[*,e8,e9] <;> rfl),zB HB⟩
        ·rw[if_neg c28]at H;exact absurd H (by simp)
       ·rw[if_neg c26]at H;have c26b0:=ah c26;clear c26;simp only[Option.some.injEq,Prod.mk.injEq]at H;obtain⟨rfl,rfl,rfl⟩:=H;go_wp2;go_ret3;exact⟨ze,zB HB⟩
      ·replace c25:=Bool.eq_false_iff.mpr c25;subst c25;have H1:(if(wrap64 (a1+1))<(l0.length:Int)then(if 0<=(wrap64 (a1+1))then(if((ab l0 (wrap64 (a1+1))).f2=true)then(some (a1,(wrap64 (a1+1)),true))else(some (a1,wrap64 ((wrap64 (a1+1))+1),true)))else(none))else(some (a1,(wrap64 (a1+1)),true)))=some (r1,r2,r3):=by rw[if_neg (show ¬ (false=true)by decide)]at H;exact H
       clear H;have H:=H1;clear H1;by_cases c31:(wrap64 (a1+1))<(l0.length:Int)
       ·rw[if_pos c31]at H;have c31b0:=af c31;clear c31;obtain⟨ji32,hji32⟩:∃ j_:Int,(wrap64 (a1+1))=j_:=⟨_,rfl⟩;replace H:(if 0<=(ji32)then(if((ab l0 (ji32)).f2=true)then(some (a1,(ji32),true))else(some (a1,wrap64 ((ji32)+1),true)))else(none))=some (r1,r2,r3):=by first|(rw[hji32]at H;exact H)|(simp only[hji32]at H ⊢;exact H)
        (try rw[hji32]at c31b0)
        have hji32w:(IntKind.i64.wrap (a1+1))=ji32:=(bu _).trans hji32;by_cases c33:0<=(ji32)
        ·rw[if_pos c33]at H;have c33b0:=af c33;clear c33
         first|(generalize hbq34:(ab l0 (ji32)).f2=bq34 at *;replace hbq34:=hbq34.symm)|(obtain⟨bq34,hbq34⟩:∃ b_:Bool,b_=((ab l0 (ji32)).f2):=⟨_,rfl⟩)
         replace H:(if(bq34=true)then(some (a1,(ji32),true))else(some (a1,wrap64 ((ji32)+1),true)))=some (r1,r2,r3):=by first|exact H|(rw[<-hbq34]at H;exact H)
         have Nbq34:=am hbq34;clear hbq34
         (try rw[<-Nbq34.out])
         by_cases c35:(bq34=true)
         ·subst c35;have H1:(some (a1,(ji32),true))=some (r1,r2,r3):=by rw[if_pos rfl]at H;exact H
          clear H;have H:=H1;clear H1;simp only[Option.some.injEq,Prod.mk.injEq]at H;obtain⟨rfl,rfl,rfl⟩:=H;have p362:0<=((ji32):Int):=zu;have q362:(ji32)<(l0.length:Int):=zu;obtain⟨ad362,e362,hx362_0,hx362_1,hx362_2⟩:=fj HR0.out (ji32) p362 q362
          (try rw[<-Nbq34.out]at hx362_2)
          cases e362;replace hx362_0:=zw HB hx362_0;replace hx362_1:=zw HB hx362_1;replace hx362_2:=zw HB hx362_2;replace p362:=eq_true p362;replace q362:=eq_true q362;go_wp2;go_ret3;exact⟨by first|rfl|(simp[e8,e9] <;> rfl)|(simp only[<-hji32];first|rfl|(simp[e8,e9] <;> rfl))|(simp[*,e8,e9] <;> rfl),zB HB⟩
         ·replace c35:=Bool.eq_false_iff.mpr c35;subst c35;have H1:(some (a1,wrap64 ((ji32)+1),true))=some (r1,r2,r3):=by rw[if_neg (show ¬ (false=true)by decide)]at H;exact H
          clear H;have H:=H1;clear H1;simp only[Option.some.injEq,Prod.mk.injEq]at H;obtain⟨rfl,rfl,rfl⟩:=H;have p362:0<=((ji32):Int):=zu;have q362:(ji32)<(l0.length:Int):=zu;obtain⟨ad362,e362,hx362_0,hx362_1,hx362_2⟩:=fj HR0.out (ji32) p362 q362
          (try rw[<-Nbq34.out]at hx362_2)
          cases e362;replace hx362_0:=zw HB hx362_0;replace hx362_1:=zw HB hx362_1;replace hx362_2:=zw HB hx362_2;replace p362:=eq_true p362;replace q362:=eq_true q362;go_wp2;go_ret3;exact⟨by first|rfl|(simp[e8,e9] <;> rfl)|(simp only[<-hji32];first|rfl|(simp[e8,e9] <;> rfl))|(simp[*,e8,e9] <;> rfl),zB HB⟩
        ·rw[if_neg c33]at H;exact absurd H (by simp)
       ·rw[if_neg c31]at H;have c31b0:=ah c31;clear c31;simp only[Option.some.injEq,Prod.mk.injEq]at H;obtain⟨rfl,rfl,rfl⟩:=H;go_wp2;go_ret3;exact⟨ze,zB HB⟩
def fu.f(k:Nat)(l0:List (S116))(a1:Int):Option (Int×Int×Bool):=(bv.f k l0 a1).bind fun bt364=>(if bt364.2.2=true then(if 0<=bt364.1 then(if bt364.1<(l0.length:Int)then(if bt364.1<=bt364.2.1 then(if bt364.2.1<=(l0.length:Int)then((dd.f k ((l0.take (bt364.2.1:Int).toNat).drop (bt364.1:Int).toNat)).bind fun t372=>((gg.f t372 false).bind fun t373=>(some ((ab l0 bt364.1).f0,t373,true))))else(none))else(none))else(none))else(none))else(some (0,0,false)))
def fu.T4:Bool×List (List Nat×List Nat):=(true,[([],[]),([],[]),([0,1],[0,1]),([2],[2]),([3],[3]),([],[]),([],[]),([],[]),([5,6,7],[5,6,7]),([8],[8]),([9,9],[9]),([4,10],[4,10]),([11,10,0,1,2,3,4,5,6,7,8,9,10,11],[11]),([12,0,1,2,3,4,5,6,7,8,9,10,11,12],[])])
def fu.B4:List Nat:=[0,0,3,7,15,0,0,0,224,480,992,2047,4095,8191]
theorem fu.tab4:qy .any (qql Tryz.f145 4)=fu.T4:=by kernel_rfl
theorem fu.bits4:ye fu.T4.2 fu.B4=true:=by kernel_rfl
theorem fu.calls(k:Nat)(A0:Option Addr)(c0:Nat)(l0:List (S116))(a1:Int)(r1:Int)(r2:Int)(r3:Bool)(w:World)(hr0:Kd.C e6 w A0 l0.length l0)(hc0:l0.length<=c0)(h:fu.f k l0 a1=some (r1,r2,r3)):Calls Tryz.prog 145 #[.slice A0 l0.length c0, .int .i64 a1] w fun e w'=>e=.returned (.tuple #[.agg #[.int .i64 r1, .int .u64 r2], .bool r3])/\Below w.heap.size w w':=by
 have hu160:=Tryz.underlying160;have HR0:=am hr0;have HC0:=am hc0;clear hr0 hc0;have HB:=am (ai w.heap.size w);have H:((bv.f k l0 a1).bind fun bt364=>(if bt364.2.2=true then(if 0<=bt364.1 then(if bt364.1<(l0.length:Int)then(if bt364.1<=bt364.2.1 then(if bt364.2.1<=(l0.length:Int)then((dd.f k ((l0.take (bt364.2.1:Int).toNat).drop (bt364.1:Int).toNat)).bind fun t372=>((gg.f t372 false).bind fun t373=>(some ((ab l0 bt364.1).f0,t373,true))))else(none))else(none))else(none))else(none))else(some (0,0,false))))=some (r1,r2,r3):=h;clear h;replace H:=Option.bind_eq_some_iff.mp H;obtain⟨⟨t364,t365,t366⟩,A30,H⟩:=H
 try dsimp only at H
 have A3:=am A30;clear A30;by_cases c4:t366=true
 ·subst c4;have H1:(if 0<=t364 then(if t364<(l0.length:Int)then(if t364<=t365 then(if t365<=(l0.length:Int)then((dd.f k ((l0.take (t365:Int).toNat).drop (t364:Int).toNat)).bind fun t372=>((gg.f t372 false).bind fun t373=>(some ((ab l0 t364).f0,t373,true))))else(none))else(none))else(none))else(none))=some (r1,r2,r3):=by rw[if_pos rfl]at H;exact H
  clear H;have H:=H1;clear H1;by_cases c5:0<=t364
  ·rw [if_pos c5] at H;have c5b0 := af c5;clear c5;by_cases c6 : t364 < (l0.length : Int)
   ·rw [if_pos c6] at H;have c6b0 := af c6;clear c6;have c7b0 := eq_true (zu : 0 ≤ t364);by_cases c8 : t364 ≤ t365
    ·rw[if_pos c8]at H;have c8b0:=eq_true c8;have c8b1:=af c8;clear c8;by_cases c9:t365<=(l0.length:Int)
     ·rw[if_pos c9]at H;have c9b0:=eq_true c9;have c9b1:=af c9;clear c9;obtain⟨y368,hy368⟩:∃ y_:List (S116),y_=((l0.take (t365:Int).toNat).drop (t364:Int).toNat):=⟨_,rfl⟩;replace H:((dd.f k y368).bind fun t372=>((gg.f t372 false).bind fun t373=>(some ((ab l0 t364).f0,t373,true))))=some (r1,r2,r3):=by first|(rw[hy368];with_reducible exact H)|(have H2_:=(Option.bind_some _ _).symm.trans H;rw[hy368];with_reducible exact H2_)|(have H2_:=(Option.bind_some _ _).symm.trans H;with_reducible exact H2_)|with_reducible exact H|(rw[hy368];exact H)|exact H
      have Ny368:=am hy368;clear hy368;replace H:=Option.bind_eq_some_iff.mp H;obtain⟨t372,A100,H⟩:=H
      try dsimp only at H
      have A10:=am A100;clear A100;replace H:=Option.bind_eq_some_iff.mp H;obtain⟨t373,A110,H⟩:=H
      try dsimp only at H
      have A11:=am A110;clear A110;simp only[Option.some.injEq,Prod.mk.injEq]at H;obtain⟨rfl,rfl,rfl⟩:=H;go_enter Tryz.func145,Tryz.ntmps145
      try go_wp2_with (first|((with_reducible refine b9 (N:=4) rfl ?_);refine db ?hg (N:=4) ?hd (cs:=#[.int .i64 0, .int .u64 0]) (t:=160) ?hr ?_;(case hd=>rfl);(case hg=>rfl);(case hr=>first|(go_simp;done)|(go_simp;rfl));intro gb363 hg w12 hbox hb;have GW363:=zg HB hg;have GE363:=GW363;replace HB:=zb HB hb;have BK363:=am hbox;clear hb hbox hg)|((with_reducible refine ay (f:=169) rfl ?_);refine zl (some 12) Tryz.func169 #[.slice A0 l0.length c0, .int .i64 a1] ?_;(with_reducible refine(bv.calls k _ _ l0 a1 t364 t365 true _ ?side1 ?side2 A3.out).mono ?_);(case side1=>exact zc (Kd.C_below HR0.out HB.out));(case side2=>exact HC0.out);rintro e w13 ⟨rfl,hb⟩;refine⟨_,rfl,?_⟩;have n0_:=zq BK363 hb;have n1_:=am (qw (by repeat (first|(with_reducible first|exact HB.out|apply qd|apply qe|apply qf|refine bj ?_ GE363.out)|exact HB.out)) hb);replace BK363:=n0_;replace HB:=n1_;clear n0_ n1_;(try clear hb)))
      have n0_:=am (dp BK363.out);have n1_:=am (qf HB.out);clear BK363;clear HB;have BK363:=n0_;have HB:=n1_;clear n0_ n1_;have p367:0<=(t364:Int):=zu;have q367:t364<(l0.length:Int):=zu;obtain⟨ad367,e367,hx367_0,hx367_1,hx367_2⟩:=fj HR0.out t364 p367 q367;have hw367_2:=hx367_2;have hw367_1:=hx367_1;have hw367_0:=hx367_0;cases e367;replace hx367_0:=zw HB hx367_0;replace hx367_1:=zw HB hx367_1;replace hx367_2:=zw HB hx367_2;replace p367:=eq_true p367;replace q367:=eq_true q367;have q15:(t365:Int)<=((l0.length:Int):Int):=zu;obtain⟨i015,hi015,_,hsz15,_⟩:=info_parts mh;have hroom15:l0.length<=c0:=HC0.out;have hC15:Kd.C e6 _ (some ad367) l0.length l0:=HR0.out;have ql15:(t364:Int)<=(t365:Int):=zu;have q015:(0:Int)<=(t364:Int):=zu;have hcut15:=qj9 (P:=Tryz.prog) 93 116 .i64 .i64 Tryz.underlying93 hi015 3 hsz15 (some ad367) l0.length c0 t364 t365 q015 ql15 q15 hroom15;have hr15:=Kd.C_mid (lo:=(t364:Int).toNat) (hi:=(t365:Int).toNat) (c:=c0) hC15 (by omega) (by omega) hroom15;obtain⟨A15,hA15⟩:∃ A1,A1=(if c0=(t364:Int).toNat then(some ad367)else((some ad367):Option Addr).map (·.add ((t364:Int).toNat*3))):=⟨_,rfl⟩;obtain⟨c15,hc15⟩:∃ c1,c1=c0-(t364:Int).toNat:=⟨_,rfl⟩;have hy15:y368.length=(t365:Int).toNat-(t364:Int).toNat:=(by rw[Ny368.out,qm,qn] <;> omega);rw[show((l0).take (t365:Int).toNat).drop (t364:Int).toNat=y368 from Ny368.out.symm]at hr15;replace hr15:Kd.C e6 _ A15 y368.length y368:=(by rw[hA15];exact hr15);rw[<-hy15,←hA15,←hc15]at hcut15;have HR371:=am hr15;have HC371:=am (show y368.length<=c15 from by rw[hy15,hc15];exact Nat.sub_le_sub_right (Nat.le_trans (by omega) hroom15) _);clear hr15 hC15 hroom15 hi015 hsz15 hc15;have KY15:=am hy15;have KA15:=am hA15;clear hy15 hA15;replace q15:=eq_true q15;refine dj (n:=14) (S:=fun w'=>w'.cell? (ad367.add ((t364).toNat*3))=some (.int .i64 ((ab l0 t364).f0))/\w'.cell? ⟨(ad367.add ((t364).toNat*3)).block,(ad367.add ((t364).toNat*3)).off+1,none⟩=some (.int .i64 ((ab l0 t364).f1))/\w'.cell? ⟨(ad367.add ((t364).toNat*3)).block,(ad367.add ((t364).toNat*3)).off+2,none⟩=some (.bool ((ab l0 t364).f2))) (ds:=[]) (onA 14 0) (by kernel_rfl) rfl rfl ⟨(zw HB hw367_0),(zw HB hw367_1),(zw HB hw367_2)⟩ (fun hHeld=>?_);refine qa8 fu.tab4 fu.bits4 (fun HT_ HW_=>?_);generalize w13.drew=w14 at BK363 HB HR371 hx367_0 hx367_1 hx367_2 hHeld ⊢;refine pu 0 (some 19) (onA 14 1) HT_ (h:=?_);refine pu 1 (some 20) (onA 14 2) HT_ (h:=?_);refine pu 2 (some 21) (onA 14 3) HT_ (h:=?_);refine pu 3 (some 22) (onA 14 4) HT_ (h:=?_);refine pu 5 (some 24) (bA 14 47) HT_ (h:=?_);refine pu 6 (some 25) (bA 14 111) HT_ (h:=?_);refine pu 7 (some 26) (bA 14 239) HT_ (h:=?_);refine pu 8 (some 27) (bA 14 495) HT_ (h:=?_);refine take_ (i:=4) (N:=some 23) (v:=?_) (a':=?_) (onA 14 9) rfl rfl (qdr HT_.out HW_.out (by kernel_rfl)) (fun _ _ _ h=>h) (Or.inl ⟨by rfl,?_⟩) hHeld ?_ ?_;rotate_left
      ·rintro w' ⟨s0,s1,s2⟩;go_simp
       with_reducible rfl
      rotate_left
      ·simp only[Act.put,qg,qh,qi,bu,iu];rfl
      refine ip (i:=9) (N:=some 28) (onA 14 10) rfl rfl (qdf HT_.out (by kernel_rfl)) (by decide) (fun K hK=>?_);refine fv Tryz.func170 (by kernel_rfl) rfl #[.slice A15 y368.length c15] (by rfl) rfl rfl (by(try simp only[qj,qk,ql]);first|done|rfl|(simp only[qm,qn];rfl)) ?_
      with_reducible refine(dd.calls k _ _ y368 t372 _ ?side1 ?side2 A10.out).mono ?_
      (case side1=>exact zc (Kd.C_below HR371.out HB.out))
      (case side2=>exact HC371.out)
      rintro e w16 ⟨rfl,hb⟩;refine⟨_,rfl,?_⟩;have n0_:=zq BK363 hb;have n1_:=am (qw (by repeat (first|(with_reducible first|exact HB.out|apply qd|apply qe|apply qf|refine bj ?_ GE363.out)|exact HB.out)) hb);clear BK363;clear HB;have BK363:=n0_;have HB:=n1_;clear n0_ n1_
      (try clear hb)
      (try clear hb2)
      (try clear hk)
      (try clear hi)
      refine hK.out _ _ ⟨(zw HB hw367_0),(zw HB hw367_1),(zw HB hw367_2)⟩ (fun hHeld=>?_);clear hK K;refine mq (a':=?_) ?_ ?_;rotate_left
      ·show Act.put _ (some 28) _=_;simp only[Act.put,qg,qh,qi,bu,iu];rfl
      refine ip (i:=10) (N:=some 29) (onA 14 11) rfl rfl (qdf HT_.out (by kernel_rfl)) (by decide) (fun K hK=>?_);refine fv Tryz.func84 (by kernel_rfl) rfl #[.int .i64 t372, .bool false] (by rfl) rfl rfl (by(try simp only[qj,qk,ql]);first|done|rfl|(simp only[qm,qn];rfl)) ?_
      with_reducible refine(gg.calls t372 false t373 _ A11.out).mono ?_
      rintro e w' ⟨rfl,⟨nd,rfl⟩⟩;refine⟨_,rfl,?_⟩;refine hK.out _ _ ⟨(zw HB hw367_0),(zw HB hw367_1),(zw HB hw367_2)⟩ (fun hHeld=>?_);clear hK K;refine mq (a':=?_) ?_ ?_;rotate_left
      ·show Act.put _ (some 29) _=_;simp only[Act.put,qg,qh,qi,bu,iu];rfl
      refine pu 11 (some 30) (onA 14 12) HT_ (h:=?_);refine ip (i:=12) (N:=none) (onA 14 13) rfl rfl (qdf HT_.out (by kernel_rfl)) (by decide) (fun K hK=>?_);have hs17:w16.cell? ⟨gb363,0,none⟩=some (.int .i64 0):=(aj BK363.out 0).trans rfl;have hfs17:=ak BK363.out 0;have hs18:w16.cell? ⟨gb363,1,none⟩=some (.int .u64 0):=(aj BK363.out 1).trans rfl;have hfs18:=ak BK363.out 1;refine su (w1:=?_) (by rfl) rfl ?_ ?_;rotate_left
      ·go_simp;rfl
      refine hK.out _ _ ⟨((tx (p:=⟨gb363,_,none⟩) (by first|exact Nat.ne_of_lt (Nat.lt_of_lt_of_le (by have:=qp _ _ hw367_0;first|rwa[da]at this|exact this) GW363.out)|(rw[da];exact Nat.ne_of_lt (Nat.lt_of_lt_of_le (by have:=qp _ _ hw367_0;first|rwa[da]at this|exact this) GW363.out))|(show(Addr.add _ _).block≠_;rw[da];exact Nat.ne_of_lt (Nat.lt_of_lt_of_le (by have:=qp _ _ hw367_0;first|rwa[da]at this|exact this) GW363.out))|(dsimp only;exact Nat.ne_of_lt (Nat.lt_of_lt_of_le (by have:=qp _ _ hw367_0;first|rwa[da]at this|exact this) GW363.out))) _).trans (((tx (p:=⟨gb363,_,none⟩) (by first|exact Nat.ne_of_lt (Nat.lt_of_lt_of_le (by have:=qp _ _ hw367_0;first|rwa[da]at this|exact this) GW363.out)|(rw[da];exact Nat.ne_of_lt (Nat.lt_of_lt_of_le (by have:=qp _ _ hw367_0;first|rwa[da]at this|exact this) GW363.out))|(show(Addr.add _ _).block≠_;rw[da];exact Nat.ne_of_lt (Nat.lt_of_lt_of_le (by have:=qp _ _ hw367_0;first|rwa[da]at this|exact this) GW363.out))|(dsimp only;exact Nat.ne_of_lt (Nat.lt_of_lt_of_le (by have:=qp _ _ hw367_0;first|rwa[da]at this|exact this) GW363.out))) _).trans (hHeld.1)))),((tx (p:=⟨gb363,_,none⟩) (by first|exact Nat.ne_of_lt (Nat.lt_of_lt_of_le (by have:=qp _ _ hw367_1;first|rwa[da]at this|exact this) GW363.out)|(rw[da];exact Nat.ne_of_lt (Nat.lt_of_lt_of_le (by have:=qp _ _ hw367_1;first|rwa[da]at this|exact this) GW363.out))|(show(Addr.add _ _).block≠_;rw[da];exact Nat.ne_of_lt (Nat.lt_of_lt_of_le (by have:=qp _ _ hw367_1;first|rwa[da]at this|exact this) GW363.out))|(dsimp only;exact Nat.ne_of_lt (Nat.lt_of_lt_of_le (by have:=qp _ _ hw367_1;first|rwa[da]at this|exact this) GW363.out))) _).trans (((tx (p:=⟨gb363,_,none⟩) (by first|exact Nat.ne_of_lt (Nat.lt_of_lt_of_le (by have:=qp _ _ hw367_1;first|rwa[da]at this|exact this) GW363.out)|(rw[da];exact Nat.ne_of_lt (Nat.lt_of_lt_of_le (by have:=qp _ _ hw367_1;first|rwa[da]at this|exact this) GW363.out))|(show(Addr.add _ _).block≠_;rw[da];exact Nat.ne_of_lt (Nat.lt_of_lt_of_le (by have:=qp _ _ hw367_1;first|rwa[da]at this|exact this) GW363.out))|(dsimp only;exact Nat.ne_of_lt (Nat.lt_of_lt_of_le (by have:=qp _ _ hw367_1;first|rwa[da]at this|exact this) GW363.out))) _).trans (hHeld.2.1)))),((tx (p:=⟨gb363,_,none⟩) (by first|exact Nat.ne_of_lt (Nat.lt_of_lt_of_le (by have:=qp _ _ hw367_2;first|rwa[da]at this|exact this) GW363.out)|(rw[da];exact Nat.ne_of_lt (Nat.lt_of_lt_of_le (by have:=qp _ _ hw367_2;first|rwa[da]at this|exact this) GW363.out))|(show(Addr.add _ _).block≠_;rw[da];exact Nat.ne_of_lt (Nat.lt_of_lt_of_le (by have:=qp _ _ hw367_2;first|rwa[da]at this|exact this) GW363.out))|(dsimp only;exact Nat.ne_of_lt (Nat.lt_of_lt_of_le (by have:=qp _ _ hw367_2;first|rwa[da]at this|exact this) GW363.out))) _).trans (((tx (p:=⟨gb363,_,none⟩) (by first|exact Nat.ne_of_lt (Nat.lt_of_lt_of_le (by have:=qp _ _ hw367_2;first|rwa[da]at this|exact this) GW363.out)|(rw[da];exact Nat.ne_of_lt (Nat.lt_of_lt_of_le (by have:=qp _ _ hw367_2;first|rwa[da]at this|exact this) GW363.out))|(show(Addr.add _ _).block≠_;rw[da];exact Nat.ne_of_lt (Nat.lt_of_lt_of_le (by have:=qp _ _ hw367_2;first|rwa[da]at this|exact this) GW363.out))|(dsimp only;exact Nat.ne_of_lt (Nat.lt_of_lt_of_le (by have:=qp _ _ hw367_2;first|rwa[da]at this|exact this) GW363.out))) _).trans (hHeld.2.2))))⟩ (fun hHeld=>?_);clear hK K;refine pu 13 (some 5) (onA 14 14) HT_ (h:=?_);refine fa (qfw HT_.out (by kernel_rfl)) ?_
      try go_wp2
      refine bodyPost_ret (qdm rfl _ _ gb363 160 #[.int .i64 ((ab l0 t364).f0), .int .u64 t373] (0,0) _ rfl (by(with_reducible repeat (first|refine cy ?_ _|refine dp ?_ |refine d8 ?_ _));refine kw (cs:=#[.int .i64 ((ab l0 t364).f0), .int .u64 0]) ?_ 1 _ rfl;(with_reducible repeat (first|refine cy ?_ _|refine dp ?_ |refine d8 ?_ _));refine kw (cs:=#[.int .i64 0, .int .u64 0]) ?_ 0 _ rfl;(with_reducible repeat (first|refine cy ?_ _|refine dp ?_ |refine d8 ?_ _));exact BK363.out) Tryz.underlying160 rfl (by kernel_rfl)) rfl ?_;exact⟨ze,by repeat (first|(with_reducible first|exact HB.out|apply qd|apply qe|apply qf|refine bj ?_ GE363.out)|exact HB.out)⟩
     ·rw[if_neg c9]at H;exact absurd H (by simp)
    ·rw[if_neg c8]at H;exact absurd H (by simp)
   ·rw[if_neg c6]at H;exact absurd H (by simp)
  ·rw[if_neg c5]at H;exact absurd H (by simp)
 ·replace c4:=Bool.eq_false_iff.mpr c4;subst c4;have H1:(some (0,0,false))=some (r1,r2,r3):=by rw[if_neg (show ¬ (false=true)by decide)]at H;exact H
  clear H;have H:=H1;clear H1;simp only[Option.some.injEq,Prod.mk.injEq]at H;obtain⟨rfl,rfl,rfl⟩:=H;go_enter Tryz.func145,Tryz.ntmps145;go_wp2_with (first|((with_reducible refine b9 (N:=4) rfl ?_);refine db ?hg (N:=4) ?hd (cs:=#[.int .i64 0, .int .u64 0]) (t:=160) ?hr ?_;(case hd=>rfl);(case hg=>rfl);(case hr=>first|(go_simp;done)|(go_simp;rfl));intro gb363 hg w19 hbox hb;have GW363:=zg HB hg;have GE363:=GW363;replace HB:=zb HB hb;have BK363:=am hbox;clear hb hbox hg)|((with_reducible refine ay (f:=169) rfl ?_);refine zl (some 12) Tryz.func169 #[.slice A0 l0.length c0, .int .i64 a1] ?_;(with_reducible refine(bv.calls k _ _ l0 a1 t364 t365 false _ ?side1 ?side2 A3.out).mono ?_);(case side1=>exact zc (Kd.C_below HR0.out HB.out));(case side2=>exact HC0.out);rintro e w20 ⟨rfl,hb⟩;refine⟨_,rfl,?_⟩;have n0_:=zq BK363 hb;have n1_:=am (qw (by repeat (first|(with_reducible first|exact HB.out|apply qd|apply qe|apply qf|refine bj ?_ GE363.out)|exact HB.out)) hb);replace BK363:=n0_;replace HB:=n1_;clear n0_ n1_;(try clear hb);have hcz21_0:=zk BK363 0 (.int .i64 0);have hcz21_1:=zk BK363 1 (.int .u64 0);have hfz21_0:=ak BK363.out 0;have hfz21_1:=ak BK363.out 1))
  refine bodyPost_ret (qdm rfl _ _ gb363 160 #[.int .i64 0, .int .u64 0] (0,0) _ rfl (by(with_reducible repeat (first|refine cy ?_ _|refine dp ?_ |refine d8 ?_ _));refine kw (cs:=#[.int .i64 0, .int .u64 0]) ?_ 1 _ rfl;(with_reducible repeat (first|refine cy ?_ _|refine dp ?_ |refine d8 ?_ _));refine kw (cs:=#[.int .i64 0, .int .u64 0]) ?_ 0 _ rfl;(with_reducible repeat (first|refine cy ?_ _|refine dp ?_ |refine d8 ?_ _));exact BK363.out) Tryz.underlying160 rfl (by kernel_rfl)) rfl ?_;exact⟨ze,by repeat (first|(with_reducible first|exact HB.out|apply qd|apply qe|apply qf|refine bj ?_ GE363.out)|exact HB.out)⟩
def ic.f(k:Nat)(l0:List Int)(a1:Int):Option ((List (S160))×Int):=(i7.f k l0 a1).bind fun bt374=>(if(bt374.1.length:Int)=0 then(some (([]:List (S160)),6))else((fu.f k bt374.1 bt374.2).bind fun bt378=>(if bt378.2.2=true then(some ((([(⟨bt378.1,bt378.2.1⟩:S160)]:List (S160))),0))else(some (([]:List (S160)),1)))))
theorem ic.calls(k:Nat)(A0:Option Addr)(c0:Nat)(l0:List Int)(a1:Int)(r1:List (S160))(r2:Int)(w:World)(hr0:Kd.C (Kd.int .u64) w A0 l0.length l0)(hc0:l0.length<=c0)(h:ic.f k l0 a1=some (r1,r2)):Calls Tryz.prog 104 #[.slice A0 l0.length c0, .int .i64 a1] w fun e w'=>∃ v0_:Value,e=.returned (.tuple #[v0_, .int .i64 r2])/\Kd.R jp 160 w' w.heap.size (fun _=>True) v0_ r1/\Below w.heap.size w w':=by
 have hu160:=Tryz.underlying160;have HR0:=am hr0;have HC0:=am hc0;clear hr0 hc0;have HB:=am (ai w.heap.size w);have H:((i7.f k l0 a1).bind fun bt374=>(if(bt374.1.length:Int)=0 then(some (([]:List (S160)),6))else((fu.f k bt374.1 bt374.2).bind fun bt378=>(if bt378.2.2=true then(some ((([(⟨bt378.1,bt378.2.1⟩:S160)]:List (S160))),0))else(some (([]:List (S160)),1))))))=some (r1,r2):=h;clear h;replace H:=Option.bind_eq_some_iff.mp H;obtain⟨⟨t374,t375⟩,A30,H⟩:=H
 try dsimp only at H
 have A3:=am A30;clear A30;by_cases c4:(t374.length:Int)=0
 ·rw[if_pos c4]at H;have c4b0:((t374.length:Int)==0)=true:=beq_iff_eq.mpr c4;have c4b1:((t374.length:Int) != 0)=false:=bne_eq_false_iff_eq.mpr c4;clear c4;simp only[Option.some.injEq,Prod.mk.injEq]at H;obtain⟨rfl,rfl⟩:=H;go_enter Tryz.func104,Tryz.ntmps104;go_wp2_with (first|((with_reducible refine ay (f:=96) rfl ?_);refine zl (some 13) Tryz.func96 #[.slice A0 l0.length c0, .int .i64 a1] ?_;(with_reducible refine(i7.calls k _ _ l0 a1 t374 t375 _ ?side1 ?side2 A3.out).mono ?_);(case side1=>exact zc HR0.out);(case side2=>exact HC0.out);rintro e w5 ⟨v376,rfl,ho0,hb⟩;refine⟨_,rfl,?_⟩;have n0_:=am (Kd.R_lower ho0 (bk (zB HB)));have n1_:=zb HB hb;clear HB;have HO377:=n0_;have HB:=n1_;clear n0_ n1_;(try clear hb);(try clear ho0);obtain⟨Ao6,co6,eo6⟩:=Kd.R_slice HO377.out;subst eo6))
  go_ret2;exact⟨_,ze,by first|exact Kd.R_nil _ _ _ _ _|exact Kd.N_nil _ _ _ _ _|exact Kd.V_nil _ _ _ _ _|exact Kd.Q_nil _ _ _ _ _|exact Kd.S_nil _ _ _ _ _,zB HB⟩
 ·rw[if_neg c4]at H;have c4b0:((t374.length:Int)==0)=false:=beq_eq_false_iff_ne.mpr c4;have c4b1:((t374.length:Int) != 0)=true:=bne_iff_ne.mpr c4;have c4b2:¬ (t374=[]):=fun h_=>c4 (by rw[h_];rfl);replace H:=Option.bind_eq_some_iff.mp H;obtain⟨⟨t378,t379,t380⟩,A70,H⟩:=H
  try dsimp only at H
  have A7:=am A70;clear A70;by_cases c8:t380=true
  ·subst c8;have H1:(some ((([(⟨t378,t379⟩:S160)]:List (S160))),0))=some (r1,r2):=by rw[if_pos rfl]at H;exact H
   clear H;have H:=H1;clear H1;obtain⟨y382,hy382⟩:∃ y_:List (S160),y_=(([(⟨t378,t379⟩:S160)]:List (S160))):=⟨_,rfl⟩;replace H:(some (y382,0))=some (r1,r2):=by first|(rw[hy382];with_reducible exact H)|(have H2_:=(Option.bind_some _ _).symm.trans H;rw[hy382];with_reducible exact H2_)|(have H2_:=(Option.bind_some _ _).symm.trans H;with_reducible exact H2_)|with_reducible exact H|(rw[hy382];exact H)|exact H
   have Ny382:=am hy382;clear hy382;simp only[Option.some.injEq,Prod.mk.injEq]at H;obtain⟨rfl,rfl⟩:=H;go_enter Tryz.func104,Tryz.ntmps104;go_wp2_with (first|((with_reducible refine ay (f:=96) rfl ?_);refine zl (some 13) Tryz.func96 #[.slice A0 l0.length c0, .int .i64 a1] ?_;(with_reducible refine(i7.calls k _ _ l0 a1 t374 t375 _ ?side1 ?side2 A3.out).mono ?_);(case side1=>exact zc HR0.out);(case side2=>exact HC0.out);rintro e w9 ⟨v376,rfl,ho0,hb⟩;refine⟨_,rfl,?_⟩;have n0_:=am (Kd.R_lower ho0 (bk (zB HB)));have n1_:=zb HB hb;clear HB;have HO377:=n0_;have HB:=n1_;clear n0_ n1_;(try clear hb);(try clear ho0);obtain⟨Ao10,co10,eo10⟩:=Kd.R_slice HO377.out;subst eo10)|((with_reducible refine ay (f:=145) rfl ?_);refine zl (some 22) Tryz.func145 #[.slice Ao10 t374.length co10, .int .i64 t375] ?_;(with_reducible refine(fu.calls k _ _ t374 t375 t378 t379 true _ ?side1 ?side2 A7.out).mono ?_);(case side1=>exact zc (Kd.R_reads' HO377.out).2.2);(case side2=>exact(Kd.R_reads' HO377.out).2.1);rintro e w11 ⟨rfl,hb⟩;refine⟨_,rfl,?_⟩;have n0_:=za HO377 hb;have n1_:=zb HB hb;replace HO377:=n0_;replace HB:=n1_;clear n0_ n1_;(try clear hb))|((with_reducible refine b9 (N:=8) rfl ?_);refine db ?hg (N:=8) ?hd (cs:=#[.int .i64 0, .int .u64 0]) (t:=160) ?hr ?_;(case hd=>rfl);(case hg=>rfl);(case hr=>first|(go_simp;done)|(go_simp;rfl));intro gb381 hg w12 hbox hb;have n0_:=za HO377 hb;have n1_:=zb HB hb;have n2_:=am (hbox);have n3_:=am ((by rw[hg];exact(bk (zB HB)):w.heap.size<=gb381));have n4_:=am ((by rw[hg];exact(bk (zB HB)):w.heap.size<=gb381));clear HO377;clear HB;have HO377:=n0_;have HB:=n1_;have BK381:=n2_;have GW381:=n3_;have GE381:=n4_;clear n0_ n1_ n2_ n3_ n4_;clear hb hbox hg;have hcz13_0:=zk BK381 0 (.int .i64 0);have hcz13_1:=zk BK381 1 (.int .u64 0);have hfz13_0:=ak BK381.out 0;have hfz13_1:=ak BK381.out 1)|((with_reducible refine b9 (N:=28) rfl ?_);refine Kd.R_lit jp _ 160 ?hg (N:=28) ?hd (xs:=([(⟨t378,t379⟩:S160)]:List (S160))) (inner:=[.int .i64 t378, .int .u64 t379]) (ok:=fun _=>True) (okp:=fun _=>True) ?hr ?hp (fun _ hk=>hk) trivial (ai _ _) (an _) (by simp) ?_;(case hd=>rfl);(case hg=>rfl);(case hr=>first|(go_simp;done)|(go_simp;rfl));(case hp=>exact(fp.c2 (show Kd.M jp _ _ _ (⟨t378,t379⟩:S160) [.int .i64 t378, .int .u64 t379]from(qo _ _ _ (⟨t378,t379⟩:S160))) (fp.none _ _)));intro v383 w14 ho15 hb hg_ hnew_;clear hg_ hnew_;(first|rw[<-Ny382.out]at ho15|(simp only[Int.reduceToNat]at ho15;rw[<-Ny382.out]at ho15));have n0_:=am (qv (by(with_reducible repeat (first|apply qa|apply qb|apply qc));exact(Kd.R_mono (Kd.R_far (p:=⟨gb381,1,none⟩) (Kd.R_far (p:=⟨gb381,0,none⟩) (Kd.R_types HO377.out BK381.out (by decide)) (fun _ hk=>hk.2) (.int .i64 t378)) (fun _ hk=>hk.2) (.int .u64 t379)) (fun _ h_=>h_.1))) hb);have n1_:=am (Kd.R_lower (Kd.R_newB ho15 (g:=gb381) (o:=.cells #[.int .i64 t378, .int .u64 t379] 160 (0,0)) (by(with_reducible repeat (first|refine cy ?_ _|refine dp ?_ |refine d8 ?_ _));refine kw (cs:=#[.int .i64 t378, .int .u64 0]) ?_ 1 _ rfl;(with_reducible repeat (first|refine cy ?_ _|refine dp ?_ |refine d8 ?_ _));refine kw (cs:=#[.int .i64 0, .int .u64 0]) ?_ 0 _ rfl;(with_reducible repeat (first|refine cy ?_ _|refine dp ?_ |refine d8 ?_ _));exact BK381.out)) (bk (by repeat (first|(with_reducible first|exact HB.out|apply qd|apply qe|apply qf|refine bj ?_ GE381.out)|exact HB.out))));have n2_:=am (ap (g:=gb381) (o:=.cells #[.int .i64 t378, .int .u64 t379] 160 (0,0)) (by(with_reducible repeat (first|refine cy ?_ _|refine dp ?_ |refine d8 ?_ _));refine kw (cs:=#[.int .i64 t378, .int .u64 0]) ?_ 1 _ rfl;(with_reducible repeat (first|refine cy ?_ _|refine dp ?_ |refine d8 ?_ _));refine kw (cs:=#[.int .i64 0, .int .u64 0]) ?_ 0 _ rfl;(with_reducible repeat (first|refine cy ?_ _|refine dp ?_ |refine d8 ?_ _));exact BK381.out) hb);have n3_:=am (qw (by repeat (first|(with_reducible first|exact HB.out|apply qd|apply qe|apply qf|refine bj ?_ GE381.out)|exact HB.out)) hb);clear HO377;clear BK381;clear HB;have HO377:=n0_;have HO384:=n1_;have BK381:=n2_;have HB:=n3_;clear n0_ n1_ n2_ n3_;clear hb ho15))
   go_ret2;exact⟨_,ze,by(with_reducible repeat (first|apply qa|apply qb|apply qc));exact Kd.R_mono HO384.out (fun _ hk=>trivial),by repeat (first|(with_reducible first|exact HB.out|apply qd|apply qe|apply qf|refine bj ?_ GE381.out)|exact HB.out)⟩
  ·replace c8:=Bool.eq_false_iff.mpr c8;subst c8;have H1:(some (([]:List (S160)),1))=some (r1,r2):=by rw[if_neg (show ¬ (false=true)by decide)]at H;exact H
   clear H;have H:=H1;clear H1;simp only[Option.some.injEq,Prod.mk.injEq]at H;obtain⟨rfl,rfl⟩:=H;go_enter Tryz.func104,Tryz.ntmps104;go_wp2_with (first|((with_reducible refine ay (f:=96) rfl ?_);refine zl (some 13) Tryz.func96 #[.slice A0 l0.length c0, .int .i64 a1] ?_;(with_reducible refine(i7.calls k _ _ l0 a1 t374 t375 _ ?side1 ?side2 A3.out).mono ?_);(case side1=>exact zc HR0.out);(case side2=>exact HC0.out);rintro e w16 ⟨v376,rfl,ho0,hb⟩;refine⟨_,rfl,?_⟩;have n0_:=am (Kd.R_lower ho0 (bk (zB HB)));have n1_:=zb HB hb;clear HB;have HO377:=n0_;have HB:=n1_;clear n0_ n1_;(try clear hb);(try clear ho0);obtain⟨Ao17,co17,eo17⟩:=Kd.R_slice HO377.out;subst eo17)|((with_reducible refine ay (f:=145) rfl ?_);refine zl (some 22) Tryz.func145 #[.slice Ao17 t374.length co17, .int .i64 t375] ?_;(with_reducible refine(fu.calls k _ _ t374 t375 t378 t379 false _ ?side1 ?side2 A7.out).mono ?_);(case side1=>exact zc (Kd.R_reads' HO377.out).2.2);(case side2=>exact(Kd.R_reads' HO377.out).2.1);rintro e w18 ⟨rfl,hb⟩;refine⟨_,rfl,?_⟩;have n0_:=za HO377 hb;have n1_:=zb HB hb;replace HO377:=n0_;replace HB:=n1_;clear n0_ n1_;(try clear hb))|((with_reducible refine b9 (N:=8) rfl ?_);refine db ?hg (N:=8) ?hd (cs:=#[.int .i64 0, .int .u64 0]) (t:=160) ?hr ?_;(case hd=>rfl);(case hg=>rfl);(case hr=>first|(go_simp;done)|(go_simp;rfl));intro gb381 hg w19 hbox hb;have n0_:=za HO377 hb;have n1_:=zb HB hb;have n2_:=am (hbox);have n3_:=am ((by rw[hg];exact(bk (zB HB)):w.heap.size<=gb381));have n4_:=am ((by rw[hg];exact(bk (zB HB)):w.heap.size<=gb381));clear HO377;clear HB;have HO377:=n0_;have HB:=n1_;have BK381:=n2_;have GW381:=n3_;have GE381:=n4_;clear n0_ n1_ n2_ n3_ n4_;clear hb hbox hg;have hcz20_0:=zk BK381 0 (.int .i64 0);have hcz20_1:=zk BK381 1 (.int .u64 0);have hfz20_0:=ak BK381.out 0;have hfz20_1:=ak BK381.out 1))
   go_ret2;exact⟨_,ze,by first|exact Kd.R_nil _ _ _ _ _|exact Kd.N_nil _ _ _ _ _|exact Kd.V_nil _ _ _ _ _|exact Kd.Q_nil _ _ _ _ _|exact Kd.S_nil _ _ _ _ _,by repeat (first|(with_reducible first|exact HB.out|apply qd|apply qe|apply qf|refine bj ?_ GE381.out)|exact HB.out)⟩
def jf.f(k:Nat)(l0:List Int)(a1:Int)(a2:Int):Option (Bool):=if a2<0 then(some false)else(if a2>448 then(some false)else((cf.f k l0).bind fun p=>(some (p.1.any (qx a1 a2)))))
theorem jf.calls(k:Nat)(A0:Option Addr)(c0:Nat)(l0:List Int)(a1:Int)(a2:Int)(r:Bool)(w:World)(hr0:Kd.C (Kd.int .u64) w A0 l0.length l0)(hc0:l0.length<=c0)(h:jf.f k l0 a1 a2=some r):Calls Tryz.prog 171 #[.slice A0 l0.length c0, .int .i64 a1, .int .i64 a2] w fun e w'=>e=.returned (.bool r)/\Below w.heap.size w w':=by
  have hmf:∀ (fn:Fn) (first cap:Array Value) (w:World),(Instr.makeFunc fn first cap).run Tryz.prog w=.ok (.func fn first cap) w:=fun _ _ _ _=>rfl;have HR:=Lib.hid hr0;have HC:=Lib.hid hc0;clear hr0 hc0;unfold jf.f at h;by_cases c1:a2<0
  · rw [if_pos c1] at h
    obtain rfl:=az h
    have c1b:decide (a2<0)=true:=af c1
    go_enter Tryz.func171,Tryz.ntmps171
    go_wp2
    go_ret
    exact⟨rfl,by repeat (first|exact ai _ _|apply qd|apply qe|apply qf)⟩
  rw[if_neg c1]at h;have c1b:decide (a2<0)=false:=ah c1;by_cases c2:a2>448
  · rw [if_pos c2] at h
    obtain rfl:=az h
    have c2b:decide (448<a2)=true:=af c2
    go_enter Tryz.func171,Tryz.ntmps171
    go_wp2
    go_ret
    exact⟨rfl,by repeat (first|exact ai _ _|apply qd|apply qe|apply qf)⟩
  rw[if_neg c2]at h;have c2b:decide (448<a2)=false:=ah c2;obtain⟨⟨m,ok⟩,hb,hm⟩:=Option.bind_eq_some_iff.1 h;obtain rfl:=az hm;have hb:=Lib.hid hb;clear h hm c1 c2;have hW:Below w.heap.size w ((w.alloc (.cells #[.int .i64 a1] 3)).alloc (.cells #[.int .i64 a2] 3)):=qd (qd (ai _ _) _) _;have hB0:((w.alloc (.cells #[.int .i64 a1] 3)).alloc (.cells #[.int .i64 a2] 3)).cell? ⟨w.heap.size,0,none⟩=some (.int .i64 a1):=by have hh:((w.alloc (.cells #[.int .i64 a1] 3)).alloc (.cells #[.int .i64 a2] 3)).heap[w.heap.size]? =some (.cells #[.int .i64 a1] 3 (0,0)):=l6 (heap_alloc_new w _) (World.grownBy_alloc _ _ none) (by simp);rw[aj hh];rfl
  have hC0:((w.alloc (.cells #[.int .i64 a1] 3)).alloc (.cells #[.int .i64 a2] 3)).cell? ⟨w.heap.size+1,0,none⟩=some (.int .i64 a2):=by
    have hh:((w.alloc (.cells #[.int .i64 a1] 3)).alloc (.cells #[.int .i64 a2] 3)).heap[w.heap.size+1]? =some (.cells #[.int .i64 a2] 3 (0,0)):=by simpa using heap_alloc_new (w.alloc (.cells #[.int .i64 a1] 3)) (.cells #[.int .i64 a2] 3)
    rw[aj hh];rfl
  replace hB0:=Lib.hid hB0;replace hC0:=Lib.hid hC0;go_enter Tryz.func171,Tryz.ntmps171;go_wp2_with (first
    |(go_at_call 45;(with_reducible refine(cf.calls k _ _ l0 m ok _ ?s1 ?s2 hb.out).mono ?_);(case s1=>exact Kd.C_below HR.out hW);(case s2=>exact HC.out);rintro e w1 ⟨v,rfl,ho,hb1⟩;have hB1:=Lib.hid (fy hb1 hB0.out);have hC1:=Lib.hid (fy hb1 hC0.out);have hB':=Lib.hid (qp w1 _ hB1.out);have hC':=Lib.hid (qp w1 _ hC1.out);have ho:=Lib.hid ho)
    |(go_at_call 178;(with_reducible refine(qi0 a1 a2 w.heap.size (w.heap.size+1) _ v m _ ho.out hB'.out hC'.out hB1.out hC1.out).mono ?_);rintro e w2 ⟨rfl,hb2⟩))
  go_ret;exact⟨rfl,qw (qw hW hb1) hb2⟩
def iv.f(k:Nat)(l0:List Int)(a1:Int)(a2:Int):Option (Int):=(cf.f k l0).bind fun bt385=>(if bt385.2=true then((jf.f k l0 a1 a2).bind fun t389=>(if t389=true then(some 0)else(some 1)))else(some 6))
theorem iv.calls(k:Nat)(A0:Option Addr)(c0:Nat)(l0:List Int)(a1:Int)(a2:Int)(r:Int)(w:World)(hr0:Kd.C (Kd.int .u64) w A0 l0.length l0)(hc0:l0.length<=c0)(h:iv.f k l0 a1 a2=some r):Calls Tryz.prog 146 #[.slice A0 l0.length c0, .int .i64 a1, .int .i64 a2] w fun e w'=>e=.returned (.int .i64 r)/\Below w.heap.size w w':=by
 have HR0:=am hr0;have HC0:=am hc0;clear hr0 hc0;have HB:=am (ai w.heap.size w);have H:((cf.f k l0).bind fun bt385=>(if bt385.2=true then((jf.f k l0 a1 a2).bind fun t389=>(if t389=true then(some 0)else(some 1)))else(some 6)))=some r:=h;clear h;replace H:=Option.bind_eq_some_iff.mp H;obtain⟨⟨t385,t386⟩,A40,H⟩:=H
 try dsimp only at H
 have A4:=am A40;clear A40;by_cases c5:t386=true
 ·subst c5;have H1:((jf.f k l0 a1 a2).bind fun t389=>(if t389=true then(some 0)else(some 1)))=some r:=by rw[if_pos rfl]at H;exact H
  clear H;have H:=H1;clear H1;replace H:=Option.bind_eq_some_iff.mp H;obtain⟨t389,A60,H⟩:=H
  try dsimp only at H
  have A6:=am A60;clear A60;by_cases c7:t389=true
  ·subst c7;have H1:(some 0)=some r:=by rw[if_pos rfl]at H;exact H
   clear H;have H:=H1;clear H1;obtain rfl:=az H;go_enter Tryz.func146,Tryz.ntmps146;go_wp2_with (first|((with_reducible refine ay (f:=45) rfl ?_);refine zl (some 11) Tryz.func45 #[.slice A0 l0.length c0] ?_;(with_reducible refine(cf.calls k _ _ l0 t385 true _ ?side1 ?side2 A4.out).mono ?_);(case side1=>exact zc HR0.out);(case side2=>exact HC0.out);rintro e w8 ⟨v387,rfl,ho0,hb⟩;refine⟨_,rfl,?_⟩;have n0_:=am (Kd.R_lower ho0 (bk (zB HB)));have n1_:=zb HB hb;clear HB;have HO388:=n0_;have HB:=n1_;clear n0_ n1_;(try clear hb);(try clear ho0))|((with_reducible refine ay (f:=171) rfl ?_);refine zl (some 19) Tryz.func171 #[.slice A0 l0.length c0, .int .i64 a1, .int .i64 a2] ?_;(with_reducible refine(jf.calls k _ _ l0 a1 a2 true _ ?side1 ?side2 A6.out).mono ?_);(case side1=>exact zc (Kd.C_below HR0.out HB.out));(case side2=>exact HC0.out);rintro e w9 ⟨rfl,hb⟩;refine⟨_,rfl,?_⟩;have n0_:=za HO388 hb;have n1_:=zb HB hb;replace HO388:=n0_;replace HB:=n1_;clear n0_ n1_;(try clear hb)))
   go_ret;exact⟨ze,zB HB⟩
  ·replace c7:=Bool.eq_false_iff.mpr c7;subst c7;have H1:(some 1)=some r:=by rw[if_neg (show ¬ (false=true)by decide)]at H;exact H
   clear H;have H:=H1;clear H1;obtain rfl:=az H;go_enter Tryz.func146,Tryz.ntmps146;go_wp2_with (first|((with_reducible refine ay (f:=45) rfl ?_);refine zl (some 11) Tryz.func45 #[.slice A0 l0.length c0] ?_;(with_reducible refine(cf.calls k _ _ l0 t385 true _ ?side1 ?side2 A4.out).mono ?_);(case side1=>exact zc HR0.out);(case side2=>exact HC0.out);rintro e w10 ⟨v387,rfl,ho0,hb⟩;refine⟨_,rfl,?_⟩;have n0_:=am (Kd.R_lower ho0 (bk (zB HB)));have n1_:=zb HB hb;clear HB;have HO388:=n0_;have HB:=n1_;clear n0_ n1_;(try clear hb);(try clear ho0))|((with_reducible refine ay (f:=171) rfl ?_);refine zl (some 19) Tryz.func171 #[.slice A0 l0.length c0, .int .i64 a1, .int .i64 a2] ?_;(with_reducible refine(jf.calls k _ _ l0 a1 a2 false _ ?side1 ?side2 A6.out).mono ?_);(case side1=>exact zc (Kd.C_below HR0.out HB.out));(case side2=>exact HC0.out);rintro e w11 ⟨rfl,hb⟩;refine⟨_,rfl,?_⟩;have n0_:=za HO388 hb;have n1_:=zb HB hb;replace HO388:=n0_;replace HB:=n1_;clear n0_ n1_;(try clear hb)))
   go_ret;exact⟨ze,zB HB⟩
 ·replace c5:=Bool.eq_false_iff.mpr c5;subst c5;have H1:(some 6)=some r:=by rw[if_neg (show ¬ (false=true)by decide)]at H;exact H
  clear H;have H:=H1;clear H1;obtain rfl:=az H;go_enter Tryz.func146,Tryz.ntmps146;go_wp2_with (first|((with_reducible refine ay (f:=45) rfl ?_);refine zl (some 11) Tryz.func45 #[.slice A0 l0.length c0] ?_;(with_reducible refine(cf.calls k _ _ l0 t385 false _ ?side1 ?side2 A4.out).mono ?_);(case side1=>exact zc HR0.out);(case side2=>exact HC0.out);rintro e w12 ⟨v387,rfl,ho0,hb⟩;refine⟨_,rfl,?_⟩;have n0_:=am (Kd.R_lower ho0 (bk (zB HB)));have n1_:=zb HB hb;clear HB;have HO388:=n0_;have HB:=n1_;clear n0_ n1_;(try clear hb);(try clear ho0)))
  go_ret;exact⟨ze,zB HB⟩
def ix.f(l0:List Int)(a1:Int)(a2:Int):Option (Bool):=if a1>=0 then(if a2>=0 then(if a2<=448 then(some (decide (a1<=(wrap64 ((wrap64 ((l0.length:Int)*8))-a2)))))else(some false))else(some false))else(some false)
theorem ix.calls(A0:Option Addr)(c0:Nat)(l0:List Int)(a1:Int)(a2:Int)(r:Bool)(w:World)(hr0:Kd.C (Kd.int .u64) w A0 l0.length l0)(hc0:l0.length<=c0)(h:ix.f l0 a1 a2=some r):Calls Tryz.prog 172 #[.slice A0 l0.length c0, .int .i64 a1, .int .i64 a2] w fun e w'=>e=.returned (.bool r)/\Drawn0 w w':=by
 have HR0:=am hr0;have HC0:=am hc0;clear hr0 hc0;have H:(if a1>=0 then(if a2>=0 then(if a2<=448 then(some (decide (a1<=(wrap64 ((wrap64 ((l0.length:Int)*8))-a2)))))else(some false))else(some false))else(some false))=some r:=h;clear h;by_cases c4:a1>=0
 ·rw[if_pos c4]at H;have c4b0:decide (0<=a1)=true:=af c4;clear c4;by_cases c5:a2>=0
  ·rw[if_pos c5]at H;have c5b0:decide (0<=a2)=true:=af c5;clear c5;by_cases c6:a2<=448
   ·rw[if_pos c6]at H;have c6b0:=af c6;clear c6;obtain rfl:=az H;go_enter Tryz.func172,Tryz.ntmps172;go_wp2;go_ret;exact⟨zs,zd⟩
   ·rw[if_neg c6]at H;have c6b0:=ah c6;clear c6;obtain rfl:=az H;go_enter Tryz.func172,Tryz.ntmps172;go_wp2;go_ret;exact⟨zs,zd⟩
  ·rw[if_neg c5]at H;have c5b0:decide (0<=a2)=false:=ah c5;clear c5;obtain rfl:=az H;go_enter Tryz.func172,Tryz.ntmps172;go_wp2;go_ret;exact⟨zs,zd⟩
 ·rw[if_neg c4]at H;have c4b0:decide (0<=a1)=false:=ah c4;clear c4;obtain rfl:=az H;go_enter Tryz.func172,Tryz.ntmps172;go_wp2;go_ret;exact⟨zs,zd⟩
def fo.l0:Nat->List Int->Int->Int->List Int->Int->Option (List Int×Bool)
 |0,_,_,_,_,_=>none
 |k+1,x0,x1,x2,x8,x9=>if x9<(wrap64 (x1+x2))then(if 0<=(wrap64 (Int.tdiv x9 8))then(if(wrap64 (Int.tdiv x9 8))<(x0.length:Int)then(if 0<=(wrap64 ((Int.tmod x9 8)*8))then(if x8.length<140737488355328 then(fo.l0 k x0 x1 x2 (x8++[(shr .u64 (rd x0 (wrap64 (Int.tdiv x9 8))) (wrap64 ((Int.tmod x9 8)*8))) % 256]) (wrap64 (x9+1)))else(none))else(none))else(none))else(none))else(some (x8,true))
def fo.f(k:Nat)(l0:List Int)(a1:Int)(a2:Int):Option (List Int×Bool):=(ix.f l0 a1 a2).bind fun t390=>(if t390=true then(fo.l0 k l0 a1 a2 ([]:List Int) a1)else(some (([]:List Int),false)))
theorem fo.calls (k : Nat) (A0 : Option Addr) (c0 : Nat) (l0 : List Int) (a1 : Int) (a2 : Int) (r1 : List Int) (r2 : Bool) (w : World) (hr0 : Kd.C (Kd.int .u64) w A0 l0.length l0) (hc0 : l0.length ≤ c0) (h : fo.f k l0 a1 a2 = some (r1, r2)) : Calls Tryz.prog 147 #[.slice A0 l0.length c0, .int .i64 a1, .int .i64 a2] w fun e w' => ∃ v0_ : Value, e = .returned (.tuple #[v0_, .bool r2]) ∧ Kd.R (Kd.int .u8) 5 w' w.heap.size (fun _ => True) v0_ r1 ∧ Below w.heap.size w w' := by
 have HR0:=am hr0;have HC0:=am hc0;clear hr0 hc0;have HB:=am (ai w.heap.size w);have H:((ix.f l0 a1 a2).bind fun t390=>(if t390=true then(fo.l0 k l0 a1 a2 ([]:List Int) a1)else(some (([]:List Int),false))))=some (r1,r2):=h;clear h;replace H:=Option.bind_eq_some_iff.mp H;obtain⟨t390,A40,H⟩:=H
 try dsimp only at H
 have A4:=am A40;clear A40;by_cases c5:t390=true
 ·subst c5;have H1 : (fo.l0 k l0 a1 a2 ([] : List Int) a1) = some (r1, r2) := by rw [if_pos rfl] at H; exact H
  clear H;have H:=H1;clear H1;have H':=am H;clear H;go_enter Tryz.func147,Tryz.ntmps147;go_wp2_with (first|((with_reducible refine ay (f:=172) rfl ?_);refine zl (some 13) Tryz.func172 #[.slice A0 l0.length c0, .int .i64 a1, .int .i64 a2] ?_;(with_reducible refine(ix.calls _ _ l0 a1 a2 true _ ?side1 ?side2 A4.out).mono ?_);(case side1=>exact zc HR0.out);(case side2=>exact HC0.out);rintro e w' ⟨rfl,⟨nd,rfl⟩⟩;refine⟨_,rfl,?_⟩))
  go_loopg [8,9] k (fun kq v8 v9 w'=>∃ (x8_1:List Int) (x9_1:Int),v9=.int .i64 x9_1/\Aside0 (fo.l0 kq l0 a1 a2 x8_1 x9_1=some (r1,r2))/\Aside0 (kq<=k)/\Aside0 (Kd.R (Kd.int .u8) 5 w' w.heap.size (fun _=>True) v8 x8_1)/\Aside0 (Below w.heap.size w w'))
  case atStart=>exact⟨(([]:List Int)),(a1),zs,H',⟨an _⟩,⟨by first|exact Kd.R_nil _ _ _ _ _|exact Kd.N_nil _ _ _ _ _|exact Kd.V_nil _ _ _ _ _|exact Kd.Q_nil _ _ _ _ _|exact Kd.S_nil _ _ _ _ _⟩,⟨zB HB⟩⟩
  case round =>
   clear H'
   try clear c5
   obtain⟨x8_1,x9_1,rfl,HA,HK1,HO_8,HB⟩:=hrel;cases gk with
   |zero=>exact absurd HA.out (by simp[fo.l0])
   |succ k1=>
    have H:=HA.out;clear HA;simp only[fo.l0]at H;by_cases c6:x9_1<(wrap64 (a1+a2))
    ·rw [if_pos c6] at H;have c6b0 := af c6;clear c6;obtain ⟨ji7, hji7⟩ : ∃ j_ : Int, (wrap64 (Int.tdiv x9_1 8)) = j_ := ⟨_, rfl⟩;replace H : (if 0 ≤ (ji7) then (if (ji7) < (l0.length : Int) then (if 0 ≤ (wrap64 ((Int.tmod x9_1 8) * 8)) then (if x8_1.length < 140737488355328 then (fo.l0 k1 l0 a1 a2 (x8_1 ++ [(shr .u64 (rd l0 (ji7)) (wrap64 ((Int.tmod x9_1 8) * 8))) % 256]) (wrap64 (x9_1 + 1))) else (none)) else (none)) else (none)) else (none)) = some (r1, r2) := by first | (rw [hji7] at H; exact H) | (simp only [hji7] at H ⊢; exact H)
     have hji7w:(IntKind.i64.wrap (Int.tdiv x9_1 8))=ji7:=(bu _).trans hji7;by_cases c8:0<=(ji7)
     ·rw [if_pos c8] at H;have c8b0 := af c8;clear c8;by_cases c9 : (ji7) < (l0.length : Int)
      ·rw[if_pos c9]at H;have c9b0:=af c9;clear c9;obtain⟨ji10,hji10⟩:∃ j_:Int,(wrap64 ((Int.tmod x9_1 8)*8))=j_:=⟨_,rfl⟩;replace H:(if 0<=(ji10)then(if x8_1.length<140737488355328 then(fo.l0 k1 l0 a1 a2 (x8_1++[(shr .u64 (rd l0 (ji7)) (ji10)) % 256]) (wrap64 (x9_1+1)))else(none))else(none))=some (r1,r2):=by first|(rw[hji10]at H;exact H)|(simp only[hji10]at H ⊢;exact H)
       have hji10w:(IntKind.i64.wrap ((Int.tmod x9_1 8)*8))=ji10:=(bu _).trans hji10;by_cases c11:0<=(ji10)
       ·rw[if_pos c11]at H;have c11b0:=eq_true c11;have c11b1:=af c11;clear c11;obtain⟨ji12,hji12⟩:∃ j_:Int,(shr .u64 (rd l0 (ji7)) (ji10))=j_:=⟨_,rfl⟩;replace H:(if x8_1.length<140737488355328 then(fo.l0 k1 l0 a1 a2 (x8_1++[(ji12) % 256]) (wrap64 (x9_1+1)))else(none))=some (r1,r2):=by first|(rw[hji12]at H;exact H)|(simp only[hji12]at H ⊢;exact H)
        have hji12_:((rd l0 (ji7)) / 2 ^ min (ji10).toNat 64)=ji12:=hji12;have hji12z:(ji10)<=64->((rd l0 (ji7)) / 2 ^ (ji10).toNat)=ji12:=ql9 hji12;by_cases c13:x8_1.length<140737488355328
        ·rw[if_pos c13]at H;have LMc13:=am c13;clear c13;obtain⟨y392,hy392⟩:∃ y_:List Int,y_=(x8_1++[(ji12) % 256]):=⟨_,rfl⟩;replace H:(fo.l0 k1 l0 a1 a2 y392 (wrap64 (x9_1+1)))=some (r1,r2):=by first|(rw[hy392];with_reducible exact H)|(have H2_:=(Option.bind_some _ _).symm.trans H;rw[hy392];with_reducible exact H2_)|(have H2_:=(Option.bind_some _ _).symm.trans H;with_reducible exact H2_)|with_reducible exact H|(rw[hy392];exact H)|exact H
         have Ny392:=am hy392;clear hy392;have H':=am H;clear H;have p391:0<=((ji7):Int):=zu;have q391:(ji7)<(l0.length:Int):=zu;obtain⟨ad391,e391,hx391_0⟩:=Kd.at_int HR0.out (ji7) p391 q391;cases e391;replace hx391_0:=zw HB hx391_0;replace p391:=eq_true p391;replace q391:=eq_true q391;go_wp2_with (first|((with_reducible refine di (b:=.append) (xs:=#[.tmp 23, .tmp 34]) rfl ?_);at_builtin;refine Kd.R_append (Kd.int .u8) (w0:=w) w.heap.size rfl (.tmp 23) (.tmp 34) 34 5 (.int .u8 0) 1 rfl Tryz.underlying34 qr8 rfl (by decide) (by omega) u8 x8_1 ((ji12) % 256) [.int .u8 ((ji12) % 256)] (fun _=>True) (fun _=>False) rfl rfl ?aP (fun _ hk=>hk.elim) ?aF ?aO ?aB ?aS ?aL ?_;(case aP=>exact rfl);(case aB=>exact(zB HB));(case aF=>exact(fun _ _=>trivial));(case aO=>exact(zr HO_8));(case aS=>exact(bk (zB HB)));(case aL=>have:=LMc13.out;omega);intro v393 w14 ho hb hg hat;rw[<-Ny392.out]at ho;have n0_:=am (hb);have n1_:=am (ho);clear HB;clear HO_8;have HB:=n0_;have HO394:=n1_;clear n0_ n1_;clear ho hb hg hat))
         go_roundg k1
         case measure=>have:=HK1.out;omega
         case rel=>exact⟨(y392),(wrap64 (x9_1+1)),zs,(by first|exact H'|((try rw[hji7]);(try rw[hji10]);(try rw[hji12]);exact H')),⟨by have:=HK1.out;omega⟩,⟨zr HO394⟩,⟨zB HB⟩⟩
        ·rw[if_neg c13]at H;exact absurd H (by simp)
       ·rw[if_neg c11]at H;exact absurd H (by simp)
      ·rw[if_neg c9]at H;exact absurd H (by simp)
     ·rw[if_neg c8]at H;exact absurd H (by simp)
    ·rw[if_neg c6]at H;have c6b0:=ah c6;clear c6;simp only[Option.some.injEq,Prod.mk.injEq]at H;obtain⟨rfl,rfl⟩:=H;go_wp2;go_ret2;exact⟨_,ze,by(with_reducible repeat (first|apply qa|apply qb|apply qc));exact HO_8.out,zB HB⟩
 ·replace c5:=Bool.eq_false_iff.mpr c5;subst c5;have H1:(some (([]:List Int),false))=some (r1,r2):=by rw[if_neg (show ¬ (false=true)by decide)]at H;exact H
  clear H;have H:=H1;clear H1;simp only[Option.some.injEq,Prod.mk.injEq]at H;obtain⟨rfl,rfl⟩:=H;go_enter Tryz.func147,Tryz.ntmps147;go_wp2_with (first|((with_reducible refine ay (f:=172) rfl ?_);refine zl (some 13) Tryz.func172 #[.slice A0 l0.length c0, .int .i64 a1, .int .i64 a2] ?_;(with_reducible refine(ix.calls _ _ l0 a1 a2 false _ ?side1 ?side2 A4.out).mono ?_);(case side1=>exact zc HR0.out);(case side2=>exact HC0.out);rintro e w' ⟨rfl,⟨nd,rfl⟩⟩;refine⟨_,rfl,?_⟩))
  go_ret2;exact⟨_,ze,by first|exact Kd.R_nil _ _ _ _ _|exact Kd.N_nil _ _ _ _ _|exact Kd.V_nil _ _ _ _ _|exact Kd.Q_nil _ _ _ _ _|exact Kd.S_nil _ _ _ _ _,zB HB⟩
def jy.f(k:Nat)(l0:List Int)(a1:Int)(a2:Int):Option (List Int×Int):=(iv.f k l0 a1 a2).bind fun t395=>(if t395=0 then((fo.f k l0 a1 a2).bind fun bt396=>(some (bt396.1,0)))else(some (([]:List Int),t395)))
theorem jy.calls(k:Nat)(A0:Option Addr)(c0:Nat)(l0:List Int)(a1:Int)(a2:Int)(r1:List Int)(r2:Int)(w:World)(hr0:Kd.C (Kd.int .u64) w A0 l0.length l0)(hc0:l0.length<=c0)(h:jy.f k l0 a1 a2=some (r1,r2)):Calls Tryz.prog 105 #[.slice A0 l0.length c0, .int .i64 a1, .int .i64 a2] w fun e w'=>∃ v0_:Value,e=.returned (.tuple #[v0_, .int .i64 r2])/\Kd.R (Kd.int .u8) 5 w' w.heap.size (fun _=>True) v0_ r1/\Below w.heap.size w w':=by
 have HR0:=am hr0;have HC0:=am hc0;clear hr0 hc0;have HB:=am (ai w.heap.size w);have H:((iv.f k l0 a1 a2).bind fun t395=>(if t395=0 then((fo.f k l0 a1 a2).bind fun bt396=>(some (bt396.1,0)))else(some (([]:List Int),t395))))=some (r1,r2):=h;clear h;replace H:=Option.bind_eq_some_iff.mp H;obtain⟨t395,A40,H⟩:=H
 try dsimp only at H
 have A4:=am A40;clear A40;by_cases c5:t395=0
 ·rw[if_pos c5]at H;have c5b0:(t395==0)=true:=beq_iff_eq.mpr c5;have c5b1:(t395 != 0)=false:=bne_eq_false_iff_eq.mpr c5;clear c5;replace H:=Option.bind_eq_some_iff.mp H;obtain⟨⟨t396,t397⟩,A60,H⟩:=H
  try dsimp only at H
  have A6:=am A60;clear A60;simp only[Option.some.injEq,Prod.mk.injEq]at H;obtain⟨rfl,rfl⟩:=H;go_enter Tryz.func105,Tryz.ntmps105;go_wp2_with (first|((with_reducible refine ay (f:=146) rfl ?_);refine zl (some 14) Tryz.func146 #[.slice A0 l0.length c0, .int .i64 a1, .int .i64 a2] ?_;(with_reducible refine(iv.calls k _ _ l0 a1 a2 t395 _ ?side1 ?side2 A4.out).mono ?_);(case side1=>exact zc HR0.out);(case side2=>exact HC0.out);rintro e w7 ⟨rfl,hb⟩;refine⟨_,rfl,?_⟩;have n0_:=zb HB hb;replace HB:=n0_;clear n0_;(try clear hb))|((with_reducible refine ay (f:=147) rfl ?_);refine zl (some 22) Tryz.func147 #[.slice A0 l0.length c0, .int .i64 a1, .int .i64 a2] ?_;(with_reducible refine(fo.calls k _ _ l0 a1 a2 t396 t397 _ ?side1 ?side2 A6.out).mono ?_);(case side1=>exact zc (Kd.C_below HR0.out HB.out));(case side2=>exact HC0.out);rintro e w8 ⟨v398,rfl,ho0,hb⟩;refine⟨_,rfl,?_⟩;have n0_:=am (Kd.R_lower ho0 (bk (zB HB)));have n1_:=zb HB hb;clear HB;have HO399:=n0_;have HB:=n1_;clear n0_ n1_;(try clear hb);(try clear ho0)))
  go_ret2;exact⟨_,ze,by(with_reducible repeat (first|apply qa|apply qb|apply qc));exact HO399.out,zB HB⟩
 ·rw[if_neg c5]at H;have c5b0:(t395==0)=false:=beq_eq_false_iff_ne.mpr c5;have c5b1:(t395 != 0)=true:=bne_iff_ne.mpr c5;simp only[Option.some.injEq,Prod.mk.injEq]at H;obtain⟨rfl,rfl⟩:=H;go_enter Tryz.func105,Tryz.ntmps105;go_wp2_with (first|((with_reducible refine ay (f:=146) rfl ?_);refine zl (some 14) Tryz.func146 #[.slice A0 l0.length c0, .int .i64 a1, .int .i64 a2] ?_;(with_reducible refine(iv.calls k _ _ l0 a1 a2 t395 _ ?side1 ?side2 A4.out).mono ?_);(case side1=>exact zc HR0.out);(case side2=>exact HC0.out);rintro e w9 ⟨rfl,hb⟩;refine⟨_,rfl,?_⟩;have n0_:=zb HB hb;replace HB:=n0_;clear n0_;(try clear hb)))
  go_ret2;exact⟨_,ze,by first|exact Kd.R_nil _ _ _ _ _|exact Kd.N_nil _ _ _ _ _|exact Kd.V_nil _ _ _ _ _|exact Kd.Q_nil _ _ _ _ _|exact Kd.S_nil _ _ _ _ _,zB HB⟩
end Go.Proofs.YtmfhaliclnnbaaaGreat.XTopWhole
