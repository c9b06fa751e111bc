import Derived.Test.YtmfhaliclnnbaaaGreatZTopWholeM1
namespace Go.Proofs.YtmfhaliclnnbaaaGreat.XTopWhole
open Go.RowKit Go.Proofs.YtmfhaliclnnbaaaGreatW.PrintWords Go.Proofs.YtmfhaliclnnbaaaGreatW.PrintLast Go.Proofs.YtmfhaliclnnbaaaGreatW.PrintMore
attribute [local go_sem] uf uh xn xp ry r9 ug ui
set_option linter.unusedVariables false
set_option linter.unusedSimpArgs false
set_option maxRecDepth 100000
set_option maxHeartbeats 8000000
def jk.f(a0:Int)(a1:Int)(a2:Int)(a3:Int):Option (Int×Int×Int×Int):=some (wrap64 (1+(wrap64 (Int.tmod (IntKind.u64.wrap (a0)) 24))),wrap64 (Int.tmod (IntKind.u64.wrap (a1)) 17),wrap64 (1+(wrap64 (Int.tmod (IntKind.u64.wrap (a2)) 30))),wrap64 (1+(wrap64 (Int.tmod (IntKind.u64.wrap (a3)) 10))))
theorem jk.calls(a0:Int)(a1:Int)(a2:Int)(a3:Int)(r1:Int)(r2:Int)(r3:Int)(r4:Int)(w:World)(h:jk.f a0 a1 a2 a3=some (r1,r2,r3,r4)):Calls Tryz.prog 31 #[.int .i64 a0, .int .i64 a1, .int .i64 a2, .int .i64 a3] w fun e w'=>e=.returned (.agg #[.int .i64 r1, .int .i64 r2, .int .i64 r3, .int .i64 r4])/\Below w.heap.size w w':=by
 have hu23:=Tryz.underlying23;have HB:=am (ai w.heap.size w);have H:(some (wrap64 (1+(wrap64 (Int.tmod (IntKind.u64.wrap (a0)) 24))),wrap64 (Int.tmod (IntKind.u64.wrap (a1)) 17),wrap64 (1+(wrap64 (Int.tmod (IntKind.u64.wrap (a2)) 30))),wrap64 (1+(wrap64 (Int.tmod (IntKind.u64.wrap (a3)) 10)))))=some (r1,r2,r3,r4):=h;clear h;simp only[Option.some.injEq,Prod.mk.injEq]at H;obtain⟨rfl,rfl,rfl,rfl⟩:=H;go_enter Tryz.func31,Tryz.ntmps31;go_wp2_with (first|((with_reducible refine b9 (N:=8) rfl ?_);refine db ?hg (N:=8) ?hd (cs:=#[.int .i64 0, .int .i64 0, .int .i64 0, .int .i64 0]) (t:=23) ?hr ?_;(case hd=>rfl);(case hg=>rfl);(case hr=>first|(go_simp;done)|(go_simp;rfl));intro gb101 hg w5 hbox hb;have GW101:=zg HB hg;have GE101:=GW101;replace HB:=zb HB hb;have BK101:=am hbox;clear hb hbox hg;have hcz6_0:=zk BK101 0 (.int .i64 0);have hcz6_1:=zk BK101 1 (.int .i64 0);have hcz6_2:=zk BK101 2 (.int .i64 0);have hcz6_3:=zk BK101 3 (.int .i64 0);have hfz6_0:=ak BK101.out 0;have hfz6_1:=ak BK101.out 1;have hfz6_2:=ak BK101.out 2;have hfz6_3:=ak BK101.out 3))
 refine bodyPost_ret (results_cell_row rfl _ _ gb101 23 #[.int .i64 (wrap64 (1+(wrap64 (Int.tmod (IntKind.u64.wrap (a0)) 24)))), .int .i64 (wrap64 (Int.tmod (IntKind.u64.wrap (a1)) 17)), .int .i64 (wrap64 (1+(wrap64 (Int.tmod (IntKind.u64.wrap (a2)) 30)))), .int .i64 (wrap64 (1+(wrap64 (Int.tmod (IntKind.u64.wrap (a3)) 10))))] (0,0) _ rfl (by(with_reducible repeat (first|refine cy ?_ _|refine dp ?_ |refine d8 ?_ _));refine kw (cs:=#[.int .i64 (wrap64 (1+(wrap64 (Int.tmod (IntKind.u64.wrap (a0)) 24)))), .int .i64 (wrap64 (Int.tmod (IntKind.u64.wrap (a1)) 17)), .int .i64 (wrap64 (1+(wrap64 (Int.tmod (IntKind.u64.wrap (a2)) 30)))), .int .i64 0]) ?_ 3 _ rfl;(with_reducible repeat (first|refine cy ?_ _|refine dp ?_ |refine d8 ?_ _));refine kw (cs:=#[.int .i64 (wrap64 (1+(wrap64 (Int.tmod (IntKind.u64.wrap (a0)) 24)))), .int .i64 (wrap64 (Int.tmod (IntKind.u64.wrap (a1)) 17)), .int .i64 0, .int .i64 0]) ?_ 2 _ rfl;(with_reducible repeat (first|refine cy ?_ _|refine dp ?_ |refine d8 ?_ _));refine kw (cs:=#[.int .i64 (wrap64 (1+(wrap64 (Int.tmod (IntKind.u64.wrap (a0)) 24)))), .int .i64 0, .int .i64 0, .int .i64 0]) ?_ 1 _ rfl;(with_reducible repeat (first|refine cy ?_ _|refine dp ?_ |refine d8 ?_ _));refine kw (cs:=#[.int .i64 0, .int .i64 0, .int .i64 0, .int .i64 0]) ?_ 0 _ rfl;(with_reducible repeat (first|refine cy ?_ _|refine dp ?_ |refine d8 ?_ _));exact BK101.out) Tryz.underlying23 rfl (by kernel_rfl)) rfl ?_;exact⟨ze,by repeat (first|(with_reducible first|exact HB.out|apply qd|apply qe|apply qf|refine bj ?_ GE101.out)|exact HB.out)⟩
def lc.f(a0_0:Int)(a0_1:Int)(a0_2:Int)(a0_3:Int):Option (Int×Int×Int×Int):=(jk.f a0_0 a0_1 a0_2 a0_3).bind fun bt104=>(some (bt104.1,bt104.2.1,bt104.2.2.1,bt104.2.2.2))
theorem lc.calls(a0_0:Int)(a0_1:Int)(a0_2:Int)(a0_3:Int)(r1:Int)(r2:Int)(r3:Int)(r4:Int)(w:World)(h:lc.f a0_0 a0_1 a0_2 a0_3=some (r1,r2,r3,r4)):Calls Tryz.prog 7 #[.agg #[.int .i64 a0_0, .int .i64 a0_1, .int .i64 a0_2, .int .i64 a0_3]] w fun e w'=>e=.returned (.agg #[.int .i64 r1, .int .i64 r2, .int .i64 r3, .int .i64 r4])/\Below w.heap.size w w':=by
 have hu23:=Tryz.underlying23;have HB:=am (ai w.heap.size w);have H:((jk.f a0_0 a0_1 a0_2 a0_3).bind fun bt104=>(some (bt104.1,bt104.2.1,bt104.2.2.1,bt104.2.2.2)))=some (r1,r2,r3,r4):=h;clear h;replace H:=Option.bind_eq_some_iff.mp H;obtain⟨⟨t104,t105,t106,t107⟩,A20,H⟩:=H
 try dsimp only at H
 have A2:=am A20;clear A20;simp only[Option.some.injEq,Prod.mk.injEq]at H;obtain⟨rfl,rfl,rfl,rfl⟩:=H;go_enter Tryz.func7,Tryz.ntmps7;go_wp2_with (first|((with_reducible refine b9 (N:=1) rfl ?_);refine db ?hg (N:=1) ?hd (cs:=#[.int .i64 a0_0, .int .i64 a0_1, .int .i64 a0_2, .int .i64 a0_3]) (t:=23) ?hr ?_;(case hd=>rfl);(case hg=>rfl);(case hr=>first|(go_simp;done)|(go_simp;rfl));intro gb102 hg w3 hbox hb;have GW102:=zg HB hg;have GE102:=GW102;replace HB:=zb HB hb;have BK102:=am hbox;clear hb hbox hg)|((with_reducible refine b9 (N:=2) rfl ?_);refine db ?hg (N:=2) ?hd (cs:=#[.int .i64 0, .int .i64 0, .int .i64 0, .int .i64 0]) (t:=23) ?hr ?_;(case hd=>rfl);(case hg=>rfl);(case hr=>first|(go_simp;done)|(go_simp;rfl));intro gb103 hg w4 hbox hb;have n0_:=zq BK102 hb;have n1_:=am (qw (by repeat (first|(with_reducible first|exact HB.out|apply qd|apply qe|apply qf|refine bj ?_ GE102.out)|exact HB.out)) hb);have n2_:=am (hbox);have n3_:=am ((by rw[hg];exact(bk (by repeat (first|(with_reducible first|exact HB.out|apply qd|apply qe|apply qf|refine bj ?_ GE102.out)|exact HB.out))):w.heap.size<=gb103));have n4_:=am ((by rw[hg];exact(bk (by repeat (first|(with_reducible first|exact HB.out|apply qd|apply qe|apply qf|refine bj ?_ GE102.out)|exact HB.out))):w.heap.size<=gb103));have n5_:=am ((by rw[hg];exact Nat.ne_of_lt (d7 (g:=gb102) (o:=.cells #[.int .i64 a0_0, .int .i64 a0_1, .int .i64 a0_2, .int .i64 a0_3] 23 (0,0)) (by(with_reducible repeat (first|refine cy ?_ _|refine dp ?_ |refine d8 ?_ _));exact BK102.out)):gb102≠gb103));have n6_:=am ((by rw[hg];exact Nat.ne_of_gt (d7 (g:=gb102) (o:=.cells #[.int .i64 a0_0, .int .i64 a0_1, .int .i64 a0_2, .int .i64 a0_3] 23 (0,0)) (by(with_reducible repeat (first|refine cy ?_ _|refine dp ?_ |refine d8 ?_ _));exact BK102.out)):gb103≠gb102));clear BK102;clear HB;have BK102:=n0_;have HB:=n1_;have BK103:=n2_;have GW103:=n3_;have GE103:=n4_;have NB102_103:=n5_;have NB103_102:=n6_;clear n0_ n1_ n2_ n3_ n4_ n5_ n6_;clear hb hbox hg;have hnb5:=NB102_103.out;have hnc5:=NB103_102.out;have hcz6_0:=zk BK102 0 (.int .i64 a0_0);have hcz6_1:=zk BK102 1 (.int .i64 a0_1);have hcz6_2:=zk BK102 2 (.int .i64 a0_2);have hcz6_3:=zk BK102 3 (.int .i64 a0_3);have hfz6_0:=ak BK102.out 0;have hfz6_1:=ak BK102.out 1;have hfz6_2:=ak BK102.out 2;have hfz6_3:=ak BK102.out 3)|((with_reducible refine ay (f:=31) rfl ?_);refine zl (some 11) Tryz.func31 #[.int .i64 a0_0, .int .i64 a0_1, .int .i64 a0_2, .int .i64 a0_3] ?_;(with_reducible refine(jk.calls a0_0 a0_1 a0_2 a0_3 t104 t105 t106 t107 _ A2.out).mono ?_);rintro e w7 ⟨rfl,hb⟩;refine⟨_,rfl,?_⟩;have n0_:=zq BK102 hb;have n1_:=zq BK103 hb;have n2_:=am (qw (by repeat (first|(with_reducible first|exact HB.out|apply qd|apply qe|apply qf|refine bj ?_ GE102.out|refine bj ?_ GE103.out)|exact HB.out)) hb);replace BK102:=n0_;replace BK103:=n1_;replace HB:=n2_;clear n0_ n1_ n2_;(try clear hb);have hcz8_0:=zk BK103 0 (.int .i64 0);have hcz8_1:=zk BK103 1 (.int .i64 0);have hcz8_2:=zk BK103 2 (.int .i64 0);have hcz8_3:=zk BK103 3 (.int .i64 0);have hfz8_0:=ak BK103.out 0;have hfz8_1:=ak BK103.out 1;have hfz8_2:=ak BK103.out 2;have hfz8_3:=ak BK103.out 3))
 refine bodyPost_ret (results_cell_row rfl _ _ gb103 23 #[.int .i64 t104, .int .i64 t105, .int .i64 t106, .int .i64 t107] (0,0) _ rfl (by(with_reducible repeat (first|refine cy ?_ _|refine dp ?_ |refine d8 ?_ _));refine kw (cs:=#[.int .i64 t104, .int .i64 t105, .int .i64 t106, .int .i64 0]) ?_ 3 _ rfl;(with_reducible repeat (first|refine cy ?_ _|refine dp ?_ |refine d8 ?_ _));refine kw (cs:=#[.int .i64 t104, .int .i64 t105, .int .i64 0, .int .i64 0]) ?_ 2 _ rfl;(with_reducible repeat (first|refine cy ?_ _|refine dp ?_ |refine d8 ?_ _));refine kw (cs:=#[.int .i64 t104, .int .i64 0, .int .i64 0, .int .i64 0]) ?_ 1 _ rfl;(with_reducible repeat (first|refine cy ?_ _|refine dp ?_ |refine d8 ?_ _));refine kw (cs:=#[.int .i64 0, .int .i64 0, .int .i64 0, .int .i64 0]) ?_ 0 _ rfl;(with_reducible repeat (first|refine cy ?_ _|refine dp ?_ |refine d8 ?_ _));exact BK103.out) Tryz.underlying23 rfl (by kernel_rfl)) rfl ?_;exact⟨ze,by repeat (first|(with_reducible first|exact HB.out|apply qd|apply qe|apply qf|refine bj ?_ GE102.out|refine bj ?_ GE103.out)|exact HB.out)⟩
def gi.f(a0_0:Int)(a0_1:Int)(a0_2:Int)(a0_3:Int):Option (Bool):=if a0_0>=1 then(if a0_0<=64 then(if a0_1>=0 then(if a0_1<=16 then(if a0_2>=1 then(if a0_2<=1000 then(if a0_3>=1 then(some (decide (a0_3<=100)))else(some false))else(some false))else(some false))else(some false))else(some false))else(some false))else(some false)
theorem gi.calls(a0_0:Int)(a0_1:Int)(a0_2:Int)(a0_3:Int)(r:Bool)(w:World)(h:gi.f a0_0 a0_1 a0_2 a0_3=some r):Calls Tryz.prog 32 #[.agg #[.int .i64 a0_0, .int .i64 a0_1, .int .i64 a0_2, .int .i64 a0_3]] w fun e w'=>e=.returned (.bool r)/\Below w.heap.size w w':=by
 unfold gi.f at h;obtain⟨k0,k1,k2,k3⟩:=k4 (pj w (.cells #[.int .i64 a0_0, .int .i64 a0_1, .int .i64 a0_2, .int .i64 a0_3] 23));have hb:=ca (ai w.heap.size w) (.cells #[.int .i64 a0_0, .int .i64 a0_1, .int .i64 a0_2, .int .i64 a0_3] 23);by_cases c:a0_0>=1;rotate_left
 · rw[if_neg c]at h;cases h;have:decide (1<=a0_0)=false:=ah c;clear c;go_enter Tryz.func32,Tryz.ntmps32;go_wp2;go_ret;exact⟨rfl,hb⟩
 rw[if_pos c]at h;have:decide (1<=a0_0)=true:=af c;clear c;by_cases c:a0_0<=64;rotate_left
 · rw[if_neg c]at h;cases h;have:decide (a0_0<=64)=false:=ah c;clear c;go_enter Tryz.func32,Tryz.ntmps32;go_wp2;go_ret;exact⟨rfl,hb⟩
 rw[if_pos c]at h;have:decide (a0_0<=64)=true:=af c;clear c;by_cases c:a0_1>=0;rotate_left
 · rw[if_neg c]at h;cases h;have:decide (0<=a0_1)=false:=ah c;clear c;go_enter Tryz.func32,Tryz.ntmps32;go_wp2;go_ret;exact⟨rfl,hb⟩
 rw[if_pos c]at h;have:decide (0<=a0_1)=true:=af c;clear c;by_cases c:a0_1<=16;rotate_left
 · rw[if_neg c]at h;cases h;have:decide (a0_1<=16)=false:=ah c;clear c;go_enter Tryz.func32,Tryz.ntmps32;go_wp2;go_ret;exact⟨rfl,hb⟩
 rw[if_pos c]at h;have:decide (a0_1<=16)=true:=af c;clear c;by_cases c:a0_2>=1;rotate_left
 · rw[if_neg c]at h;cases h;have:decide (1<=a0_2)=false:=ah c;clear c;go_enter Tryz.func32,Tryz.ntmps32;go_wp2;go_ret;exact⟨rfl,hb⟩
 rw[if_pos c]at h;have:decide (1<=a0_2)=true:=af c;clear c;by_cases c:a0_2<=1000;rotate_left
 · rw[if_neg c]at h;cases h;have:decide (a0_2<=1000)=false:=ah c;clear c;go_enter Tryz.func32,Tryz.ntmps32;go_wp2;go_ret;exact⟨rfl,hb⟩
 rw[if_pos c]at h;have:decide (a0_2<=1000)=true:=af c;clear c;by_cases c:a0_3>=1;rotate_left
 · rw[if_neg c]at h;cases h;have:decide (1<=a0_3)=false:=ah c;clear c;go_enter Tryz.func32,Tryz.ntmps32;go_wp2;go_ret;exact⟨rfl,hb⟩
 rw[if_pos c]at h;have:decide (1<=a0_3)=true:=af c;clear c;cases h;go_enter Tryz.func32,Tryz.ntmps32;go_wp2;go_ret;exact⟨rfl,hb⟩
def jc.f(a0_0:Int)(a0_1:Int)(a0_2:Int)(a0_3:Int):Option (Int):=(gi.f a0_0 a0_1 a0_2 a0_3).bind fun t110=>(if t110=true then(some (wrap64 (16+a0_0)))else(some 0))
theorem jc.calls(a0_0:Int)(a0_1:Int)(a0_2:Int)(a0_3:Int)(r:Int)(w:World)(h:jc.f a0_0 a0_1 a0_2 a0_3=some r):Calls Tryz.prog 33 #[.agg #[.int .i64 a0_0, .int .i64 a0_1, .int .i64 a0_2, .int .i64 a0_3]] w fun e w'=>e=.returned (.int .i64 r)/\Below w.heap.size w w':=by
 obtain⟨k0,k1,k2,k3⟩:=k4 (pj w (.cells #[.int .i64 a0_0, .int .i64 a0_1, .int .i64 a0_2, .int .i64 a0_3] 23));have BX:=am (pj w (.cells #[.int .i64 a0_0, .int .i64 a0_1, .int .i64 a0_2, .int .i64 a0_3] 23));have HB:=am (ca (ai w.heap.size w) (.cells #[.int .i64 a0_0, .int .i64 a0_1, .int .i64 a0_2, .int .i64 a0_3] 23));unfold jc.f at h;obtain⟨t,ht,h⟩:=Option.bind_eq_some_iff.mp h;have HM:=am ht;clear ht;cases t
 all_goals (simp only[if_true,Bool.false_eq_true,if_false]at h;cases h;go_enter Tryz.func33,Tryz.ntmps33;go_wp2_with (first
 |(go_at_call 32;(with_reducible refine(gi.calls a0_0 a0_1 a0_2 a0_3 _ _ HM.out).mono ?_);rintro e w1 ⟨rfl,hb⟩;obtain⟨j0,j1,j2,j3⟩:=k4 (ap BX.out hb);have BX1:=am (ap BX.out hb);have HB1:=am (aa HB.out hb);clear hb k0 k1 k2 k3 BX));go_ret;exact⟨rfl,HB1.out⟩)
def oh.f(a0_0:Int)(a0_1:Int)(a0_2:Int)(a0_3:Int):Option (Int):=(gi.f a0_0 a0_1 a0_2 a0_3).bind fun t112=>(if t112=true then((jc.f a0_0 a0_1 a0_2 a0_3).bind fun t113=>(some (wrap64 ((wrap64 (t113+1))+a0_1))))else(some 0))
theorem oh.calls(a0_0:Int)(a0_1:Int)(a0_2:Int)(a0_3:Int)(r:Int)(w:World)(h:oh.f a0_0 a0_1 a0_2 a0_3=some r):Calls Tryz.prog 9 #[.agg #[.int .i64 a0_0, .int .i64 a0_1, .int .i64 a0_2, .int .i64 a0_3]] w fun e w'=>e=.returned (.int .i64 r)/\Below w.heap.size w w':=by
 have hu23:=Tryz.underlying23;have HB:=am (ai w.heap.size w);have H:((gi.f a0_0 a0_1 a0_2 a0_3).bind fun t112=>(if t112=true then((jc.f a0_0 a0_1 a0_2 a0_3).bind fun t113=>(some (wrap64 ((wrap64 (t113+1))+a0_1))))else(some 0)))=some r:=h;clear h;replace H:=Option.bind_eq_some_iff.mp H;obtain⟨t112,A20,H⟩:=H
 try dsimp only at H
 have A2:=am A20;clear A20;by_cases c3:t112=true
 ·subst c3;have H1:((jc.f a0_0 a0_1 a0_2 a0_3).bind fun t113=>(some (wrap64 ((wrap64 (t113+1))+a0_1))))=some r:=by rw[if_pos rfl]at H;exact H
  clear H;have H:=H1;clear H1;replace H:=Option.bind_eq_some_iff.mp H;obtain⟨t113,A40,H⟩:=H
  try dsimp only at H
  have A4:=am A40;clear A40;obtain rfl:=az H;go_enter Tryz.func9,Tryz.ntmps9
  try go_wp2_with (first|((with_reducible refine b9 (N:=1) rfl ?_);refine db ?hg (N:=1) ?hd (cs:=#[.int .i64 a0_0, .int .i64 a0_1, .int .i64 a0_2, .int .i64 a0_3]) (t:=23) ?hr ?_;(case hd=>rfl);(case hg=>rfl);(case hr=>first|(go_simp;done)|(go_simp;rfl));intro gb111 hg w5 hbox hb;have GW111:=zg HB hg;have GE111:=GW111;replace HB:=zb HB hb;have BK111:=am hbox;clear hb hbox hg;have hcz6_0:=zk BK111 0 (.int .i64 a0_0);have hcz6_1:=zk BK111 1 (.int .i64 a0_1);have hcz6_2:=zk BK111 2 (.int .i64 a0_2);have hcz6_3:=zk BK111 3 (.int .i64 a0_3);have hfz6_0:=ak BK111.out 0;have hfz6_1:=ak BK111.out 1;have hfz6_2:=ak BK111.out 2;have hfz6_3:=ak BK111.out 3)|((with_reducible refine ay (f:=32) rfl ?_);refine zl (some 4) Tryz.func32 #[.agg #[.int .i64 a0_0, .int .i64 a0_1, .int .i64 a0_2, .int .i64 a0_3]] ?_;(with_reducible refine(gi.calls a0_0 a0_1 a0_2 a0_3 true _ A2.out).mono ?_);rintro e w7 ⟨rfl,hb⟩;refine⟨_,rfl,?_⟩;have n0_:=zq BK111 hb;have n1_:=am (qw (by repeat (first|(with_reducible first|exact HB.out|apply qd|apply qe|apply qf|refine bj ?_ GE111.out)|exact HB.out)) hb);replace BK111:=n0_;replace HB:=n1_;clear n0_ n1_;(try clear hb)))
  have n0_:=am (dp BK111.out);have n1_:=am (qf HB.out);clear BK111;clear HB;have BK111:=n0_;have HB:=n1_;clear n0_ n1_;refine dj (n:=7) (S:=fun w'=>w'.cell? ⟨gb111,0,none⟩=some (.int .i64 a0_0)/\w'.cell? ⟨gb111,1,none⟩=some (.int .i64 a0_1)/\w'.cell? ⟨gb111,2,none⟩=some (.int .i64 a0_2)/\w'.cell? ⟨gb111,3,none⟩=some (.int .i64 a0_3)) (ds:=[]) (bA 7 0) (by kernel_rfl) rfl rfl ⟨(aj BK111.out 0).trans rfl,(aj BK111.out 1).trans rfl,(aj BK111.out 2).trans rfl,(aj BK111.out 3).trans rfl⟩ (fun hHeld=>?_);generalize w7.drew=w8 at BK111 HB hHeld ⊢;refine pz 3 (some 9) (bA 7 8) (h:=?_);refine pt 0 (some 6) (bA 7 9) rfl hHeld (by rintro w' ⟨s0,s1,s2,s3⟩;go_simp;with_reducible rfl) ?_;refine pt 4 (some 10) (bA 7 25) rfl hHeld (by rintro w' ⟨s0,s1,s2,s3⟩;go_simp;with_reducible rfl) ?_;refine ip (i:=1) (N:=some 7) (bA 7 27) rfl rfl (by kernel_rfl) (by decide) (fun K hK=>?_);refine fv Tryz.func33 (by kernel_rfl) rfl #[.agg #[.int .i64 a0_0, .int .i64 a0_1, .int .i64 a0_2, .int .i64 a0_3]] (by rfl) rfl rfl (by(try simp only[qj,qk,ql]);first|done|rfl|(simp only[qm,qn];rfl)) ?_
  with_reducible refine(jc.calls a0_0 a0_1 a0_2 a0_3 t113 _ A4.out).mono ?_
  rintro e w9 ⟨rfl,hb⟩;refine⟨_,rfl,?_⟩;have n0_:=zq BK111 hb;have n1_:=am (qw (by repeat (first|(with_reducible first|exact HB.out|apply qd|apply qe|apply qf|refine bj ?_ GE111.out)|exact HB.out)) hb);clear BK111;clear HB;have BK111:=n0_;have HB:=n1_;clear n0_ n1_
  (try clear hb)
  (try clear hb2)
  (try clear hk)
  (try clear hi)
  refine hK.out _ _ ⟨(aj BK111.out 0).trans rfl,(aj BK111.out 1).trans rfl,(aj BK111.out 2).trans rfl,(aj BK111.out 3).trans rfl⟩ (fun hHeld=>?_);clear hK K;refine mq (a':=?_) ?_ ?_;rotate_left
  ·show Act.put _ (some 7) _=_;simp only[Act.put,qg,qh,qi,bu,iu];rfl
  refine pz 2 (some 8) (bA 7 31) (h:=?_);refine pz 5 (some 11) (bA 7 63) (h:=?_);refine pz 6 (some 2) (bA 7 127) (h:=?_);refine fa (by kernel_rfl) ?_
  try go_wp2
  go_ret;exact⟨ze,by repeat (first|(with_reducible first|exact HB.out|apply qd|apply qe|apply qf|refine bj ?_ GE111.out)|exact HB.out)⟩
 ·replace c3:=Bool.eq_false_iff.mpr c3;subst c3;have H1:(some 0)=some r:=by rw[if_neg (show ¬ (false=true)by decide)]at H;exact H
  clear H;have H:=H1;clear H1;obtain rfl:=az H;go_enter Tryz.func9,Tryz.ntmps9;go_wp2_with (first|((with_reducible refine b9 (N:=1) rfl ?_);refine db ?hg (N:=1) ?hd (cs:=#[.int .i64 a0_0, .int .i64 a0_1, .int .i64 a0_2, .int .i64 a0_3]) (t:=23) ?hr ?_;(case hd=>rfl);(case hg=>rfl);(case hr=>first|(go_simp;done)|(go_simp;rfl));intro gb111 hg w10 hbox hb;have GW111:=zg HB hg;have GE111:=GW111;replace HB:=zb HB hb;have BK111:=am hbox;clear hb hbox hg;have hcz11_0:=zk BK111 0 (.int .i64 a0_0);have hcz11_1:=zk BK111 1 (.int .i64 a0_1);have hcz11_2:=zk BK111 2 (.int .i64 a0_2);have hcz11_3:=zk BK111 3 (.int .i64 a0_3);have hfz11_0:=ak BK111.out 0;have hfz11_1:=ak BK111.out 1;have hfz11_2:=ak BK111.out 2;have hfz11_3:=ak BK111.out 3)|((with_reducible refine ay (f:=32) rfl ?_);refine zl (some 4) Tryz.func32 #[.agg #[.int .i64 a0_0, .int .i64 a0_1, .int .i64 a0_2, .int .i64 a0_3]] ?_;(with_reducible refine(gi.calls a0_0 a0_1 a0_2 a0_3 false _ A2.out).mono ?_);rintro e w12 ⟨rfl,hb⟩;refine⟨_,rfl,?_⟩;have n0_:=zq BK111 hb;have n1_:=am (qw (by repeat (first|(with_reducible first|exact HB.out|apply qd|apply qe|apply qf|refine bj ?_ GE111.out)|exact HB.out)) hb);replace BK111:=n0_;replace HB:=n1_;clear n0_ n1_;(try clear hb)))
  go_ret;exact⟨ze,by repeat (first|(with_reducible first|exact HB.out|apply qd|apply qe|apply qf|refine bj ?_ GE111.out)|exact HB.out)⟩
def iq.f(a0:Int):Option (Int):=if a0<1 then(some 0)else(some (IntKind.u64.wrap ((IntKind.u64.wrap (a0))+1)))
theorem iq.calls(a0:Int)(r:Int)(w:World)(h:iq.f a0=some r):Calls Tryz.prog 134 #[.int .i64 a0] w fun e w'=>e=.returned (.int .u64 r)/\Drawn0 w w':=by
 have H:(if a0<1 then(some 0)else(some (IntKind.u64.wrap ((IntKind.u64.wrap (a0))+1))))=some r:=h;clear h;by_cases c2:a0<1
 ·rw[if_pos c2]at H;have c2b0:=af c2;clear c2;obtain rfl:=az H;go_enter Tryz.func134,Tryz.ntmps134;go_wp2;go_ret;exact⟨zs,zd⟩
 ·rw[if_neg c2]at H;have c2b0:=ah c2;clear c2;obtain rfl:=az H;go_enter Tryz.func134,Tryz.ntmps134;go_wp2;go_ret;exact⟨zs,zd⟩
def fg.l0:Nat->List Int->Int->List Int->Int->Int->Option (Bool)
 |0,_,_,_,_,_=>none
 |k+1,x0,x1,x7,x8,x9=>if x9<x8 then(if 0<=x9 then(if x9<(x7.length:Int)then((iq.f x1).bind fun t115=>(if(rd x7 x9)>t115 then(some false)else(if x9>0 then(if(rd x7 x9)=0 then(fg.l0 k x0 x1 x7 x8 (wrap64 (x9+1)))else(if 0<=(wrap64 (x9-1))then(if(wrap64 (x9-1))<(x0.length:Int)then(if(rd x0 (wrap64 (x9-1)))=0 then(some false)else(fg.l0 k x0 x1 x7 x8 (wrap64 (x9+1))))else(none))else(none)))else(fg.l0 k x0 x1 x7 x8 (wrap64 (x9+1))))))else(none))else(none))else(some (decide (x1>=1)))
def fg.f(k:Nat)(l0:List Int)(a1:Int):Option (Bool):=fg.l0 k l0 a1 l0 (l0.length:Int) 0
theorem fg.calls (k : Nat) (A0 : Option Addr) (c0 : Nat) (l0 : List Int) (a1 : Int) (r : Bool) (w : World) (hr0 : Kd.C (Kd.int .u64) w A0 l0.length l0) (hc0 : l0.length ≤ c0) (h : fg.f k l0 a1 = some r) : Calls Tryz.prog 158 #[.slice A0 l0.length c0, .int .i64 a1] w fun e w' => e = .returned (.bool r) ∧ Drawn0 w w' := by
 have HR0:=am hr0;have HC0:=am hc0;clear hr0 hc0;have H:(fg.l0 k l0 a1 l0 (l0.length:Int) 0)=some r:=h;clear h;have H':=am H;clear H;go_enter Tryz.func158,Tryz.ntmps158;go_wp2;go_loopg [9] k (fun kq v9 w'=>∃ (x9_1:Int),v9=.int .i64 x9_1/\Aside0 (fg.l0 kq l0 a1 l0 (l0.length:Int) x9_1=some r)/\Aside0 (kq<=k)/\Drawn0 w w')
 case atStart=>exact⟨(0),zs,H',⟨an _⟩,zd⟩
 case round =>
  clear H';obtain⟨x9_1,rfl,HA,HK1,⟨m1,rfl⟩⟩:=hrel;cases gk with
  |zero=>exact absurd HA.out (by simp[fg.l0])
  | succ k1 =>
   have H:=HA.out;clear HA;simp only[fg.l0]at H;by_cases c3:x9_1<(l0.length:Int)
   ·rw [if_pos c3] at H;have c3b0 := af c3;clear c3;by_cases c4 : 0 ≤ x9_1
    ·rw [if_pos c4] at H;have c4b0 := af c4;clear c4;by_cases c5 : x9_1 < (l0.length : Int)
     ·rw [if_pos c5] at H;have c5b0 := af c5;clear c5;replace H := Option.bind_eq_some_iff.mp H;obtain ⟨t115, A60, H⟩ := H
      try dsimp only at H
      have A6:=am A60;clear A60;by_cases c7:(rd l0 x9_1)>t115
      ·rw[if_pos c7]at H;have c7b0:decide (t115<(rd l0 x9_1))=true:=af c7;clear c7;obtain rfl:=az H;have p114:0<=(x9_1:Int):=zu;have q114:x9_1<(l0.length:Int):=zu;obtain⟨ad114,e114,hx114_0⟩:=Kd.at_int HR0.out x9_1 p114 q114;cases e114;replace p114:=eq_true p114;replace q114:=eq_true q114;go_wp2_with (first|((with_reducible refine ay (f:=134) rfl ?_);refine zl (some 16) Tryz.func134 #[.int .i64 a1] ?_;(with_reducible refine(iq.calls a1 t115 _ A6.out).mono ?_);rintro e w' ⟨rfl,⟨nd,rfl⟩⟩;refine⟨_,rfl,?_⟩))
       go_ret;exact⟨zs,zd⟩
      ·rw [if_neg c7] at H;have c7b0 : decide (t115 < (rd l0 x9_1)) = false := ah c7;clear c7;by_cases c8 : x9_1 > 0
       ·rw [if_pos c8] at H;have c8b0 : decide (0 < x9_1) = true := af c8;clear c8;by_cases c9 : (rd l0 x9_1) = 0
        ·rw[if_pos c9]at H;have c9b0:((rd l0 x9_1)==0)=true:=beq_iff_eq.mpr c9;have c9b1:((rd l0 x9_1) != 0)=false:=bne_eq_false_iff_eq.mpr c9;clear c9;have H':=am H;clear H;have p114:0<=(x9_1:Int):=zu;have q114:x9_1<(l0.length:Int):=zu;obtain⟨ad114,e114,hx114_0⟩:=Kd.at_int HR0.out x9_1 p114 q114;cases e114;replace p114:=eq_true p114;replace q114:=eq_true q114;go_wp2_with (first|((with_reducible refine ay (f:=134) rfl ?_);refine zl (some 16) Tryz.func134 #[.int .i64 a1] ?_;(with_reducible refine(iq.calls a1 t115 _ A6.out).mono ?_);rintro e w' ⟨rfl,⟨nd,rfl⟩⟩;refine⟨_,rfl,?_⟩))
         go_roundg k1
         case measure=>have:=HK1.out;omega
         case rel=>exact⟨(wrap64 (x9_1+1)),zs,H',⟨by have:=HK1.out;omega⟩,zd⟩
        ·rw [if_neg c9] at H;have c9b0 : ((rd l0 x9_1) == 0) = false := beq_eq_false_iff_ne.mpr c9;have c9b1 : ((rd l0 x9_1) != 0) = true := bne_iff_ne.mpr c9;obtain ⟨ji10, hji10⟩ : ∃ j_ : Int, (wrap64 (x9_1 - 1)) = j_ := ⟨_, rfl⟩;replace H : (if 0 ≤ (ji10) then (if (ji10) < (l0.length : Int) then (if (rd l0 (ji10)) = 0 then (some false) else (fg.l0 k1 l0 a1 l0 (l0.length : Int) (wrap64 (x9_1 + 1)))) else (none)) else (none)) = some r := by first | (rw [hji10] at H; exact H) | (simp only [hji10] at H ⊢; exact H)
         (try rw[hji10]at A6)
         have hji10w:(IntKind.i64.wrap (x9_1-1))=ji10:=(bu _).trans hji10;by_cases c11:0<=(ji10)
         ·rw[if_pos c11]at H;have c11b0:=af c11;clear c11;by_cases c12:(ji10)<(l0.length:Int)
          ·rw[if_pos c12]at H;have c12b0:=af c12;clear c12;by_cases c13:(rd l0 (ji10))=0
           ·rw[if_pos c13]at H;have c13b0:((rd l0 (ji10))==0)=true:=beq_iff_eq.mpr c13;have c13b1:((rd l0 (ji10)) != 0)=false:=bne_eq_false_iff_eq.mpr c13;clear c13;obtain rfl:=az H;have p114:0<=(x9_1:Int):=zu;have q114:x9_1<(l0.length:Int):=zu;obtain⟨ad114,e114,hx114_0⟩:=Kd.at_int HR0.out x9_1 p114 q114;cases e114;replace p114:=eq_true p114;replace q114:=eq_true q114;go_wp2_with (first|((with_reducible refine ay (f:=134) rfl ?_);refine zl (some 16) Tryz.func134 #[.int .i64 a1] ?_;(with_reducible refine(iq.calls a1 t115 _ A6.out).mono ?_);rintro e w' ⟨rfl,⟨nd,rfl⟩⟩;refine⟨_,rfl,?_⟩;have p116:0<=((ji10):Int):=zu;have q116:(ji10)<(l0.length:Int):=zu;obtain⟨ad116,e116,hx116_0⟩:=Kd.at_int HR0.out (ji10) p116 q116;obtain rfl:ad114=ad116:=(by injection e116);replace p116:=eq_true p116;replace q116:=eq_true q116))
            go_ret;exact⟨by first|rfl|(simp;done)|(simp only[<-hji10] <;> (first|rfl|simp))|(simp[*];done),zd⟩
           ·rw[if_neg c13]at H;have c13b0:((rd l0 (ji10))==0)=false:=beq_eq_false_iff_ne.mpr c13;have c13b1:((rd l0 (ji10)) != 0)=true:=bne_iff_ne.mpr c13;have H':=am H;clear H;have p114:0<=(x9_1:Int):=zu;have q114:x9_1<(l0.length:Int):=zu;obtain⟨ad114,e114,hx114_0⟩:=Kd.at_int HR0.out x9_1 p114 q114;cases e114;replace p114:=eq_true p114;replace q114:=eq_true q114;go_wp2_with (first|((with_reducible refine ay (f:=134) rfl ?_);refine zl (some 16) Tryz.func134 #[.int .i64 a1] ?_;(with_reducible refine(iq.calls a1 t115 _ A6.out).mono ?_);rintro e w' ⟨rfl,⟨nd,rfl⟩⟩;refine⟨_,rfl,?_⟩;have p116:0<=((ji10):Int):=zu;have q116:(ji10)<(l0.length:Int):=zu;obtain⟨ad116,e116,hx116_0⟩:=Kd.at_int HR0.out (ji10) p116 q116;obtain rfl:ad114=ad116:=(by injection e116);replace p116:=eq_true p116;replace q116:=eq_true q116))
            go_roundg k1
            case measure=>have:=HK1.out;omega
            case rel=>exact⟨(wrap64 (x9_1+1)),zs,(by first|exact H'|((try rw[hji10]);exact H')),⟨by have:=HK1.out;omega⟩,zd⟩
          ·rw[if_neg c12]at H;exact absurd H (by simp)
         ·rw[if_neg c11]at H;exact absurd H (by simp)
       ·rw[if_neg c8]at H;have c8b0:decide (0<x9_1)=false:=ah c8;clear c8;have H':=am H;clear H;have p114:0<=(x9_1:Int):=zu;have q114:x9_1<(l0.length:Int):=zu;obtain⟨ad114,e114,hx114_0⟩:=Kd.at_int HR0.out x9_1 p114 q114;cases e114;replace p114:=eq_true p114;replace q114:=eq_true q114;go_wp2_with (first|((with_reducible refine ay (f:=134) rfl ?_);refine zl (some 16) Tryz.func134 #[.int .i64 a1] ?_;(with_reducible refine(iq.calls a1 t115 _ A6.out).mono ?_);rintro e w' ⟨rfl,⟨nd,rfl⟩⟩;refine⟨_,rfl,?_⟩))
        go_roundg k1
        case measure=>have:=HK1.out;omega
        case rel=>exact⟨(wrap64 (x9_1+1)),zs,(by first|exact H'|((try rw[hji10]);exact H')),⟨by have:=HK1.out;omega⟩,zd⟩
     ·rw[if_neg c5]at H;exact absurd H (by simp)
    ·rw[if_neg c4]at H;exact absurd H (by simp)
   ·rw[if_neg c3]at H;have c3b0:=ah c3;clear c3;obtain rfl:=az H;go_wp2;go_ret;exact⟨zs,zd⟩
def fc.f(a0:Int):Option (Bool):=if a0>=8 then(if a0<=512 then(some ((Int.tmod a0 8)==0))else(some false))else(some false)
theorem fc.calls(a0:Int)(r:Bool)(w:World)(h:fc.f a0=some r):Calls Tryz.prog 83 #[.int .i64 a0] w fun e w'=>e=.returned (.bool r)/\Drawn0 w w':=by
 have H:(if a0>=8 then(if a0<=512 then(some ((Int.tmod a0 8)==0))else(some false))else(some false))=some r:=h;clear h;by_cases c2:a0>=8
 ·rw[if_pos c2]at H;have c2b0:decide (8<=a0)=true:=af c2;clear c2;by_cases c3:a0<=512
  ·rw[if_pos c3]at H;have c3b0:=af c3;clear c3;obtain rfl:=az H;go_enter Tryz.func83,Tryz.ntmps83;go_wp2;go_ret;exact⟨zs,zd⟩
  ·rw[if_neg c3]at H;have c3b0:=ah c3;clear c3;obtain rfl:=az H;go_enter Tryz.func83,Tryz.ntmps83;go_wp2;go_ret;exact⟨zs,zd⟩
 ·rw[if_neg c2]at H;have c2b0:decide (8<=a0)=false:=ah c2;clear c2;obtain rfl:=az H;go_enter Tryz.func83,Tryz.ntmps83;go_wp2;go_ret;exact⟨zs,zd⟩
def ec.f(a0:Int):Option (Bool):=if a0>=2 then(some (decide (a0<=512)))else(some false)
theorem ec.calls(a0:Int)(r:Bool)(w:World)(h:ec.f a0=some r):Calls Tryz.prog 125 #[.int .i64 a0] w fun e w'=>e=.returned (.bool r)/\Drawn0 w w':=by
 have H:(if a0>=2 then(some (decide (a0<=512)))else(some false))=some r:=h;clear h;by_cases c2:a0>=2
 ·rw[if_pos c2]at H;have c2b0:decide (2<=a0)=true:=af c2;clear c2;obtain rfl:=az H;go_enter Tryz.func125,Tryz.ntmps125;go_wp2;go_ret;exact⟨zs,zd⟩
 ·rw[if_neg c2]at H;have c2b0:decide (2<=a0)=false:=ah c2;clear c2;obtain rfl:=az H;go_enter Tryz.func125,Tryz.ntmps125;go_wp2;go_ret;exact⟨zs,zd⟩
def gg.f(a0:Int)(a1:Bool):Option (Int):=(ec.f a0).bind fun t117=>(if t117=true then(if a1=true then(some (Go.bits .or .u64 (IntKind.u64.wrap ((IntKind.u64.wrap (a0))*2)) 1))else(some (IntKind.u64.wrap ((IntKind.u64.wrap (a0))*2))))else(some 0))
theorem gg.calls(a0:Int)(a1:Bool)(r:Int)(w:World)(h:gg.f a0 a1=some r):Calls Tryz.prog 84 #[.int .i64 a0, .bool a1] w fun e w'=>e=.returned (.int .u64 r)/\Drawn0 w w':=by
 have H:((ec.f a0).bind fun t117=>(if t117=true then(if a1=true then(some (Go.bits .or .u64 (IntKind.u64.wrap ((IntKind.u64.wrap (a0))*2)) 1))else(some (IntKind.u64.wrap ((IntKind.u64.wrap (a0))*2))))else(some 0)))=some r:=h;clear h;replace H:=Option.bind_eq_some_iff.mp H;obtain⟨t117,A30,H⟩:=H
 try dsimp only at H
 have A3:=am A30;clear A30;by_cases c4:t117=true
 ·subst c4;have H1:(if a1=true then(some (Go.bits .or .u64 (IntKind.u64.wrap ((IntKind.u64.wrap (a0))*2)) 1))else(some (IntKind.u64.wrap ((IntKind.u64.wrap (a0))*2))))=some r:=by rw[if_pos rfl]at H;exact H
  clear H;have H:=H1;clear H1;by_cases c5:a1=true
  ·subst c5;have H1:(some (Go.bits .or .u64 (IntKind.u64.wrap ((IntKind.u64.wrap (a0))*2)) 1))=some r:=by rw[if_pos rfl]at H;exact H
   clear H;have H:=H1;clear H1;obtain rfl:=az H;go_enter Tryz.func84,Tryz.ntmps84;go_wp2_with (first|((with_reducible refine ay (f:=125) rfl ?_);refine zl (some 7) Tryz.func125 #[.int .i64 a0] ?_;(with_reducible refine(ec.calls a0 true _ A3.out).mono ?_);rintro e w' ⟨rfl,⟨nd,rfl⟩⟩;refine⟨_,rfl,?_⟩))
   go_ret;exact⟨zs,zd⟩
  ·replace c5:=Bool.eq_false_iff.mpr c5;subst c5;have H1:(some (IntKind.u64.wrap ((IntKind.u64.wrap (a0))*2)))=some r:=by rw[if_neg (show ¬ (false=true)by decide)]at H;exact H
   clear H;have H:=H1;clear H1;obtain rfl:=az H;go_enter Tryz.func84,Tryz.ntmps84;go_wp2_with (first|((with_reducible refine ay (f:=125) rfl ?_);refine zl (some 7) Tryz.func125 #[.int .i64 a0] ?_;(with_reducible refine(ec.calls a0 true _ A3.out).mono ?_);rintro e w' ⟨rfl,⟨nd,rfl⟩⟩;refine⟨_,rfl,?_⟩))
   go_ret;exact⟨zs,zd⟩
 ·replace c4:=Bool.eq_false_iff.mpr c4;subst c4;have H1:(some 0)=some r:=by rw[if_neg (show ¬ (false=true)by decide)]at H;exact H
  clear H;have H:=H1;clear H1;obtain rfl:=az H;go_enter Tryz.func84,Tryz.ntmps84;go_wp2_with (first|((with_reducible refine ay (f:=125) rfl ?_);refine zl (some 7) Tryz.func125 #[.int .i64 a0] ?_;(with_reducible refine(ec.calls a0 false _ A3.out).mono ?_);rintro e w' ⟨rfl,⟨nd,rfl⟩⟩;refine⟨_,rfl,?_⟩))
  go_ret;exact⟨zs,zd⟩
def oc.f(a0:Int):Option (List Int):=(fc.f a0).bind fun t118=>(if t118=true then(if 0<=a0 then(if(a0:Int).toNat<=35184372088832 then((some (List.replicate (a0:Int).toNat 0:List Int)).bind fun y119=>((gg.f a0 false).bind fun t122=>(if 0<(y119.length:Int)then(some (y119.set (0:Int).toNat t122))else(none))))else(none))else(none))else(some ([]:List Int)))
theorem oc.calls(a0:Int)(r:List Int)(w:World)(h:oc.f a0=some r):Calls Tryz.prog 37 #[.int .i64 a0] w fun e w'=>∃ v0_:Value,e=.returned (v0_)/\Kd.R (Kd.int .u64) 25 w' w.heap.size (fun _=>True) v0_ r/\Below w.heap.size w w':=by
 have HB:=am (ai w.heap.size w);have H:((fc.f a0).bind fun t118=>(if t118=true then(if 0<=a0 then(if(a0:Int).toNat<=35184372088832 then((some (List.replicate (a0:Int).toNat 0:List Int)).bind fun y119=>((gg.f a0 false).bind fun t122=>(if 0<(y119.length:Int)then(some (y119.set (0:Int).toNat t122))else(none))))else(none))else(none))else(some ([]:List Int))))=some r:=h;clear h;replace H:=Option.bind_eq_some_iff.mp H;obtain⟨t118,A20,H⟩:=H
 try dsimp only at H
 have A2:=am A20;clear A20;by_cases c3:t118=true
 ·subst c3;have H1:(if 0<=a0 then(if(a0:Int).toNat<=35184372088832 then((some (List.replicate (a0:Int).toNat 0:List Int)).bind fun y119=>((gg.f a0 false).bind fun t122=>(if 0<(y119.length:Int)then(some (y119.set (0:Int).toNat t122))else(none))))else(none))else(none))=some r:=by rw[if_pos rfl]at H;exact H
  clear H;have H:=H1;clear H1;by_cases c4:0<=a0
  ·rw[if_pos c4]at H;have c4b0:=eq_true c4;have c4b1:=af c4;clear c4;by_cases c5:(a0:Int).toNat<=35184372088832
   ·rw[if_pos c5]at H;have c5b0:=eq_true c5;have c5b1:=af c5;clear c5;obtain⟨y119,hy119⟩:∃ y_:List Int,y_=(List.replicate (a0:Int).toNat 0):=⟨_,rfl⟩;replace H:((gg.f a0 false).bind fun t122=>(if 0<(y119.length:Int)then(some (y119.set (0:Int).toNat t122))else(none)))=some r:=by first|(rw[hy119];with_reducible exact H)|(have H2_:=(Option.bind_some _ _).symm.trans H;rw[hy119];with_reducible exact H2_)|(have H2_:=(Option.bind_some _ _).symm.trans H;with_reducible exact H2_)|with_reducible exact H|(rw[hy119];exact H)|exact H
    have Ny119:=am hy119;clear hy119;replace H:=Option.bind_eq_some_iff.mp H;obtain⟨t122,A60,H⟩:=H
    try dsimp only at H
    have A6:=am A60;clear A60;by_cases c7:0<(y119.length:Int)
    ·rw[if_pos c7]at H;have c7b0:=af c7;have c7b1:decide (0<y119.length)=true:=af (by omega);clear c7;obtain⟨y123,hy123⟩:∃ y_:List Int,y_=(y119.set (0:Int).toNat t122):=⟨_,rfl⟩;replace H:(some y123)=some r:=by first|(rw[hy123];with_reducible exact H)|(have H2_:=(Option.bind_some _ _).symm.trans H;rw[hy123];with_reducible exact H2_)|(have H2_:=(Option.bind_some _ _).symm.trans H;with_reducible exact H2_)|with_reducible exact H|(rw[hy123];exact H)|exact H
     have Ny123:=am hy123;clear hy123;obtain rfl:=az H;go_enter Tryz.func37,Tryz.ntmps37;go_wp2_with (first|((with_reducible refine ay (f:=83) rfl ?_);refine zl (some 5) Tryz.func83 #[.int .i64 a0] ?_;(with_reducible refine(fc.calls a0 true _ A2.out).mono ?_);rintro e w' ⟨rfl,⟨nd,rfl⟩⟩;refine⟨_,rfl,?_⟩)|((with_reducible refine b9 (N:=8) rfl ?_);refine Kd.R_make (Kd.int .u64) _ 25 rfl (N:=8) rfl 51 _ _ rfl a0 rfl rfl Tryz.underlying51 (.int .u64 0) 8 wi rfl (by decide) (by omega) 0 (ok:=fun _=>True) (okp:=fun _=>True) rfl (fun _ hk=>hk) trivial (zu) (Nat.le_trans (Nat.mul_le_mul_right _ (zu:a0.toNat<=35184372088832)) (by omega)) (ai _ _) (an _) ?_;intro v120 w9 ho10 hb hg_ hnew_;clear hg_ hnew_;(first|rw[<-Ny119.out]at ho10|(simp only[Int.reduceToNat]at ho10;rw[<-Ny119.out]at ho10));have n0_:=am (Kd.R_lower ho10 (bk (zB HB)));have n1_:=zb HB hb;clear HB;have HO121:=n0_;have HB:=n1_;clear n0_ n1_;clear hb ho10)|((with_reducible refine ay (f:=84) rfl ?_);refine zl (some 11) Tryz.func84 #[.int .i64 a0, .bool false] ?_;(with_reducible refine(gg.calls a0 false t122 _ A6.out).mono ?_);rintro e w' ⟨rfl,⟨nd,rfl⟩⟩;refine⟨_,rfl,?_⟩;(try (rw[qcx w9];generalize hq_:World.drewN w9 _=w9;have n0_:Aside0 (Kd.R (Kd.int .u64) 25 w9 w.heap.size (fun _=>True) v120 y119):=⟨by rw[<-hq_];exact(zr HO121)⟩;have n1_:Aside0 (Below w.heap.size w w9):=⟨by rw[<-hq_];exact(zB HB)⟩;clear HO121 HB hq_;have HO121:=n0_;have HB:=n1_;clear n0_ n1_));have p8:0<=(0:Int):=(by omega);have q8:(0:Int)<((y119.length:Int):Int):=zu;have qi8:(0<y119.length)=True:=eq_true (by omega);obtain⟨go8,co8,eo8,gb8,gl8,cl8,HG8⟩:=Kd.R_form HO121.out (by omega);(first|cases eo8|(injection eo8 with ea_ en_ ec_;(first|subst ea_|(injection ea_ with ea_;subst ea_));subst ec_;clear en_));have GB8:=am gb8;have GG8:=am HG8;clear gb8 gl8 HG8;obtain⟨hx8_0,hf8_0⟩:=Kd.R_celln 0 HO121.out (0:Int) p8 q8;(try rw[show((0:Int)).toNat=0 from rfl]at hx8_0);(try simp only[Nat.reduceMul,Nat.zero_mul,Nat.zero_add,Nat.reduceAdd]at hx8_0);(try rw[show((0:Int)).toNat=0 from rfl]at hf8_0);(try simp only[Nat.reduceMul,Nat.zero_mul,Nat.zero_add,Nat.reduceAdd]at hf8_0);replace p8:=eq_true p8;replace q8:=eq_true q8;obtain⟨hy11_,hz11_⟩:=Kd.R_celln 0 HO121.out (0:Int) (by omega) (zu);(try simp only[Int.reduceToNat,Int.toNat_zero,Int.toNat_ofNat,Nat.reduceMul,Nat.zero_mul,Nat.zero_add]at hy11_ hz11_);(try rw[show((0:Int)).toNat=0 from rfl]at hy11_);(try rw[show((0:Int)).toNat=0 from rfl]at hz11_);have HP11:=Kd.R_putg HO121.out (0:Int) t122)|((with_reducible refine bp (t:=25) (p:=12) rfl ?_);refine qbr (t:=25) (p:=12) (v:= ?vo_w12) (w1:=(w9.setCell ⟨go8,(0:Int).toNat,none⟩ (.int .u64 t122))) ?hg ?ho ?hn ?hr ?_;(case ho=>rfl);(case hg=>rfl);(case hn=>rfl);(case hr=>first|(go_simp;done)|(go_simp;rfl));intro w12 hw;have hg:w9.grownBy w12 (some go8):=(by rw[hw];exact HP11.2);have hp_:Kd.R (Kd.int .u64) 25 w12 w.heap.size (fun _=>True) (.slice (some ⟨go8,0,none⟩) y119.length co8) y123:=(by rw[hw,Ny123.out];exact HP11.1);clear HP11;have n0_:=am (hp_);have n1_:=am ((by rw[hw];exact bj (HB.out) GB8.out:Below w.heap.size w w12));replace HO121:=n0_;replace HB:=n1_;clear n0_ n1_;clear hg hw hp_))
     go_ret;exact⟨_,ze,by(with_reducible repeat (first|apply qa|apply qb|apply qc));exact HO121.out,zB HB⟩
    ·rw[if_neg c7]at H;exact absurd H (by simp)
   ·rw[if_neg c5]at H;exact absurd H (by simp)
  ·rw[if_neg c4]at H;exact absurd H (by simp)
 ·replace c3:=Bool.eq_false_iff.mpr c3;subst c3;have H1:(some ([]:List Int))=some r:=by rw[if_neg (show ¬ (false=true)by decide)]at H;exact H
  clear H;have H:=H1;clear H1;obtain rfl:=az H;go_enter Tryz.func37,Tryz.ntmps37;go_wp2_with (first|((with_reducible refine ay (f:=83) rfl ?_);refine zl (some 5) Tryz.func83 #[.int .i64 a0] ?_;(with_reducible refine(fc.calls a0 false _ A2.out).mono ?_);rintro e w' ⟨rfl,⟨nd,rfl⟩⟩;refine⟨_,rfl,?_⟩))
  go_ret;exact⟨_,ze,by first|exact Kd.R_nil _ _ _ _ _|exact Kd.N_nil _ _ _ _ _|exact Kd.V_nil _ _ _ _ _|exact Kd.Q_nil _ _ _ _ _|exact Kd.S_nil _ _ _ _ _,zB HB⟩
def pd.f(a0_0:Int)(a0_1:Int)(a0_2:Int)(a0_3:Int):Option (Int):=(gi.f a0_0 a0_1 a0_2 a0_3).bind fun t125=>(if t125=true then(some (wrap64 (a0_0*8)))else(some 0))
theorem pd.calls(a0_0:Int)(a0_1:Int)(a0_2:Int)(a0_3:Int)(r:Int)(w:World)(h:pd.f a0_0 a0_1 a0_2 a0_3=some r):Calls Tryz.prog 38 #[.agg #[.int .i64 a0_0, .int .i64 a0_1, .int .i64 a0_2, .int .i64 a0_3]] w fun e w'=>e=.returned (.int .i64 r)/\Below w.heap.size w w':=by
 obtain⟨k0,k1,k2,k3⟩:=k4 (pj w (.cells #[.int .i64 a0_0, .int .i64 a0_1, .int .i64 a0_2, .int .i64 a0_3] 23));have BX:=am (pj w (.cells #[.int .i64 a0_0, .int .i64 a0_1, .int .i64 a0_2, .int .i64 a0_3] 23));have HB:=am (ca (ai w.heap.size w) (.cells #[.int .i64 a0_0, .int .i64 a0_1, .int .i64 a0_2, .int .i64 a0_3] 23));unfold pd.f at h;obtain⟨t,ht,h⟩:=Option.bind_eq_some_iff.mp h;have HM:=am ht;clear ht;cases t
 all_goals (simp only[if_true,Bool.false_eq_true,if_false]at h;cases h;go_enter Tryz.func38,Tryz.ntmps38;go_wp2_with (first
 |(go_at_call 32;(with_reducible refine(gi.calls a0_0 a0_1 a0_2 a0_3 _ _ HM.out).mono ?_);rintro e w1 ⟨rfl,hb⟩;obtain⟨j0,j1,j2,j3⟩:=k4 (ap BX.out hb);have BX1:=am (ap BX.out hb);have HB1:=am (aa HB.out hb);clear hb k0 k1 k2 k3 BX));go_ret;exact⟨rfl,HB1.out⟩)
mutual
def dk.j0:Nat->List Int->Int->Int->Bool->Option (Int)
 |0,_,_,_,_=>none
 |k+1,x0,x1,x2,x14=>if x14=true then(some (-1))else(dk.l0 k x0 x1 x2 (wrap64 ((x0.length:Int)-1)))
def dk.l0:Nat->List Int->Int->Int->Int->Option (Int)
 |0,_,_,_,_=>none
 |k+1,x0,x1,x2,x7=>if x7>=0 then(if 0<=x7 then(if x7<(x0.length:Int)then(if(rd x0 x7)=(IntKind.u64.wrap ((IntKind.u64.wrap (x2))+1))then(some (wrap64 (x1+x7)))else(dk.l0 k x0 x1 x2 (wrap64 (x7-1))))else(none))else(none))else(some x2)
end
def dk.f(k:Nat)(l0:List Int)(a1:Int)(a2:Int):Option (Int):=if a2<0 then(dk.j0 k l0 a1 a2 true)else(dk.j0 k l0 a1 a2 (decide (a2>=a1)))
theorem dk.calls (k : Nat) (A0 : Option Addr) (c0 : Nat) (l0 : List Int) (a1 : Int) (a2 : Int) (r : Int) (w : World) (hr0 : Kd.C (Kd.int .u64) w A0 l0.length l0) (hc0 : l0.length ≤ c0) (h : dk.f k l0 a1 a2 = some r) : Calls Tryz.prog 159 #[.slice A0 l0.length c0, .int .i64 a1, .int .i64 a2] w fun e w' => e = .returned (.int .i64 r) ∧ Drawn0 w w' := by
 have HR0:=am hr0;have HC0:=am hc0;clear hr0 hc0;have H:(if a2<0 then(dk.j0 k l0 a1 a2 true)else(dk.j0 k l0 a1 a2 (decide (a2>=a1))))=some r:=h;clear h;have HC4:=am H;clear H;go_enter Tryz.func159,Tryz.ntmps159;go_upto_region 1 with (fail);go_cut [14] (fun v14 wc=>∃ (kq:Nat) (x14_3:Bool),v14=.bool x14_3/\Aside0 (dk.j0 kq l0 a1 a2 x14_3=some r)/\Aside0 (kq<=k)/\Drawn0 w wc)
 case first=>
  have H:=HC4.out;clear HC4;by_cases c5:a2<0
  ·rw[if_pos c5]at H;have c5b0:=af c5;clear c5
   (first|rw[c5b0]|(simp only[bu,iu];rw[c5b0])|skip)
   have H':=am H;clear H;go_wp2;go_meet
   case rel=>exact⟨_,(true),zs,H',⟨by first|omega|exact an _⟩,zd⟩
  ·rw[if_neg c5]at H;have c5b0:=ah c5;clear c5
   (first|rw[c5b0]|(simp only[bu,iu];rw[c5b0])|skip)
   have H':=am H;clear H;go_wp2;go_meet
   case rel=>exact⟨_,(decide (a2>=a1)),zs,H',⟨by first|omega|exact an _⟩,zd⟩
 case rest =>
  clear HC4
  try clear c5
  try clear c5b0
  obtain⟨kq,x14_3,rfl,HA,HJ3,⟨mc3,rfl⟩⟩:=hcut;cases kq with
  |zero=>exact absurd HA.out (by simp[dk.j0])
  | succ kj3 =>
   have H:=HA.out;clear HA;simp only[dk.j0]at H;by_cases c6:x14_3=true
   ·subst c6;have H1:(some (-1))=some r:=by rw[if_pos rfl]at H;exact H
    clear H;have H:=H1;clear H1;obtain rfl:=az H;go_wp2;go_ret;exact⟨zs,zd⟩
   ·replace c6:=Bool.eq_false_iff.mpr c6;subst c6;have H1:(dk.l0 kj3 l0 a1 a2 (wrap64 ((l0.length:Int)-1)))=some r:=by rw[if_neg (show ¬ (false=true)by decide)]at H;exact H
    clear H;have H:=H1;clear H1;have H':=am H;clear H;go_wp2;go_loopg [7] kj3 (fun kq v7 w'=>∃ (x7_2:Int),v7=.int .i64 x7_2/\Aside0 (dk.l0 kq l0 a1 a2 x7_2=some r)/\Aside0 (kq<=kj3)/\Drawn0 w w')
    case atStart=>exact⟨(wrap64 ((l0.length:Int)-1)),zs,H',⟨an _⟩,zd⟩
    case round =>
     clear H'
     try clear c5
     try clear c5b0
     try clear c6
     obtain⟨x7_2,rfl,HA,HK2,⟨m2,rfl⟩⟩:=hrel;cases gk with
     |zero=>exact absurd HA.out (by simp[dk.l0])
     |succ k2=>
      have H:=HA.out;clear HA;simp only[dk.l0]at H;by_cases c7:x7_2>=0
      ·rw [if_pos c7] at H;have c7b0 : decide (0 ≤ x7_2) = true := af c7;clear c7;by_cases c8 : 0 ≤ x7_2
       ·rw[if_pos c8]at H;have c8b0:=af c8;clear c8;by_cases c9:x7_2<(l0.length:Int)
        ·rw[if_pos c9]at H;have c9b0:=af c9;clear c9;by_cases c10:(rd l0 x7_2)=(IntKind.u64.wrap ((IntKind.u64.wrap (a2))+1))
         ·rw[if_pos c10]at H;have c10b0:((rd l0 x7_2)==(IntKind.u64.wrap ((IntKind.u64.wrap (a2))+1)))=true:=beq_iff_eq.mpr c10;have c10b1:((rd l0 x7_2) != (IntKind.u64.wrap ((IntKind.u64.wrap (a2))+1)))=false:=bne_eq_false_iff_eq.mpr c10;clear c10;obtain rfl:=az H;have p126:0<=(x7_2:Int):=zu;have q126:x7_2<(l0.length:Int):=zu;obtain⟨ad126,e126,hx126_0⟩:=Kd.at_int HR0.out x7_2 p126 q126;cases e126;replace p126:=eq_true p126;replace q126:=eq_true q126;go_wp2;go_ret;exact⟨zs,zd⟩
         ·rw[if_neg c10]at H;have c10b0:((rd l0 x7_2)==(IntKind.u64.wrap ((IntKind.u64.wrap (a2))+1)))=false:=beq_eq_false_iff_ne.mpr c10;have c10b1:((rd l0 x7_2) != (IntKind.u64.wrap ((IntKind.u64.wrap (a2))+1)))=true:=bne_iff_ne.mpr c10;have H':=am H;clear H;have p126:0<=(x7_2:Int):=zu;have q126:x7_2<(l0.length:Int):=zu;obtain⟨ad126,e126,hx126_0⟩:=Kd.at_int HR0.out x7_2 p126 q126;cases e126;replace p126:=eq_true p126;replace q126:=eq_true q126;go_wp2;go_roundg k2
          case measure=>have:=HJ3.out;have:=HK2.out;omega
          case rel=>exact⟨(wrap64 (x7_2-1)),zs,H',⟨by have:=HJ3.out;have:=HK2.out;omega⟩,zd⟩
        ·rw[if_neg c9]at H;exact absurd H (by simp)
       ·rw[if_neg c8]at H;exact absurd H (by simp)
      ·rw[if_neg c7]at H;have c7b0:decide (0<=x7_2)=false:=ah c7;clear c7;obtain rfl:=az H;go_wp2;go_ret;exact⟨zs,zd⟩
def lu.f(a0:Int)(a1:Int):Option (Bool):=if a0>=1 then(if a0<=100000 then(some (decide (a1>=0)))else(some false))else(some false)
theorem lu.calls(a0:Int)(a1:Int)(r:Bool)(w:World)(h:lu.f a0 a1=some r):Calls Tryz.prog 128 #[.int .i64 a0, .int .i64 a1] w fun e w'=>e=.returned (.bool r)/\Drawn0 w w':=by
 have H:(if a0>=1 then(if a0<=100000 then(some (decide (a1>=0)))else(some false))else(some false))=some r:=h;clear h;by_cases c3:a0>=1
 ·rw[if_pos c3]at H;have c3b0:decide (1<=a0)=true:=af c3;clear c3;by_cases c4:a0<=100000
  ·rw[if_pos c4]at H;have c4b0:=af c4;clear c4;obtain rfl:=az H;go_enter Tryz.func128,Tryz.ntmps128;go_wp2;go_ret;exact⟨zs,zd⟩
  ·rw[if_neg c4]at H;have c4b0:=ah c4;clear c4;obtain rfl:=az H;go_enter Tryz.func128,Tryz.ntmps128;go_wp2;go_ret;exact⟨zs,zd⟩
 ·rw[if_neg c3]at H;have c3b0:decide (1<=a0)=false:=ah c3;clear c3;obtain rfl:=az H;go_enter Tryz.func128,Tryz.ntmps128;go_wp2;go_ret;exact⟨zs,zd⟩
def mj.f(a0:Int)(a1:Int):Option (Int):=if(wrap64 (a0+1))=0 then(none)else(if a0=0 then(none)else(some (Int.tmod (wrap64 (Int.tdiv a1 (wrap64 (a0+1)))) a0)))
theorem mj.calls(a0:Int)(a1:Int)(r:Int)(w:World)(h:mj.f a0 a1=some r):Calls Tryz.prog 129 #[.int .i64 a0, .int .i64 a1] w fun e w'=>e=.returned (.int .i64 r)/\Drawn0 w w':=by
 have H:(if(wrap64 (a0+1))=0 then(none)else(if a0=0 then(none)else(some (Int.tmod (wrap64 (Int.tdiv a1 (wrap64 (a0+1)))) a0))))=some r:=h;clear h;by_cases c3:(wrap64 (a0+1))=0
 ·rw[if_pos c3]at H;exact absurd H (by simp)
 ·rw[if_neg c3]at H;have c3b0:((wrap64 (a0+1))==0)=false:=beq_eq_false_iff_ne.mpr c3;have c3b1:((wrap64 (a0+1)) != 0)=true:=bne_iff_ne.mpr c3;by_cases c4:a0=0
  ·rw[if_pos c4]at H;exact absurd H (by simp)
  ·rw[if_neg c4]at H;have c4b0:(a0==0)=false:=beq_eq_false_iff_ne.mpr c4;have c4b1:(a0 != 0)=true:=bne_iff_ne.mpr c4;obtain rfl:=az H;go_enter Tryz.func129,Tryz.ntmps129;go_wp2;go_ret;exact⟨zs,zd⟩
def my.f(a0:Int)(a1:Int):Option (Int):=(lu.f a0 a1).bind fun t127=>(if t127=true then(if(wrap64 (a0+1))=0 then(none)else(some (wrap64 (a0-(Int.tmod a1 (wrap64 (a0+1)))))))else(some (-1)))
theorem my.calls(a0:Int)(a1:Int)(r:Int)(w:World)(h:my.f a0 a1=some r):Calls Tryz.prog 130 #[.int .i64 a0, .int .i64 a1] w fun e w'=>e=.returned (.int .i64 r)/\Drawn0 w w':=by
 have H:((lu.f a0 a1).bind fun t127=>(if t127=true then(if(wrap64 (a0+1))=0 then(none)else(some (wrap64 (a0-(Int.tmod a1 (wrap64 (a0+1)))))))else(some (-1))))=some r:=h;clear h;replace H:=Option.bind_eq_some_iff.mp H;obtain⟨t127,A30,H⟩:=H
 try dsimp only at H
 have A3:=am A30;clear A30;by_cases c4:t127=true
 ·subst c4;have H1:(if(wrap64 (a0+1))=0 then(none)else(some (wrap64 (a0-(Int.tmod a1 (wrap64 (a0+1)))))))=some r:=by rw[if_pos rfl]at H;exact H
  clear H;have H:=H1;clear H1;by_cases c5:(wrap64 (a0+1))=0
  ·rw[if_pos c5]at H;exact absurd H (by simp)
  ·rw[if_neg c5]at H;have c5b0:((wrap64 (a0+1))==0)=false:=beq_eq_false_iff_ne.mpr c5;have c5b1:((wrap64 (a0+1)) != 0)=true:=bne_iff_ne.mpr c5;obtain rfl:=az H;go_enter Tryz.func130,Tryz.ntmps130;go_wp2_with (first|((with_reducible refine ay (f:=128) rfl ?_);refine zl (some 7) Tryz.func128 #[.int .i64 a0, .int .i64 a1] ?_;(with_reducible refine(lu.calls a0 a1 true _ A3.out).mono ?_);rintro e w' ⟨rfl,⟨nd,rfl⟩⟩;refine⟨_,rfl,?_⟩))
   go_ret;exact⟨zs,zd⟩
 ·replace c4:=Bool.eq_false_iff.mpr c4;subst c4;have H1:(some (-1))=some r:=by rw[if_neg (show ¬ (false=true)by decide)]at H;exact H
  clear H;have H:=H1;clear H1;obtain rfl:=az H;go_enter Tryz.func130,Tryz.ntmps130;go_wp2_with (first|((with_reducible refine ay (f:=128) rfl ?_);refine zl (some 7) Tryz.func128 #[.int .i64 a0, .int .i64 a1] ?_;(with_reducible refine(lu.calls a0 a1 false _ A3.out).mono ?_);rintro e w' ⟨rfl,⟨nd,rfl⟩⟩;refine⟨_,rfl,?_⟩))
  go_ret;exact⟨zs,zd⟩
def gz.j0:Nat->Int->Int->Int->Bool->Option (Int)
 |0,_,_,_,_=>none
 |k+1,x0,x1,x2,x20=>if x20=true then(some (-1))else((mj.f x0 x1).bind fun t129=>(if x0=0 then(none)else((my.f x0 x1).bind fun t130=>(if(Int.tmod (wrap64 (x2+t129)) x0)>=t130 then(some (wrap64 ((Int.tmod (wrap64 (x2+t129)) x0)+1)))else(some (Int.tmod (wrap64 (x2+t129)) x0))))))
def gz.f(k:Nat)(a0:Int)(a1:Int)(a2:Int):Option (Int):=(lu.f a0 a1).bind fun t128=>(if t128=true then(if a2<0 then(gz.j0 k a0 a1 a2 true)else(gz.j0 k a0 a1 a2 (decide (a2>=a0))))else(gz.j0 k a0 a1 a2 true))
theorem gz.calls(k:Nat)(a0:Int)(a1:Int)(a2:Int)(r:Int)(w:World)(h:gz.f k a0 a1 a2=some r):Calls Tryz.prog 87 #[.int .i64 a0, .int .i64 a1, .int .i64 a2] w fun e w'=>e=.returned (.int .i64 r)/\Drawn0 w w':=by
 have H:((lu.f a0 a1).bind fun t128=>(if t128=true then(if a2<0 then(gz.j0 k a0 a1 a2 true)else(gz.j0 k a0 a1 a2 (decide (a2>=a0))))else(gz.j0 k a0 a1 a2 true)))=some r:=h;clear h;have HC4:=am H;clear H;go_enter Tryz.func87,Tryz.ntmps87;go_upto_region 1 with (fail);go_cut [20] (fun v20 wc=>∃ (kq:Nat) (x20_3:Bool),v20=.bool x20_3/\Aside0 (gz.j0 kq a0 a1 a2 x20_3=some r)/\Aside0 (kq<=k)/\Drawn0 w wc)
 case first=>
  have H:=HC4.out;clear HC4;replace H:=Option.bind_eq_some_iff.mp H;obtain⟨t128,A50,H⟩:=H
  try dsimp only at H
  have A5:=am A50;clear A50;by_cases c6:t128=true
  ·subst c6;have H1:(if a2<0 then(gz.j0 k a0 a1 a2 true)else(gz.j0 k a0 a1 a2 (decide (a2>=a0))))=some r:=by rw[if_pos rfl]at H;exact H
   clear H;have H:=H1;clear H1;by_cases c7:a2<0
   ·rw[if_pos c7]at H;have c7b0:=af c7;clear c7
    (first|rw[c7b0]|(simp only[bu,iu];rw[c7b0])|skip)
    have H':=am H;clear H;go_wp2_with (first|((with_reducible refine ay (f:=128) rfl ?_);refine zl (some 10) Tryz.func128 #[.int .i64 a0, .int .i64 a1] ?_;(with_reducible refine(lu.calls a0 a1 true _ A5.out).mono ?_);rintro e w' ⟨rfl,⟨nd,rfl⟩⟩;refine⟨_,rfl,?_⟩))
    go_meet
    case rel=>exact⟨_,(true),zs,H',⟨by first|omega|exact an _⟩,zd⟩
   ·rw[if_neg c7]at H;have c7b0:=ah c7;clear c7
    (first|rw[c7b0]|(simp only[bu,iu];rw[c7b0])|skip)
    have H':=am H;clear H;go_wp2_with (first|((with_reducible refine ay (f:=128) rfl ?_);refine zl (some 10) Tryz.func128 #[.int .i64 a0, .int .i64 a1] ?_;(with_reducible refine(lu.calls a0 a1 true _ A5.out).mono ?_);rintro e w' ⟨rfl,⟨nd,rfl⟩⟩;refine⟨_,rfl,?_⟩))
    go_meet
    case rel=>exact⟨_,(decide (a2>=a0)),zs,H',⟨by first|omega|exact an _⟩,zd⟩
  ·replace c6:=Bool.eq_false_iff.mpr c6;subst c6;have H1:(gz.j0 k a0 a1 a2 true)=some r:=by rw[if_neg (show ¬ (false=true)by decide)]at H;exact H
   clear H;have H:=H1;clear H1;have H':=am H;clear H;go_wp2_with (first|((with_reducible refine ay (f:=128) rfl ?_);refine zl (some 10) Tryz.func128 #[.int .i64 a0, .int .i64 a1] ?_;(with_reducible refine(lu.calls a0 a1 false _ A5.out).mono ?_);rintro e w' ⟨rfl,⟨nd,rfl⟩⟩;refine⟨_,rfl,?_⟩))
   go_meet
   case rel=>exact⟨_,(true),zs,H',⟨by first|omega|exact an _⟩,zd⟩
 case rest =>
  clear HC4
  try clear c6
  try clear c7
  try clear c7b0
  obtain⟨kq,x20_3,rfl,HA,HJ3,⟨mc3,rfl⟩⟩:=hcut;cases kq with
  |zero=>exact absurd HA.out (by simp[gz.j0])
  |succ kj3=>
   have H:=HA.out;clear HA;simp only[gz.j0]at H;by_cases c8:x20_3=true
   ·subst c8;have H1:(some (-1))=some r:=by rw[if_pos rfl]at H;exact H
    clear H;have H:=H1;clear H1;obtain rfl:=az H;go_wp2;go_ret;exact⟨zs,zd⟩
   ·replace c8:=Bool.eq_false_iff.mpr c8;subst c8;have H1:((mj.f a0 a1).bind fun t129=>(if a0=0 then(none)else((my.f a0 a1).bind fun t130=>(if(Int.tmod (wrap64 (a2+t129)) a0)>=t130 then(some (wrap64 ((Int.tmod (wrap64 (a2+t129)) a0)+1)))else(some (Int.tmod (wrap64 (a2+t129)) a0))))))=some r:=by rw[if_neg (show ¬ (false=true)by decide)]at H;exact H
    clear H;have H:=H1;clear H1;replace H:=Option.bind_eq_some_iff.mp H;obtain⟨t129,A90,H⟩:=H
    try dsimp only at H
    have A9:=am A90;clear A90;by_cases c10:a0=0
    ·rw[if_pos c10]at H;exact absurd H (by simp)
    ·rw[if_neg c10]at H;have c10b0:(a0==0)=false:=beq_eq_false_iff_ne.mpr c10;have c10b1:(a0 != 0)=true:=bne_iff_ne.mpr c10;replace H:=Option.bind_eq_some_iff.mp H;obtain⟨t130,A110,H⟩:=H
     try dsimp only at H
     have A11:=am A110;clear A110;by_cases c12:(Int.tmod (wrap64 (a2+t129)) a0)>=t130
     ·rw[if_pos c12]at H;have c12b0:decide (t130<=(Int.tmod (wrap64 (a2+t129)) a0))=true:=af c12;clear c12;obtain rfl:=az H;go_wp2_with (first|((with_reducible refine ay (f:=129) rfl ?_);refine zl (some 24) Tryz.func129 #[.int .i64 a0, .int .i64 a1] ?_;(with_reducible refine(mj.calls a0 a1 t129 _ A9.out).mono ?_);rintro e w' ⟨rfl,⟨nd,rfl⟩⟩;refine⟨_,rfl,?_⟩)|((with_reducible refine ay (f:=130) rfl ?_);refine zl (some 31) Tryz.func130 #[.int .i64 a0, .int .i64 a1] ?_;(with_reducible refine(my.calls a0 a1 t130 _ A11.out).mono ?_);rintro e w' ⟨rfl,⟨nd,rfl⟩⟩;refine⟨_,rfl,?_⟩))
      go_ret;exact⟨zs,zd⟩
     ·rw[if_neg c12]at H;have c12b0:decide (t130<=(Int.tmod (wrap64 (a2+t129)) a0))=false:=ah c12;clear c12;obtain rfl:=az H;go_wp2_with (first|((with_reducible refine ay (f:=129) rfl ?_);refine zl (some 24) Tryz.func129 #[.int .i64 a0, .int .i64 a1] ?_;(with_reducible refine(mj.calls a0 a1 t129 _ A9.out).mono ?_);rintro e w' ⟨rfl,⟨nd,rfl⟩⟩;refine⟨_,rfl,?_⟩)|((with_reducible refine ay (f:=130) rfl ?_);refine zl (some 31) Tryz.func130 #[.int .i64 a0, .int .i64 a1] ?_;(with_reducible refine(my.calls a0 a1 t130 _ A11.out).mono ?_);rintro e w' ⟨rfl,⟨nd,rfl⟩⟩;refine⟨_,rfl,?_⟩))
      go_ret;exact⟨zs,zd⟩
def it.f(a0_0:Int)(a0_1:Int)(a0_2:Int)(a0_3:Int)(a1:Int):Option (Int):=(gi.f a0_0 a0_1 a0_2 a0_3).bind fun t132=>(if t132=true then(if a1<0 then(some (-1))else(if a1>=a0_0 then(some (-1))else(some (wrap64 (16+a1)))))else(some (-1)))
theorem it.calls(a0_0:Int)(a0_1:Int)(a0_2:Int)(a0_3:Int)(a1:Int)(r:Int)(w:World)(h:it.f a0_0 a0_1 a0_2 a0_3 a1=some r):Calls Tryz.prog 40 #[.agg #[.int .i64 a0_0, .int .i64 a0_1, .int .i64 a0_2, .int .i64 a0_3], .int .i64 a1] w fun e w'=>e=.returned (.int .i64 r)/\Below w.heap.size w w':=by
 obtain⟨k0,k1,k2,k3⟩:=k4 (pj w (.cells #[.int .i64 a0_0, .int .i64 a0_1, .int .i64 a0_2, .int .i64 a0_3] 23));have BX:=am (pj w (.cells #[.int .i64 a0_0, .int .i64 a0_1, .int .i64 a0_2, .int .i64 a0_3] 23));have HB:=am (ca (ai w.heap.size w) (.cells #[.int .i64 a0_0, .int .i64 a0_1, .int .i64 a0_2, .int .i64 a0_3] 23));unfold it.f at h;obtain⟨t,ht,h⟩:=Option.bind_eq_some_iff.mp h;have HM:=am ht;clear ht;cases t
 · simp only[Bool.false_eq_true,if_false]at h;cases h;go_enter Tryz.func40,Tryz.ntmps40;go_wp2_with (first
 |(go_at_call 32;(with_reducible refine(gi.calls a0_0 a0_1 a0_2 a0_3 _ _ HM.out).mono ?_);rintro e w1 ⟨rfl,hb⟩;obtain⟨j0,j1,j2,j3⟩:=k4 (ap BX.out hb);have BX1:=am (ap BX.out hb);have HB1:=am (aa HB.out hb);clear hb k0 k1 k2 k3 BX));go_ret;exact⟨rfl,HB1.out⟩
 · simp only [if_true] at h
   by_cases c:a1<0
   · rw[if_pos c]at h;cases h;have c1:=af c;clear c;go_enter Tryz.func40,Tryz.ntmps40;go_wp2_with (first
 | (go_at_call 32; (with_reducible refine (gi.calls a0_0 a0_1 a0_2 a0_3 _ _ HM.out).mono ?_); rintro e w1 ⟨rfl, hb⟩; obtain ⟨j0, j1, j2, j3⟩ := k4 (ap BX.out hb); have BX1 := am (ap BX.out hb); have HB1 := am (aa HB.out hb); clear hb k0 k1 k2 k3 BX)); go_ret; exact ⟨rfl, HB1.out⟩
   · rw [if_neg c] at h; have c1 := ah c; clear c
     by_cases c:a1>=a0_0
     · rw[if_pos c]at h;cases h;have c2:decide (a0_0<=a1)=true:=af c;clear c;go_enter Tryz.func40,Tryz.ntmps40;go_wp2_with (first
 |(go_at_call 32;(with_reducible refine(gi.calls a0_0 a0_1 a0_2 a0_3 _ _ HM.out).mono ?_);rintro e w1 ⟨rfl,hb⟩;obtain⟨j0,j1,j2,j3⟩:=k4 (ap BX.out hb);have BX1:=am (ap BX.out hb);have HB1:=am (aa HB.out hb);clear hb k0 k1 k2 k3 BX));go_ret;exact⟨rfl,HB1.out⟩
     · rw[if_neg c]at h;cases h;have c2:decide (a0_0<=a1)=false:=ah c;clear c;go_enter Tryz.func40,Tryz.ntmps40;go_wp2_with (first
 |(go_at_call 32;(with_reducible refine(gi.calls a0_0 a0_1 a0_2 a0_3 _ _ HM.out).mono ?_);rintro e w1 ⟨rfl,hb⟩;obtain⟨j0,j1,j2,j3⟩:=k4 (ap BX.out hb);have BX1:=am (ap BX.out hb);have HB1:=am (aa HB.out hb);clear hb k0 k1 k2 k3 BX));go_ret;exact⟨rfl,HB1.out⟩
def ga.l0:Nat->List Int->Int->Int->Option (Int)
 |0,_,_,_=>none
 |k+1,x5,x6,x7=>if x7<x6 then(if 0<=x7 then(if x7<(x5.length:Int)then(if(rd x5 x7)=0 then(some x7)else(ga.l0 k x5 x6 (wrap64 (x7+1))))else(none))else(none))else(some (-1))
def ga.f(k:Nat)(l0:List Int):Option (Int):=ga.l0 k l0 (l0.length:Int) 0
theorem ga.calls(k:Nat)(A0:Option Addr)(c0:Nat)(l0:List Int)(r:Int)(w:World)(hr0:Kd.C (Kd.int .u64) w A0 l0.length l0)(hc0:l0.length<=c0)(h:ga.f k l0=some r):Calls Tryz.prog 133 #[.slice A0 l0.length c0] w fun e w'=>e=.returned (.int .i64 r)/\Drawn0 w w':=by
 have HR0:=am hr0;have HC0:=am hc0;clear hr0 hc0;have H:(ga.l0 k l0 (l0.length:Int) 0)=some r:=h;clear h;have H':=am H;clear H;go_enter Tryz.func133,Tryz.ntmps133;go_wp2;go_loopg [7] k (fun kq v7 w'=>∃ (x7_1:Int),v7=.int .i64 x7_1/\Aside0 (ga.l0 kq l0 (l0.length:Int) x7_1=some r)/\Aside0 (kq<=k)/\Drawn0 w w')
 case atStart=>exact⟨(0),zs,H',⟨an _⟩,zd⟩
 case round =>
  clear H';obtain⟨x7_1,rfl,HA,HK1,⟨m1,rfl⟩⟩:=hrel;cases gk with
  |zero=>exact absurd HA.out (by simp[ga.l0])
  |succ k1=>
   have H:=HA.out;clear HA;simp only[ga.l0]at H;by_cases c2:x7_1<(l0.length:Int)
   ·rw [if_pos c2] at H;have c2b0 := af c2;clear c2;by_cases c3 : 0 ≤ x7_1
    ·rw[if_pos c3]at H;have c3b0:=af c3;clear c3;by_cases c4:x7_1<(l0.length:Int)
     ·rw[if_pos c4]at H;have c4b0:=af c4;clear c4;by_cases c5:(rd l0 x7_1)=0
      ·rw[if_pos c5]at H;have c5b0:((rd l0 x7_1)==0)=true:=beq_iff_eq.mpr c5;have c5b1:((rd l0 x7_1) != 0)=false:=bne_eq_false_iff_eq.mpr c5;clear c5;obtain rfl:=az H;have p133:0<=(x7_1:Int):=zu;have q133:x7_1<(l0.length:Int):=zu;obtain⟨ad133,e133,hx133_0⟩:=Kd.at_int HR0.out x7_1 p133 q133;cases e133;replace p133:=eq_true p133;replace q133:=eq_true q133;go_wp2;go_ret;exact⟨zs,zd⟩
      ·rw[if_neg c5]at H;have c5b0:((rd l0 x7_1)==0)=false:=beq_eq_false_iff_ne.mpr c5;have c5b1:((rd l0 x7_1) != 0)=true:=bne_iff_ne.mpr c5;have H':=am H;clear H;have p133:0<=(x7_1:Int):=zu;have q133:x7_1<(l0.length:Int):=zu;obtain⟨ad133,e133,hx133_0⟩:=Kd.at_int HR0.out x7_1 p133 q133;cases e133;replace p133:=eq_true p133;replace q133:=eq_true q133;go_wp2;go_roundg k1
       case measure=>have:=HK1.out;omega
       case rel=>exact⟨(wrap64 (x7_1+1)),zs,H',⟨by have:=HK1.out;omega⟩,zd⟩
     ·rw[if_neg c4]at H;exact absurd H (by simp)
    ·rw[if_neg c3]at H;exact absurd H (by simp)
   ·rw[if_neg c2]at H;have c2b0:=ah c2;clear c2;obtain rfl:=az H;go_wp2;go_ret;exact⟨zs,zd⟩
def sf.f(a0:Int)(a1:Int):Option (Int×Int):=(my.f a0 a1).bind fun t134=>(if t134=(-1)then(some ((-1),(-1)))else(if t134=0 then(some (a0,0))else(some (wrap64 (t134-1),t134))))
theorem sf.calls(a0:Int)(a1:Int)(r1:Int)(r2:Int)(w:World)(h:sf.f a0 a1=some (r1,r2)):Calls Tryz.prog 131 #[.int .i64 a0, .int .i64 a1] w fun e w'=>e=.returned (.tuple #[.int .i64 r1, .int .i64 r2])/\Drawn0 w w':=by
 have H:((my.f a0 a1).bind fun t134=>(if t134=(-1)then(some ((-1),(-1)))else(if t134=0 then(some (a0,0))else(some (wrap64 (t134-1),t134)))))=some (r1,r2):=h;clear h;replace H:=Option.bind_eq_some_iff.mp H;obtain⟨t134,A30,H⟩:=H
 try dsimp only at H
 have A3:=am A30;clear A30;by_cases c4:t134=(-1)
 ·rw[if_pos c4]at H;have c4b0:(t134==(-1))=true:=beq_iff_eq.mpr c4;have c4b1:(t134 != (-1))=false:=bne_eq_false_iff_eq.mpr c4;clear c4;simp only[Option.some.injEq,Prod.mk.injEq]at H;obtain⟨rfl,rfl⟩:=H;go_enter Tryz.func131,Tryz.ntmps131;go_wp2_with (first|((with_reducible refine ay (f:=130) rfl ?_);refine zl (some 8) Tryz.func130 #[.int .i64 a0, .int .i64 a1] ?_;(with_reducible refine(my.calls a0 a1 t134 _ A3.out).mono ?_);rintro e w' ⟨rfl,⟨nd,rfl⟩⟩;refine⟨_,rfl,?_⟩))
  go_ret2;exact⟨zs,zd⟩
 ·rw[if_neg c4]at H;have c4b0:(t134==(-1))=false:=beq_eq_false_iff_ne.mpr c4;have c4b1:(t134 != (-1))=true:=bne_iff_ne.mpr c4;by_cases c5:t134=0
  ·rw[if_pos c5]at H;have c5b0:(t134==0)=true:=beq_iff_eq.mpr c5;have c5b1:(t134 != 0)=false:=bne_eq_false_iff_eq.mpr c5;clear c5;simp only[Option.some.injEq,Prod.mk.injEq]at H;obtain⟨rfl,rfl⟩:=H;go_enter Tryz.func131,Tryz.ntmps131;go_wp2_with (first|((with_reducible refine ay (f:=130) rfl ?_);refine zl (some 8) Tryz.func130 #[.int .i64 a0, .int .i64 a1] ?_;(with_reducible refine(my.calls a0 a1 t134 _ A3.out).mono ?_);rintro e w' ⟨rfl,⟨nd,rfl⟩⟩;refine⟨_,rfl,?_⟩))
   go_ret2;exact⟨zs,zd⟩
  ·rw[if_neg c5]at H;have c5b0:(t134==0)=false:=beq_eq_false_iff_ne.mpr c5;have c5b1:(t134 != 0)=true:=bne_iff_ne.mpr c5;simp only[Option.some.injEq,Prod.mk.injEq]at H;obtain⟨rfl,rfl⟩:=H;go_enter Tryz.func131,Tryz.ntmps131;go_wp2_with (first|((with_reducible refine ay (f:=130) rfl ?_);refine zl (some 8) Tryz.func130 #[.int .i64 a0, .int .i64 a1] ?_;(with_reducible refine(my.calls a0 a1 t134 _ A3.out).mono ?_);rintro e w' ⟨rfl,⟨nd,rfl⟩⟩;refine⟨_,rfl,?_⟩))
   go_ret2;exact⟨zs,zd⟩
def pa.f(a0:Int):Option (Int):=some (wrap64 (Int.tdiv (wrap64 ((wrap64 (a0+8))-1)) 8))
theorem pa.calls(a0:Int)(r:Int)(w:World)(h:pa.f a0=some r):Calls Tryz.prog 135 #[.int .i64 a0] w fun e w'=>e=.returned (.int .i64 r)/\Drawn0 w w':=by
 have H:(some (wrap64 (Int.tdiv (wrap64 ((wrap64 (a0+8))-1)) 8)))=some r:=h;clear h;obtain rfl:=az H;go_enter Tryz.func135,Tryz.ntmps135;go_wp2;go_ret;exact⟨zs,zd⟩
def ka.f(a0:Int):Option (Int×Bool×Bool):=if(a0 / 2)>512 then(some (0,false,false))else((ec.f (wrap64 (a0 / 2))).bind fun t135=>(if t135=true then(some (wrap64 (a0 / 2),((Go.bits .and .u64 a0 1)==1),true))else(some (0,false,false))))
theorem ka.calls(a0:Int)(r1:Int)(r2:Bool)(r3:Bool)(w:World)(h:ka.f a0=some (r1,r2,r3)):Calls Tryz.prog 94 #[.int .u64 a0] w fun e w'=>e=.returned (.tuple #[.int .i64 r1, .bool r2, .bool r3])/\Drawn0 w w':=by
 have H:(if(a0 / 2)>512 then(some (0,false,false))else((ec.f (wrap64 (a0 / 2))).bind fun t135=>(if t135=true then(some (wrap64 (a0 / 2),((Go.bits .and .u64 a0 1)==1),true))else(some (0,false,false)))))=some (r1,r2,r3):=h;clear h;by_cases c2:(a0 / 2)>512
 ·rw[if_pos c2]at H;have c2b0:decide (512<(a0 / 2))=true:=af c2;clear c2;simp only[Option.some.injEq,Prod.mk.injEq]at H;obtain⟨rfl,rfl,rfl⟩:=H;go_enter Tryz.func94,Tryz.ntmps94;go_wp2;go_ret3;exact⟨zs,zd⟩
 ·rw[if_neg c2]at H;have c2b0:decide (512<(a0 / 2))=false:=ah c2;clear c2;replace H:=Option.bind_eq_some_iff.mp H;obtain⟨t135,A30,H⟩:=H
  try dsimp only at H
  have A3:=am A30;clear A30;by_cases c4:t135=true
  ·subst c4;have H1:(some (wrap64 (a0 / 2),((Go.bits .and .u64 a0 1)==1),true))=some (r1,r2,r3):=by rw[if_pos rfl]at H;exact H
   clear H;have H:=H1;clear H1;simp only[Option.some.injEq,Prod.mk.injEq]at H;obtain⟨rfl,rfl,rfl⟩:=H;go_enter Tryz.func94,Tryz.ntmps94;go_wp2_with (first|(go_at_call 125;(with_reducible refine(ec.calls (wrap64 (a0 / 2)) true _ A3.out).mono ?_);rintro e w' ⟨rfl,⟨nd,rfl⟩⟩))
   go_ret3;exact⟨zs,zd⟩
  ·replace c4:=Bool.eq_false_iff.mpr c4;subst c4;have H1:(some (0,false,false))=some (r1,r2,r3):=by rw[if_neg (show ¬ (false=true)by decide)]at H;exact H
   clear H;have H:=H1;clear H1;simp only[Option.some.injEq,Prod.mk.injEq]at H;obtain⟨rfl,rfl,rfl⟩:=H;go_enter Tryz.func94,Tryz.ntmps94;go_wp2_with (first|(go_at_call 125;(with_reducible refine(ec.calls (wrap64 (a0 / 2)) false _ A3.out).mono ?_);rintro e w' ⟨rfl,⟨nd,rfl⟩⟩))
   go_ret3;exact⟨zs,zd⟩
end Go.Proofs.YtmfhaliclnnbaaaGreat.XTopWhole
namespace Go.Proofs.YtmfhaliclnnbaaaGreat.Pl
open Go.RowKit Go.Proofs.YtmfhaliclnnbaaaGreatW.PrintWords Go.Proofs.YtmfhaliclnnbaaaGreatW.PrintLast Go.Proofs.YtmfhaliclnnbaaaGreatW.PrintMore Go.Proofs.YtmfhaliclnnbaaaGreat.XTopWhole
theorem u64w(n:Int):IntKind.u64.wrap n=n % 18446744073709551616:=by simp[IntKind.wrap,IntKind.bits,IntKind.signed]
theorem w64{n:Int}(h: -9223372036854775808<=n/\n<=9223372036854775807):wrap64 n=n:=by unfold wrap64;omega
theorem qdt{a b:Int}(h:0<=a):Int.tmod a b=a % b:=Int.tmod_eq_emod_of_nonneg h
theorem qds{a b:Int}(h:0<=a):Int.tdiv a b=a / b:=Int.tdiv_eq_ediv_of_nonneg h
theorem ph(n:Int)(h₀:0<=n)(h₁:n<2 ^ 64):IntKind.u64.wrap n=n:=by rw[u64w];omega
theorem qof(i:Nat)(hi:i<=64)(x:Int)(h₀:0<=x)(h₁:x<2 ^ 64):Go.bits .and .u64 x (2 ^ i-1)=x % 2 ^ i:=
 bits_mask .u64 64 (by decide) ph i hi x h₀ h₁
theorem qic{x:Int}(h₀:0<=x)(h₁:x<=18446744073709551615):Go.bits .and .u64 x 1=x % 2:=qof 1 (by decide) x h₀ (by omega)
theorem qp6{x:Int}(h₀:0<=x)(h₁:x<=18446744073709551615)(h:x % 2=0):Go.bits .or .u64 x 1=x+1:=
 bits_join .u64 64 (by decide) ph 1 x 1 h₀ h (by omega) (by decide) (by decide) (by decide)
theorem qpf(a m:Int)(h:0<m)(hm:m<=1000000):wrap64 (Int.tmod (IntKind.u64.wrap a) m)=(a % 18446744073709551616) % m:=by
 rw[u64w,qdt (by omega),w64];have:=Int.emod_nonneg (a % 18446744073709551616) (b:=m) (by omega);have:=Int.emod_lt_of_pos (a % 18446744073709551616) h;omega
theorem ba{α:Type}{c:Prop}[Decidable c]{a b:Nat->Option α}{r:α}(h:c)(k:Ev a r):Ev (fun n=>if c then a n else b n) r:=by
 simp only[if_pos h];exact k
theorem dw{α:Type}{c:Prop}[Decidable c]{a b:Nat->Option α}{r:α}(h:¬ c)(k:Ev b r):Ev (fun n=>if c then a n else b n) r:=by
 simp only[if_neg h];exact k
theorem lr{α:Type}{c:Prop}[Decidable c]{a b:Nat->Option α}{r:α}(h1:c->Ev a r)(h2:¬ c->Ev b r):Ev (fun n=>if c then a n else b n) r:=by
 by_cases h:c
 ·exact ba h (h1 h)
 ·exact dw h (h2 h)
theorem ij{α β:Type}{o:Option α}{f:Nat->α->Option β}{a:α}{r:β}(h:o=some a)(k:Ev (fun n=>f n a) r):Ev (fun n=>o.bind (f n)) r:=by
 subst h;exact k
theorem gu{α β:Type}{g:Nat->Option α}{f:Nat->α->Option β}{a:α}{r:β}(h:Ev g a)(k:Ev (fun n=>f n a) r):Ev (fun n=>(g n).bind (f n)) r:=Ev.bind h k
theorem qi5{α:Type}{r s:α}(h:s=r):Ev (fun _=>some s) r:=by subst h;exact Ev.now _
theorem qq0{α:Type}{g:Nat->Option α}{r:α}(h:∀ k,g (k+1)=some r):Ev g r:=⟨1,fun k hk=>by obtain⟨m,rfl⟩:∃ m,k=m+1:=⟨k-1,by omega⟩;exact h m⟩
def Tab(t:List Int):Prop:=t.length<=1000∧∀ j:Int,0<=rd t j/\rd t j<=18446744073709551615
def qks(t:List Int)(s j:Int):Prop:=rd t j<=s+1/\(0<j->rd t j≠0->rd t (j-1)≠0)
def qbv(t:List Int)(s:Int):Prop:=1<=s∧∀ j:Int,0<=j->j<t.length->qks t s j
theorem qb9{s:Int}(h:1<=s)(h2:s<=9223372036854775807):iq.f s=some (s+1):=by
 unfold iq.f;rw[if_neg (by omega),u64w,u64w];congr 1;omega
theorem qow{s:Int}(h:¬ 1<=s):iq.f s=some 0:=by
 unfold iq.f;rw[if_pos (by omega)]
theorem qoi{a:Int}(h:0<=a)(h2:a<=9223372036854775807):IntKind.u64.wrap (IntKind.u64.wrap a+1)=a+1:=by
 rw[u64w,u64w];omega
theorem qli{t:List Int}{s i:Int}(hi:qks t s i):(∀ j:Int,i<=j->j<t.length->qks t s j)↔∀ j:Int,i+1<=j->j<t.length->qks t s j:=by
 constructor
 ·exact fun h j h1 h2=>h j (by omega) h2
 ·intro h j h1 h2;by_cases e:j=i
  ·subst e;exact hi
  ·exact h j (by omega) h2
theorem qrc{t:List Int}{s:Int}(ht:Tab t)(h1:1<=s)(h2:s<=9223372036854775807)(d:Nat):∀ i:Int,0<=i->i+d=t.length→∃ b,Ev (fun k=>fg.l0 k t s t (t.length:Int) i) b/\(b=true↔∀ j:Int,i<=j->j<t.length->qks t s j):=by
 have hlen:=ht.1
 induction d with
 |zero=>
  intro i h0 hd;refine⟨true,Ev.step (fun k=>by rw[fg.l0]) ?_,?_⟩
  ·refine dw (by omega) ?_;exact qi5 (by simp;omega)
  ·exact⟨fun _ j hj hk=>by omega,fun _=>rfl⟩
 |succ d ih=>
  intro i h0 hd;obtain⟨b,hb,hiff⟩:=ih (i+1) (by omega) (by omega);have hr:=ht.2 i;have hlt:i<(t.length:Int):=by omega
  by_cases c1:rd t i>s+1
  ·refine⟨false,Ev.step (fun k=>by rw[fg.l0]) ?_,?_⟩
   ·refine ba hlt (ba h0 (ba hlt (ij (qb9 h1 h2) (ba c1 (Ev.now _)))))
   ·constructor
    ·intro h;cases h
    ·intro h;have:=(h i (by omega) hlt).1;omega
  ·by_cases c2:i>0/\rd t i≠0/\rd t (i-1)=0
   ·refine⟨false,Ev.step (fun k=>by rw[fg.l0]) ?_,?_⟩
    ·refine ba hlt (ba h0 (ba hlt (ij (qb9 h1 h2) (dw c1 (ba c2.1 (dw c2.2.1 ?_))))));rw[w64 (n:=i-1) (by omega)];exact ba (by omega) (ba (by omega) (ba c2.2.2 (Ev.now _)))
    ·constructor
     ·intro h;cases h
     ·intro h;exact absurd c2.2.2 ((h i (by omega) hlt).2 (by omega) c2.2.1)
   ·have hgood:qks t s i:=⟨by omega,fun a1 a2 a3=>c2 ⟨by omega,a2,a3⟩⟩;refine⟨b,Ev.step (fun k=>by rw[fg.l0]) ?_,hiff.trans (qli hgood).symm⟩;refine ba hlt (ba h0 (ba hlt (ij (qb9 h1 h2) (dw c1 ?_))));rw[w64 (n:=i+1) (by omega)];refine lr (fun c3=>?_) (fun _=>hb);refine lr (fun _=>hb) (fun c4=>?_);rw[w64 (n:=i-1) (by omega)];exact ba (by omega) (ba (by omega) (dw (fun c5=>c2 ⟨c3,c4,c5⟩) hb))
theorem qlm{t:List Int}{s:Int}(ht:Tab t)(h1:¬ 1<=s)(d:Nat):∀ i:Int,0<=i->i+d=t.length->Ev (fun k=>fg.l0 k t s t (t.length:Int) i) false:=by
 have hlen:=ht.1
 induction d with
 |zero=>
  intro i h0 hd;refine Ev.step (fun k=>by rw[fg.l0]) ?_;refine dw (by omega) ?_;exact qi5 (by simp;omega)
 |succ d ih=>
  intro i h0 hd;have hb:=ih (i+1) (by omega) (by omega);have hr:=ht.2 i;have hlt:i<(t.length:Int):=by omega
  refine Ev.step (fun k=>by rw[fg.l0]) ?_;refine ba hlt (ba h0 (ba hlt (ij (qow h1) ?_)));refine lr (fun _=>Ev.now _) (fun _=>?_);rw[w64 (n:=i+1) (by omega)];refine lr (fun c3=>?_) (fun _=>hb);refine lr (fun _=>hb) (fun c4=>?_);rw[w64 (n:=i-1) (by omega)];exact ba (by omega) (ba (by omega) (lr (fun _=>Ev.now _) (fun _=>hb)))
theorem qrb{t:List Int}{s:Int}(ht:Tab t)(h2:s<=9223372036854775807):∃ b,Ev (fun k=>fg.f k t s) b/\(b=true<->qbv t s):=by
 unfold fg.f;by_cases h1:1<=s
 ·obtain⟨b,hb,hiff⟩:=qrc ht h1 h2 t.length 0 (by omega) (by omega);exact⟨b,hb,hiff.trans ⟨fun h=>⟨h1,fun j a c=>h j a c⟩,fun h j a c=>h.2 j a c⟩⟩
 ·exact⟨false,qlm ht h1 t.length 0 (by omega) (by omega),⟨fun h=>(by cases h),fun h=>absurd h.1 h1⟩⟩
theorem qpc{t:List Int}{s:Int}(ht:Tab t)(h2:s<=9223372036854775807)(h:qbv t s):Ev (fun k=>fg.f k t s) true:=by
 obtain⟨b,hb,hi⟩:=qrb ht h2
 rwa[hi.2 h]at hb
def qt(t:List Int)(s a r:Int):Prop:=
 (∃ i:Int,0<=i/\i<t.length/\rd t i=a+1/\(∀ j:Int,i<j->j<t.length->rd t j≠a+1)/\r=s+i)\/((∀ j:Int,0<=j->j<t.length->rd t j≠a+1)/\r=a)
theorem xx{t:List Int}{s a r r':Int}(h:qt t s a r)(h':qt t s a r'):r=r':=by
 rcases h with⟨i,h0,h1,h2,h3,rfl⟩|⟨h,rfl⟩
 ·rcases h' with⟨i',h0',h1',h2',h3',rfl⟩|⟨h',rfl⟩
  ·by_cases e:i=i'
   ·subst e;rfl
   ·by_cases l:i<i'
    ·exact absurd h2' (h3 i' l h1')
    ·exact absurd h2 (h3' i (by omega) h1)
  ·exact absurd h2 (h' i h0 h1)
 ·rcases h' with⟨i',h0',h1',h2',h3',rfl⟩|⟨h',rfl⟩
  ·exact absurd h2' (h i' h0' h1')
  ·rfl
theorem qns{t:List Int}{s a:Int}(ht:Tab t)(hs:s<=1099511627776)(ha:0<=a)(has:a<s)(d:Nat):∀ i:Int,i+1=d->i<t.length->(∀ j:Int,i<j->j<t.length->rd t j≠a+1)→∃ r,Ev (fun k=>dk.l0 k t s a i) r/\qt t s a r:=by
 have hlen:=ht.1
 induction d with
 |zero=>
  intro i hd h1 hno;refine⟨a,Ev.step (fun k=>by rw[dk.l0]) ?_,Or.inr ⟨fun j h=>hno j (by omega),rfl⟩⟩;exact dw (by omega) (Ev.now _)
 |succ d ih=>
  intro i hd h1 hno;by_cases c:rd t i=a+1
  ·refine⟨s+i,Ev.step (fun k=>by rw[dk.l0]) ?_,Or.inl ⟨i,by omega,h1,c,hno,rfl⟩⟩;refine ba (by omega) (ba (by omega) (ba h1 ?_));rw[qoi ha (by omega),w64 (n:=s+i) (by omega)];exact ba c (Ev.now _)
  ·obtain⟨r,hr,hp⟩:=ih (i-1) (by omega) (by omega) (fun j hj hk=>by
    by_cases e:j=i
    ·subst e;exact c
    ·exact hno j (by omega) hk)
   refine⟨r,Ev.step (fun k=>by rw[dk.l0]) ?_,hp⟩;refine ba (by omega) (ba (by omega) (ba h1 ?_));rw[qoi ha (by omega),w64 (n:=i-1) (by omega)];exact dw c hr
theorem qnq{t:List Int}{s a:Int}(ht:Tab t)(hs:s<=1099511627776)(ha:0<=a)(has:a<s):∃ r,Ev (fun k=>dk.f k t s a) r/\qt t s a r:=by
 have hlen:=ht.1;obtain⟨r,hr,hp⟩:=qns ht hs ha has t.length (t.length-1) (by omega) (by omega) (fun j _ _=>by omega);refine⟨r,?_,hp⟩;unfold dk.f;refine dw (by omega) ?_;rw[ah (by omega)];refine Ev.step (fun k=>by rw[dk.j0]) ?_;refine dw (by decide) ?_;rw[w64 (by omega)];exact hr
theorem qnr{t:List Int}{s a r:Int}(ht:Tab t)(hs:s<=1099511627776)(ha:0<=a)(has:a<s)(h:qt t s a r):Ev (fun k=>dk.f k t s a) r:=by
 obtain⟨q,hq,hp⟩:=qnq ht hs ha has
 rwa[xx hp h]at hq
def qcl(t:List Int)(r:Int):Prop:=
 (0<=r/\r<t.length/\rd t r=0∧∀ j:Int,0<=j->j<r->rd t j≠0)\/(r= -1∧∀ j:Int,0<=j->j<t.length->rd t j≠0)
theorem qni{t:List Int}{r r':Int}(h:qcl t r)(h':qcl t r'):r=r':=by
 rcases h with⟨h0,h1,h2,h3⟩|⟨rfl,h⟩
 ·rcases h' with⟨h0',h1',h2',h3'⟩|⟨rfl,h'⟩
  ·by_cases l:r<r'
   ·exact absurd h2 (h3' r h0 l)
   ·by_cases l':r'<r
    ·exact absurd h2' (h3 r' h0' l')
    ·omega
  ·exact absurd h2 (h' r h0 h1)
 ·rcases h' with⟨h0',h1',h2',h3'⟩|⟨rfl,h'⟩
  ·exact absurd h2' (h r' h0' h1')
  ·rfl
theorem qpo{t:List Int}(ht:Tab t)(d:Nat):∀ i:Int,0<=i->i+d=t.length->(∀ j:Int,0<=j->j<i->rd t j≠0)→∃ r,Ev (fun k=>ga.l0 k t (t.length:Int) i) r/\qcl t r:=by
 have hlen:=ht.1
 induction d with
 |zero=>
  intro i h0 hd hno;refine⟨-1,Ev.step (fun k=>by rw[ga.l0]) ?_,Or.inr ⟨rfl,fun j a b=>hno j a (by omega)⟩⟩;exact dw (by omega) (Ev.now _)
 |succ d ih=>
  intro i h0 hd hno;have hlt:i<(t.length:Int):=by omega
  by_cases c:rd t i=0
  ·refine⟨i,Ev.step (fun k=>by rw[ga.l0]) ?_,Or.inl ⟨h0,hlt,c,hno⟩⟩;exact ba hlt (ba h0 (ba hlt (ba c (Ev.now _))))
  ·obtain⟨r,hr,hp⟩:=ih (i+1) (by omega) (by omega) (fun j hj hk=>by
    by_cases e:j=i
    ·subst e;exact c
    ·exact hno j hj (by omega))
   refine⟨r,Ev.step (fun k=>by rw[ga.l0]) ?_,hp⟩;refine ba hlt (ba h0 (ba hlt (dw c ?_)));rw[w64 (n:=i+1) (by omega)];exact hr
theorem qpm{t:List Int}(ht:Tab t):∃ r,Ev (fun k=>ga.f k t) r/\qcl t r:=
 qpo ht t.length 0 (by omega) (by omega) (fun j _ _=>by omega)
theorem qpn{t:List Int}{r:Int}(ht:Tab t)(h:qcl t r):Ev (fun k=>ga.f k t) r:=by
 obtain⟨q,hq,hp⟩:=qpm ht
 rwa[qni hp h]at hq
theorem mc{t:List Int}{i:Nat}(v j:Int)(hi:i<t.length):rd (t.set i v) j=if j.toNat=i then v else rd t j:=by
 unfold rd;rw[ax,List.getElem?_set,ax];by_cases h:i=j.toNat
 ·rw[if_pos h,if_pos (by omega),if_pos h.symm];rfl
 ·rw[if_neg h,if_neg (fun e=>h e.symm)]
theorem qrl(n:Nat)(j:Int):rd (List.replicate n 0) j=0:=by
 unfold rd;rw[ax,List.getElem?_replicate];by_cases h:j.toNat<n
 ·rw[if_pos h];rfl
 ·rw[if_neg h];rfl
theorem qnt{t:List Int}{s a b x y:Int}(ha:0<=a/\a<s)(hb:0<=b/\b<s)(hx:qt t s a x)(hy:qt t s b y):x=y<->a=b:=by
 constructor
 ·intro h;rcases hx with⟨i,h0,h1,h2,h3,h4⟩|⟨h1,h2⟩
  ·rcases hy with⟨i',h0',h1',h2',h3',h4'⟩|⟨h1',h2'⟩
   ·have e:i=i':=by omega
    subst e;omega
   ·omega
  ·rcases hy with⟨i',h0',h1',h2',h3',h4'⟩|⟨h1',h2'⟩
   ·omega
   ·omega
 ·intro h;subst h;exact xx hx hy
def pq(n m:Int):Prop:=1<=n/\n<=100000/\0<=m/\m<=9223372036854775807
theorem qst(n m:Int)(hm:m<=9223372036854775807):(pq n m/\lu.f n m=some true)\/(¬ pq n m/\lu.f n m=some false):=by
 unfold lu.f pq;by_cases h1:n>=1
 ·rw[if_pos h1];by_cases h2:n<=100000
  ·rw[if_pos h2];by_cases h3:m>=0
   ·left;exact⟨⟨h1,h2,h3,hm⟩,by rw[af h3]⟩
   ·right;exact⟨fun h=>h3 h.2.2.1,by rw[ah h3]⟩
  ·rw[if_neg h2];right;exact⟨fun h=>h2 h.2.1,rfl⟩
 ·rw[if_neg h1];right;exact⟨fun h=>h1 h.1,rfl⟩
theorem qhk{n m:Int}(h:pq n m):lu.f n m=some true:=by
 rcases qst n m h.2.2.2 with h1|h1
 ·exact h1.2
 ·exact absurd h h1.1
theorem qed{m n:Int}(hn:1<=n):0<=m % n/\m % n<n:=⟨Int.emod_nonneg _ (by omega),Int.emod_lt_of_pos _ (by omega)⟩
theorem qsr{m n:Int}(hm:0<=m)(hn:1<=n):0<=m / n/\m / n<=m:=⟨Int.ediv_nonneg hm (by omega),Int.ediv_le_self _ hm⟩
def ku(n m:Int):Int:=n-m % (n+1)
def kg(n m:Int):Int:=m / (n+1) % n
def jb(n m l:Int):Int:=if ku n m<=(l+kg n m) % n then(l+kg n m) % n+1 else(l+kg n m) % n
def qqg(n m s:Int):Int:=(if ku n m<s then s-1+n-kg n m else s+n-kg n m) % n
theorem vz{n m:Int}(h:pq n m):0<=ku n m/\ku n m<=n:=by
 have:=qed (m:=m) (n:=n+1) (by have:=h.1;omega);unfold ku;omega
theorem qkn{n m:Int}(h:pq n m):0<=kg n m/\kg n m<n:=by
 unfold pq at h;exact qed (by omega)
theorem qm0{n m:Int}(h:pq n m):my.f n m=some (ku n m):=by
 have hr:=vz h;unfold my.f;rw[qhk h];unfold pq at h;unfold ku at hr ⊢;rw[w64 (n:=n+1) (by omega),qdt h.2.2.1];simp only[Option.bind_some,if_true];rw[if_neg (by omega),w64 (by omega)]
theorem qme{n m:Int}(h:pq n m):mj.f n m=some (kg n m):=by
 unfold mj.f;unfold pq at h;have:=qsr (m:=m) (n:=n+1) h.2.2.1 (by omega);rw[w64 (n:=n+1) (by omega),qds h.2.2.1,if_neg (by omega),if_neg (by omega),w64 (by omega),qdt this.1];rfl
theorem qgl{n m l:Int}(h:pq n m)(h0:0<=l)(h1:l<n):Ev (fun k=>gz.f k n m l) (jb n m l):=by
 have ht:=qkn h;have hg:=vz h;refine qq0 fun k=>?_;unfold gz.f;rw[qhk h];simp only[Option.bind_some,if_true];rw[if_neg (by omega),ah (by omega)];simp only[gz.j0];rw[qme h,qm0 h];unfold pq at h;simp only[Option.bind_some];have hp:=qed (m:=l+kg n m) (n:=n) h.1;rw[if_neg (by decide),if_neg (by omega),w64 (n:=l+kg n m) (by omega),qdt (by omega),w64 (n:=(l+kg n m) % n+1) (by omega)];unfold jb;by_cases hc:ku n m<=(l+kg n m) % n
 ·rw[if_pos hc,if_pos hc]
 ·rw[if_neg hc,if_neg hc]
theorem qpg{n m:Int}(h:pq n m):sf.f n m=some (if ku n m=0 then(n,0)else(ku n m-1,ku n m)):=by
 have hg:=vz h;unfold sf.f;rw[qm0 h];unfold pq at h;simp only[Option.bind_some];rw[if_neg (by omega)];by_cases h0:ku n m=0
 ·rw[if_pos h0,if_pos h0]
 ·rw[if_neg h0,if_neg h0,w64 (by omega)]
theorem dm{a b q r:Int}(hb:0<b)(h:a=b*q+r)(h0:0<=r)(h1:r<b):a / b=q/\a % b=r:=
 (Int.ediv_emod_unique hb).2 ⟨by omega,h0,h1⟩
theorem qoa{x n:Int}(hn:1<=n):(x+1) % n=if x % n+1=n then 0 else x % n+1:=by
 have h:=Int.mul_ediv_add_emod x n;have hr:=qed (m:=x) hn;by_cases h1:x % n+1=n
 ·rw[if_pos h1];refine(dm (q:=x / n+1) (by omega) ?_ (by omega) (by omega)).2;rw[Int.mul_add];omega
 ·rw[if_neg h1];exact(dm (q:=x / n) (by omega) (by omega) (by omega) (by omega)).2
def ww(n m l:Int):Int:=(l+m / (n+1)) % n
theorem qam(n m l:Int):jb n m l=if n-m % (n+1)<=ww n m l then ww n m l+1 else ww n m l:=by
 unfold jb ku kg ww;rw[Int.add_emod_emod]
theorem qp0{n m j:Int}(hn:1<=n)(hj:0<=j)(h:m % (n+1)+j<=n):(m+j) % (n+1)=m % (n+1)+j∧∀ l,ww n (m+j) l=ww n m l:=by
 have e:=Int.mul_ediv_add_emod m (n+1);have hr:=qed (m:=m) (n:=n+1) (by omega);have:=dm (a:=m+j) (b:=n+1) (q:=m / (n+1)) (r:=m % (n+1)+j) (by omega) (by omega) (by omega) (by omega);exact⟨this.2,fun l=>by unfold ww;rw[this.1]⟩
theorem qp1{n m j:Int}(hn:1<=n)(h:n<m % (n+1)+j)(hj:j<=n+1):(m+j) % (n+1)=m % (n+1)+j-n-1∧∀ l,ww n (m+j) l=if ww n m l+1=n then 0 else ww n m l+1:=by
 have e:=Int.mul_ediv_add_emod m (n+1);have hr:=qed (m:=m) (n:=n+1) (by omega);have:=dm (a:=m+j) (b:=n+1) (q:=m / (n+1)+1) (r:=m % (n+1)+j-n-1) (by omega) (by rw[Int.mul_add];omega) (by omega) (by omega);refine⟨this.2,fun l=>?_⟩;unfold ww;rw[this.1,show l+(m / (n+1)+1)=l+m / (n+1)+1 from by omega];exact qoa hn
theorem qqn{n m l:Int}(hn:1<=n):0<=ww n m l/\ww n m l<n:=qed hn
def qgb(s a:Int):Int->List Int->Int->Int
 |_,[],acc=>acc
 |i,x::r,acc=>qgb s a (i+1) r (if x=a+1 then s+i else acc)
def ia(t:List Int)(s a:Int):Int:=qgb s a 0 t a
def qkh:Int->List Int->Int
 |_,[]=> -1
 |i,x::r=>if x=0 then i else qkh (i+1) r
def sj(t:List Int):Int:=qkh 0 t
theorem qrj(p:List Int)(x:Int)(q:List Int):rd (p++x::q) (p.length:Int)=x:=by simp[rd]
theorem qe3(s a:Int):∀ (q p:List Int) (acc:Int),qt p s a acc->qt (p++q) s a (qgb s a p.length q acc)
 |[],p,acc,h=>by rw[List.append_nil];exact h
 |x::q,p,acc,h=>by
  have e:p++x::q=(p++[x])++q:=by simp
  have ln:((p++[x]).length:Int)=p.length+1:=by simp
  have hl:∀ j:Int,0<=j->j<p.length->rd (p++[x]) j=rd p j:=fun j j0 j1=>by
   unfold rd
   rw[ax,ax,List.getElem?_append_left (by omega)]
  have hx:rd (p++[x]) (p.length:Int)=x:=by simp[rd]
  rw[e,qgb,←ln]
  refine qe3 s a q (p++[x]) _ ?_
  by_cases c:x=a+1
  ·rw[if_pos c]
   exact .inl ⟨p.length,by omega,by rw[ln];omega,by rw[hx];exact c,fun j j0 j1=>by rw[ln]at j1;omega,rfl⟩
  ·rw[if_neg c]
   rcases h with⟨i,i0,i1,i2,i3,rfl⟩|⟨h,rfl⟩
   ·refine .inl ⟨i,i0,by rw[ln];omega,by rw[hl i i0 i1];exact i2,fun j j0 j1=>?_,rfl⟩
    rw[ln]at j1
    by_cases e:j=p.length
    ·subst e;rw[hx];exact c
    ·rw[hl j (by omega) (by omega)];exact i3 j j0 (by omega)
   ·refine .inr ⟨fun j j0 j1=>?_,rfl⟩
    rw[ln]at j1
    by_cases e:j=p.length
    ·subst e;rw[hx];exact c
    ·rw[hl j (by omega) (by omega)];exact h j j0 (by omega)
theorem oe(t:List Int)(s a:Int):qt t s a (ia t s a):=by
 have:=qe3 s a t [] a (.inr ⟨fun j j0 j1=>by simp at j1;omega,rfl⟩);exact this
theorem qhx:∀ (q p:List Int),(∀ j:Int,0<=j->j<p.length->rd (p++q) j≠0)->qcl (p++q) (qkh p.length q)
 |[],p,h=>.inr ⟨rfl,fun j j0 j1=>h j j0 (by simpa using j1)⟩
 |x::q,p,h=>by
  have e:p++x::q=(p++[x])++q:=by simp
  have ln:((p++[x]).length:Int)=p.length+1:=by simp
  have hx:rd (p++x::q) (p.length:Int)=x:=qrj p x q
  rw[qkh]
  by_cases c:x=0
  ·rw[if_pos c]
   exact .inl ⟨by omega,by simp;omega,by rw[hx];exact c,h⟩
  ·rw[if_neg c]
   have ih:=qhx q (p++[x]) (fun j j0 j1=>by
    rw[ln]at j1
    rw[<-e]
    by_cases e2:j=p.length
    ·subst e2;rw[hx];exact c
    ·exact h j j0 (by omega))
   rw[ln]at ih
   rw[e]
   exact ih
theorem qde(t:List Int):qcl t (sj t):=qhx t [] (fun j j0 j1=>by simp at j1;omega)
theorem qnp{t:List Int}{s a:Int}(ht:Tab t)(hs:s<=1099511627776)(ha:0<=a)(has:a<s):∃ k,dk.f k t s a=some (ia t s a):=(qnr ht hs ha has (oe t s a)).rounds
theorem qpl{t:List Int}(ht:Tab t):∃ k,ga.f k t=some (sj t):=(qpn ht (qde t)).rounds
end Go.Proofs.YtmfhaliclnnbaaaGreat.Pl
