import Derived.Test.YtmfhaliclnnbaaaGreatZTopWholeM1
import Derived.Test.YtmfhaliclnnbaaaGreatZTopWholeM4
namespace Go.Proofs.YtmfhaliclnnbaaaGreat.XTopWhole
open Go.RowKit Go.Proofs.YtmfhaliclnnbaaaGreatW.PrintWords Go.Proofs.YtmfhaliclnnbaaaGreatW.PrintLast Go.Proofs.YtmfhaliclnnbaaaGreatW.PrintMore
attribute [local go_sem] uf uh xn xp ry r9 ug ui
set_option linter.unusedVariables false
set_option linter.unusedSimpArgs false
set_option maxRecDepth 100000
set_option maxHeartbeats 8000000
mutual
def bh.l0:Nat->List Int->Int->List (S160)->List Int->Int->Int->Option ((List (S160))×Bool)
 |0,_,_,_,_,_,_=>none
 |k+1,x0,x1,x8,x19,x20,x21=>if x21<x20 then(if 0<=x21 then(if x21<(x19.length:Int)then(if(x8.length:Int)=0 then(bh.j1 k x0 x1 x8 (rd x19 x21) (wrap64 (x1+x21)) x19 x20 x21 true)else(if 0<=(wrap64 ((x8.length:Int)-1))then(if(wrap64 ((x8.length:Int)-1))<(x8.length:Int)then(bh.j1 k x0 x1 x8 (rd x19 x21) (wrap64 (x1+x21)) x19 x20 x21 (((bw x8 (wrap64 ((x8.length:Int)-1))).f0) != (wrap64 (Int.tdiv (wrap64 (x1+x21)) 8))))else(none))else(none)))else(none))else(none))else(some (x8,true))
def bh.j2:Nat->List Int->Int->List (S160)->List Int->Int->Int->Option ((List (S160))×Bool)
 |0,_,_,_,_,_,_=>none
 |k+1,x0,x1,x8,x19,x20,x21=>bh.l0 k x0 x1 x8 x19 x20 (wrap64 (x21+1))
def bh.j1:Nat->List Int->Int->List (S160)->Int->Int->List Int->Int->Int->Bool->Option ((List (S160))×Bool)
 |0,_,_,_,_,_,_,_,_,_=>none
 |k+1,x0,x1,x8,x10,x11,x19,x20,x21,x43=>if x43=true then(if 0<=(wrap64 (Int.tdiv x11 8))then(if(wrap64 (Int.tdiv x11 8))<(x0.length:Int)then(if x8.length<8796093022208 then((some (x8++[(⟨wrap64 (Int.tdiv x11 8),rd x0 (wrap64 (Int.tdiv x11 8))⟩:S160)]:List (S160))).bind fun y404=>(if 0<=(wrap64 ((y404.length:Int)-1))then(if(wrap64 ((y404.length:Int)-1))<(y404.length:Int)then(if 0<=(wrap64 ((Int.tmod x11 8)*8))then(bh.j2 k x0 x1 (y404.set ((wrap64 ((y404.length:Int)-1)):Int).toNat (⟨(bw y404 (wrap64 ((y404.length:Int)-1))).f0,Go.bits .or .u64 (Go.bits .andNot .u64 ((bw y404 (wrap64 ((y404.length:Int)-1))).f1) (shl .u64 255 (wrap64 ((Int.tmod x11 8)*8)))) (shl .u64 (IntKind.u64.wrap (x10)) (wrap64 ((Int.tmod x11 8)*8)))⟩:S160)) x19 x20 x21)else(none))else(none))else(none)))else(none))else(none))else(none))else(if 0<=(wrap64 ((x8.length:Int)-1))then(if(wrap64 ((x8.length:Int)-1))<(x8.length:Int)then(if 0<=(wrap64 ((Int.tmod x11 8)*8))then(bh.j2 k x0 x1 (x8.set ((wrap64 ((x8.length:Int)-1)):Int).toNat (⟨(bw x8 (wrap64 ((x8.length:Int)-1))).f0,Go.bits .or .u64 (Go.bits .andNot .u64 ((bw x8 (wrap64 ((x8.length:Int)-1))).f1) (shl .u64 255 (wrap64 ((Int.tmod x11 8)*8)))) (shl .u64 (IntKind.u64.wrap (x10)) (wrap64 ((Int.tmod x11 8)*8)))⟩:S160)) x19 x20 x21)else(none))else(none))else(none))
end
def bh.f(k:Nat)(l0:List Int)(a1:Int)(l2:List Int):Option ((List (S160))×Bool):=(ix.f l0 a1 (l2.length:Int)).bind fun t400=>(if t400=true then(bh.l0 k l0 a1 ([]:List (S160)) l2 (l2.length:Int) 0)else(some (([]:List (S160)),false)))
def bh.T11:Bool×List (List Nat×List Nat):=(true,[([],[]),([],[]),([1],[1]),([2],[2]),([3],[3]),([],[]),([5],[5]),([6],[6]),([7],[7]),([4,8],[4,8]),([],[]),([10],[10]),([],[]),([12],[12]),([13],[13]),([11,14],[11,14]),([9,15],[9,15]),([0,0,1,2,3,4,5,6,7,8,9,10,11,12,13,14,15,16],[0]),([17,0,1,2,3,4,5,6,7,8,9,10,11,12,13,14,15,16],[17]),([18,16,0,1,2,3,4,5,6,7,8,9,10,11,12,13,14,15,16],[16,18])])
def bh.B11:List Nat:=[0,0,2,6,14,0,32,96,224,510,0,1024,0,4096,12288,31744,65534,131071,262143,524287]
theorem bh.tab11:qy .any (qql Tryz.f148 11)=bh.T11:=by kernel_rfl
theorem bh.bits11:ye bh.T11.2 bh.B11=true:=by kernel_rfl
theorem bh.calls (k : Nat) (A0 : Option Addr) (c0 : Nat) (l0 : List Int) (a1 : Int) (A2 : Option Addr) (c2 : Nat) (l2 : List Int) (r1 : List (S160)) (r2 : Bool) (w : World) (hr0 : Kd.C (Kd.int .u64) w A0 l0.length l0) (hc0 : l0.length ≤ c0) (hr2 : Kd.C (Kd.int .u8) w A2 l2.length l2) (hc2 : l2.length ≤ c2) (h : bh.f k l0 a1 l2 = some (r1, r2)) : Calls Tryz.prog 148 #[.slice A0 l0.length c0, .int .i64 a1, .slice A2 l2.length c2] w fun e w' => ∃ v0_ : Value, e = .returned (.tuple #[v0_, .bool r2]) ∧ Kd.R jp 160 w' w.heap.size (fun _ => True) v0_ r1 ∧ Below w.heap.size w w' := by
 have hu160:=Tryz.underlying160;have HR0:=am hr0;have HC0:=am hc0;clear hr0 hc0;have HR2:=am hr2;have HC2:=am hc2;clear hr2 hc2;have HB:=am (ai w.heap.size w);have H:((ix.f l0 a1 (l2.length:Int)).bind fun t400=>(if t400=true then(bh.l0 k l0 a1 ([]:List (S160)) l2 (l2.length:Int) 0)else(some (([]:List (S160)),false))))=some (r1,r2):=h;clear h;replace H:=Option.bind_eq_some_iff.mp H;obtain⟨t400,A40,H⟩:=H
 try dsimp only at H
 have A4:=am A40;clear A40;by_cases c5:t400=true
 ·subst c5;have H1 : (bh.l0 k l0 a1 ([] : List (S160)) l2 (l2.length : Int) 0) = some (r1, r2) := by rw [if_pos rfl] at H; exact H
  clear H;have H:=H1;clear H1;have H':=am H;clear H;go_enter Tryz.func148,Tryz.ntmps148;go_wp2_with (first|((with_reducible refine ay (f:=172) rfl ?_);refine zl (some 17) Tryz.func172 #[.slice A0 l0.length c0, .int .i64 a1, .int .i64 (l2.length:Int)] ?_;(with_reducible refine(ix.calls _ _ l0 a1 (l2.length:Int) true _ ?side1 ?side2 A4.out).mono ?_);(case side1=>exact zc HR0.out);(case side2=>exact HC0.out);rintro e w' ⟨rfl,⟨nd,rfl⟩⟩;refine⟨_,rfl,?_⟩))
  go_loopg [8,21] k (fun kq v8 v21 w'=>∃ (x8_1:List (S160)) (x21_1:Int),v21=.int .i64 x21_1/\Aside0 (bh.l0 kq l0 a1 x8_1 l2 (l2.length:Int) x21_1=some (r1,r2))/\Aside0 (kq<=k)/\Aside0 (Kd.R jp 160 w' w.heap.size (fun _=>True) v8 x8_1)/\Aside0 (Below w.heap.size w w'))
  case atStart=>exact⟨(([]:List (S160))),(0),zs,H',⟨an _⟩,⟨by first|exact Kd.R_nil _ _ _ _ _|exact Kd.N_nil _ _ _ _ _|exact Kd.V_nil _ _ _ _ _|exact Kd.Q_nil _ _ _ _ _|exact Kd.S_nil _ _ _ _ _⟩,⟨zB HB⟩⟩
  case round =>
   clear H'
   try clear c2
   try clear c5
   obtain⟨x8_1,x21_1,rfl,HA,HK1,HO_8,HB⟩:=hrel;cases gk with
   |zero=>exact absurd HA.out (by simp[bh.l0])
   | succ k1 =>
    have H:=HA.out;clear HA;simp only[bh.l0]at H;by_cases c6:x21_1<(l2.length:Int)
    ·rw [if_pos c6] at H;have c6b0 := af c6;clear c6;have HC7 := am H;clear H;go_upto_block 1 with (fail);go_cut [8] (fun v8 wc => ∃ (kq : Nat) (x8_6 : List (S160)), Aside0 (bh.j2 kq l0 a1 x8_6 l2 (l2.length : Int) x21_1 = some (r1, r2)) ∧ Aside0 (kq ≤ k1) ∧ Aside0 (Kd.R jp 160 wc w.heap.size (fun _ => True) v8 x8_6) ∧ Aside0 (Below w.heap.size w wc))
     case first =>
      have H:=HC7.out;clear HC7;by_cases c8:0<=x21_1
      ·rw [if_pos c8] at H;have c8b0 := af c8;clear c8
       (first|rw[c8b0]|(simp only[bu,iu];rw[c8b0])|skip)
       by_cases c9:x21_1<(l2.length:Int)
       ·rw [if_pos c9] at H;have c9b0 := af c9;clear c9;have HC10 := am H;clear H;have p401 : 0 ≤ (x21_1 : Int) := zu;have q401 : x21_1 < (l2.length : Int) := zu;obtain ⟨ad401, e401, hx401_0⟩ := Kd.at_int HR2.out x21_1 p401 q401;cases e401;replace hx401_0 := zw HB hx401_0;replace p401 := eq_true p401;replace q401 := eq_true q401;go_upto_region 8 with (fail);go_cut [43] (fun v43 wc => ∃ (kq : Nat) (x43_9 : Bool), v43 = .bool x43_9 ∧ Aside0 (bh.j1 kq l0 a1 x8_1 (rd l2 x21_1) (wrap64 (a1 + x21_1)) l2 (l2.length : Int) x21_1 x43_9 = some (r1, r2)) ∧ Aside0 (kq ≤ k1) ∧ Aside0 (Kd.R jp 160 wc w.heap.size (fun _ => True) u8 x8_1) ∧ Aside0 (Below w.heap.size w wc))
        case first=>
         have H:=HC10.out;clear HC10;by_cases c11:(x8_1.length:Int)=0
         ·rw[if_pos c11]at H;have c11b0:((x8_1.length:Int)==0)=true:=beq_iff_eq.mpr c11;have c11b1:((x8_1.length:Int) != 0)=false:=bne_eq_false_iff_eq.mpr c11;clear c11
          (first|rw[c11b0]|(simp only[bu,iu];rw[c11b0])|skip)
          have H':=am H;clear H;obtain⟨Ao12,co12,eo12⟩:=Kd.R_slice HO_8.out;subst eo12;go_wp2;go_meet
          case rel=>exact⟨_,(true),zs,H',⟨by have:=HK1.out;first|omega|exact an _⟩,⟨zr HO_8⟩,⟨zB HB⟩⟩
         ·rw[if_neg c11]at H;have c11b0:((x8_1.length:Int)==0)=false:=beq_eq_false_iff_ne.mpr c11;have c11b1:((x8_1.length:Int) != 0)=true:=bne_iff_ne.mpr c11;have c11b2:¬ (x8_1=[]):=fun h_=>c11 (by rw[h_];rfl)
          (first|rw[c11b0]|(simp only[bu,iu];rw[c11b0])|skip)
          obtain⟨ji13,hji13⟩:∃ j_:Int,(wrap64 ((x8_1.length:Int)-1))=j_:=⟨_,rfl⟩;replace H:(if 0<=(ji13)then(if(ji13)<(x8_1.length:Int)then(bh.j1 k1 l0 a1 x8_1 (rd l2 x21_1) (wrap64 (a1+x21_1)) l2 (l2.length:Int) x21_1 (((bw x8_1 (ji13)).f0) != (wrap64 (Int.tdiv (wrap64 (a1+x21_1)) 8))))else(none))else(none))=some (r1,r2):=by first|(rw[hji13]at H;exact H)|(simp only[hji13]at H ⊢;exact H)
          have hji13w:(IntKind.i64.wrap ((x8_1.length:Int)-1))=ji13:=(bu _).trans hji13;by_cases c14:0<=(ji13)
          ·rw[if_pos c14]at H;have c14b0:=af c14;clear c14;by_cases c15:(ji13)<(x8_1.length:Int)
           ·rw[if_pos c15]at H;have c15b0:=af c15;clear c15;have H':=am H;clear H;obtain⟨Ao16,co16,eo16⟩:=Kd.R_slice HO_8.out;subst eo16;have p402:0<=((ji13):Int):=zu;have q402:(ji13)<(x8_1.length:Int):=zu;obtain⟨ad402,e402,hx402_0,hx402_1⟩:=qfr (Kd.R_reads' HO_8.out).2.2 (ji13) p402 q402;cases e402;replace p402:=eq_true p402;replace q402:=eq_true q402;go_wp2;go_meet
            case rel=>exact⟨_,((((bw x8_1 (ji13)).f0) != (wrap64 (Int.tdiv (wrap64 (a1+x21_1)) 8)))),(by first|rfl|(simp;done)|(simp only[<-hji13] <;> (first|rfl|simp))|(simp[*];done)),(by first|exact H'|(simp only[hji13];exact H')),⟨by have:=HK1.out;first|omega|exact an _⟩,⟨zr HO_8⟩,⟨zB HB⟩⟩
           ·rw[if_neg c15]at H;exact absurd H (by simp)
          ·rw[if_neg c14]at H;exact absurd H (by simp)
        case rest =>
         clear HC10
         try clear c2
         try clear c5
         try clear c6
         try clear c6b0
         try clear c8
         try clear c8b0
         try clear c9
         try clear c9b0
         try clear c11
         try clear c11b0
         try clear c11b1
         try clear c11b2
         try clear c14
         try clear c14b0
         try clear c15
         try clear c15b0
         try clear hx401_0
         try clear hx402_0
         try clear hx402_1
         try clear p401
         try clear p402
         try clear q401
         try clear q402
         obtain⟨kq,x43_9,rfl,HA,HJ9,HO_8,HB⟩:=hcut;cases kq with
         |zero=>exact absurd HA.out (by simp[bh.j1])
         | succ kj9 =>
          have H:=HA.out;clear HA;simp only[bh.j1]at H;by_cases c17:x43_9=true
          ·subst c17;have H1 : (if 0 ≤ (wrap64 (Int.tdiv (wrap64 (a1 + x21_1)) 8)) then (if (wrap64 (Int.tdiv (wrap64 (a1 + x21_1)) 8)) < (l0.length : Int) then (if x8_1.length < 8796093022208 then ((some (x8_1 ++ [(⟨wrap64 (Int.tdiv (wrap64 (a1 + x21_1)) 8), rd l0 (wrap64 (Int.tdiv (wrap64 (a1 + x21_1)) 8))⟩ : S160)] : List (S160))).bind fun y404 => (if 0 ≤ (wrap64 ((y404.length : Int) - 1)) then (if (wrap64 ((y404.length : Int) - 1)) < (y404.length : Int) then (if 0 ≤ (wrap64 ((Int.tmod (wrap64 (a1 + x21_1)) 8) * 8)) then (bh.j2 kj9 l0 a1 (y404.set ((wrap64 ((y404.length : Int) - 1)) : Int).toNat (⟨(bw y404 (wrap64 ((y404.length : Int) - 1))).f0, Go.bits .or .u64 (Go.bits .andNot .u64 ((bw y404 (wrap64 ((y404.length : Int) - 1))).f1) (shl .u64 255 (wrap64 ((Int.tmod (wrap64 (a1 + x21_1)) 8) * 8)))) (shl .u64 (IntKind.u64.wrap ((rd l2 x21_1))) (wrap64 ((Int.tmod (wrap64 (a1 + x21_1)) 8) * 8)))⟩ : S160)) l2 (l2.length : Int) x21_1) else (none)) else (none)) else (none))) else (none)) else (none)) else (none)) = some (r1, r2) := by rw [if_pos rfl] at H; exact H
           clear H;have H:=H1;clear H1;obtain⟨ji18,hji18⟩:∃ j_:Int,(wrap64 (Int.tdiv (wrap64 (a1+x21_1)) 8))=j_:=⟨_,rfl⟩;replace H:(if 0<=(ji18)then(if(ji18)<(l0.length:Int)then(if x8_1.length<8796093022208 then((some (x8_1++[(⟨ji18,rd l0 (ji18)⟩:S160)]:List (S160))).bind fun y404=>(if 0<=(wrap64 ((y404.length:Int)-1))then(if(wrap64 ((y404.length:Int)-1))<(y404.length:Int)then(if 0<=(wrap64 ((Int.tmod (wrap64 (a1+x21_1)) 8)*8))then(bh.j2 kj9 l0 a1 (y404.set ((wrap64 ((y404.length:Int)-1)):Int).toNat (⟨(bw y404 (wrap64 ((y404.length:Int)-1))).f0,Go.bits .or .u64 (Go.bits .andNot .u64 ((bw y404 (wrap64 ((y404.length:Int)-1))).f1) (shl .u64 255 (wrap64 ((Int.tmod (wrap64 (a1+x21_1)) 8)*8)))) (shl .u64 (IntKind.u64.wrap ((rd l2 x21_1))) (wrap64 ((Int.tmod (wrap64 (a1+x21_1)) 8)*8)))⟩:S160)) l2 (l2.length:Int) x21_1)else(none))else(none))else(none)))else(none))else(none))else(none))=some (r1,r2):=by first|(rw[hji18]at H;exact H)|(simp only[hji18]at H ⊢;exact H)
           have hji18w:(IntKind.i64.wrap (Int.tdiv (wrap64 (a1+x21_1)) 8))=ji18:=(bu _).trans hji18;by_cases c19:0<=(ji18)
           ·rw [if_pos c19] at H;have c19b0 := af c19;clear c19;by_cases c20 : (ji18) < (l0.length : Int)
            ·rw [if_pos c20] at H;have c20b0 := af c20;clear c20;by_cases c21 : x8_1.length < 8796093022208
             ·rw [if_pos c21] at H;have LMc21 := am c21;clear c21;obtain ⟨y404, hy404⟩ : ∃ y_ : List (S160), y_ = (x8_1 ++ [(⟨ji18, rd l0 (ji18)⟩ : S160)]) := ⟨_, rfl⟩;replace H : (if 0 ≤ (wrap64 ((y404.length : Int) - 1)) then (if (wrap64 ((y404.length : Int) - 1)) < (y404.length : Int) then (if 0 ≤ (wrap64 ((Int.tmod (wrap64 (a1 + x21_1)) 8) * 8)) then (bh.j2 kj9 l0 a1 (y404.set ((wrap64 ((y404.length : Int) - 1)) : Int).toNat (⟨(bw y404 (wrap64 ((y404.length : Int) - 1))).f0, Go.bits .or .u64 (Go.bits .andNot .u64 ((bw y404 (wrap64 ((y404.length : Int) - 1))).f1) (shl .u64 255 (wrap64 ((Int.tmod (wrap64 (a1 + x21_1)) 8) * 8)))) (shl .u64 (IntKind.u64.wrap ((rd l2 x21_1))) (wrap64 ((Int.tmod (wrap64 (a1 + x21_1)) 8) * 8)))⟩ : S160)) l2 (l2.length : Int) x21_1) else (none)) else (none)) else (none)) = some (r1, r2) := by first | (rw [hy404]; with_reducible exact H) | (have H2_ := (Option.bind_some _ _).symm.trans H; rw [hy404]; with_reducible exact H2_) | (have H2_ := (Option.bind_some _ _).symm.trans H; with_reducible exact H2_) | with_reducible exact H | (rw [hy404]; exact H) | exact H
              have Ny404:=am hy404;clear hy404;obtain⟨ji22,hji22⟩:∃ j_:Int,(wrap64 ((y404.length:Int)-1))=j_:=⟨_,rfl⟩;replace H:(if 0<=(ji22)then(if(ji22)<(y404.length:Int)then(if 0<=(wrap64 ((Int.tmod (wrap64 (a1+x21_1)) 8)*8))then(bh.j2 kj9 l0 a1 (y404.set ((ji22):Int).toNat (⟨(bw y404 (ji22)).f0,Go.bits .or .u64 (Go.bits .andNot .u64 ((bw y404 (ji22)).f1) (shl .u64 255 (wrap64 ((Int.tmod (wrap64 (a1+x21_1)) 8)*8)))) (shl .u64 (IntKind.u64.wrap ((rd l2 x21_1))) (wrap64 ((Int.tmod (wrap64 (a1+x21_1)) 8)*8)))⟩:S160)) l2 (l2.length:Int) x21_1)else(none))else(none))else(none))=some (r1,r2):=by first|(rw[hji22]at H;exact H)|(simp only[hji22]at H ⊢;exact H)
              have hji22w:(IntKind.i64.wrap ((y404.length:Int)-1))=ji22:=(bu _).trans hji22;by_cases c23:0<=(ji22)
              ·rw [if_pos c23] at H;have c23b0 := af c23;clear c23;by_cases c24 : (ji22) < (y404.length : Int)
               ·rw[if_pos c24]at H;have c24b0:=af c24;clear c24;obtain⟨ji26,hji26⟩:∃ j_:Int,(wrap64 ((Int.tmod (wrap64 (a1+x21_1)) 8)*8))=j_:=⟨_,rfl⟩;replace H:(if 0<=(ji26)then(bh.j2 kj9 l0 a1 (y404.set ((ji22):Int).toNat (⟨(bw y404 (ji22)).f0,Go.bits .or .u64 (Go.bits .andNot .u64 ((bw y404 (ji22)).f1) (shl .u64 255 (ji26))) (shl .u64 (IntKind.u64.wrap ((rd l2 x21_1))) (ji26))⟩:S160)) l2 (l2.length:Int) x21_1)else(none))=some (r1,r2):=by first|(rw[hji26]at H;exact H)|(simp only[hji26]at H ⊢;exact H)
                have hji26w:(IntKind.i64.wrap ((Int.tmod (wrap64 (a1+x21_1)) 8)*8))=ji26:=(bu _).trans hji26;by_cases c27:0<=(ji26)
                ·rw[if_pos c27]at H;have c27b0:=eq_true c27;have c27b1:=af c27;clear c27;obtain⟨ji28,hji28⟩:∃ j_:Int,(shl .u64 255 (ji26))=j_:=⟨_,rfl⟩;replace H:(bh.j2 kj9 l0 a1 (y404.set ((ji22):Int).toNat (⟨(bw y404 (ji22)).f0,Go.bits .or .u64 (Go.bits .andNot .u64 ((bw y404 (ji22)).f1) (ji28)) (shl .u64 (IntKind.u64.wrap ((rd l2 x21_1))) (ji26))⟩:S160)) l2 (l2.length:Int) x21_1)=some (r1,r2):=by first|(rw[hji28]at H;exact H)|(simp only[hji28]at H ⊢;exact H)
                 have hji28_:(IntKind.u64.wrap (255*2 ^ min (ji26).toNat 64))=ji28:=hji28;have hji28z:(ji26)<=64->(IntKind.u64.wrap (255*2 ^ (ji26).toNat))=ji28:=yc hji28;have c29b0:=eq_true (zu:0<=(ji26));obtain⟨ji30,hji30⟩:∃ j_:Int,(shl .u64 (IntKind.u64.wrap ((rd l2 x21_1))) (ji26))=j_:=⟨_,rfl⟩;replace H:(bh.j2 kj9 l0 a1 (y404.set ((ji22):Int).toNat (⟨(bw y404 (ji22)).f0,Go.bits .or .u64 (Go.bits .andNot .u64 ((bw y404 (ji22)).f1) (ji28)) (ji30)⟩:S160)) l2 (l2.length:Int) x21_1)=some (r1,r2):=by first|(rw[hji30]at H;exact H)|(simp only[hji30]at H ⊢;exact H)
                 have hji30_:(IntKind.u64.wrap ((IntKind.u64.wrap ((rd l2 x21_1)))*2 ^ min (ji26).toNat 64))=ji30:=hji30;have hji30z:(ji26)<=64->(IntKind.u64.wrap ((IntKind.u64.wrap ((rd l2 x21_1)))*2 ^ (ji26).toNat))=ji30:=yc hji30;obtain⟨y408,hy408⟩:∃ y_:List (S160),y_=(y404.set ((ji22):Int).toNat (⟨(bw y404 (ji22)).f0,Go.bits .or .u64 (Go.bits .andNot .u64 ((bw y404 (ji22)).f1) (ji28)) (ji30)⟩:S160)):=⟨_,rfl⟩;replace H:(bh.j2 kj9 l0 a1 y408 l2 (l2.length:Int) x21_1)=some (r1,r2):=by first|(rw[hy408];with_reducible exact H)|(have H2_:=(Option.bind_some _ _).symm.trans H;rw[hy408];with_reducible exact H2_)|(have H2_:=(Option.bind_some _ _).symm.trans H;with_reducible exact H2_)|with_reducible exact H|(rw[hy408];exact H)|exact H
                 have Ny408:=am hy408;clear hy408;have H':=am H;clear H;have p403:0<=((ji18):Int):=zu;have q403:(ji18)<(l0.length:Int):=zu;obtain⟨ad403,e403,hx403_0⟩:=Kd.at_int HR0.out (ji18) p403 q403;cases e403;replace hx403_0:=zw HB hx403_0;replace p403:=eq_true p403;replace q403:=eq_true q403
                 try go_wp2_with (first|((with_reducible refine di (b:=.append) (xs:=#[.tmp 44, .tmp 53]) rfl ?_);(try (refine il (by rfl) ?_;dsimp only));at_builtin;refine Kd.R_append jp (w0:=w) w.heap.size rfl (.tmp 44) (.tmp 53) 59 160 (.agg #[(.int .i64 0),(.int .u64 0)]) 16 rfl Tryz.underlying59 qf5 rfl (by decide) (by omega) u8 x8_1 (⟨ji18,rd l0 (ji18)⟩:S160) [.int .i64 ji18, .int .u64 (rd l0 (ji18))] (fun _=>True) (fun _=>False) rfl rfl ?aP (fun _ hk=>hk.elim) ?aF ?aO ?aB ?aS ?aL ?_;(case aP=>exact qo _ _ _ (⟨ji18,rd l0 (ji18)⟩:S160));(case aB=>exact(zB HB));(case aF=>exact(fun _ _=>trivial));(case aO=>exact(zr HO_8));(case aS=>exact(bk (zB HB)));(case aL=>have:=LMc21.out;omega);intro v405 w32 ho hb hg hat;rw[<-Ny404.out]at ho;have n0_:=am (hb);have n1_:=am (ho);clear HB;clear HO_8;have HB:=n0_;have HO406:=n1_;clear n0_ n1_;clear ho hb hg hat;obtain⟨Ao33,co33,eo33⟩:=Kd.R_slice HO406.out;subst eo33;have p25:0<=((ji22):Int):=zu;have q25:((ji22):Int)<((y404.length:Int):Int):=zu;obtain⟨go25,co25,eo25,gb25,gl25,cl25,HG25⟩:=Kd.R_form HO406.out (by omega);(first|cases eo25|(injection eo25 with ea_ en_ ec_;(first|subst ea_|(injection ea_ with ea_;subst ea_));subst ec_;clear en_));have GB25:=am gb25;have GG25:=am HG25;clear gb25 gl25 HG25;obtain⟨ce25,hcl25,hM25,hcc25,hfr25⟩:=Kd.R_elem HO406.out vt ((ji22):Int) p25 q25;obtain rfl:=n4 hM25;have hx25_0:w32.cell? ⟨go25,((ji22):Int).toNat*2,none⟩=some (.int .i64 ((bw y404 (ji22)).f0)):=hcc25 0 _ rfl;have hx25_1:w32.cell? ⟨go25,((ji22):Int).toNat*2+1,none⟩=some (.int .u64 ((bw y404 (ji22)).f1)):=hcc25 1 _ rfl;have hf25_0:w32.frozen? ⟨go25,((ji22):Int).toNat*2,none⟩=false:=hfr25 0;have hf25_1:w32.frozen? ⟨go25,((ji22):Int).toNat*2+1,none⟩=false:=hfr25 1;clear hcl25 hcc25 hfr25 hM25;replace p25:=eq_true p25;replace q25:=eq_true q25))
                 have n0_:=am (qc HO406.out);have n1_:=am (qf HB.out);clear HO406;clear HB;have HO406:=n0_;have HB:=n1_;clear n0_ n1_;have p407:0<=((ji22):Int):=zu;have q407:(ji22)<(y404.length:Int):=zu;obtain⟨ad407,e407,hx407_0,hx407_1⟩:=qfr (Kd.R_reads' HO406.out).2.2 (ji22) p407 q407;obtain rfl:(⟨go25,0,none⟩:Addr)=ad407:=(by injection e407)
                 (first|simp only[o6]at hx407_0|simp only[ou]at hx407_0|simp only[Addr.add,Nat.zero_add]at hx407_0|skip)
                 (first|simp only[o6]at hx407_1|simp only[ou]at hx407_1|simp only[Addr.add,Nat.zero_add]at hx407_1|skip)
                 replace p407:=eq_true p407;replace q407:=eq_true q407;have p31:0<=((ji22):Int):=zu;have q31:((ji22):Int)<((y404.length:Int):Int):=zu;obtain⟨ce31,hcl31,hM31,hcc31,hfr31⟩:=Kd.R_elem HO406.out vt ((ji22):Int) p31 q31;obtain rfl:=n4 hM31;have hx31_0:World.cell? _ ⟨go25,((ji22):Int).toNat*2,none⟩=some (.int .i64 ((bw y404 (ji22)).f0)):=hcc31 0 _ rfl;have hx31_1:World.cell? _ ⟨go25,((ji22):Int).toNat*2+1,none⟩=some (.int .u64 ((bw y404 (ji22)).f1)):=hcc31 1 _ rfl;have hf31_0:World.frozen? _ ⟨go25,((ji22):Int).toNat*2,none⟩=false:=hfr31 0;have hf31_1:World.frozen? _ ⟨go25,((ji22):Int).toNat*2+1,none⟩=false:=hfr31 1;clear hcl31 hcc31 hfr31 hM31;replace p31:=eq_true p31;replace q31:=eq_true q31;obtain⟨ce35,hcl35,hM35,hcc35,hfr35⟩:=Kd.R_elem HO406.out vt ((ji22):Int) (zu) (by have h_:((ji22):Int)<((y404.length:Int):Int):=zu;first|exact h_|(have e_:=(Kd.R_reads' HO406.out).1;omega)|simpa using h_);obtain rfl:=n4 hM35;have HP35:=(Kd.R_seg HO406.out ((ji22):Int) (zu) (by have h_:((ji22):Int)<((y404.length:Int):Int):=zu;first|exact h_|(have e_:=(Kd.R_reads' HO406.out).1;omega)|simpa using h_) (seg:=[.int .u64 (Go.bits .or .u64 (Go.bits .andNot .u64 ((bw y404 (ji22)).f1) (ji28)) (ji30))]) (j:=1) hcl35 hcc35 (show 2<=2 from by decide) (x':=(⟨(bw y404 (ji22)).f0,Go.bits .or .u64 (Go.bits .andNot .u64 ((bw y404 (ji22)).f1) (ji28)) (ji30)⟩:S160)) (qo _ _ _ (⟨(bw y404 (ji22)).f0,Go.bits .or .u64 (Go.bits .andNot .u64 ((bw y404 (ji22)).f1) (ji28)) (ji30)⟩:S160)) (fun _ hk=>hk)).1;rw[<-Ny408.out]at HP35;have HQ35:=am HP35;clear hcl35 hcc35 hfr35 hM35 HP35;refine dj (n:=20) (S:=fun w'=>w'.cell? ⟨go25,((ji22)).toNat*2,none⟩=some (.int .i64 ((bw y404 (ji22)).f0))/\w'.cell? ⟨go25,((ji22)).toNat*2+1,none⟩=some (.int .u64 ((bw y404 (ji22)).f1))) (ds:=[19]) (onA 20 0) (by kernel_rfl) rfl rfl ⟨hx407_0,hx407_1⟩ (fun hHeld=>?_);refine qa8 bh.tab11 bh.bits11 (fun HT_ HW_=>?_);generalize w32.drew=w34 at HO406 HB HQ35 hf31_0 hf31_1 hx31_0 hx31_1 hx407_0 hx407_1 hHeld ⊢;refine pu 0 (some 60) (onA 20 1) HT_ (h:=?_);refine pu 1 (some 61) (onA 20 2) HT_ (h:=?_);refine pu 2 (some 62) (onA 20 3) HT_ (h:=?_);refine pu 3 (some 63) (onA 20 4) HT_ (h:=?_);refine pu 5 (some 65) (bA 20 47) HT_ (h:=?_);refine pu 6 (some 66) (bA 20 111) HT_ (h:=?_);refine pu 7 (some 67) (bA 20 239) HT_ (h:=?_);refine pu 8 (some 68) (bA 20 495) HT_ (h:=?_);refine pu 10 (some 70) (bA 20 1519) HT_ (h:=?_);refine pu 11 (some 71) (bA 20 3567) HT_ (h:=?_);refine pu 12 (some 72) (bA 20 7663) HT_ (h:=?_);refine pu 13 (some 73) (bA 20 15855) HT_ (h:=?_);refine pu 14 (some 74) (bA 20 32239) HT_ (h:=?_);refine pu 15 (some 75) (bA 20 65007) HT_ (h:=?_);refine take_ (i:=4) (N:=some 64) (v:=?_) (a':=?_) (bA 20 65023) rfl rfl (qdr HT_.out HW_.out (by kernel_rfl)) (fun _ _ _ h=>h) (Or.inl ⟨by rfl,?_⟩) hHeld ?_ ?_;rotate_left
                 ·rintro w' ⟨s0,s1⟩;go_simp
                  with_reducible rfl
                 rotate_left
                 ·simp only[Act.put,qg,qh,qi,bu,iu];rfl
                 refine pu 9 (some 69) (onA 20 16) HT_ (h:=?_);refine pu 16 (some 76) (onA 20 17) HT_ (h:=?_);refine pu 17 (some 77) (onA 20 18) HT_ (h:=?_);refine pu 18 (some 78) (onA 20 19) HT_ (h:=?_);refine ko (i:=19) (N:=none) (onA 20 20) rfl rfl (qdf HT_.out (by kernel_rfl)) (by decide) (fun K hK=>?_);refine su (w1:=?_) (by rfl) rfl ?_ ?_;rotate_left
                 ·go_simp;rfl
                 refine hK.out _ _ ?_;clear hK K;refine fa (qfw HT_.out (by kernel_rfl)) ?_
                 try go_wp2
                 go_meet
                 case rel=>exact⟨_,(y408),(by first|exact H'|((try rw[hji13]);(try rw[hji18]);(try rw[hji22]);(try rw[hji26]);(try rw[hji28]);(try rw[hji30]);exact H')),⟨by have:=HK1.out;have:=HJ9.out;first|omega|exact an _⟩,⟨zr HQ35⟩,⟨by repeat (first|(with_reducible first|exact HB.out|apply qd|apply qe|apply qf|refine bj ?_ GB25.out)|exact HB.out)⟩⟩
                ·rw[if_neg c27]at H;exact absurd H (by simp)
               ·rw[if_neg c24]at H;exact absurd H (by simp)
              ·rw[if_neg c23]at H;exact absurd H (by simp)
             ·rw[if_neg c21]at H;exact absurd H (by simp)
            ·rw[if_neg c20]at H;exact absurd H (by simp)
           ·rw[if_neg c19]at H;exact absurd H (by simp)
          ·replace c17:=Bool.eq_false_iff.mpr c17;subst c17;have H1:(if 0<=(wrap64 ((x8_1.length:Int)-1))then(if(wrap64 ((x8_1.length:Int)-1))<(x8_1.length:Int)then(if 0<=(wrap64 ((Int.tmod (wrap64 (a1+x21_1)) 8)*8))then(bh.j2 kj9 l0 a1 (x8_1.set ((wrap64 ((x8_1.length:Int)-1)):Int).toNat (⟨(bw x8_1 (wrap64 ((x8_1.length:Int)-1))).f0,Go.bits .or .u64 (Go.bits .andNot .u64 ((bw x8_1 (wrap64 ((x8_1.length:Int)-1))).f1) (shl .u64 255 (wrap64 ((Int.tmod (wrap64 (a1+x21_1)) 8)*8)))) (shl .u64 (IntKind.u64.wrap ((rd l2 x21_1))) (wrap64 ((Int.tmod (wrap64 (a1+x21_1)) 8)*8)))⟩:S160)) l2 (l2.length:Int) x21_1)else(none))else(none))else(none))=some (r1,r2):=by rw[if_neg (show ¬ (false=true)by decide)]at H;exact H
           clear H;have H:=H1;clear H1;obtain⟨ji36,hji36⟩:∃ j_:Int,(wrap64 ((x8_1.length:Int)-1))=j_:=⟨_,rfl⟩;replace H:(if 0<=(ji36)then(if(ji36)<(x8_1.length:Int)then(if 0<=(wrap64 ((Int.tmod (wrap64 (a1+x21_1)) 8)*8))then(bh.j2 kj9 l0 a1 (x8_1.set ((ji36):Int).toNat (⟨(bw x8_1 (ji36)).f0,Go.bits .or .u64 (Go.bits .andNot .u64 ((bw x8_1 (ji36)).f1) (shl .u64 255 (wrap64 ((Int.tmod (wrap64 (a1+x21_1)) 8)*8)))) (shl .u64 (IntKind.u64.wrap ((rd l2 x21_1))) (wrap64 ((Int.tmod (wrap64 (a1+x21_1)) 8)*8)))⟩:S160)) l2 (l2.length:Int) x21_1)else(none))else(none))else(none))=some (r1,r2):=by first|(rw[hji36]at H;exact H)|(simp only[hji36]at H ⊢;exact H)
           have hji36w:(IntKind.i64.wrap ((x8_1.length:Int)-1))=ji36:=(bu _).trans hji36;by_cases c37:0<=(ji36)
           ·rw [if_pos c37] at H;have c37b0 := af c37;clear c37;by_cases c38 : (ji36) < (x8_1.length : Int)
            ·rw[if_pos c38]at H;have c38b0:=af c38;clear c38;obtain⟨ji40,hji40⟩:∃ j_:Int,(wrap64 ((Int.tmod (wrap64 (a1+x21_1)) 8)*8))=j_:=⟨_,rfl⟩;replace H:(if 0<=(ji40)then(bh.j2 kj9 l0 a1 (x8_1.set ((ji36):Int).toNat (⟨(bw x8_1 (ji36)).f0,Go.bits .or .u64 (Go.bits .andNot .u64 ((bw x8_1 (ji36)).f1) (shl .u64 255 (ji40))) (shl .u64 (IntKind.u64.wrap ((rd l2 x21_1))) (ji40))⟩:S160)) l2 (l2.length:Int) x21_1)else(none))=some (r1,r2):=by first|(rw[hji40]at H;exact H)|(simp only[hji40]at H ⊢;exact H)
             have hji40w:(IntKind.i64.wrap ((Int.tmod (wrap64 (a1+x21_1)) 8)*8))=ji40:=(bu _).trans hji40;by_cases c41:0<=(ji40)
             ·rw[if_pos c41]at H;have c41b0:=eq_true c41;have c41b1:=af c41;clear c41;obtain⟨ji42,hji42⟩:∃ j_:Int,(shl .u64 255 (ji40))=j_:=⟨_,rfl⟩;replace H:(bh.j2 kj9 l0 a1 (x8_1.set ((ji36):Int).toNat (⟨(bw x8_1 (ji36)).f0,Go.bits .or .u64 (Go.bits .andNot .u64 ((bw x8_1 (ji36)).f1) (ji42)) (shl .u64 (IntKind.u64.wrap ((rd l2 x21_1))) (ji40))⟩:S160)) l2 (l2.length:Int) x21_1)=some (r1,r2):=by first|(rw[hji42]at H;exact H)|(simp only[hji42]at H ⊢;exact H)
              have hji42_:(IntKind.u64.wrap (255*2 ^ min (ji40).toNat 64))=ji42:=hji42;have hji42z:(ji40)<=64->(IntKind.u64.wrap (255*2 ^ (ji40).toNat))=ji42:=yc hji42;have c43b0:=eq_true (zu:0<=(ji40));obtain⟨ji44,hji44⟩:∃ j_:Int,(shl .u64 (IntKind.u64.wrap ((rd l2 x21_1))) (ji40))=j_:=⟨_,rfl⟩;replace H:(bh.j2 kj9 l0 a1 (x8_1.set ((ji36):Int).toNat (⟨(bw x8_1 (ji36)).f0,Go.bits .or .u64 (Go.bits .andNot .u64 ((bw x8_1 (ji36)).f1) (ji42)) (ji44)⟩:S160)) l2 (l2.length:Int) x21_1)=some (r1,r2):=by first|(rw[hji44]at H;exact H)|(simp only[hji44]at H ⊢;exact H)
              have hji44_:(IntKind.u64.wrap ((IntKind.u64.wrap ((rd l2 x21_1)))*2 ^ min (ji40).toNat 64))=ji44:=hji44;have hji44z:(ji40)<=64->(IntKind.u64.wrap ((IntKind.u64.wrap ((rd l2 x21_1)))*2 ^ (ji40).toNat))=ji44:=yc hji44;obtain⟨y410,hy410⟩:∃ y_:List (S160),y_=(x8_1.set ((ji36):Int).toNat (⟨(bw x8_1 (ji36)).f0,Go.bits .or .u64 (Go.bits .andNot .u64 ((bw x8_1 (ji36)).f1) (ji42)) (ji44)⟩:S160)):=⟨_,rfl⟩;replace H:(bh.j2 kj9 l0 a1 y410 l2 (l2.length:Int) x21_1)=some (r1,r2):=by first|(rw[hy410];with_reducible exact H)|(have H2_:=(Option.bind_some _ _).symm.trans H;rw[hy410];with_reducible exact H2_)|(have H2_:=(Option.bind_some _ _).symm.trans H;with_reducible exact H2_)|with_reducible exact H|(rw[hy410];exact H)|exact H
              have Ny410:=am hy410;clear hy410;have H':=am H;clear H;obtain⟨Ao46,co46,eo46⟩:=Kd.R_slice HO_8.out;subst eo46;have p39:0<=((ji36):Int):=zu;have q39:((ji36):Int)<((x8_1.length:Int):Int):=zu;obtain⟨go39,co39,eo39,gb39,gl39,cl39,HG39⟩:=Kd.R_form HO_8.out (by omega)
              (first|cases eo39|(injection eo39 with ea_ en_ ec_;(first|subst ea_|(injection ea_ with ea_;subst ea_));subst ec_;clear en_))
              have GB39:=am gb39;have GG39:=am HG39;clear gb39 gl39 HG39;obtain⟨ce39,hcl39,hM39,hcc39,hfr39⟩:=Kd.R_elem HO_8.out vt ((ji36):Int) p39 q39;obtain rfl:=n4 hM39;have hx39_0:wc.cell? ⟨go39,((ji36):Int).toNat*2,none⟩=some (.int .i64 ((bw x8_1 (ji36)).f0)):=hcc39 0 _ rfl;have hx39_1:wc.cell? ⟨go39,((ji36):Int).toNat*2+1,none⟩=some (.int .u64 ((bw x8_1 (ji36)).f1)):=hcc39 1 _ rfl;have hf39_0:wc.frozen? ⟨go39,((ji36):Int).toNat*2,none⟩=false:=hfr39 0;have hf39_1:wc.frozen? ⟨go39,((ji36):Int).toNat*2+1,none⟩=false:=hfr39 1;clear hcl39 hcc39 hfr39 hM39;replace p39:=eq_true p39;replace q39:=eq_true q39
              try go_wp2
              have n0_:=am (qc HO_8.out);have n1_:=am (qf HB.out);clear HO_8;clear HB;have HO_8:=n0_;have HB:=n1_;clear n0_ n1_;have p409:0<=((ji36):Int):=zu;have q409:(ji36)<(x8_1.length:Int):=zu;obtain⟨ad409,e409,hx409_0,hx409_1⟩:=qfr (Kd.R_reads' HO_8.out).2.2 (ji36) p409 q409;obtain rfl:(⟨go39,0,none⟩:Addr)=ad409:=(by injection e409)
              (first|simp only[o6]at hx409_0|simp only[ou]at hx409_0|simp only[Addr.add,Nat.zero_add]at hx409_0|skip)
              (first|simp only[o6]at hx409_1|simp only[ou]at hx409_1|simp only[Addr.add,Nat.zero_add]at hx409_1|skip)
              replace p409:=eq_true p409;replace q409:=eq_true q409;have p45:0<=((ji36):Int):=zu;have q45:((ji36):Int)<((x8_1.length:Int):Int):=zu;obtain⟨ce45,hcl45,hM45,hcc45,hfr45⟩:=Kd.R_elem HO_8.out vt ((ji36):Int) p45 q45;obtain rfl:=n4 hM45;have hx45_0:World.cell? _ ⟨go39,((ji36):Int).toNat*2,none⟩=some (.int .i64 ((bw x8_1 (ji36)).f0)):=hcc45 0 _ rfl;have hx45_1:World.cell? _ ⟨go39,((ji36):Int).toNat*2+1,none⟩=some (.int .u64 ((bw x8_1 (ji36)).f1)):=hcc45 1 _ rfl;have hf45_0:World.frozen? _ ⟨go39,((ji36):Int).toNat*2,none⟩=false:=hfr45 0;have hf45_1:World.frozen? _ ⟨go39,((ji36):Int).toNat*2+1,none⟩=false:=hfr45 1;clear hcl45 hcc45 hfr45 hM45;replace p45:=eq_true p45;replace q45:=eq_true q45;obtain⟨ce48,hcl48,hM48,hcc48,hfr48⟩:=Kd.R_elem HO_8.out vt ((ji36):Int) (zu) (by have h_:((ji36):Int)<((x8_1.length:Int):Int):=zu;first|exact h_|(have e_:=(Kd.R_reads' HO_8.out).1;omega)|simpa using h_);obtain rfl:=n4 hM48;have HP48:=(Kd.R_seg HO_8.out ((ji36):Int) (zu) (by have h_:((ji36):Int)<((x8_1.length:Int):Int):=zu;first|exact h_|(have e_:=(Kd.R_reads' HO_8.out).1;omega)|simpa using h_) (seg:=[.int .u64 (Go.bits .or .u64 (Go.bits .andNot .u64 ((bw x8_1 (ji36)).f1) (ji42)) (ji44))]) (j:=1) hcl48 hcc48 (show 2<=2 from by decide) (x':=(⟨(bw x8_1 (ji36)).f0,Go.bits .or .u64 (Go.bits .andNot .u64 ((bw x8_1 (ji36)).f1) (ji42)) (ji44)⟩:S160)) (qo _ _ _ (⟨(bw x8_1 (ji36)).f0,Go.bits .or .u64 (Go.bits .andNot .u64 ((bw x8_1 (ji36)).f1) (ji42)) (ji44)⟩:S160)) (fun _ hk=>hk)).1;rw[<-Ny410.out]at HP48;have HQ48:=am HP48;clear hcl48 hcc48 hfr48 hM48 HP48;refine dj (n:=20) (S:=fun w'=>w'.cell? ⟨go39,((ji36)).toNat*2,none⟩=some (.int .i64 ((bw x8_1 (ji36)).f0))/\w'.cell? ⟨go39,((ji36)).toNat*2+1,none⟩=some (.int .u64 ((bw x8_1 (ji36)).f1))) (ds:=[19]) (onA 20 0) (by kernel_rfl) rfl rfl ⟨hx409_0,hx409_1⟩ (fun hHeld=>?_);refine qa8 bh.tab11 bh.bits11 (fun HT_ HW_=>?_);generalize wc.drew=w47 at HO_8 HB HQ48 hf45_0 hf45_1 hx409_0 hx409_1 hx45_0 hx45_1 hHeld ⊢;refine pu 0 (some 60) (onA 20 1) HT_ (h:=?_);refine pu 1 (some 61) (onA 20 2) HT_ (h:=?_);refine pu 2 (some 62) (onA 20 3) HT_ (h:=?_);refine pu 3 (some 63) (onA 20 4) HT_ (h:=?_);refine pu 5 (some 65) (bA 20 47) HT_ (h:=?_);refine pu 6 (some 66) (bA 20 111) HT_ (h:=?_);refine pu 7 (some 67) (bA 20 239) HT_ (h:=?_);refine pu 8 (some 68) (bA 20 495) HT_ (h:=?_);refine pu 10 (some 70) (bA 20 1519) HT_ (h:=?_);refine pu 11 (some 71) (bA 20 3567) HT_ (h:=?_);refine pu 12 (some 72) (bA 20 7663) HT_ (h:=?_);refine pu 13 (some 73) (bA 20 15855) HT_ (h:=?_);refine pu 14 (some 74) (bA 20 32239) HT_ (h:=?_);refine pu 15 (some 75) (bA 20 65007) HT_ (h:=?_);refine take_ (i:=4) (N:=some 64) (v:=?_) (a':=?_) (bA 20 65023) rfl rfl (qdr HT_.out HW_.out (by kernel_rfl)) (fun _ _ _ h=>h) (Or.inl ⟨by rfl,?_⟩) hHeld ?_ ?_;rotate_left
              ·rintro w' ⟨s0,s1⟩;go_simp
               with_reducible rfl
              rotate_left
              ·simp only[Act.put,qg,qh,qi,bu,iu];rfl
              refine pu 9 (some 69) (onA 20 16) HT_ (h:=?_);refine pu 16 (some 76) (onA 20 17) HT_ (h:=?_);refine pu 17 (some 77) (onA 20 18) HT_ (h:=?_);refine pu 18 (some 78) (onA 20 19) HT_ (h:=?_);refine ko (i:=19) (N:=none) (onA 20 20) rfl rfl (qdf HT_.out (by kernel_rfl)) (by decide) (fun K hK=>?_);refine su (w1:=?_) (by rfl) rfl ?_ ?_;rotate_left
              ·go_simp;rfl
              refine hK.out _ _ ?_;clear hK K;refine fa (qfw HT_.out (by kernel_rfl)) ?_
              try go_wp2
              go_meet
              case rel=>exact⟨_,(y410),(by first|exact H'|((try rw[hji13]);(try rw[hji18]);(try rw[hji22]);(try rw[hji26]);(try rw[hji28]);(try rw[hji30]);(try rw[hji36]);(try rw[hji40]);(try rw[hji42]);(try rw[hji44]);exact H')),⟨by have:=HK1.out;have:=HJ9.out;first|omega|exact an _⟩,⟨zr HQ48⟩,⟨by repeat (first|(with_reducible first|exact HB.out|apply qd|apply qe|apply qf|refine bj ?_ GB39.out)|exact HB.out)⟩⟩
             ·rw[if_neg c41]at H;exact absurd H (by simp)
            ·rw[if_neg c38]at H;exact absurd H (by simp)
           ·rw[if_neg c37]at H;exact absurd H (by simp)
       ·rw[if_neg c9]at H;exact absurd H (by simp)
      ·rw[if_neg c8]at H;exact absurd H (by simp)
     case rest=>
      clear HC7
      try clear c2
      try clear c5
      try clear c6
      try clear c6b0
      try clear c8
      try clear c8b0
      try clear c9
      try clear c9b0
      try clear c11
      try clear c11b0
      try clear c11b1
      try clear c11b2
      try clear c14
      try clear c14b0
      try clear c15
      try clear c15b0
      try clear c17
      try clear c19
      try clear c19b0
      try clear c20
      try clear c20b0
      try clear c21
      try clear c23
      try clear c23b0
      try clear c24
      try clear c24b0
      try clear p25
      try clear q25
      try clear c27
      try clear c27b0
      try clear c27b1
      try clear c29b0
      try clear p31
      try clear q31
      try clear c37
      try clear c37b0
      try clear c38
      try clear c38b0
      try clear p39
      try clear q39
      try clear c41
      try clear c41b0
      try clear c41b1
      try clear c43b0
      try clear p45
      try clear q45
      try clear hx25_0
      try clear hx25_1
      try clear hx31_0
      try clear hx31_1
      try clear hx39_0
      try clear hx39_1
      try clear hx401_0
      try clear hx402_0
      try clear hx402_1
      try clear hx403_0
      try clear hx407_0
      try clear hx407_1
      try clear hx409_0
      try clear hx409_1
      try clear hx45_0
      try clear hx45_1
      try clear p25
      try clear p31
      try clear p39
      try clear p401
      try clear p402
      try clear p403
      try clear p407
      try clear p409
      try clear p45
      try clear q25
      try clear q31
      try clear q39
      try clear q401
      try clear q402
      try clear q403
      try clear q407
      try clear q409
      try clear q45
      obtain⟨kq,x8_6,HA,HJ6,HO_8,HB⟩:=hcut;cases kq with
      |zero=>exact absurd HA.out (by simp[bh.j2])
      |succ kj6=>
       have H:=HA.out;clear HA;simp only[bh.j2]at H;have H':=am H;clear H;go_wp2;go_roundg kj6
       case measure=>have:=HK1.out;have:=HJ6.out;omega
       case rel=>exact⟨(x8_6),(wrap64 (x21_1+1)),zs,(by first|exact H'|((try rw[hji13]);(try rw[hji18]);(try rw[hji22]);(try rw[hji26]);(try rw[hji28]);(try rw[hji30]);(try rw[hji36]);(try rw[hji40]);(try rw[hji42]);(try rw[hji44]);exact H')),⟨by have:=HK1.out;have:=HJ6.out;omega⟩,⟨zr HO_8⟩,⟨zB HB⟩⟩
    ·rw[if_neg c6]at H;have c6b0:=ah c6;clear c6;simp only[Option.some.injEq,Prod.mk.injEq]at H;obtain⟨rfl,rfl⟩:=H;go_wp2;go_ret2;exact⟨_,ze,by(with_reducible repeat (first|apply qa|apply qb|apply qc));exact HO_8.out,zB HB⟩
 ·replace c5:=Bool.eq_false_iff.mpr c5;subst c5;have H1:(some (([]:List (S160)),false))=some (r1,r2):=by rw[if_neg (show ¬ (false=true)by decide)]at H;exact H
  clear H;have H:=H1;clear H1;simp only[Option.some.injEq,Prod.mk.injEq]at H;obtain⟨rfl,rfl⟩:=H;go_enter Tryz.func148,Tryz.ntmps148;go_wp2_with (first|((with_reducible refine ay (f:=172) rfl ?_);refine zl (some 17) Tryz.func172 #[.slice A0 l0.length c0, .int .i64 a1, .int .i64 (l2.length:Int)] ?_;(with_reducible refine(ix.calls _ _ l0 a1 (l2.length:Int) false _ ?side1 ?side2 A4.out).mono ?_);(case side1=>exact zc HR0.out);(case side2=>exact HC0.out);rintro e w' ⟨rfl,⟨nd,rfl⟩⟩;refine⟨_,rfl,?_⟩))
  go_ret2;exact⟨_,ze,by first|exact Kd.R_nil _ _ _ _ _|exact Kd.N_nil _ _ _ _ _|exact Kd.V_nil _ _ _ _ _|exact Kd.Q_nil _ _ _ _ _|exact Kd.S_nil _ _ _ _ _,zB HB⟩
def gv.f(k:Nat)(l0:List Int)(a1:Int)(l2:List Int):Option ((List (S160))×Int):=(iv.f k l0 a1 (l2.length:Int)).bind fun t411=>(if t411=0 then((bh.f k l0 a1 l2).bind fun bt412=>(some (bt412.1,0)))else(some (([]:List (S160)),t411)))
theorem gv.calls(k:Nat)(A0:Option Addr)(c0:Nat)(l0:List Int)(a1:Int)(A2:Option Addr)(c2:Nat)(l2:List Int)(r1:List (S160))(r2:Int)(w:World)(hr0:Kd.C (Kd.int .u64) w A0 l0.length l0)(hc0:l0.length<=c0)(hr2:Kd.C (Kd.int .u8) w A2 l2.length l2)(hc2:l2.length<=c2)(h:gv.f k l0 a1 l2=some (r1,r2)):Calls Tryz.prog 106 #[.slice A0 l0.length c0, .int .i64 a1, .slice A2 l2.length c2] w fun e w'=>∃ v0_:Value,e=.returned (.tuple #[v0_, .int .i64 r2])/\Kd.R jp 160 w' w.heap.size (fun _=>True) v0_ r1/\Below w.heap.size w w':=by
 have HR0:=am hr0;have HC0:=am hc0;clear hr0 hc0;have HR2:=am hr2;have HC2:=am hc2;clear hr2 hc2;have HB:=am (ai w.heap.size w);have H:((iv.f k l0 a1 (l2.length:Int)).bind fun t411=>(if t411=0 then((bh.f k l0 a1 l2).bind fun bt412=>(some (bt412.1,0)))else(some (([]:List (S160)),t411))))=some (r1,r2):=h;clear h;replace H:=Option.bind_eq_some_iff.mp H;obtain⟨t411,A40,H⟩:=H
 try dsimp only at H
 have A4:=am A40;clear A40;by_cases c5:t411=0
 ·rw[if_pos c5]at H;have c5b0:(t411==0)=true:=beq_iff_eq.mpr c5;have c5b1:(t411 != 0)=false:=bne_eq_false_iff_eq.mpr c5;clear c5;replace H:=Option.bind_eq_some_iff.mp H;obtain⟨⟨t412,t413⟩,A60,H⟩:=H
  try dsimp only at H
  have A6:=am A60;clear A60;simp only[Option.some.injEq,Prod.mk.injEq]at H;obtain⟨rfl,rfl⟩:=H;go_enter Tryz.func106,Tryz.ntmps106;go_wp2_with (first|((with_reducible refine ay (f:=146) rfl ?_);refine zl (some 15) Tryz.func146 #[.slice A0 l0.length c0, .int .i64 a1, .int .i64 (l2.length:Int)] ?_;(with_reducible refine(iv.calls k _ _ l0 a1 (l2.length:Int) t411 _ ?side1 ?side2 A4.out).mono ?_);(case side1=>exact zc HR0.out);(case side2=>exact HC0.out);rintro e w7 ⟨rfl,hb⟩;refine⟨_,rfl,?_⟩;have n0_:=zb HB hb;replace HB:=n0_;clear n0_;(try clear hb))|((with_reducible refine ay (f:=148) rfl ?_);refine zl (some 23) Tryz.func148 #[.slice A0 l0.length c0, .int .i64 a1, .slice A2 l2.length c2] ?_;(with_reducible refine(bh.calls k _ _ l0 a1 _ _ l2 t412 t413 _ ?side1 ?side2 ?side3 ?side4 A6.out).mono ?_);(case side1=>exact zc (Kd.C_below HR0.out HB.out));(case side2=>exact HC0.out);(case side3=>exact zc (Kd.C_below HR2.out HB.out));(case side4=>exact HC2.out);rintro e w8 ⟨v414,rfl,ho0,hb⟩;refine⟨_,rfl,?_⟩;have n0_:=am (Kd.R_lower ho0 (bk (zB HB)));have n1_:=zb HB hb;clear HB;have HO415:=n0_;have HB:=n1_;clear n0_ n1_;(try clear hb);(try clear ho0)))
  go_ret2;exact⟨_,ze,by(with_reducible repeat (first|apply qa|apply qb|apply qc));exact HO415.out,zB HB⟩
 ·rw[if_neg c5]at H;have c5b0:(t411==0)=false:=beq_eq_false_iff_ne.mpr c5;have c5b1:(t411 != 0)=true:=bne_iff_ne.mpr c5;simp only[Option.some.injEq,Prod.mk.injEq]at H;obtain⟨rfl,rfl⟩:=H;go_enter Tryz.func106,Tryz.ntmps106;go_wp2_with (first|((with_reducible refine ay (f:=146) rfl ?_);refine zl (some 15) Tryz.func146 #[.slice A0 l0.length c0, .int .i64 a1, .int .i64 (l2.length:Int)] ?_;(with_reducible refine(iv.calls k _ _ l0 a1 (l2.length:Int) t411 _ ?side1 ?side2 A4.out).mono ?_);(case side1=>exact zc HR0.out);(case side2=>exact HC0.out);rintro e w9 ⟨rfl,hb⟩;refine⟨_,rfl,?_⟩;have n0_:=zb HB hb;replace HB:=n0_;clear n0_;(try clear hb)))
  go_ret2;exact⟨_,ze,by first|exact Kd.R_nil _ _ _ _ _|exact Kd.N_nil _ _ _ _ _|exact Kd.V_nil _ _ _ _ _|exact Kd.Q_nil _ _ _ _ _|exact Kd.S_nil _ _ _ _ _,zB HB⟩
def cx.l0:Nat->List (S39)->Int->Int->Option (Int)
 |0,_,_,_=>none
 |k+1,x10,x11,x12=>if x12<x11 then(if 0<=x12 then(if x12<(x10.length:Int)then(if x12>=80 then(some (wrap64 (x12+1)))else(if(((jg x10 x12).f4).length:Int)>500 then(some (wrap64 (x12+1)))else(cx.l0 k x10 x11 (wrap64 (x12+1)))))else(none))else(none))else(some 0)
def cx.f(k:Nat)(l0:List (S39))(l1:List Int):Option (Int):=if(l1.length:Int)>200 then(some 1)else(cx.l0 k l0 (l0.length:Int) 0)
theorem cx.calls (k : Nat) (A0 : Option Addr) (c0 : Nat) (l0 : List (S39)) (A1 : Option Addr) (c1 : Nat) (l1 : List Int) (r : Int) (w : World) (hr0 : Kd.C k39 w A0 l0.length l0) (hc0 : l0.length ≤ c0) (hr1 : Kd.C (Kd.int .i64) w A1 l1.length l1) (hc1 : l1.length ≤ c1) (h : cx.f k l0 l1 = some r) : Calls Tryz.prog 16 #[.slice A0 l0.length c0, .slice A1 l1.length c1] w fun e w' => e = .returned (.int .i64 r) ∧ Below w.heap.size w w' := by
 have hu39:=Tryz.underlying39;have HR0:=am hr0;have HC0:=am hc0;clear hr0 hc0;have HR1:=am hr1;have HC1:=am hc1;clear hr1 hc1;have HB:=am (ai w.heap.size w);have H:(if(l1.length:Int)>200 then(some 1)else(cx.l0 k l0 (l0.length:Int) 0))=some r:=h;clear h;by_cases c3:(l1.length:Int)>200
 ·rw[if_pos c3]at H;have c3b0:decide (200<(l1.length:Int))=true:=af c3;have c3b1:decide (200<l1.length)=true:=af (by omega);clear c3;obtain rfl:=az H;go_enter Tryz.func16,Tryz.ntmps16;go_wp2;go_ret;exact⟨ze,zB HB⟩
 ·rw [if_neg c3] at H;have c3b0 : decide (200 < (l1.length : Int)) = false := ah c3;have c3b1 : decide (200 < l1.length) = false := ah (by omega);clear c3;have H' := am H;clear H;go_enter Tryz.func16, Tryz.ntmps16;go_wp2;go_loopg [12] k (fun kq v12 w' => ∃ (x12_1 : Int), v12 = .int .i64 x12_1 ∧ Aside0 (cx.l0 kq l0 (l0.length : Int) x12_1 = some r) ∧ Aside0 (kq ≤ k) ∧ Aside0 (Below w.heap.size w w'))
  case atStart=>exact⟨(0),zs,H',⟨an _⟩,⟨zB HB⟩⟩
  case round =>
   clear H'
   try clear c1
   try clear c3
   try clear c3b0
   try clear c3b1
   obtain⟨x12_1,rfl,HA,HK1,HB⟩:=hrel;cases gk with
   |zero=>exact absurd HA.out (by simp[cx.l0])
   |succ k1=>
    have H:=HA.out;clear HA;simp only[cx.l0]at H;by_cases c4:x12_1<(l0.length:Int)
    ·rw [if_pos c4] at H;have c4b0 := af c4;clear c4;by_cases c5 : 0 ≤ x12_1
     ·rw [if_pos c5] at H;have c5b0 := af c5;clear c5;by_cases c6 : x12_1 < (l0.length : Int)
      ·rw[if_pos c6]at H;have c6b0:=af c6;clear c6;by_cases c7:x12_1>=80
       ·rw[if_pos c7]at H;have c7b0:decide (80<=x12_1)=true:=af c7;clear c7;obtain rfl:=az H;have p416:0<=(x12_1:Int):=zu;have q416:x12_1<(l0.length:Int):=zu;obtain⟨ad416,A416_4,c416_4,e416,hx416_0,hx416_1,hx416_2,hx416_3,hx416_4,hl416_4,hi416_4⟩:=qfs HR0.out x12_1 p416 q416;cases e416;replace hx416_0:=zw HB hx416_0;replace hx416_1:=zw HB hx416_1;replace hx416_2:=zw HB hx416_2;replace hx416_3:=zw HB hx416_3;replace hx416_4:=zw HB hx416_4;have HR416_4:=am hi416_4;have HC416_4:=am hl416_4;clear hi416_4 hl416_4;replace p416:=eq_true p416;replace q416:=eq_true q416;go_wp2_with (first|((with_reducible refine b9 (N:=6) rfl ?_);(try (refine il (by rfl) ?_;dsimp only));refine db ?hg (N:=6) ?hd (cs:=#[.int .i64 0, .int .i64 0, .int .i64 0, .int .i64 0, .slice none 0 0]) (t:=39) ?hr ?_;(case hd=>rfl);(case hg=>rfl);(case hr=>first|(go_simp;done)|(go_simp;rfl));intro gb417 hg w8 hbox hb;have GW417:=zg HB hg;have GE417:=GW417;replace HB:=zb HB hb;have BK417:=am hbox;clear hb hbox hg;have hcz9_0:=zk BK417 0 (.int .i64 0);have hcz9_1:=zk BK417 1 (.int .i64 0);have hcz9_2:=zk BK417 2 (.int .i64 0);have hcz9_3:=zk BK417 3 (.int .i64 0);have hcz9_4:=zk BK417 4 (.slice none 0 0);have hfz9_0:=ak BK417.out 0;have hfz9_1:=ak BK417.out 1;have hfz9_2:=ak BK417.out 2;have hfz9_3:=ak BK417.out 3;have hfz9_4:=ak BK417.out 4))
        go_ret;exact⟨ze,by repeat (first|(with_reducible first|exact HB.out|apply qd|apply qe|apply qf|refine bj ?_ GE417.out)|exact HB.out)⟩
       ·rw[if_neg c7]at H;have c7b0:decide (80<=x12_1)=false:=ah c7;clear c7;by_cases c10:(((jg l0 x12_1).f4).length:Int)>500
        ·rw[if_pos c10]at H;have c10b0:decide (500<(((jg l0 x12_1).f4).length:Int))=true:=af c10;have c10b1:decide (500<((jg l0 x12_1).f4).length)=true:=af (by omega);clear c10;obtain rfl:=az H;have p416:0<=(x12_1:Int):=zu;have q416:x12_1<(l0.length:Int):=zu;obtain⟨ad416,A416_4,c416_4,e416,hx416_0,hx416_1,hx416_2,hx416_3,hx416_4,hl416_4,hi416_4⟩:=qfs HR0.out x12_1 p416 q416;cases e416;replace hx416_0:=zw HB hx416_0;replace hx416_1:=zw HB hx416_1;replace hx416_2:=zw HB hx416_2;replace hx416_3:=zw HB hx416_3;replace hx416_4:=zw HB hx416_4;have HR416_4:=am hi416_4;have HC416_4:=am hl416_4;clear hi416_4 hl416_4;replace p416:=eq_true p416;replace q416:=eq_true q416;go_wp2_with (first|((with_reducible refine b9 (N:=6) rfl ?_);(try (refine il (by rfl) ?_;dsimp only));refine db ?hg (N:=6) ?hd (cs:=#[.int .i64 0, .int .i64 0, .int .i64 0, .int .i64 0, .slice none 0 0]) (t:=39) ?hr ?_;(case hd=>rfl);(case hg=>rfl);(case hr=>first|(go_simp;done)|(go_simp;rfl));intro gb417 hg w11 hbox hb;have GW417:=zg HB hg;have GE417:=GW417;replace HB:=zb HB hb;have BK417:=am hbox;clear hb hbox hg;have hcz12_0:=zk BK417 0 (.int .i64 0);have hcz12_1:=zk BK417 1 (.int .i64 0);have hcz12_2:=zk BK417 2 (.int .i64 0);have hcz12_3:=zk BK417 3 (.int .i64 0);have hcz12_4:=zk BK417 4 (.slice none 0 0);have hfz12_0:=ak BK417.out 0;have hfz12_1:=ak BK417.out 1;have hfz12_2:=ak BK417.out 2;have hfz12_3:=ak BK417.out 3;have hfz12_4:=ak BK417.out 4))
         go_ret;exact⟨ze,by repeat (first|(with_reducible first|exact HB.out|apply qd|apply qe|apply qf|refine bj ?_ GE417.out)|exact HB.out)⟩
        ·rw[if_neg c10]at H;have c10b0:decide (500<(((jg l0 x12_1).f4).length:Int))=false:=ah c10;have c10b1:decide (500<((jg l0 x12_1).f4).length)=false:=ah (by omega);clear c10;have H':=am H;clear H;have p416:0<=(x12_1:Int):=zu;have q416:x12_1<(l0.length:Int):=zu;obtain⟨ad416,A416_4,c416_4,e416,hx416_0,hx416_1,hx416_2,hx416_3,hx416_4,hl416_4,hi416_4⟩:=qfs HR0.out x12_1 p416 q416;cases e416;replace hx416_0:=zw HB hx416_0;replace hx416_1:=zw HB hx416_1;replace hx416_2:=zw HB hx416_2;replace hx416_3:=zw HB hx416_3;replace hx416_4:=zw HB hx416_4;have HR416_4:=am hi416_4;have HC416_4:=am hl416_4;clear hi416_4 hl416_4;replace p416:=eq_true p416;replace q416:=eq_true q416;go_wp2_with (first|((with_reducible refine b9 (N:=6) rfl ?_);(try (refine il (by rfl) ?_;dsimp only));refine db ?hg (N:=6) ?hd (cs:=#[.int .i64 0, .int .i64 0, .int .i64 0, .int .i64 0, .slice none 0 0]) (t:=39) ?hr ?_;(case hd=>rfl);(case hg=>rfl);(case hr=>first|(go_simp;done)|(go_simp;rfl));intro gb417 hg w13 hbox hb;have GW417:=zg HB hg;have GE417:=GW417;replace HB:=zb HB hb;have BK417:=am hbox;clear hb hbox hg;have hcz14_0:=zk BK417 0 (.int .i64 0);have hcz14_1:=zk BK417 1 (.int .i64 0);have hcz14_2:=zk BK417 2 (.int .i64 0);have hcz14_3:=zk BK417 3 (.int .i64 0);have hcz14_4:=zk BK417 4 (.slice none 0 0);have hfz14_0:=ak BK417.out 0;have hfz14_1:=ak BK417.out 1;have hfz14_2:=ak BK417.out 2;have hfz14_3:=ak BK417.out 3;have hfz14_4:=ak BK417.out 4))
         go_roundg k1
         case measure=>have:=HK1.out;omega
         case rel=>exact⟨(wrap64 (x12_1+1)),zs,H',⟨by have:=HK1.out;omega⟩,⟨by repeat (first|(with_reducible first|exact HB.out|apply qd|apply qe|apply qf|refine bj ?_ GE417.out)|exact HB.out)⟩⟩
      ·rw[if_neg c6]at H;exact absurd H (by simp)
     ·rw[if_neg c5]at H;exact absurd H (by simp)
    ·rw[if_neg c4]at H;have c4b0:=ah c4;clear c4;obtain rfl:=az H;go_wp2;go_ret;exact⟨ze,zB HB⟩
def dr.f(a0:Int):Option (Bool):=if a0>=8 then(if a0<=512 then(some ((Int.tmod a0 8)==0))else(some false))else(some false)
theorem dr.calls(a0:Int)(r:Bool)(w:World)(h:dr.f a0=some r):Calls Tryz.prog 64 #[.int .i64 a0] w fun e w'=>e=.returned (.bool r)/\Drawn0 w w':=by
 have H:(if a0>=8 then(if a0<=512 then(some ((Int.tmod a0 8)==0))else(some false))else(some false))=some r:=h;clear h;by_cases c2:a0>=8
 ·rw[if_pos c2]at H;have c2b0:decide (8<=a0)=true:=af c2;clear c2;by_cases c3:a0<=512
  ·rw[if_pos c3]at H;have c3b0:=af c3;clear c3;obtain rfl:=az H;go_enter Tryz.func64,Tryz.ntmps64;go_wp2;go_ret;exact⟨zs,zd⟩
  ·rw[if_neg c3]at H;have c3b0:=ah c3;clear c3;obtain rfl:=az H;go_enter Tryz.func64,Tryz.ntmps64;go_wp2;go_ret;exact⟨zs,zd⟩
 ·rw[if_neg c2]at H;have c2b0:decide (8<=a0)=false:=ah c2;clear c2;obtain rfl:=az H;go_enter Tryz.func64,Tryz.ntmps64;go_wp2;go_ret;exact⟨zs,zd⟩
def dy.f(a0:Int):Option (Bool):=if a0>=2 then(some (decide (a0<=512)))else(some false)
theorem dy.calls(a0:Int)(r:Bool)(w:World)(h:dy.f a0=some r):Calls Tryz.prog 151 #[.int .i64 a0] w fun e w'=>e=.returned (.bool r)/\Drawn0 w w':=by
 have H:(if a0>=2 then(some (decide (a0<=512)))else(some false))=some r:=h;clear h;by_cases c2:a0>=2
 ·rw[if_pos c2]at H;have c2b0:decide (2<=a0)=true:=af c2;clear c2;obtain rfl:=az H;go_enter Tryz.func151,Tryz.ntmps151;go_wp2;go_ret;exact⟨zs,zd⟩
 ·rw[if_neg c2]at H;have c2b0:decide (2<=a0)=false:=ah c2;clear c2;obtain rfl:=az H;go_enter Tryz.func151,Tryz.ntmps151;go_wp2;go_ret;exact⟨zs,zd⟩
def du.f(a0:Int)(a1:Bool):Option (Int):=(dy.f a0).bind fun t418=>(if t418=true then(if a1=true then(some (Go.bits .or .u64 (IntKind.u64.wrap ((IntKind.u64.wrap (a0))*2)) 1))else(some (IntKind.u64.wrap ((IntKind.u64.wrap (a0))*2))))else(some 0))
theorem du.calls(a0:Int)(a1:Bool)(r:Int)(w:World)(h:du.f a0 a1=some r):Calls Tryz.prog 111 #[.int .i64 a0, .bool a1] w fun e w'=>e=.returned (.int .u64 r)/\Drawn0 w w':=by
 have H:((dy.f a0).bind fun t418=>(if t418=true then(if a1=true then(some (Go.bits .or .u64 (IntKind.u64.wrap ((IntKind.u64.wrap (a0))*2)) 1))else(some (IntKind.u64.wrap ((IntKind.u64.wrap (a0))*2))))else(some 0)))=some r:=h;clear h;replace H:=Option.bind_eq_some_iff.mp H;obtain⟨t418,A30,H⟩:=H
 try dsimp only at H
 have A3:=am A30;clear A30;by_cases c4:t418=true
 ·subst c4;have H1:(if a1=true then(some (Go.bits .or .u64 (IntKind.u64.wrap ((IntKind.u64.wrap (a0))*2)) 1))else(some (IntKind.u64.wrap ((IntKind.u64.wrap (a0))*2))))=some r:=by rw[if_pos rfl]at H;exact H
  clear H;have H:=H1;clear H1;by_cases c5:a1=true
  ·subst c5;have H1:(some (Go.bits .or .u64 (IntKind.u64.wrap ((IntKind.u64.wrap (a0))*2)) 1))=some r:=by rw[if_pos rfl]at H;exact H
   clear H;have H:=H1;clear H1;obtain rfl:=az H;go_enter Tryz.func111,Tryz.ntmps111;go_wp2_with (first|((with_reducible refine ay (f:=151) rfl ?_);refine zl (some 7) Tryz.func151 #[.int .i64 a0] ?_;(with_reducible refine(dy.calls a0 true _ A3.out).mono ?_);rintro e w' ⟨rfl,⟨nd,rfl⟩⟩;refine⟨_,rfl,?_⟩))
   go_ret;exact⟨zs,zd⟩
  ·replace c5:=Bool.eq_false_iff.mpr c5;subst c5;have H1:(some (IntKind.u64.wrap ((IntKind.u64.wrap (a0))*2)))=some r:=by rw[if_neg (show ¬ (false=true)by decide)]at H;exact H
   clear H;have H:=H1;clear H1;obtain rfl:=az H;go_enter Tryz.func111,Tryz.ntmps111;go_wp2_with (first|((with_reducible refine ay (f:=151) rfl ?_);refine zl (some 7) Tryz.func151 #[.int .i64 a0] ?_;(with_reducible refine(dy.calls a0 true _ A3.out).mono ?_);rintro e w' ⟨rfl,⟨nd,rfl⟩⟩;refine⟨_,rfl,?_⟩))
   go_ret;exact⟨zs,zd⟩
 ·replace c4:=Bool.eq_false_iff.mpr c4;subst c4;have H1:(some 0)=some r:=by rw[if_neg (show ¬ (false=true)by decide)]at H;exact H
  clear H;have H:=H1;clear H1;obtain rfl:=az H;go_enter Tryz.func111,Tryz.ntmps111;go_wp2_with (first|((with_reducible refine ay (f:=151) rfl ?_);refine zl (some 7) Tryz.func151 #[.int .i64 a0] ?_;(with_reducible refine(dy.calls a0 false _ A3.out).mono ?_);rintro e w' ⟨rfl,⟨nd,rfl⟩⟩;refine⟨_,rfl,?_⟩))
  go_ret;exact⟨zs,zd⟩
def kc.f(a0:Int):Option (List Int):=(dr.f a0).bind fun t419=>(if t419=true then(if 0<=a0 then(if(a0:Int).toNat<=35184372088832 then((some (List.replicate (a0:Int).toNat 0:List Int)).bind fun y420=>((du.f a0 false).bind fun t423=>(if 0<(y420.length:Int)then(some (y420.set (0:Int).toNat t423))else(none))))else(none))else(none))else(some ([]:List Int)))
theorem kc.calls(a0:Int)(r:List Int)(w:World)(h:kc.f a0=some r):Calls Tryz.prog 65 #[.int .i64 a0] w fun e w'=>∃ v0_:Value,e=.returned (v0_)/\Kd.R (Kd.int .u64) 25 w' w.heap.size (fun _=>True) v0_ r/\Below w.heap.size w w':=by
 have HB:=am (ai w.heap.size w);have H:((dr.f a0).bind fun t419=>(if t419=true then(if 0<=a0 then(if(a0:Int).toNat<=35184372088832 then((some (List.replicate (a0:Int).toNat 0:List Int)).bind fun y420=>((du.f a0 false).bind fun t423=>(if 0<(y420.length:Int)then(some (y420.set (0:Int).toNat t423))else(none))))else(none))else(none))else(some ([]:List Int))))=some r:=h;clear h;replace H:=Option.bind_eq_some_iff.mp H;obtain⟨t419,A20,H⟩:=H
 try dsimp only at H
 have A2:=am A20;clear A20;by_cases c3:t419=true
 ·subst c3;have H1:(if 0<=a0 then(if(a0:Int).toNat<=35184372088832 then((some (List.replicate (a0:Int).toNat 0:List Int)).bind fun y420=>((du.f a0 false).bind fun t423=>(if 0<(y420.length:Int)then(some (y420.set (0:Int).toNat t423))else(none))))else(none))else(none))=some r:=by rw[if_pos rfl]at H;exact H
  clear H;have H:=H1;clear H1;by_cases c4:0<=a0
  ·rw[if_pos c4]at H;have c4b0:=eq_true c4;have c4b1:=af c4;clear c4;by_cases c5:(a0:Int).toNat<=35184372088832
   ·rw[if_pos c5]at H;have c5b0:=eq_true c5;have c5b1:=af c5;clear c5;obtain⟨y420,hy420⟩:∃ y_:List Int,y_=(List.replicate (a0:Int).toNat 0):=⟨_,rfl⟩;replace H:((du.f a0 false).bind fun t423=>(if 0<(y420.length:Int)then(some (y420.set (0:Int).toNat t423))else(none)))=some r:=by first|(rw[hy420];with_reducible exact H)|(have H2_:=(Option.bind_some _ _).symm.trans H;rw[hy420];with_reducible exact H2_)|(have H2_:=(Option.bind_some _ _).symm.trans H;with_reducible exact H2_)|with_reducible exact H|(rw[hy420];exact H)|exact H
    have Ny420:=am hy420;clear hy420;replace H:=Option.bind_eq_some_iff.mp H;obtain⟨t423,A60,H⟩:=H
    try dsimp only at H
    have A6:=am A60;clear A60;by_cases c7:0<(y420.length:Int)
    ·rw[if_pos c7]at H;have c7b0:=af c7;have c7b1:decide (0<y420.length)=true:=af (by omega);clear c7;obtain⟨y424,hy424⟩:∃ y_:List Int,y_=(y420.set (0:Int).toNat t423):=⟨_,rfl⟩;replace H:(some y424)=some r:=by first|(rw[hy424];with_reducible exact H)|(have H2_:=(Option.bind_some _ _).symm.trans H;rw[hy424];with_reducible exact H2_)|(have H2_:=(Option.bind_some _ _).symm.trans H;with_reducible exact H2_)|with_reducible exact H|(rw[hy424];exact H)|exact H
     have Ny424:=am hy424;clear hy424;obtain rfl:=az H;go_enter Tryz.func65,Tryz.ntmps65;go_wp2_with (first|((with_reducible refine ay (f:=64) rfl ?_);refine zl (some 5) Tryz.func64 #[.int .i64 a0] ?_;(with_reducible refine(dr.calls a0 true _ A2.out).mono ?_);rintro e w' ⟨rfl,⟨nd,rfl⟩⟩;refine⟨_,rfl,?_⟩)|((with_reducible refine b9 (N:=8) rfl ?_);refine Kd.R_make (Kd.int .u64) _ 25 rfl (N:=8) rfl 51 _ _ rfl a0 rfl rfl Tryz.underlying51 (.int .u64 0) 8 wi rfl (by decide) (by omega) 0 (ok:=fun _=>True) (okp:=fun _=>True) rfl (fun _ hk=>hk) trivial (zu) (Nat.le_trans (Nat.mul_le_mul_right _ (zu:a0.toNat<=35184372088832)) (by omega)) (ai _ _) (an _) ?_;intro v421 w9 ho10 hb hg_ hnew_;clear hg_ hnew_;(first|rw[<-Ny420.out]at ho10|(simp only[Int.reduceToNat]at ho10;rw[<-Ny420.out]at ho10));have n0_:=am (Kd.R_lower ho10 (bk (zB HB)));have n1_:=zb HB hb;clear HB;have HO422:=n0_;have HB:=n1_;clear n0_ n1_;clear hb ho10)|((with_reducible refine ay (f:=111) rfl ?_);refine zl (some 11) Tryz.func111 #[.int .i64 a0, .bool false] ?_;(with_reducible refine(du.calls a0 false t423 _ A6.out).mono ?_);rintro e w' ⟨rfl,⟨nd,rfl⟩⟩;refine⟨_,rfl,?_⟩;(try (rw[qcx w9];generalize hq_:World.drewN w9 _=w9;have n0_:Aside0 (Kd.R (Kd.int .u64) 25 w9 w.heap.size (fun _=>True) v421 y420):=⟨by rw[<-hq_];exact(zr HO422)⟩;have n1_:Aside0 (Below w.heap.size w w9):=⟨by rw[<-hq_];exact(zB HB)⟩;clear HO422 HB hq_;have HO422:=n0_;have HB:=n1_;clear n0_ n1_));have p8:0<=(0:Int):=(by omega);have q8:(0:Int)<((y420.length:Int):Int):=zu;have qi8:(0<y420.length)=True:=eq_true (by omega);obtain⟨go8,co8,eo8,gb8,gl8,cl8,HG8⟩:=Kd.R_form HO422.out (by omega);(first|cases eo8|(injection eo8 with ea_ en_ ec_;(first|subst ea_|(injection ea_ with ea_;subst ea_));subst ec_;clear en_));have GB8:=am gb8;have GG8:=am HG8;clear gb8 gl8 HG8;obtain⟨hx8_0,hf8_0⟩:=Kd.R_celln 0 HO422.out (0:Int) p8 q8;(try rw[show((0:Int)).toNat=0 from rfl]at hx8_0);(try simp only[Nat.reduceMul,Nat.zero_mul,Nat.zero_add,Nat.reduceAdd]at hx8_0);(try rw[show((0:Int)).toNat=0 from rfl]at hf8_0);(try simp only[Nat.reduceMul,Nat.zero_mul,Nat.zero_add,Nat.reduceAdd]at hf8_0);replace p8:=eq_true p8;replace q8:=eq_true q8;obtain⟨hy11_,hz11_⟩:=Kd.R_celln 0 HO422.out (0:Int) (by omega) (zu);(try simp only[Int.reduceToNat,Int.toNat_zero,Int.toNat_ofNat,Nat.reduceMul,Nat.zero_mul,Nat.zero_add]at hy11_ hz11_);(try rw[show((0:Int)).toNat=0 from rfl]at hy11_);(try rw[show((0:Int)).toNat=0 from rfl]at hz11_);have HP11:=Kd.R_putg HO422.out (0:Int) t423)|((with_reducible refine bp (t:=25) (p:=12) rfl ?_);refine qbr (t:=25) (p:=12) (v:= ?vo_w12) (w1:=(w9.setCell ⟨go8,(0:Int).toNat,none⟩ (.int .u64 t423))) ?hg ?ho ?hn ?hr ?_;(case ho=>rfl);(case hg=>rfl);(case hn=>rfl);(case hr=>first|(go_simp;done)|(go_simp;rfl));intro w12 hw;have hg:w9.grownBy w12 (some go8):=(by rw[hw];exact HP11.2);have hp_:Kd.R (Kd.int .u64) 25 w12 w.heap.size (fun _=>True) (.slice (some ⟨go8,0,none⟩) y420.length co8) y424:=(by rw[hw,Ny424.out];exact HP11.1);clear HP11;have n0_:=am (hp_);have n1_:=am ((by rw[hw];exact bj (HB.out) GB8.out:Below w.heap.size w w12));replace HO422:=n0_;replace HB:=n1_;clear n0_ n1_;clear hg hw hp_))
     go_ret;exact⟨_,ze,by(with_reducible repeat (first|apply qa|apply qb|apply qc));exact HO422.out,zB HB⟩
    ·rw[if_neg c7]at H;exact absurd H (by simp)
   ·rw[if_neg c5]at H;exact absurd H (by simp)
  ·rw[if_neg c4]at H;exact absurd H (by simp)
 ·replace c3:=Bool.eq_false_iff.mpr c3;subst c3;have H1:(some ([]:List Int))=some r:=by rw[if_neg (show ¬ (false=true)by decide)]at H;exact H
  clear H;have H:=H1;clear H1;obtain rfl:=az H;go_enter Tryz.func65,Tryz.ntmps65;go_wp2_with (first|((with_reducible refine ay (f:=64) rfl ?_);refine zl (some 5) Tryz.func64 #[.int .i64 a0] ?_;(with_reducible refine(dr.calls a0 false _ A2.out).mono ?_);rintro e w' ⟨rfl,⟨nd,rfl⟩⟩;refine⟨_,rfl,?_⟩))
  go_ret;exact⟨_,ze,by first|exact Kd.R_nil _ _ _ _ _|exact Kd.N_nil _ _ _ _ _|exact Kd.V_nil _ _ _ _ _|exact Kd.Q_nil _ _ _ _ _|exact Kd.S_nil _ _ _ _ _,zB HB⟩
def fe.f(a0:Int):Option (Int):=if a0<1 then(some 0)else(if a0>448 then(some 0)else(some (wrap64 (1+(wrap64 (Int.tdiv (wrap64 (a0+7)) 8))))))
theorem fe.calls(a0:Int)(r:Int)(w:World)(h:fe.f a0=some r):Calls Tryz.prog 71 #[.int .i64 a0] w fun e w'=>e=.returned (.int .i64 r)/\Drawn0 w w':=by
 have H:(if a0<1 then(some 0)else(if a0>448 then(some 0)else(some (wrap64 (1+(wrap64 (Int.tdiv (wrap64 (a0+7)) 8)))))))=some r:=h;clear h;by_cases c2:a0<1
 ·rw[if_pos c2]at H;have c2b0:=af c2;clear c2;obtain rfl:=az H;go_enter Tryz.func71,Tryz.ntmps71;go_wp2;go_ret;exact⟨zs,zd⟩
 ·rw[if_neg c2]at H;have c2b0:=ah c2;clear c2;by_cases c3:a0>448
  ·rw[if_pos c3]at H;have c3b0:decide (448<a0)=true:=af c3;clear c3;obtain rfl:=az H;go_enter Tryz.func71,Tryz.ntmps71;go_wp2;go_ret;exact⟨zs,zd⟩
  ·rw[if_neg c3]at H;have c3b0:decide (448<a0)=false:=ah c3;clear c3;obtain rfl:=az H;go_enter Tryz.func71,Tryz.ntmps71;go_wp2;go_ret;exact⟨zs,zd⟩
end Go.Proofs.YtmfhaliclnnbaaaGreat.XTopWhole
