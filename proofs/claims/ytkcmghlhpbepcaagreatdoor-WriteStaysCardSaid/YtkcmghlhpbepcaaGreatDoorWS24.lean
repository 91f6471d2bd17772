/- Lemmas and walks, part 24. -/
import Derived.Test.YtkcmghlhpbepcaaGreatDoorWS23
import Derived.Test.YtkcmghlhpbepcaaGreatDoorWS22
set_option linter.unusedVariables false
set_option linter.unusedSimpArgs false
set_option maxHeartbeats 8000000
set_option maxRecDepth 100000
namespace Go.Proofs.aj.W7
open Go.RowKit Go.Proofs.ah.aD Go.Proofs.ah.bG Go.Proofs.ah.bR
attribute [local go_sem] dD dF dV dW bU bV dG dH
mutual
def eU.l0:Nat→Int→List (S34)→Int→Int→Option (Bool)
 |0,_,_,_,_=>none
 |k+1,x3,x6,x7,x8=>if x8<x7 then(if 0≤x8 then(if x8<(x6.length:Int)then(if((au x6 x8).f0)<0 then(eU.j1 k x6 x7 x8 true ((au x6 x8).f0) ((au x6 x8).f1) ((au x6 x8).f2) ((au x6 x8).f3) ((au x6 x8).f4))else(if((au x6 x8).f0)>x3 then(eU.j1 k x6 x7 x8 true ((au x6 x8).f0) ((au x6 x8).f1) ((au x6 x8).f2) ((au x6 x8).f3) ((au x6 x8).f4))else((rows_row.f k ((au x6 x8).f0) ((au x6 x8).f1) ((au x6 x8).f2) ((au x6 x8).f3) ((au x6 x8).f4)).bind fun t583=>(eU.j1 k x6 x7 x8 (!t583) ((au x6 x8).f0) ((au x6 x8).f1) ((au x6 x8).f2) ((au x6 x8).f3) ((au x6 x8).f4)))))else(none))else(none))else(some true)
def eU.j1:Nat→List (S34)→Int→Int→Bool→Int→Int→Bt→Bt→List (S36)→Option (Bool)
 |0,_,_,_,_,_,_,_,_,_=>none
 |k+1,x6,x7,x8,x25,Px,x583001,x583002,x583003,x583004=>if x25=true then(some false)else(if x583001=0 then(eU.l0 k (wrap64 (Px+1)) x6 x7 (wrap64 (x8+1)))else(eU.l0 k Px x6 x7 (wrap64 (x8+1))))
end
def eU.f(k:Nat)(l0:List (S34)):Option (Bool):=eU.l0 k 0 l0 (l0.length:Int) 0
theorem eU.calls(k:Nat)(A0:Option Addr)(c0:Nat)(l0:List (S34))(r:Bool)(w:World)(hr0:Kd.C k34 w A0 l0.length l0)(hc0:l0.length≤c0)(h:eU.f k l0=some r):
 Calls Tryz.prog 85 #[.slice A0 l0.length c0] w fun e w'=>e=.returned (.bool r)∧Below w.heap.size w w':=by
 have hu34:=Tryz.underlying34;have HR0:=ak.mk hr0;have HC0:=ak.mk hc0;clear hr0 hc0;have HB:=ak.mk (Below.refl w.heap.size w);have H:(eU.l0 k 0 l0 (l0.length:Int) 0)=some r:=h;clear h;have H':=ak.mk H;clear H;go_enter Tryz.func85,Tryz.ntmps85;go_wp2
 go_loopg [3,8] k (fun kq v3 v8 w'=>∃(wL fA:Int),v3=.int .i64 wL∧v8=.int .i64 fA∧ak (eU.l0 kq wL l0 (l0.length:Int) fA=some r)∧ak (kq≤k)∧ak (Below w.heap.size w w'))
 case atStart=>exact⟨(0),(0),q'c,q'c,H',⟨Nat.le_refl _⟩,⟨bz⟩⟩
 case round=>
  clear H';obtain⟨wL,fA,rfl,rfl,HA,HK1,HB⟩:=hrel;cases gk with
  |zero=>exact absurd HA.out (by simp[eU.l0])
  |succ k1=>
   have H:=HA.out;clear HA;simp only[eU.l0]at H
   by_cases c2:fA<(l0.length:Int)
   ·rw[if_pos c2]at H
    have Dz:decide (fA<(l0.length:Int))=true:=decide_eq_true c2;clear c2
    by_cases c3:0≤fA
    ·rw[if_pos c3]at H
     have nD:decide (0≤fA)=true:=decide_eq_true c3;clear c3
     by_cases c4:fA<(l0.length:Int)
     ·rw[if_pos c4]at H
      have nN:decide (fA<(l0.length:Int))=true:=decide_eq_true c4;clear c4;have HC5:=ak.mk H;clear H;have p581:0≤(fA:Int):=q'b;have q581:fA<(l0.length:Int):=q'b;obtain⟨ad581,JO,JQ,e581,DZ,D5,D6,D7,D8,Py,Pz⟩:=lg HR0.out fA p581 q581;cases e581;replace DZ:=(HB.out.cell (World.block_lt_of_cell? w _ DZ)).trans DZ;replace D5:=(HB.out.cell (World.block_lt_of_cell? w _ D5)).trans D5;replace D6:=(HB.out.cell (World.block_lt_of_cell? w _ D6)).trans D6;replace D7:=(HB.out.cell (World.block_lt_of_cell? w _ D7)).trans D7;replace D8:=(HB.out.cell (World.block_lt_of_cell? w _ D8)).trans D8;have HR581_4:=ak.mk Pz;have HC581_4:=ak.mk Py;clear Pz Py;replace p581:=eq_true p581;replace q581:=eq_true q581
      go_upto_region 5 with(first|((with_reducible refine cu (N:=5) rfl ?_);refine eT ?hg (N:=5) ?hd (cs:=#[.int .i64 0,.int .i64 0,.string (⟨#[]⟩:Bt),.string (⟨#[]⟩:Bt),.slice none 0 0]) (t:=34) ?hr ?_;(case hd=>rfl);(case hg=>rfl);(case hr=>first|(go_simp;done)|(go_simp;rfl));intro jO hg w6 fU hb;have fu:=ak.mk (fU);have GW582:=ak.mk ((by rw[hg];exact(aU bz):w.heap.size≤jO));have Dc:=ak.mk ((by rw[hg];exact(aU bz):w.heap.size≤jO));replace HB:=ak.mk (aG bz hb);clear hb fU hg;have hcz7_0:w6.cell? ⟨jO,0,none⟩=some (.int .i64 0):=(aC fu.out 0).trans rfl;have hcz7_1:w6.cell? ⟨jO,1,none⟩=some (.int .i64 0):=(aC fu.out 1).trans rfl;have hcz7_2:w6.cell? ⟨jO,2,none⟩=some (.string (⟨#[]⟩:Bt)):=(aC fu.out 2).trans rfl;have hcz7_3:w6.cell? ⟨jO,3,none⟩=some (.string (⟨#[]⟩:Bt)):=(aC fu.out 3).trans rfl;have hcz7_4:w6.cell? ⟨jO,4,none⟩=some (.slice none 0 0):=(aC fu.out 4).trans rfl;have hfz7_0:=ay fu.out 0;have hfz7_1:=ay fu.out 1;have hfz7_2:=ay fu.out 2;have hfz7_3:=ay fu.out 3;have hfz7_4:=ay fu.out 4))
      (try simp only[Act.put,List.setIfInBounds_toArray,List.set_cons_zero,List.set_cons_succ])
      go_cut [25] (fun v25 wc=>∃(kq:Nat) (x25_4:Bool),v25=.bool x25_4∧ak (eU.j1 kq l0 (l0.length:Int) fA x25_4 ((au l0 fA).f0) ((au l0 fA).f1) ((au l0 fA).f2) ((au l0 fA).f3) ((au l0 fA).f4)=some r)∧ak (kq≤k1)∧ak (wc.heap[jO]?=some (.cells #[.int .i64 ((au l0 fA).f0),.int .i64 ((au l0 fA).f1),.string ((au l0 fA).f2),.string ((au l0 fA).f3),(.slice JO ((au l0 fA).f4).length JQ)] 34 (0,0)))∧ak (Below w.heap.size w wc))
      case first=>
       have H:=HC5.out;clear HC5
       by_cases c8:((au l0 fA).f0)<0
       ·rw[if_pos c8]at H
        have zh:decide (((au l0 fA).f0)<0)=true:=decide_eq_true c8;clear c8
        (first|rw[zh] |(simp only[oO,oP];rw[zh])|skip)
        have H':=ak.mk H;clear H;have vP:w6.cell? ⟨jO,0,none⟩=some (.int .i64 0):=(aC fu.out 0).trans rfl;have vQ:w6.cell? ⟨jO,1,none⟩=some (.int .i64 0):=(aC fu.out 1).trans rfl;have vR:w6.cell? ⟨jO,2,none⟩=some (.string (⟨#[]⟩:Bt)):=(aC fu.out 2).trans rfl;have vS:w6.cell? ⟨jO,3,none⟩=some (.string (⟨#[]⟩:Bt)):=(aC fu.out 3).trans rfl;have vT:w6.cell? ⟨jO,4,none⟩=some (.slice none 0 0):=(aC fu.out 4).trans rfl;have vU:=ay fu.out 0;have vV:=ay fu.out 1;have vW:=ay fu.out 2;have vX:=ay fu.out 3;have vY:=ay fu.out 4;go_wp2
        go_meet
        case rel=>exact⟨_,(true),q'c,H',⟨by have:=HK1.out;first|omega|exact Nat.le_refl _⟩,⟨by(with_reducible repeat(first|refine aV ?_ _|refine aY ?_ |refine aW ?_ _));refine bT (cs:=#[.int .i64 ((au l0 fA).f0),.int .i64 ((au l0 fA).f1),.string ((au l0 fA).f2),.string ((au l0 fA).f3),.slice none 0 0]) ?_ 4 _ rfl;(with_reducible repeat(first|refine aV ?_ _|refine aY ?_ |refine aW ?_ _));refine bT (cs:=#[.int .i64 ((au l0 fA).f0),.int .i64 ((au l0 fA).f1),.string ((au l0 fA).f2),.string (⟨#[]⟩:Bt),.slice none 0 0]) ?_ 3 _ rfl;(with_reducible repeat(first|refine aV ?_ _|refine aY ?_ |refine aW ?_ _));refine bT (cs:=#[.int .i64 ((au l0 fA).f0),.int .i64 ((au l0 fA).f1),.string (⟨#[]⟩:Bt),.string (⟨#[]⟩:Bt),.slice none 0 0]) ?_ 2 _ rfl;(with_reducible repeat(first|refine aV ?_ _|refine aY ?_ |refine aW ?_ _));refine bT (cs:=#[.int .i64 ((au l0 fA).f0),.int .i64 0,.string (⟨#[]⟩:Bt),.string (⟨#[]⟩:Bt),.slice none 0 0]) ?_ 1 _ rfl;(with_reducible repeat(first|refine aV ?_ _|refine aY ?_ |refine aW ?_ _));refine bT (cs:=#[.int .i64 0,.int .i64 0,.string (⟨#[]⟩:Bt),.string (⟨#[]⟩:Bt),.slice none 0 0]) ?_ 0 _ rfl;(with_reducible repeat(first|refine aV ?_ _|refine aY ?_ |refine aW ?_ _));exact fu.out⟩,⟨bs Dc.out⟩⟩
       ·rw[if_neg c8]at H
        have zh:decide (((au l0 fA).f0)<0)=false:=decide_eq_false c8;clear c8
        (first|rw[zh] |(simp only[oO,oP];rw[zh])|skip)
        by_cases c10:((au l0 fA).f0)>wL
        ·rw[if_pos c10]at H
         have GL:decide (wL<((au l0 fA).f0))=true:=decide_eq_true c10;clear c10;have H':=ak.mk H;clear H;have OY:w6.cell? ⟨jO,0,none⟩=some (.int .i64 0):=(aC fu.out 0).trans rfl;have OZ:w6.cell? ⟨jO,1,none⟩=some (.int .i64 0):=(aC fu.out 1).trans rfl;have O1:w6.cell? ⟨jO,2,none⟩=some (.string (⟨#[]⟩:Bt)):=(aC fu.out 2).trans rfl;have O4:w6.cell? ⟨jO,3,none⟩=some (.string (⟨#[]⟩:Bt)):=(aC fu.out 3).trans rfl;have O5:w6.cell? ⟨jO,4,none⟩=some (.slice none 0 0):=(aC fu.out 4).trans rfl;have O6:=ay fu.out 0;have O7:=ay fu.out 1;have O8:=ay fu.out 2;have O9:=ay fu.out 3;have Pb:=ay fu.out 4;go_wp2
         go_meet
         case rel=>exact⟨_,(true),q'c,H',⟨by have:=HK1.out;first|omega|exact Nat.le_refl _⟩,⟨by(with_reducible repeat(first|refine aV ?_ _|refine aY ?_ |refine aW ?_ _));refine bT (cs:=#[.int .i64 ((au l0 fA).f0),.int .i64 ((au l0 fA).f1),.string ((au l0 fA).f2),.string ((au l0 fA).f3),.slice none 0 0]) ?_ 4 _ rfl;(with_reducible repeat(first|refine aV ?_ _|refine aY ?_ |refine aW ?_ _));refine bT (cs:=#[.int .i64 ((au l0 fA).f0),.int .i64 ((au l0 fA).f1),.string ((au l0 fA).f2),.string (⟨#[]⟩:Bt),.slice none 0 0]) ?_ 3 _ rfl;(with_reducible repeat(first|refine aV ?_ _|refine aY ?_ |refine aW ?_ _));refine bT (cs:=#[.int .i64 ((au l0 fA).f0),.int .i64 ((au l0 fA).f1),.string (⟨#[]⟩:Bt),.string (⟨#[]⟩:Bt),.slice none 0 0]) ?_ 2 _ rfl;(with_reducible repeat(first|refine aV ?_ _|refine aY ?_ |refine aW ?_ _));refine bT (cs:=#[.int .i64 ((au l0 fA).f0),.int .i64 0,.string (⟨#[]⟩:Bt),.string (⟨#[]⟩:Bt),.slice none 0 0]) ?_ 1 _ rfl;(with_reducible repeat(first|refine aV ?_ _|refine aY ?_ |refine aW ?_ _));refine bT (cs:=#[.int .i64 0,.int .i64 0,.string (⟨#[]⟩:Bt),.string (⟨#[]⟩:Bt),.slice none 0 0]) ?_ 0 _ rfl;(with_reducible repeat(first|refine aV ?_ _|refine aY ?_ |refine aW ?_ _));exact fu.out⟩,⟨bs Dc.out⟩⟩
        ·rw[if_neg c10]at H
         have GL:decide (wL<((au l0 fA).f0))=false:=decide_eq_false c10;clear c10;replace H:=Option.bind_eq_some_iff.mp H;obtain⟨t583,A120,H⟩:=H;replace H:(eU.j1 k1 l0 (l0.length:Int) fA (!t583) ((au l0 fA).f0) ((au l0 fA).f1) ((au l0 fA).f2) ((au l0 fA).f3) ((au l0 fA).f4))=some r:=H;have A12:=ak.mk A120;clear A120;have H':=ak.mk H;clear H;have hcz13_0:w6.cell? ⟨jO,0,none⟩=some (.int .i64 0):=(aC fu.out 0).trans rfl;have hcz13_1:w6.cell? ⟨jO,1,none⟩=some (.int .i64 0):=(aC fu.out 1).trans rfl;have hcz13_2:w6.cell? ⟨jO,2,none⟩=some (.string (⟨#[]⟩:Bt)):=(aC fu.out 2).trans rfl;have hcz13_3:w6.cell? ⟨jO,3,none⟩=some (.string (⟨#[]⟩:Bt)):=(aC fu.out 3).trans rfl;have hcz13_4:w6.cell? ⟨jO,4,none⟩=some (.slice none 0 0):=(aC fu.out 4).trans rfl;have hfz13_0:=ay fu.out 0;have hfz13_1:=ay fu.out 1;have hfz13_2:=ay fu.out 2;have hfz13_3:=ay fu.out 3;have hfz13_4:=ay fu.out 4
         go_wp2_with(first|(go_at_call 131;(with_reducible refine(rows_row.calls k1 ((au l0 fA).f0) ((au l0 fA).f1) ((au l0 fA).f2) ((au l0 fA).f3) _ _ ((au l0 fA).f4) t583 _ ?dz ?dA A12.out).mono ?_);(case dz=>exact Kd.eF HR581_4.out (bs Dc.out));(case dA=>exact HC581_4.out);rintro e w14 ⟨rfl,hb⟩;replace fu:=ak.mk (dI (g:=jO) (o:=.cells #[.int .i64 ((au l0 fA).f0),.int .i64 ((au l0 fA).f1),.string ((au l0 fA).f2),.string ((au l0 fA).f3),.slice JO ((au l0 fA).f4).length JQ] 34 (0,0)) (by(with_reducible repeat(first|refine aV ?_ _|refine aY ?_ |refine aW ?_ _));refine bT (cs:=#[.int .i64 ((au l0 fA).f0),.int .i64 ((au l0 fA).f1),.string ((au l0 fA).f2),.string ((au l0 fA).f3),.slice none 0 0]) ?_ 4 _ rfl;(with_reducible repeat(first|refine aV ?_ _|refine aY ?_ |refine aW ?_ _));refine bT (cs:=#[.int .i64 ((au l0 fA).f0),.int .i64 ((au l0 fA).f1),.string ((au l0 fA).f2),.string (⟨#[]⟩:Bt),.slice none 0 0]) ?_ 3 _ rfl;(with_reducible repeat(first|refine aV ?_ _|refine aY ?_ |refine aW ?_ _));refine bT (cs:=#[.int .i64 ((au l0 fA).f0),.int .i64 ((au l0 fA).f1),.string (⟨#[]⟩:Bt),.string (⟨#[]⟩:Bt),.slice none 0 0]) ?_ 2 _ rfl;(with_reducible repeat(first|refine aV ?_ _|refine aY ?_ |refine aW ?_ _));refine bT (cs:=#[.int .i64 ((au l0 fA).f0),.int .i64 0,.string (⟨#[]⟩:Bt),.string (⟨#[]⟩:Bt),.slice none 0 0]) ?_ 1 _ rfl;(with_reducible repeat(first|refine aV ?_ _|refine aY ?_ |refine aW ?_ _));refine bT (cs:=#[.int .i64 0,.int .i64 0,.string (⟨#[]⟩:Bt),.string (⟨#[]⟩:Bt),.slice none 0 0]) ?_ 0 _ rfl;(with_reducible repeat(first|refine aV ?_ _|refine aY ?_ |refine aW ?_ _));exact fu.out) hb);replace HB:=ak.mk (aG (bs Dc.out) hb);(try clear hb);(try clear hb2);(try clear hk);(try clear hi)))
         go_meet
         case rel=>exact⟨_,(!t583),q'c,H',⟨by have:=HK1.out;first|omega|exact Nat.le_refl _⟩,⟨by(with_reducible repeat(first|refine aV ?_ _|refine aY ?_ |refine aW ?_ _));exact fu.out⟩,⟨bs Dc.out⟩⟩
      case rest=>
       clear HC5
       try clear c1
       try clear c2
       try clear Dz
       try clear p2
       try clear c3
       try clear nD
       try clear c4
       try clear nN
       try clear c5
       try clear p5
       try clear q5
       try clear hx5
       try clear c8
       try clear zh
       try clear c10
       try clear GL
       try clear OY
       try clear OZ
       try clear O1
       try clear O4
       try clear O5
       try clear hcz13_0
       try clear hcz13_1
       try clear hcz13_2
       try clear hcz13_3
       try clear hcz13_4
       try clear hcz7_0
       try clear hcz7_1
       try clear hcz7_2
       try clear hcz7_3
       try clear hcz7_4
       try clear vP
       try clear vQ
       try clear vR
       try clear vS
       try clear vT
       try clear O6
       try clear O7
       try clear O8
       try clear O9
       try clear Pb
       try clear hfz13_0
       try clear hfz13_1
       try clear hfz13_2
       try clear hfz13_3
       try clear hfz13_4
       try clear hfz7_0
       try clear hfz7_1
       try clear hfz7_2
       try clear hfz7_3
       try clear hfz7_4
       try clear vU
       try clear vV
       try clear vW
       try clear vX
       try clear vY
       try clear DZ
       try clear D5
       try clear D6
       try clear D7
       try clear D8
       try clear p581
       try clear q581
       obtain⟨kq,x25_4,rfl,HA,HJ4,fu,HB⟩:=hcut;cases kq with
       |zero=>exact absurd HA.out (by simp[eU.j1])
       |succ kj4=>
        have H:=HA.out;clear HA;simp only[eU.j1]at H
        by_cases c15:x25_4=true
        ·subst c15
         have H1:(some false)=some r:=by rw[if_pos rfl]at H;exact H
         clear H;have H:=H1;clear H1;obtain rfl:=Option.some.inj H;go_wp2;go_ret;exact⟨by first|rfl|(simp[aJ,aM]<;>rfl)|(simp[*,aJ,aM]<;>rfl),bs Dc.out⟩
        ·replace c15:=Bool.eq_false_iff.mpr c15
         subst c15;have H1:(if((au l0 fA).f1)=0 then(eU.l0 kj4 (wrap64 (((au l0 fA).f0)+1)) l0 (l0.length:Int) (wrap64 (fA+1)))else(eU.l0 kj4 ((au l0 fA).f0) l0 (l0.length:Int) (wrap64 (fA+1))))=some r:=by rw[if_neg (show¬(false=true) by decide)]at H;first|exact H|(simp only[eq_self]at H⊢;exact H)|(simp only[eq_self,if_true]at H⊢;exact H)
         clear H;have H:=H1;clear H1
         by_cases c16:((au l0 fA).f1)=0
         ·rw[if_pos c16]at H
          have c16b0:(((au l0 fA).f1)==0)=true:=beq_iff_eq.mpr c16;have c16b1:(((au l0 fA).f1) !=0)=false:=bne_eq_false_iff_eq.mpr c16;clear c16;have H':=ak.mk H;clear H;have hcz17_0:wc.cell? ⟨jO,0,none⟩=some (.int .i64 ((au l0 fA).f0)):=(aC fu.out 0).trans rfl;have hcz17_1:wc.cell? ⟨jO,1,none⟩=some (.int .i64 ((au l0 fA).f1)):=(aC fu.out 1).trans rfl;have hcz17_2:wc.cell? ⟨jO,2,none⟩=some (.string ((au l0 fA).f2)):=(aC fu.out 2).trans rfl;have hcz17_3:wc.cell? ⟨jO,3,none⟩=some (.string ((au l0 fA).f3)):=(aC fu.out 3).trans rfl;have hcz17_4:wc.cell? ⟨jO,4,none⟩=some (.slice JO ((au l0 fA).f4).length JQ):=(aC fu.out 4).trans rfl;have hfz17_0:=ay fu.out 0;have hfz17_1:=ay fu.out 1;have hfz17_2:=ay fu.out 2;have hfz17_3:=ay fu.out 3;have hfz17_4:=ay fu.out 4;go_wp2
          go_roundg kj4
          case measure=>have:=HK1.out;have:=HJ4.out;omega
          case rel=>exact⟨(wrap64 (((au l0 fA).f0)+1)),(wrap64 (fA+1)),q'c,q'c,H',⟨by have:=HK1.out;have:=HJ4.out;omega⟩,⟨bs Dc.out⟩⟩
         ·rw[if_neg c16]at H
          have c16b0:(((au l0 fA).f1)==0)=false:=beq_eq_false_iff_ne.mpr c16;have c16b1:(((au l0 fA).f1) !=0)=true:=bne_iff_ne.mpr c16;have H':=ak.mk H;clear H;have vF:wc.cell? ⟨jO,0,none⟩=some (.int .i64 ((au l0 fA).f0)):=(aC fu.out 0).trans rfl;have vG:wc.cell? ⟨jO,1,none⟩=some (.int .i64 ((au l0 fA).f1)):=(aC fu.out 1).trans rfl;have vH:wc.cell? ⟨jO,2,none⟩=some (.string ((au l0 fA).f2)):=(aC fu.out 2).trans rfl;have vI:wc.cell? ⟨jO,3,none⟩=some (.string ((au l0 fA).f3)):=(aC fu.out 3).trans rfl;have vJ:wc.cell? ⟨jO,4,none⟩=some (.slice JO ((au l0 fA).f4).length JQ):=(aC fu.out 4).trans rfl;have vK:=ay fu.out 0;have vL:=ay fu.out 1;have vM:=ay fu.out 2;have vN:=ay fu.out 3;have vO:=ay fu.out 4;go_wp2
          go_roundg kj4
          case measure=>have:=HK1.out;have:=HJ4.out;omega
          case rel=>exact⟨(((au l0 fA).f0)),(wrap64 (fA+1)),q'c,q'c,H',⟨by have:=HK1.out;have:=HJ4.out;omega⟩,⟨bs Dc.out⟩⟩
     ·rw[if_neg c4]at H
      exact absurd H (by simp)
    ·rw[if_neg c3]at H
     exact absurd H (by simp)
   ·rw[if_neg c2]at H
    have Dz:decide (fA<(l0.length:Int))=false:=decide_eq_false c2;clear c2;obtain rfl:=Option.some.inj H;go_wp2;go_ret;exact⟨by first|rfl|(simp[aJ,aM]<;>rfl)|(simp[*,aJ,aM]<;>rfl),bz⟩
def pK.f(k:Nat)(l0:List (S34)):Option (Int):=(rG.f l0).bind fun t584=>(if t584=true then(some 2)else((eU.f k l0).bind fun t585=>(if t585=true then(some 0)else(some 40))))
theorem pK.calls(k:Nat)(A0:Option Addr)(c0:Nat)(l0:List (S34))(r:Int)(w:World)(hr0:Kd.C k34 w A0 l0.length l0)(hc0:l0.length≤c0)(h:pK.f k l0=some r):
 Calls Tryz.prog 39 #[.slice A0 l0.length c0] w fun e w'=>e=.returned (.int .i64 r)∧Below w.heap.size w w':=by
 have HR0:=ak.mk hr0;have HC0:=ak.mk hc0;clear hr0 hc0;have HB:=ak.mk (Below.refl w.heap.size w);have H:((rG.f l0).bind fun t584=>(if t584=true then(some 2)else((eU.f k l0).bind fun t585=>(if t585=true then(some 0)else(some 40)))))=some r:=h;clear h;replace H:=Option.bind_eq_some_iff.mp H;obtain⟨t584,A20,H⟩:=H;replace H:(if t584=true then(some 2)else((eU.f k l0).bind fun t585=>(if t585=true then(some 0)else(some 40))))=some r:=H;have A2:=ak.mk A20;clear A20
 by_cases c3:t584=true
 ·subst c3
  have H1:(some 2)=some r:=by rw[if_pos rfl]at H;exact H
  clear H;have H:=H1;clear H1;obtain rfl:=Option.some.inj H;go_enter Tryz.func39,Tryz.ntmps39
  go_wp2_with(first|((with_reducible refine aZ (f:=84) rfl ?_);refine dO (some 5) rfl rfl Tryz.func84 (by kernel_rfl) rfl #[.slice A0 l0.length c0] rfl q'a ?_;(with_reducible refine(rG.calls _ _ l0 true _ ?dz ?dA A2.out).mono ?_);(case dz=>repeat(first|exact HR0.out|(with_reducible refine Kd.nA ?_ _)|(with_reducible refine Kd.nW ?_ _)|(with_reducible refine Kd.qB ?_)));(case dA=>exact HC0.out);rintro e w4 ⟨rfl,hb⟩;refine⟨_,rfl,?_⟩;replace HB:=ak.mk (aG bz hb);(try clear hb);(try clear hb2);(try clear hk);(try clear hi)))
  go_ret;exact⟨by first|rfl|(simp[aJ,aM]<;>rfl)|(simp[*,aJ,aM]<;>rfl),bz⟩
 ·replace c3:=Bool.eq_false_iff.mpr c3
  subst c3;have H1:((eU.f k l0).bind fun t585=>(if t585=true then(some 0)else(some 40)))=some r:=by rw[if_neg (show¬(false=true) by decide)]at H;first|exact H|(simp only[eq_self]at H⊢;exact H)|(simp only[eq_self,if_true]at H⊢;exact H)
  clear H;have H:=H1;clear H1;replace H:=Option.bind_eq_some_iff.mp H;obtain⟨t585,A50,H⟩:=H;replace H:(if t585=true then(some 0)else(some 40))=some r:=H;have A5:=ak.mk A50;clear A50
  by_cases c6:t585=true
  ·subst c6
   have H1:(some 0)=some r:=by rw[if_pos rfl]at H;exact H
   clear H;have H:=H1;clear H1;obtain rfl:=Option.some.inj H;go_enter Tryz.func39,Tryz.ntmps39
   go_wp2_with(first|((with_reducible refine aZ (f:=84) rfl ?_);refine dO (some 5) rfl rfl Tryz.func84 (by kernel_rfl) rfl #[.slice A0 l0.length c0] rfl q'a ?_;(with_reducible refine(rG.calls _ _ l0 false _ ?dz ?dA A2.out).mono ?_);(case dz=>repeat(first|exact HR0.out|(with_reducible refine Kd.nA ?_ _)|(with_reducible refine Kd.nW ?_ _)|(with_reducible refine Kd.qB ?_)));(case dA=>exact HC0.out);rintro e w7 ⟨rfl,hb⟩;refine⟨_,rfl,?_⟩;replace HB:=ak.mk (aG bz hb);(try clear hb);(try clear hb2);(try clear hk);(try clear hi))|((with_reducible refine aZ (f:=85) rfl ?_);refine dO (some 8) rfl rfl Tryz.func85 (by kernel_rfl) rfl #[.slice A0 l0.length c0] rfl q'a ?_;(with_reducible refine(eU.calls k _ _ l0 true _ ?dz ?dA A5.out).mono ?_);(case dz=>exact cz (Kd.eF HR0.out HB.out));(case dA=>exact HC0.out);rintro e w8 ⟨rfl,hb⟩;refine⟨_,rfl,?_⟩;replace HB:=ak.mk (aG bz hb);(try clear hb);(try clear hb2);(try clear hk);(try clear hi)))
   go_ret;exact⟨by first|rfl|(simp[aJ,aM]<;>rfl)|(simp[*,aJ,aM]<;>rfl),bz⟩
  ·replace c6:=Bool.eq_false_iff.mpr c6
   subst c6;have H1:(some 40)=some r:=by rw[if_neg (show¬(false=true) by decide)]at H;first|exact H|(simp only[eq_self]at H⊢;exact H)|(simp only[eq_self,if_true]at H⊢;exact H)
   clear H;have H:=H1;clear H1;obtain rfl:=Option.some.inj H;go_enter Tryz.func39,Tryz.ntmps39
   go_wp2_with(first|((with_reducible refine aZ (f:=84) rfl ?_);refine dO (some 5) rfl rfl Tryz.func84 (by kernel_rfl) rfl #[.slice A0 l0.length c0] rfl q'a ?_;(with_reducible refine(rG.calls _ _ l0 false _ ?dz ?dA A2.out).mono ?_);(case dz=>repeat(first|exact HR0.out|(with_reducible refine Kd.nA ?_ _)|(with_reducible refine Kd.nW ?_ _)|(with_reducible refine Kd.qB ?_)));(case dA=>exact HC0.out);rintro e w9 ⟨rfl,hb⟩;refine⟨_,rfl,?_⟩;replace HB:=ak.mk (aG bz hb);(try clear hb);(try clear hb2);(try clear hk);(try clear hi))|((with_reducible refine aZ (f:=85) rfl ?_);refine dO (some 8) rfl rfl Tryz.func85 (by kernel_rfl) rfl #[.slice A0 l0.length c0] rfl q'a ?_;(with_reducible refine(eU.calls k _ _ l0 false _ ?dz ?dA A5.out).mono ?_);(case dz=>exact cz (Kd.eF HR0.out HB.out));(case dA=>exact HC0.out);rintro e w10 ⟨rfl,hb⟩;refine⟨_,rfl,?_⟩;replace HB:=ak.mk (aG bz hb);(try clear hb);(try clear hb2);(try clear hk);(try clear hi)))
   go_ret;exact⟨by first|rfl|(simp[aJ,aM]<;>rfl)|(simp[*,aJ,aM]<;>rfl),bz⟩
end Go.Proofs.aj.W7
namespace Go.Proofs.aj.W7
open Go.RowKit Go.Proofs Go.Proofs.aj Go.Proofs.YtkcmghlhpbepcaaGreatDoor Go.Proofs.ah.aD
def stk(l:List Rw):List Bt:=l.foldl after []
def rR(x:Rw):Tk:=if x.f1=0 then⟨1,x.f2,⟨#[]⟩,x.f4,false⟩else if x.f1=1 then⟨0,⟨#[]⟩,x.f3,[],false⟩else⟨3,⟨#[]⟩,x.f3,[],false⟩
def zT(n:Bt):Tk:=⟨2,n,⟨#[]⟩,[],false⟩
def opA(op:List Bt)(x:Rw):List Bt:=if x.f1=0∧jv x.f2=false then op++[x.f2]else op
def emit:List Rw→List Bt→List Tk
 | [],op=>op.reverse.map zT
 |x::r,op=>(op.drop x.f0.toNat).reverse.map zT++rR x::emit r (opA (op.take x.f0.toNat) x)
structure FQ (x:Rw) (op:List Bt) (out:List Rw):Prop where
 lo:0≤x.f0
 hi:x.f0≤op.length
 deep:x.f0<60
 len:out.length<4096
 kind:x.f1=0∨x.f1=1∨x.f1=2
 el:x.f1=0→x.f2.data.toList≠[]∧lD x.f2=false∧uK x.f2 (op.take x.f0.toNat)=true∧x.f3=⟨#[]⟩∧mh x.f4=x.f4
 no:x.f1≠0→x.f2=⟨#[]⟩∧x.f4=[]
 text:x.f1=1→x.f3.data.toList≠[]∧ou (op.take x.f0.toNat) out=false
def RowsFit:List Rw→List Bt→List Rw→Prop
 | [],_,_=>True
 |x::r,op,out=>FQ x op out∧RowsFit r (opA (op.take x.f0.toNat) x) (out++[x])
def FR(op:List Bt):Prop:=∀n∈op,n.data.toList≠[]∧lD n=false∧jv n=false
theorem Dt{a b op:List Bt}(h:dU op a b op.length<0):nZ a b op=op:=by
 unfold nZ;rw[kS,if_pos h]
theorem Ou{s:Bt}{op:List Bt}(h:uK s op=true):fQ op s=op:=by
 unfold uK at h;simp only[Bool.and_eq_true,Bool.not_eq_true',Bool.and_eq_false_iff,decide_eq_true_eq,decide_eq_false_iff_not]at h;unfold fQ;rw[Dt h.2]
 split
 ·rename_i hp
  rcases h.1 with h1|h1
  ·rw[h1]at hp;cases hp
  ·exact Dt (by omega)
 ·rfl
theorem QS{op:List Bt}{out:List Rw}{n:Bt}(h:n.data.toList≠[]∧lD n=false∧jv n=false):iy (op++[n]) out false n=(op,out,false):=by
 unfold iy;rw[if_neg h.1,if_neg (by rw[h.2.1];decide),if_neg (by rw[h.2.2];decide)]
 have e:dU (op++[n]) [n] (y9 n) (op++[n]).length=(op.length:Int):=by
  rw[List.length_append,List.length_cons,List.length_nil,Nat.zero_add,dU];have e1:(op++[n]).getD op.length ⟨#[]⟩=n:=by simp
  rw[e1,if_pos (by simp[Lib.containsS,Lib.idxOfS,Lib.idxFromS])]
 rw[e,if_pos (by omega),Int.toNat_natCast,List.take_append_of_le_length (Nat.le_refl _),List.take_length]
theorem FT(rest:List Tk)(out:List Rw)(op:List Bt):∀(m:List Bt),FR m→jY (m.map zT++rest) (op++m.reverse) out=jY rest op out
 | [],_=>by simp
 |n::m,h=>by
  have hs:fV (op++(n::m).reverse) out (zT n)=(op++m.reverse,out,false):=by
   unfold fV zT;rw[if_neg (by simp),if_neg (by simp),if_neg (by simp),if_pos (by simp),List.reverse_cons,←List.append_assoc];exact QS (h n (by simp))
  rw[List.map_cons,List.cons_append,jY,hs,if_neg (by simp)];exact FT rest out op m (fun k hk=>h k (by simp[hk]))
theorem HZ(rest:List Tk)(out:List Rw)(ns op:List Bt)(h:FR ns):jY (ns.reverse.map zT++rest) (op++ns) out=jY rest op out:=by
 have:=FT rest out op ns.reverse (fun n hn=>h n (List.mem_reverse.1 hn))
 rwa [List.reverse_reverse]at this
theorem Kq{op:List Bt}{out:List Rw}(x:Rw)(h1:out.length<4096)(h2:op.length<60):kg op out false x=(out++[⟨op.length,x.f1,x.f2,x.f3,x.f4⟩],false):=by
 unfold kg;rw[if_neg (by omega)]
theorem rO{x:Rw}{op:List Bt}{out:List Rw}(h:FQ x op out):fV (op.take x.f0.toNat) out (rR x)=(opA (op.take x.f0.toNat) x,out++[x],false):=by
 have hl:(op.take x.f0.toNat).length=x.f0.toNat:=by rw[List.length_take];have:=h.hi;have:=h.lo;omega
 have hlo:=h.lo;have hd:=h.deep;have hx:((op.take x.f0.toNat).length:Int)=x.f0:=by rw[hl];omega
 have h60:(op.take x.f0.toNat).length<60:=by omega
 have he:=h.el;have hno:=h.no;have htx:=h.text;have hlen:=h.len;generalize op.take x.f0.toNat=op' at *;obtain⟨d,k,nm,tx,at_⟩:=x;simp only at *
 rcases h.kind with rfl|rfl|rfl
 ·obtain⟨a1,a2,a3,rfl,a5⟩:=he rfl
  have et:fV op' out (rR ⟨d,0,nm,⟨#[]⟩,at_⟩)=ko op' out false nm at_:=by simp[fV,rR]
  rw[et];unfold ko;rw[if_neg a1,if_neg (by rw[a2];decide),Ou a3,Kq _ hlen h60];simp only[a5,hx,opA];cases hv:jv nm<;>simp
 ·obtain⟨rfl,rfl⟩:=hno (by decide)
  obtain⟨a1,a2⟩:=htx rfl;have et:fV op' out (rR ⟨d,1,⟨#[]⟩,tx,[]⟩)=(op',gI op' out false tx):=by simp[fV,rR]
  rw[et];unfold gI;rw[if_neg a1,a2,if_neg (by decide),Kq _ hlen h60];simp[hx,opA]
 ·obtain⟨rfl,rfl⟩:=hno (by decide)
  have et:fV op' out (rR ⟨d,2,⟨#[]⟩,tx,[]⟩)=(op',kg op' out false ⟨0,2,⟨#[]⟩,tx,[]⟩):=by simp[fV,rR]
  rw[et,Kq _ hlen h60];simp[hx,opA]
theorem R7{x:Rw}{op:List Bt}{out:List Rw}(h:FQ x op out)(ho:FR op):FR (opA (op.take x.f0.toNat) x):=by
 unfold opA
 split
 ·rename_i hc
  obtain⟨a1,a2,_⟩:=h.el hc.1;intro n hn
  rcases List.mem_append.1 hn with hn|hn
  ·exact ho n (List.mem_of_mem_take hn)
  ·obtain rfl:=List.mem_singleton.1 hn
   exact⟨a1,a2,hc.2⟩
 ·exact fun n hn=>ho n (List.mem_of_mem_take hn)
theorem H6:∀(r:List Rw) (op:List Bt) (out:List Rw),FR op→RowsFit r op out→jY (emit r op) op out=some (out++r)
 | [],op,out,ho,_=>by
   have:=HZ [] out op [] ho;rw[List.nil_append,List.append_nil]at this;rw[emit,this,jY,List.append_nil]
 |x::r,op,out,ho,h=>by
  obtain⟨h1,h2⟩:=h;have e:=HZ (rR x::emit r (opA (op.take x.f0.toNat) x)) out (op.drop x.f0.toNat) (op.take x.f0.toNat) (fun n hn=>ho n (List.mem_of_mem_drop hn));rw[List.take_append_drop]at e;rw[emit,e,jY,rO h1,if_neg (by simp)];rw[H6 r _ _ (R7 h1 ho) h2,List.append_assoc,List.singleton_append]
end Go.Proofs.aj.W7
namespace Go.Proofs.YtkcmghlhpbepcaaGreatDoor
open Go.Proofs
theorem Fv{p:UInt8→Bool}{c:UInt8}{r:Txt}(h:p c=true):∀ {a:Txt},(∀x∈a,p x=false)→(a++c::r).findIdx p=a.length
 | [],_=>by simp[List.findIdx_cons,h]
 |x::a,ha=>by
  rw[List.cons_append,List.findIdx_cons,ha x (by simp),Fv h (fun y hy=>ha y (by simp[hy]))];simp
theorem QB{p:UInt8→Bool}:∀ {a:Txt},(∀x∈a,p x=false)→a.findIdx p=a.length
 | [],_=>rfl
 |x::a,ha=>by
  rw[List.findIdx_cons,ha x (by simp),QB (fun y hy=>ha y (by simp[hy]))];simp
theorem run_hit{t a r q:Txt}{ts:List Tok}(ha:(60:UInt8)∉a)(ho:iL r=some (ts,q)):nk t (a++60::r)=eO (t++a)++ts++nk [] q:=by
 have hf:gI (a++60::r)=a.length:=Fv (by decide) (fun x hx=>beq_eq_false_iff_ne.2 (fun e=>ha (by rw[←e];exact hx)));rw[yP,hf];simp[ho]
theorem run_none{t a:Txt}(ha:(60:UInt8)∉a):nk t a=eO (t++a):=by
 have hf:gI a=a.length:=QB (fun x hx=>beq_eq_false_iff_ne.2 (fun e=>ha (by rw[←e];exact hx)));rw[yP,hf];simp
theorem Bq(t:Txt):nk t []=eO t:=by simpa using run_none (t:=t) (a:=[]) (by simp)
theorem Mx{nm r:Txt}{c:UInt8}(hn:∀x∈nm,bS x=false)(hc:bS c=true):eG (nm++c::r)=(ku [] (c::r)).map fun q=>(⟨0,iJ nm,q.1,[],q.2.1⟩,q.2.2):=by
 unfold eG;rw[Fv hc hn];simp
theorem attrs_gt(acc:List (Txt×Txt))(r:Txt):ku acc (62::r)=some (acc,false,r):=by
 have hg:qm (62::r)=0:=by simp[qm,List.findIdx_cons,cO]
 rw[yH,vv,hg];simp
def quietB:Txt→Bool
 | []=>true
 | [c]=>c !=60
 |c::d::r=>!(c==60&&d==47)&&quietB (d::r)
theorem Oe{name r:Txt}{c:UInt8}(hc:bS c=true):gD name (60::47::(name++c::r))=true:=by
 simp[gD,hc]
def hasL(l:List UInt8)(c:Nat):Bool:=l.any fun x=>x.toNat==c
end Go.Proofs.YtkcmghlhpbepcaaGreatDoor
namespace Go.Proofs.YtkcmghlhpbepcaaGreatDoor
open Go.RowKit Go.Proofs
theorem OI{c:UInt8}{a r:List UInt8}(h:c∉a):gH c (a++c::r)=(a,r,true):=by
 induction a with
 |nil=>simp[gH]
 |cons x a ih=>
  have hx:x≠c:=fun e=>h (by simp[e])
  rw[List.cons_append,gH,if_neg hx,ih (fun e=>h (by simp[e]))]
theorem tN{name t r:List UInt8}(h:(59:UInt8)∉name)(hm:iM name=(t,true)):iK (38::(name++59::r))=t++iK r:=by
 have e:=OI (r:=r) h;rw[El (by rw[e]) (by rw[e,hm]),e,hm]
theorem m_amp:iM [97,109,112]=([38],true):=by decide +kernel
theorem m_lt:iM [108,116]=([60],true):=by decide +kernel
theorem m_gt:iM [103,116]=([62],true):=by decide +kernel
theorem m_quot:iM [113,117,111,116]=([34],true):=by decide +kernel
theorem m_nbsp:iM [110,98,115,112]=([194,160],true):=by decide +kernel
theorem dec_amp(r:List UInt8):iK ([38,97,109,112,59]++r)=38::iK r:=tN (by decide) m_amp
theorem dec_lt(r:List UInt8):iK ([38,108,116,59]++r)=60::iK r:=tN (by decide) m_lt
theorem dec_gt(r:List UInt8):iK ([38,103,116,59]++r)=62::iK r:=tN (by decide) m_gt
theorem dec_quot(r:List UInt8):iK ([38,113,117,111,116,59]++r)=34::iK r:=tN (by decide) m_quot
theorem KO(r:List UInt8):iK ([38,110,98,115,112,59]++r)=194::160::iK r:=tN (by decide) m_nbsp
theorem DL(q:Bool)(c:UInt8)(r:List UInt8):iK (oI q c++r)=c::iK r:=by
 unfold oI
 split
 ·rename_i h;rw[h,dec_amp]
 split
 ·rename_i h;rw[h,dec_lt]
 split
 ·rename_i h;rw[h,dec_gt]
 split
 ·rename_i h;rw[h.1,dec_quot]
 ·rename_i h _ _ _
  rw[List.singleton_append,qQ,if_neg h]
theorem Ir(q:Bool):∀l,iK (wrL q l)=l
 | []=>by simp[wrL,q8]
 | [c]=>by
   rw[wrL];have:=DL q c []
   rwa [List.append_nil,q8]at this
 |c::d::l=>by
  rw[wrL]
  split
  ·rename_i h
   rw[KO,Ir q l,h.1,h.2]
  ·rw[DL,Ir q (d::l)]
theorem CY(a b:List UInt8)(c:Nat):hasL (a++b) c=(hasL a c||hasL b c):=by simp[hasL]
theorem Iu(q:Bool)(c:UInt8)(n:Nat)(hn:n=60∨n=62∨(n=34∧q=true)):hasL (oI q c) n=false:=by
 unfold oI
 split
 ·rcases hn with rfl|rfl|⟨rfl,_⟩<;>decide
 split
 ·rcases hn with rfl|rfl|⟨rfl,_⟩<;>decide
 split
 ·rcases hn with rfl|rfl|⟨rfl,_⟩<;>decide
 split
 ·rcases hn with rfl|rfl|⟨rfl,_⟩<;>decide
 ·rename_i h1 h2 h3 h4
  simp only[hasL,List.any_cons,List.any_nil,Bool.or_false,beq_eq_false_iff_ne,ne_eq];intro e
  rcases hn with rfl|rfl|⟨rfl,hq⟩
  ·exact h2 (Ac (n:=60) e (by decide))
  ·exact h3 (Ac (n:=62) e (by decide))
  ·exact h4 ⟨Ac (n:=34) e (by decide),hq⟩
theorem Ae(q:Bool)(n:Nat)(hn:n=60∨n=62∨(n=34∧q=true)):∀l,hasL (wrL q l) n=false
 | []=>rfl
 | [c]=>by rw[wrL];exact Iu q c n hn
 |c::d::l=>by
  rw[wrL]
  split
  ·rw[CY,Ae q n hn l]
   rcases hn with rfl|rfl|⟨rfl,_⟩<;>decide
  ·rw[CY,Iu q c n hn,Ae q n hn (d::l)]
   rfl
theorem OJ(q:Bool)(c:UInt8):(oI q c).length≤6:=by
 unfold oI
 repeat' split
 all_goals simp
theorem Em(q:Bool):∀l,(wrL q l).length≤6 * l.length
 | []=>by simp[wrL]
 | [c]=>by rw[wrL];have:=OJ q c;simp;omega
 |c::d::l=>by
  rw[wrL]
  split
  ·have:=Em q l
   simp;omega
  ·have:=Em q (d::l)
   have:=OJ q c;simp at *;omega
end Go.Proofs.YtkcmghlhpbepcaaGreatDoor
