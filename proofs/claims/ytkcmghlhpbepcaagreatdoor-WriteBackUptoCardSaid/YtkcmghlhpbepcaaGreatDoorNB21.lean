/- Lemmas and walks, part 21. -/
import Derived.Test.YtkcmghlhpbepcaaGreatDoorNB20
import Derived.Test.YtkcmghlhpbepcaaGreatDoorNB17
set_option linter.unusedVariables false
set_option linter.unusedSimpArgs false
set_option maxHeartbeats 8000000
set_option maxRecDepth 100000
namespace Go.Proofs.aj.W7
open Go.RowKit Go.Proofs.ah.aD Go.Proofs.ah.bJ Go.Proofs.ah.bW
attribute [local go_sem] dB dD dR dS bZ cu dF dG
mutual
def dU.l0:Nat→Int→List (S34)→Int→Int→Option (Bool)
 |0,_,_,_,_=>none
 |k+1,x3,x6,x7,x8=>if x8<x7 then(if 0≤x8 then(if x8<(x6.length:Int)then(if((au x6 x8).f0)<0 then(dU.j1 k x6 x7 x8 true ((au x6 x8).f0) ((au x6 x8).f1) ((au x6 x8).f2) ((au x6 x8).f3) ((au x6 x8).f4))else(if((au x6 x8).f0)>x3 then(dU.j1 k x6 x7 x8 true ((au x6 x8).f0) ((au x6 x8).f1) ((au x6 x8).f2) ((au x6 x8).f3) ((au x6 x8).f4))else((rows_row.f k ((au x6 x8).f0) ((au x6 x8).f1) ((au x6 x8).f2) ((au x6 x8).f3) ((au x6 x8).f4)).bind fun t583=>(dU.j1 k x6 x7 x8 (!t583) ((au x6 x8).f0) ((au x6 x8).f1) ((au x6 x8).f2) ((au x6 x8).f3) ((au x6 x8).f4)))))else(none))else(none))else(some true)
def dU.j1:Nat→List (S34)→Int→Int→Bool→Int→Int→ByteArray→ByteArray→List (S36)→Option (Bool)
 |0,_,_,_,_,_,_,_,_,_=>none
 |k+1,x6,x7,x8,x25,Pb,x583001,x583002,x583003,x583004=>if x25=true then(some false)else(if x583001=0 then(dU.l0 k (wrap64 (Pb+1)) x6 x7 (wrap64 (x8+1)))else(dU.l0 k Pb x6 x7 (wrap64 (x8+1))))
end
def dU.f(k:Nat)(l0:List (S34)):Option (Bool):=dU.l0 k 0 l0 (l0.length:Int) 0
theorem dU.calls(k:Nat)(A0:Option Addr)(c0:Nat)(l0:List (S34))(r:Bool)(w:World)(hr0:Kd.C k34 w A0 l0.length l0)(hc0:l0.length≤c0)(h:dU.f k l0=some r):
 Calls Tryz.prog 85 #[.slice A0 l0.length c0] w fun e w'=>e=.returned (.bool r)∧Below w.heap.size w w':=by
 have hu34:=Tryz.underlying34;have HR0:=ak.mk hr0;have HC0:=ak.mk hc0;clear hr0 hc0;have HB:=ak.mk (Below.refl w.heap.size w);have H:(dU.l0 k 0 l0 (l0.length:Int) 0)=some r:=h;clear h;have H':=ak.mk H;clear H;go_enter Tryz.func85,Tryz.ntmps85;go_wp2
 go_loopg [3,8] k (fun kq v3 v8 w'=>∃(nS fq:Int),v3=.int .i64 nS∧v8=.int .i64 fq∧ak (dU.l0 kq nS l0 (l0.length:Int) fq=some r)∧ak (kq≤k)∧ak (Below w.heap.size w w'))
 case atStart=>exact⟨(0),(0),q'c,q'c,H',⟨Nat.le_refl _⟩,⟨bz⟩⟩
 case round=>
  clear H';obtain⟨nS,fq,rfl,rfl,HA,HK1,HB⟩:=hrel;cases gk with
  |zero=>exact absurd HA.out (by simp[dU.l0])
  |succ k1=>
   have H:=HA.out;clear HA;simp only[dU.l0]at H
   by_cases c2:fq<(l0.length:Int)
   ·rw[if_pos c2]at H
    have Dh:decide (fq<(l0.length:Int))=true:=decide_eq_true c2;clear c2
    by_cases c3:0≤fq
    ·rw[if_pos c3]at H
     have nM:decide (0≤fq)=true:=decide_eq_true c3;clear c3
     by_cases c4:fq<(l0.length:Int)
     ·rw[if_pos c4]at H
      have mZ:decide (fq<(l0.length:Int))=true:=decide_eq_true c4;clear c4;have HC5:=ak.mk H;clear H;have p581:0≤(fq:Int):=q'b;have q581:fq<(l0.length:Int):=q'b;obtain⟨ad581,Jh,Ji,e581,Dz,DC,DF,DI,DJ,Pf,Pg⟩:=kQ HR0.out fq p581 q581;cases e581;replace Dz:=(HB.out.cell (World.block_lt_of_cell? w _ Dz)).trans Dz;replace DC:=(HB.out.cell (World.block_lt_of_cell? w _ DC)).trans DC;replace DF:=(HB.out.cell (World.block_lt_of_cell? w _ DF)).trans DF;replace DI:=(HB.out.cell (World.block_lt_of_cell? w _ DI)).trans DI;replace DJ:=(HB.out.cell (World.block_lt_of_cell? w _ DJ)).trans DJ;have HR581_4:=ak.mk Pg;have HC581_4:=ak.mk Pf;clear Pg Pf;replace p581:=eq_true p581;replace q581:=eq_true q581
      go_upto_region 5 with(first|((with_reducible refine cO (N:=5) rfl ?_);refine eH ?hg (N:=5) ?hd (cs:=#[.int .i64 0,.int .i64 0,.string (⟨#[]⟩:ByteArray),.string (⟨#[]⟩:ByteArray),.slice none 0 0]) (t:=34) ?hr ?_;(case hd=>rfl);(case hg=>rfl);(case hr=>first|(go_simp;done)|(go_simp;rfl));intro jH hg w6 fP hb;have n0_:=ak.mk (aG bz hb);have n1_:=ak.mk (fP);have n2_:=ak.mk ((by rw[hg];exact(aR bz):w.heap.size≤jH));have n3_:=ak.mk ((by rw[hg];exact(aR bz):w.heap.size≤jH));clear HB;have HB:=n0_;have eZ:=n1_;have GW582:=n2_;have CG:=n3_;clear n0_ n1_ n2_ n3_;clear hb fP hg;have hcz7_0:w6.cell? ⟨jH,0,none⟩=some (.int .i64 0):=(aC eZ.out 0).trans rfl;have hcz7_1:w6.cell? ⟨jH,1,none⟩=some (.int .i64 0):=(aC eZ.out 1).trans rfl;have hcz7_2:w6.cell? ⟨jH,2,none⟩=some (.string (⟨#[]⟩:ByteArray)):=(aC eZ.out 2).trans rfl;have hcz7_3:w6.cell? ⟨jH,3,none⟩=some (.string (⟨#[]⟩:ByteArray)):=(aC eZ.out 3).trans rfl;have hcz7_4:w6.cell? ⟨jH,4,none⟩=some (.slice none 0 0):=(aC eZ.out 4).trans rfl;have hfz7_0:=ay eZ.out 0;have hfz7_1:=ay eZ.out 1;have hfz7_2:=ay eZ.out 2;have hfz7_3:=ay eZ.out 3;have hfz7_4:=ay eZ.out 4))
      (try simp only[Act.put,List.setIfInBounds_toArray,List.set_cons_zero,List.set_cons_succ])
      go_cut [25] (fun v25 wc=>∃(kq:Nat) (x25_4:Bool),v25=.bool x25_4∧ak (dU.j1 kq l0 (l0.length:Int) fq x25_4 ((au l0 fq).f0) ((au l0 fq).f1) ((au l0 fq).f2) ((au l0 fq).f3) ((au l0 fq).f4)=some r)∧ak (kq≤k1)∧ak (wc.heap[jH]?=some (.cells #[.int .i64 ((au l0 fq).f0),.int .i64 ((au l0 fq).f1),.string ((au l0 fq).f2),.string ((au l0 fq).f3),(.slice Jh ((au l0 fq).f4).length Ji)] 34 (0,0)))∧ak (Below w.heap.size w wc))
      case first=>
       have H:=HC5.out;clear HC5
       by_cases c8:((au l0 fq).f0)<0
       ·rw[if_pos c8]at H
        have xU:decide (((au l0 fq).f0)<0)=true:=decide_eq_true c8;clear c8
        (first|rw[xU] |(simp only[oO,oP];rw[xU])|skip)
        have H':=ak.mk H;clear H;have wh:w6.cell? ⟨jH,0,none⟩=some (.int .i64 0):=(aC eZ.out 0).trans rfl;have wm:w6.cell? ⟨jH,1,none⟩=some (.int .i64 0):=(aC eZ.out 1).trans rfl;have wo:w6.cell? ⟨jH,2,none⟩=some (.string (⟨#[]⟩:ByteArray)):=(aC eZ.out 2).trans rfl;have wu:w6.cell? ⟨jH,3,none⟩=some (.string (⟨#[]⟩:ByteArray)):=(aC eZ.out 3).trans rfl;have wz:w6.cell? ⟨jH,4,none⟩=some (.slice none 0 0):=(aC eZ.out 4).trans rfl;have wB:=ay eZ.out 0;have wC:=ay eZ.out 1;have wD:=ay eZ.out 2;have wE:=ay eZ.out 3;have wF:=ay eZ.out 4;go_wp2
        go_meet
        case rel=>exact⟨_,(true),q'c,H',⟨by have:=HK1.out;first|omega|exact Nat.le_refl _⟩,⟨by(with_reducible repeat(first|refine aT ?_ _|refine aY ?_ |refine aU ?_ _));refine bU (cs:=#[.int .i64 ((au l0 fq).f0),.int .i64 ((au l0 fq).f1),.string ((au l0 fq).f2),.string ((au l0 fq).f3),.slice none 0 0]) ?_ 4 _ rfl;(with_reducible repeat(first|refine aT ?_ _|refine aY ?_ |refine aU ?_ _));refine bU (cs:=#[.int .i64 ((au l0 fq).f0),.int .i64 ((au l0 fq).f1),.string ((au l0 fq).f2),.string (⟨#[]⟩:ByteArray),.slice none 0 0]) ?_ 3 _ rfl;(with_reducible repeat(first|refine aT ?_ _|refine aY ?_ |refine aU ?_ _));refine bU (cs:=#[.int .i64 ((au l0 fq).f0),.int .i64 ((au l0 fq).f1),.string (⟨#[]⟩:ByteArray),.string (⟨#[]⟩:ByteArray),.slice none 0 0]) ?_ 2 _ rfl;(with_reducible repeat(first|refine aT ?_ _|refine aY ?_ |refine aU ?_ _));refine bU (cs:=#[.int .i64 ((au l0 fq).f0),.int .i64 0,.string (⟨#[]⟩:ByteArray),.string (⟨#[]⟩:ByteArray),.slice none 0 0]) ?_ 1 _ rfl;(with_reducible repeat(first|refine aT ?_ _|refine aY ?_ |refine aU ?_ _));refine bU (cs:=#[.int .i64 0,.int .i64 0,.string (⟨#[]⟩:ByteArray),.string (⟨#[]⟩:ByteArray),.slice none 0 0]) ?_ 0 _ rfl;(with_reducible repeat(first|refine aT ?_ _|refine aY ?_ |refine aU ?_ _));exact eZ.out⟩,⟨bs CG.out⟩⟩
       ·rw[if_neg c8]at H
        have xU:decide (((au l0 fq).f0)<0)=false:=decide_eq_false c8;clear c8
        (first|rw[xU] |(simp only[oO,oP];rw[xU])|skip)
        by_cases c10:((au l0 fq).f0)>nS
        ·rw[if_pos c10]at H
         have Gp:decide (nS<((au l0 fq).f0))=true:=decide_eq_true c10;clear c10;have H':=ak.mk H;clear H;have Og:w6.cell? ⟨jH,0,none⟩=some (.int .i64 0):=(aC eZ.out 0).trans rfl;have Oh:w6.cell? ⟨jH,1,none⟩=some (.int .i64 0):=(aC eZ.out 1).trans rfl;have Oi:w6.cell? ⟨jH,2,none⟩=some (.string (⟨#[]⟩:ByteArray)):=(aC eZ.out 2).trans rfl;have Oj:w6.cell? ⟨jH,3,none⟩=some (.string (⟨#[]⟩:ByteArray)):=(aC eZ.out 3).trans rfl;have Ol:w6.cell? ⟨jH,4,none⟩=some (.slice none 0 0):=(aC eZ.out 4).trans rfl;have Om:=ay eZ.out 0;have Oo:=ay eZ.out 1;have Oq:=ay eZ.out 2;have Ot:=ay eZ.out 3;have Ou:=ay eZ.out 4;go_wp2
         go_meet
         case rel=>exact⟨_,(true),q'c,H',⟨by have:=HK1.out;first|omega|exact Nat.le_refl _⟩,⟨by(with_reducible repeat(first|refine aT ?_ _|refine aY ?_ |refine aU ?_ _));refine bU (cs:=#[.int .i64 ((au l0 fq).f0),.int .i64 ((au l0 fq).f1),.string ((au l0 fq).f2),.string ((au l0 fq).f3),.slice none 0 0]) ?_ 4 _ rfl;(with_reducible repeat(first|refine aT ?_ _|refine aY ?_ |refine aU ?_ _));refine bU (cs:=#[.int .i64 ((au l0 fq).f0),.int .i64 ((au l0 fq).f1),.string ((au l0 fq).f2),.string (⟨#[]⟩:ByteArray),.slice none 0 0]) ?_ 3 _ rfl;(with_reducible repeat(first|refine aT ?_ _|refine aY ?_ |refine aU ?_ _));refine bU (cs:=#[.int .i64 ((au l0 fq).f0),.int .i64 ((au l0 fq).f1),.string (⟨#[]⟩:ByteArray),.string (⟨#[]⟩:ByteArray),.slice none 0 0]) ?_ 2 _ rfl;(with_reducible repeat(first|refine aT ?_ _|refine aY ?_ |refine aU ?_ _));refine bU (cs:=#[.int .i64 ((au l0 fq).f0),.int .i64 0,.string (⟨#[]⟩:ByteArray),.string (⟨#[]⟩:ByteArray),.slice none 0 0]) ?_ 1 _ rfl;(with_reducible repeat(first|refine aT ?_ _|refine aY ?_ |refine aU ?_ _));refine bU (cs:=#[.int .i64 0,.int .i64 0,.string (⟨#[]⟩:ByteArray),.string (⟨#[]⟩:ByteArray),.slice none 0 0]) ?_ 0 _ rfl;(with_reducible repeat(first|refine aT ?_ _|refine aY ?_ |refine aU ?_ _));exact eZ.out⟩,⟨bs CG.out⟩⟩
        ·rw[if_neg c10]at H
         have Gp:decide (nS<((au l0 fq).f0))=false:=decide_eq_false c10;clear c10;replace H:=Option.bind_eq_some_iff.mp H;obtain⟨t583,A120,H⟩:=H;replace H:(dU.j1 k1 l0 (l0.length:Int) fq (!t583) ((au l0 fq).f0) ((au l0 fq).f1) ((au l0 fq).f2) ((au l0 fq).f3) ((au l0 fq).f4))=some r:=H;have A12:=ak.mk A120;clear A120;have H':=ak.mk H;clear H;have hcz13_0:w6.cell? ⟨jH,0,none⟩=some (.int .i64 0):=(aC eZ.out 0).trans rfl;have hcz13_1:w6.cell? ⟨jH,1,none⟩=some (.int .i64 0):=(aC eZ.out 1).trans rfl;have hcz13_2:w6.cell? ⟨jH,2,none⟩=some (.string (⟨#[]⟩:ByteArray)):=(aC eZ.out 2).trans rfl;have hcz13_3:w6.cell? ⟨jH,3,none⟩=some (.string (⟨#[]⟩:ByteArray)):=(aC eZ.out 3).trans rfl;have hcz13_4:w6.cell? ⟨jH,4,none⟩=some (.slice none 0 0):=(aC eZ.out 4).trans rfl;have hfz13_0:=ay eZ.out 0;have hfz13_1:=ay eZ.out 1;have hfz13_2:=ay eZ.out 2;have hfz13_3:=ay eZ.out 3;have hfz13_4:=ay eZ.out 4
         go_wp2_with(first|(go_at_call 131;(with_reducible refine(rows_row.calls k1 ((au l0 fq).f0) ((au l0 fq).f1) ((au l0 fq).f2) ((au l0 fq).f3) _ _ ((au l0 fq).f4) t583 _ ?cZ ?dH A12.out).mono ?_);(case cZ=>exact Kd.eF HR581_4.out (bs CG.out));(case dH=>exact HC581_4.out);rintro e w14 ⟨rfl,hb⟩;have n0_:=ak.mk (dK (g:=jH) (o:=.cells #[.int .i64 ((au l0 fq).f0),.int .i64 ((au l0 fq).f1),.string ((au l0 fq).f2),.string ((au l0 fq).f3),.slice Jh ((au l0 fq).f4).length Ji] 34 (0,0)) (by(with_reducible repeat(first|refine aT ?_ _|refine aY ?_ |refine aU ?_ _));refine bU (cs:=#[.int .i64 ((au l0 fq).f0),.int .i64 ((au l0 fq).f1),.string ((au l0 fq).f2),.string ((au l0 fq).f3),.slice none 0 0]) ?_ 4 _ rfl;(with_reducible repeat(first|refine aT ?_ _|refine aY ?_ |refine aU ?_ _));refine bU (cs:=#[.int .i64 ((au l0 fq).f0),.int .i64 ((au l0 fq).f1),.string ((au l0 fq).f2),.string (⟨#[]⟩:ByteArray),.slice none 0 0]) ?_ 3 _ rfl;(with_reducible repeat(first|refine aT ?_ _|refine aY ?_ |refine aU ?_ _));refine bU (cs:=#[.int .i64 ((au l0 fq).f0),.int .i64 ((au l0 fq).f1),.string (⟨#[]⟩:ByteArray),.string (⟨#[]⟩:ByteArray),.slice none 0 0]) ?_ 2 _ rfl;(with_reducible repeat(first|refine aT ?_ _|refine aY ?_ |refine aU ?_ _));refine bU (cs:=#[.int .i64 ((au l0 fq).f0),.int .i64 0,.string (⟨#[]⟩:ByteArray),.string (⟨#[]⟩:ByteArray),.slice none 0 0]) ?_ 1 _ rfl;(with_reducible repeat(first|refine aT ?_ _|refine aY ?_ |refine aU ?_ _));refine bU (cs:=#[.int .i64 0,.int .i64 0,.string (⟨#[]⟩:ByteArray),.string (⟨#[]⟩:ByteArray),.slice none 0 0]) ?_ 0 _ rfl;(with_reducible repeat(first|refine aT ?_ _|refine aY ?_ |refine aU ?_ _));exact eZ.out) hb);have n1_:=ak.mk (aG (bs CG.out) hb);clear eZ;clear HB;have eZ:=n0_;have HB:=n1_;clear n0_ n1_;(try clear hb);(try clear hb2);(try clear hk);(try clear hi)))
         go_meet
         case rel=>exact⟨_,(!t583),q'c,H',⟨by have:=HK1.out;first|omega|exact Nat.le_refl _⟩,⟨by(with_reducible repeat(first|refine aT ?_ _|refine aY ?_ |refine aU ?_ _));exact eZ.out⟩,⟨bs CG.out⟩⟩
      case rest=>
       clear HC5
       try clear c1
       try clear c2
       try clear Dh
       try clear p2
       try clear c3
       try clear nM
       try clear c4
       try clear mZ
       try clear c5
       try clear p5
       try clear q5
       try clear hx5
       try clear c8
       try clear xU
       try clear c10
       try clear Gp
       try clear Og
       try clear Oh
       try clear Oi
       try clear Oj
       try clear Ol
       try clear hcz13_0
       try clear hcz13_1
       try clear hcz13_2
       try clear hcz13_3
       try clear hcz13_4
       try clear hcz7_0
       try clear hcz7_1
       try clear hcz7_2
       try clear hcz7_3
       try clear hcz7_4
       try clear wh
       try clear wm
       try clear wo
       try clear wu
       try clear wz
       try clear Om
       try clear Oo
       try clear Oq
       try clear Ot
       try clear Ou
       try clear hfz13_0
       try clear hfz13_1
       try clear hfz13_2
       try clear hfz13_3
       try clear hfz13_4
       try clear hfz7_0
       try clear hfz7_1
       try clear hfz7_2
       try clear hfz7_3
       try clear hfz7_4
       try clear wB
       try clear wC
       try clear wD
       try clear wE
       try clear wF
       try clear Dz
       try clear DC
       try clear DF
       try clear DI
       try clear DJ
       try clear p581
       try clear q581
       obtain⟨kq,x25_4,rfl,HA,HJ4,eZ,HB⟩:=hcut;cases kq with
       |zero=>exact absurd HA.out (by simp[dU.j1])
       |succ kj4=>
        have H:=HA.out;clear HA;simp only[dU.j1]at H
        by_cases c15:x25_4=true
        ·subst c15
         have H1:(some false)=some r:=by rw[if_pos rfl]at H;exact H
         clear H;have H:=H1;clear H1;obtain rfl:=Option.some.inj H;go_wp2;go_ret;exact⟨by first|rfl|(simp[aJ,aM]<;>rfl)|(simp[*,aJ,aM]<;>rfl),bs CG.out⟩
        ·replace c15:=Bool.eq_false_iff.mpr c15
         subst c15;have H1:(if((au l0 fq).f1)=0 then(dU.l0 kj4 (wrap64 (((au l0 fq).f0)+1)) l0 (l0.length:Int) (wrap64 (fq+1)))else(dU.l0 kj4 ((au l0 fq).f0) l0 (l0.length:Int) (wrap64 (fq+1))))=some r:=by rw[if_neg (show¬(false=true) by decide)]at H;first|exact H|(simp only[eq_self]at H⊢;exact H)|(simp only[eq_self,if_true]at H⊢;exact H)
         clear H;have H:=H1;clear H1
         by_cases c16:((au l0 fq).f1)=0
         ·rw[if_pos c16]at H
          have c16b0:(((au l0 fq).f1)==0)=true:=beq_iff_eq.mpr c16;have c16b1:(((au l0 fq).f1) !=0)=false:=bne_eq_false_iff_eq.mpr c16;clear c16;have H':=ak.mk H;clear H;have OG:wc.cell? ⟨jH,0,none⟩=some (.int .i64 ((au l0 fq).f0)):=(aC eZ.out 0).trans rfl;have OH:wc.cell? ⟨jH,1,none⟩=some (.int .i64 ((au l0 fq).f1)):=(aC eZ.out 1).trans rfl;have OI:wc.cell? ⟨jH,2,none⟩=some (.string ((au l0 fq).f2)):=(aC eZ.out 2).trans rfl;have OJ:wc.cell? ⟨jH,3,none⟩=some (.string ((au l0 fq).f3)):=(aC eZ.out 3).trans rfl;have OL:wc.cell? ⟨jH,4,none⟩=some (.slice Jh ((au l0 fq).f4).length Ji):=(aC eZ.out 4).trans rfl;have OM:=ay eZ.out 0;have OO:=ay eZ.out 1;have OP:=ay eZ.out 2;have OQ:=ay eZ.out 3;have OT:=ay eZ.out 4;go_wp2
          go_roundg kj4
          case measure=>have:=HK1.out;have:=HJ4.out;omega
          case rel=>exact⟨(wrap64 (((au l0 fq).f0)+1)),(wrap64 (fq+1)),q'c,q'c,H',⟨by have:=HK1.out;have:=HJ4.out;omega⟩,⟨bs CG.out⟩⟩
         ·rw[if_neg c16]at H
          have c16b0:(((au l0 fq).f1)==0)=false:=beq_eq_false_iff_ne.mpr c16;have c16b1:(((au l0 fq).f1) !=0)=true:=bne_iff_ne.mpr c16;have H':=ak.mk H;clear H;have vQ:wc.cell? ⟨jH,0,none⟩=some (.int .i64 ((au l0 fq).f0)):=(aC eZ.out 0).trans rfl;have vR:wc.cell? ⟨jH,1,none⟩=some (.int .i64 ((au l0 fq).f1)):=(aC eZ.out 1).trans rfl;have vS:wc.cell? ⟨jH,2,none⟩=some (.string ((au l0 fq).f2)):=(aC eZ.out 2).trans rfl;have vT:wc.cell? ⟨jH,3,none⟩=some (.string ((au l0 fq).f3)):=(aC eZ.out 3).trans rfl;have vU:wc.cell? ⟨jH,4,none⟩=some (.slice Jh ((au l0 fq).f4).length Ji):=(aC eZ.out 4).trans rfl;have vV:=ay eZ.out 0;have vW:=ay eZ.out 1;have vX:=ay eZ.out 2;have vY:=ay eZ.out 3;have vZ:=ay eZ.out 4;go_wp2
          go_roundg kj4
          case measure=>have:=HK1.out;have:=HJ4.out;omega
          case rel=>exact⟨(((au l0 fq).f0)),(wrap64 (fq+1)),q'c,q'c,H',⟨by have:=HK1.out;have:=HJ4.out;omega⟩,⟨bs CG.out⟩⟩
     ·rw[if_neg c4]at H
      exact absurd H (by simp)
    ·rw[if_neg c3]at H
     exact absurd H (by simp)
   ·rw[if_neg c2]at H
    have Dh:decide (fq<(l0.length:Int))=false:=decide_eq_false c2;clear c2;obtain rfl:=Option.some.inj H;go_wp2;go_ret;exact⟨by first|rfl|(simp[aJ,aM]<;>rfl)|(simp[*,aJ,aM]<;>rfl),bz⟩
def oo.f(k:Nat)(l0:List (S34)):Option (Int):=(qw.f l0).bind fun t584=>(if t584=true then(some 2)else((dU.f k l0).bind fun t585=>(if t585=true then(some 0)else(some 40))))
theorem oo.calls(k:Nat)(A0:Option Addr)(c0:Nat)(l0:List (S34))(r:Int)(w:World)(hr0:Kd.C k34 w A0 l0.length l0)(hc0:l0.length≤c0)(h:oo.f k l0=some r):
 Calls Tryz.prog 39 #[.slice A0 l0.length c0] w fun e w'=>e=.returned (.int .i64 r)∧Below w.heap.size w w':=by
 have HR0:=ak.mk hr0;have HC0:=ak.mk hc0;clear hr0 hc0;have HB:=ak.mk (Below.refl w.heap.size w);have H:((qw.f l0).bind fun t584=>(if t584=true then(some 2)else((dU.f k l0).bind fun t585=>(if t585=true then(some 0)else(some 40)))))=some r:=h;clear h;replace H:=Option.bind_eq_some_iff.mp H;obtain⟨t584,A20,H⟩:=H;replace H:(if t584=true then(some 2)else((dU.f k l0).bind fun t585=>(if t585=true then(some 0)else(some 40))))=some r:=H;have A2:=ak.mk A20;clear A20
 by_cases c3:t584=true
 ·subst c3
  have H1:(some 2)=some r:=by rw[if_pos rfl]at H;exact H
  clear H;have H:=H1;clear H1;obtain rfl:=Option.some.inj H;go_enter Tryz.func39,Tryz.ntmps39
  go_wp2_with(first|((with_reducible refine aZ (f:=84) rfl ?_);refine dJ (some 5) rfl rfl Tryz.func84 (by kernel_rfl) rfl #[.slice A0 l0.length c0] rfl q'a ?_;(with_reducible refine(qw.calls _ _ l0 true _ ?cZ ?dH A2.out).mono ?_);(case cZ=>repeat(first|exact HR0.out|(with_reducible refine Kd.mg ?_ _)|(with_reducible refine Kd.nk ?_ _)|(with_reducible refine Kd.pJ ?_)));(case dH=>exact HC0.out);rintro e w4 ⟨rfl,hb⟩;refine⟨_,rfl,?_⟩;have n0_:=ak.mk (aG bz hb);clear HB;have HB:=n0_;clear n0_;(try clear hb);(try clear hb2);(try clear hk);(try clear hi)))
  go_ret;exact⟨by first|rfl|(simp[aJ,aM]<;>rfl)|(simp[*,aJ,aM]<;>rfl),bz⟩
 ·replace c3:=Bool.eq_false_iff.mpr c3
  subst c3;have H1:((dU.f k l0).bind fun t585=>(if t585=true then(some 0)else(some 40)))=some r:=by rw[if_neg (show¬(false=true) by decide)]at H;first|exact H|(simp only[eq_self]at H⊢;exact H)|(simp only[eq_self,if_true]at H⊢;exact H)
  clear H;have H:=H1;clear H1;replace H:=Option.bind_eq_some_iff.mp H;obtain⟨t585,A50,H⟩:=H;replace H:(if t585=true then(some 0)else(some 40))=some r:=H;have A5:=ak.mk A50;clear A50
  by_cases c6:t585=true
  ·subst c6
   have H1:(some 0)=some r:=by rw[if_pos rfl]at H;exact H
   clear H;have H:=H1;clear H1;obtain rfl:=Option.some.inj H;go_enter Tryz.func39,Tryz.ntmps39
   go_wp2_with(first|((with_reducible refine aZ (f:=84) rfl ?_);refine dJ (some 5) rfl rfl Tryz.func84 (by kernel_rfl) rfl #[.slice A0 l0.length c0] rfl q'a ?_;(with_reducible refine(qw.calls _ _ l0 false _ ?cZ ?dH A2.out).mono ?_);(case cZ=>repeat(first|exact HR0.out|(with_reducible refine Kd.mg ?_ _)|(with_reducible refine Kd.nk ?_ _)|(with_reducible refine Kd.pJ ?_)));(case dH=>exact HC0.out);rintro e w7 ⟨rfl,hb⟩;refine⟨_,rfl,?_⟩;have n0_:=ak.mk (aG bz hb);clear HB;have HB:=n0_;clear n0_;(try clear hb);(try clear hb2);(try clear hk);(try clear hi))|((with_reducible refine aZ (f:=85) rfl ?_);refine dJ (some 8) rfl rfl Tryz.func85 (by kernel_rfl) rfl #[.slice A0 l0.length c0] rfl q'a ?_;(with_reducible refine(dU.calls k _ _ l0 true _ ?cZ ?dH A5.out).mono ?_);(case cZ=>exact cz (Kd.eF HR0.out HB.out));(case dH=>exact HC0.out);rintro e w8 ⟨rfl,hb⟩;refine⟨_,rfl,?_⟩;have n0_:=ak.mk (aG bz hb);clear HB;have HB:=n0_;clear n0_;(try clear hb);(try clear hb2);(try clear hk);(try clear hi)))
   go_ret;exact⟨by first|rfl|(simp[aJ,aM]<;>rfl)|(simp[*,aJ,aM]<;>rfl),bz⟩
  ·replace c6:=Bool.eq_false_iff.mpr c6
   subst c6;have H1:(some 40)=some r:=by rw[if_neg (show¬(false=true) by decide)]at H;first|exact H|(simp only[eq_self]at H⊢;exact H)|(simp only[eq_self,if_true]at H⊢;exact H)
   clear H;have H:=H1;clear H1;obtain rfl:=Option.some.inj H;go_enter Tryz.func39,Tryz.ntmps39
   go_wp2_with(first|((with_reducible refine aZ (f:=84) rfl ?_);refine dJ (some 5) rfl rfl Tryz.func84 (by kernel_rfl) rfl #[.slice A0 l0.length c0] rfl q'a ?_;(with_reducible refine(qw.calls _ _ l0 false _ ?cZ ?dH A2.out).mono ?_);(case cZ=>repeat(first|exact HR0.out|(with_reducible refine Kd.mg ?_ _)|(with_reducible refine Kd.nk ?_ _)|(with_reducible refine Kd.pJ ?_)));(case dH=>exact HC0.out);rintro e w9 ⟨rfl,hb⟩;refine⟨_,rfl,?_⟩;have n0_:=ak.mk (aG bz hb);clear HB;have HB:=n0_;clear n0_;(try clear hb);(try clear hb2);(try clear hk);(try clear hi))|((with_reducible refine aZ (f:=85) rfl ?_);refine dJ (some 8) rfl rfl Tryz.func85 (by kernel_rfl) rfl #[.slice A0 l0.length c0] rfl q'a ?_;(with_reducible refine(dU.calls k _ _ l0 false _ ?cZ ?dH A5.out).mono ?_);(case cZ=>exact cz (Kd.eF HR0.out HB.out));(case dH=>exact HC0.out);rintro e w10 ⟨rfl,hb⟩;refine⟨_,rfl,?_⟩;have n0_:=ak.mk (aG bz hb);clear HB;have HB:=n0_;clear n0_;(try clear hb);(try clear hb2);(try clear hk);(try clear hi)))
   go_ret;exact⟨by first|rfl|(simp[aJ,aM]<;>rfl)|(simp[*,aJ,aM]<;>rfl),bz⟩
end Go.Proofs.aj.W7
namespace Go.Proofs.YtkcmghlhpbepcaaGreatDoor
open Go.RowKit Go.Proofs
theorem MW(s:ByteArray)(i:Nat)(hi:i<s.size):
 ((s.get! i).toNat<128∧Utf8.decode s i=((s.get! i).toNat,1))∨
 (128≤(s.get! i).toNat∧128≤(Utf8.decode s i).1∧Utf8.valid (Utf8.decode s i).1=true∧1≤(Utf8.decode s i).2∧i+(Utf8.decode s i).2≤s.size∧∀k,k<(Utf8.decode s i).2→128≤(s.get! (i+k)).toNat):=by
 by_cases h0:(s.get! i).toNat<128
 ·refine .inl ⟨h0,?_⟩
  rw[Lib.decode_at];unfold Lib.decodeN;rw[if_pos h0]
 ·refine .inr ⟨by omega,?_⟩
  have hk:∀k,k<4→(k=0∨k=1∨k=2∨k=3):=by omega
  rw[Lib.decode_at]
  rcases Lib.decodeN_shape (s.size - i) (s.get! i).toNat (s.get! (i+1)).toNat (s.get! (i+2)).toNat (s.get! (i+3)).toNat with⟨c,e⟩|⟨c1,c2,c3,cv,e⟩|⟨c1,c2,c3,c4,cv,cs,e⟩|⟨c1,c2,c3,c4,c5,cv,cw,e⟩|e
  ·exact absurd c h0
  ·rw[e]
   refine⟨by simp only;omega,by simp only[Utf8.valid];simp;omega,by simp only;omega,by simp only;omega,fun k hk=>?_⟩;simp only at hk;obtain rfl|rfl:k=0∨k=1:=by omega
   ·rw[Nat.add_zero];omega
   ·omega
  ·rw[e]
   refine⟨by simp only;omega,by simp only[Utf8.valid];simp;omega,by simp only;omega,by simp only;omega,fun k hk=>?_⟩;simp only at hk;obtain rfl|rfl|rfl:k=0∨k=1∨k=2:=by omega
   ·rw[Nat.add_zero];omega
   ·omega
   ·omega
  ·rw[e]
   refine⟨by simp only;omega,by simp only[Utf8.valid];simp;omega,by simp only;omega,by simp only;omega,fun k hk=>?_⟩;simp only at hk;obtain rfl|rfl|rfl|rfl:k=0∨k=1∨k=2∨k=3:=by omega
   ·rw[Nat.add_zero];omega
   ·omega
   ·omega
   ·omega
  ·rw[e]
   refine⟨by simp only;omega,by decide,by simp only;omega,by simp only;omega,fun k hk=>?_⟩;simp only at hk;obtain rfl:k=0:=by omega
   rw[Nat.add_zero];omega
def jD:ByteArray:=⟨#[0,13]⟩
theorem MX(c:Nat)(h128:128≤c)(hv:Utf8.valid c=true)(w:World):
 Calls Tryz.prog 178 #[.string jD,.int .i32 c] w fun e w'=>e=.returned (.int .i64 (-1))∧Below w.heap.size w w':=by
 obtain⟨hf1,hf2,hf3⟩:=encode_facts (c:Int) hv (by omega)
 have hvr:Lib.validRune (c:Int)=true:=by
  unfold Lib.validRune;simp only[Utf8.valid]at hv;simp at hv⊢;omega
 have hlt:decide ((c:Int)<128)=false:=decide_eq_false (by omega);have h0:decide ((0:Int)≤(c:Int))=true:=decide_eq_true (by omega)
 by_cases he:c=65533
 ·subst he
  have hr00:∀(W:World) (ty:TypeId),(Instr.next (.pointer (some ⟨W.heap.size,0,none⟩)) true ty).run Tryz.prog (W.iter jD 0)=.ok (.tuple #[.bool true,.int .i64 0,.int .i32 0]) (W.iter jD 1):=fun W ty=>run_next_ascii W jD 0 ty (by decide) (by decide)
  have hr01:∀(W:World) (ty:TypeId),(Instr.next (.pointer (some ⟨W.heap.size,0,none⟩)) true ty).run Tryz.prog (W.iter jD 1)=.ok (.tuple #[.bool true,.int .i64 1,.int .i32 13]) (W.iter jD 2):=fun W ty=>run_next_ascii W jD 1 ty (by decide) (by decide)
  have hr02:∀(W:World) (ty:TypeId),(Instr.next (.pointer (some ⟨W.heap.size,0,none⟩)) true ty).run Tryz.prog (W.iter jD 2)=.ok (.tuple #[.bool false]) (W.iter jD 2):=fun W ty=>run_next_end W jD 2 ty (by decide)
  clear hf1 hf2 hf3 hv hvr h128;go_enter Tryz.func178,Tryz.ntmps178;go_wp2
  go_loopg [5,6] 2 (fun g _ _ wx=>∃i:Nat,i+g=2∧wx=w.iter jD i)
  case atStart=>exact⟨0,rfl,rfl⟩
  case round=>
   obtain⟨i,hig,rfl⟩:=hrel;cases gk with
   |zero=>
    obtain rfl:i=2:=by omega
    go_wp2;go_ret;exact⟨rfl,(Below.refl _ w).alloc (Nat.le_refl _) _⟩
   |succ g=>
    obtain rfl|rfl:i=0∨i=1:=by omega
    ·go_wp2
     go_roundg g
     case measure=>omega
     case rel=>exact⟨1,by omega,rfl⟩
    ·go_wp2
     go_roundg g
     case measure=>omega
     case rel=>exact⟨2,by omega,rfl⟩
 ·have hne:((c:Int)==65533)=false:=by rw[beq_eq_false_iff_ne];omega
  have u21:=Tryz.underlying21;have u9:=Tryz.underlying9;obtain⟨E,hE⟩:∃E,Utf8.encode (c:Int)=E:=⟨_,rfl⟩
  rw[hE]at hf1 hf2 hf3;have hsz:jD.size=2:=rfl
  by_cases h2:E.size=2
  ·obtain⟨a,b,rfl⟩:∃a b:UInt8,E=⟨#[a,b]⟩:=by
    obtain⟨⟨l⟩⟩:=E;change l.length=2 at h2
    match l,h2 with
    | [a,b],_=>exact⟨a,b,rfl⟩
   have hb:128≤b.toNat:=hf3 (show 1<2 by omega);clear hf2 hf3 h2;have hb1:(((jD[1]'(by decide)).toNat:Int) !=((b.toNat:Nat):Int))=true:=by rw[bne_iff_ne];intro e;have:(jD[1]'(by decide)).toNat=13:=rfl;omega
   have hib:∀c,Lib.indexByte ByteArray.empty.data.toList c= -1:=fun c=>rfl
   have hb2:((13:Int) !=((b.toNat:Nat):Int))=true:=by rw[bne_iff_ne];omega
   go_enter Tryz.func178,Tryz.ntmps178
   go_wp2_with(go_at_call 204;((with_reducible refine(Tryz.utf8_ValidRune _ _).mono ?_);rintro e w3 ⟨rfl,rfl⟩;rw[hvr]))
   go_step3;go_wp2
   go_loopw [9] (fun v wr=>v=.int .i64 1∧Below w3.heap.size w3 wr) (fun v _=>0)
   case atStart=>exact⟨rfl,Below.refl _ _⟩
   case round=>
    obtain⟨rfl,hB⟩:=hrel;go_wp2;go_step3;go_wp2;go_region;replace hib:=Lib.hid hib;clear hb1 hb2 hf1 hlt h0 hne hv hvr hE;generalize (jD[1]'(by decide)).toNat=z13;go_wp2
    go_region_with (go_at_call 203;((with_reducible refine(Tryz.strings_IndexByte _ _ _).mono ?_);rintro e w4 ⟨rfl,hw4⟩;rw[hib.out,hw4]))
    all_goals(
     go_wp2;rw[Exit.noGoto_ret];show Exit.noGoto (Exit.inBlock 0 _) Exit.ret _ _;rw[Exit.noGoto_ret];show bodyPost Tryz.prog Tryz.f178 (fun e w'=>e=.returned (.int .i64 (-1))∧Below w3.heap.size w3 w') Exit.ret _ _;go_ret;exact⟨rfl,(hB.drew).drew⟩)
  ·have hlast:¬((E.size:Int) - 1<2):=by omega
   go_enter Tryz.func178,Tryz.ntmps178
   go_wp2_with(go_at_call 204;((with_reducible refine(Tryz.utf8_ValidRune _ _).mono ?_);rintro e w3 ⟨rfl,rfl⟩;rw[hvr]))
   go_step3;go_wp2
   go_loopw [9] (fun v wr=>v=.int .i64 (E.size - 1)∧Below w3.heap.size w3 wr) (fun v _=>0)
   case atStart=>exact⟨rfl,Below.refl _ _⟩
   case round=>
    obtain⟨rfl,hB⟩:=hrel;clear hlt h0 hne hv hvr hE hf3;go_wp2;rw[Exit.noGoto_ret];show bodyPost Tryz.prog Tryz.f178 (fun e w'=>e=.returned (.int .i64 (-1))∧Below w3.heap.size w3 w') Exit.ret _ _;go_ret;exact⟨rfl,hB⟩
def nul13(l:List UInt8):Bool:=l.any (fun b=>b==0||b==13)
def seen13(l:List UInt8)(i:Nat):Bool:=nul13 (l.take i)
end Go.Proofs.YtkcmghlhpbepcaaGreatDoor
namespace Go.Proofs.aj.W7
open Go.RowKit Go.Proofs Go.Proofs.YtkcmghlhpbepcaaGreatDoor
theorem get_at(s:ByteArray)(i:Nat)(hi:i<s.size):s.get! i=s[i]'hi:=by
 obtain⟨d⟩:=s;show d[i]!=d[i];exact getElem!_pos d i hi
theorem Ku(s:ByteArray)(i:Nat)(hi:i<s.size):s.data.toList[i]?=some (s.get! i):=by
 have:=Lib.data_getElem? s i hi;rw[this]
 congr 1
 exact(get_at s i hi).symm
theorem Kv{l:List UInt8}{i k:Nat}(h:Lib.NoAny l jD.data.toList i)(hk:∀j b,i≤j→j<i+k→l[j]?=some b→128≤b.toNat):Lib.NoAny l jD.data.toList (i+k):=by
 intro j b hj hb
 by_cases hji:j<i
 ·exact h j b hji hb
 ·have h1:=hk j b (by omega) hj hb
  have:jD.data.toList=[0,13]:=rfl;rw[this];simp only[List.contains_cons,List.contains_nil,Bool.or_false,Bool.or_eq_false_iff,beq_eq_false_iff_ne];refine⟨?_,?_⟩<;> · rintro rfl;revert h1;decide
theorem below_iterAt{B:Nat}{w0 W:World}(h:Below B w0 W){k:Nat}(hk:B≤k)(s:ByteArray)(p:Nat):Below B w0 (W.iterAt k s p):=
 ⟨h.os,h.tape,h.output,by simp only[World.iterAt,Array.size_setIfInBounds];exact h.size,fun j hj=>by
  simp only[World.iterAt];rw[Array.getElem?_setIfInBounds_ne (by omega)];exact h.block j hj⟩
theorem Hz(s:ByteArray)(w:World)(h8:s.size≤8):
 Calls Tryz.prog 140 #[.string s,.string jD] w fun e w'=>e=.returned (.int .i64 (Lib.indexAny s.data.toList jD.data.toList))∧Below w.heap.size w w':=by
 have hemp:jD.toList.isEmpty=false:=by rw[Lib.toList_data];rfl
 have hn1:((jD.size:Int)==1)=false:=by decide
 have h8z:decide ((8:Int)<(s.size:Int))=false:=decide_eq_false (by omega);go_enter Tryz.func140,Tryz.ntmps140
 go_wp2_with(go_at_call 179;((with_reducible refine(Tryz.strings_shouldUseASCIISet _ _).mono ?_);rintro e w3 ⟨rfl,hw⟩;rw[h8z,hw]))
 go_loopg [9,10] s.size (fun g _ _ wx=>∃i:Nat,i≤s.size∧s.size≤i+g∧wx.heap[w.heap.size]?=some (.stringIter s i)∧Below w.heap.size w wx∧Hid (Lib.NoAny s.data.toList jD.data.toList i))
 case atStart=>exact⟨0,Nat.zero_le _,by omega,World.iter_heap _ _ _,(Below.refl _ w).alloc (Nat.le_refl _) _,Lib.NoAny.zero _ _⟩
 case round=>
  obtain⟨i,hi,hig,hit,hB,hno⟩:=hrel
  by_cases hlt:i<s.size
  ·obtain⟨g,rfl⟩:∃g,gk=g+1:=⟨gk - 1,by omega⟩
   have hnx:=fun ty=>Lib.run_next_any_at (P:=Tryz.prog) wr w.heap.size s i ty hit hlt
   have hit2:=Lib.iterAt_heap wr w.heap.size s i (i+(Utf8.decode s i).2) hit;have hB2:=below_iterAt hB (Nat.le_refl _) s (i+(Utf8.decode s i).2);have hgd:=Ku s i hlt
   rcases MW s i hlt with⟨hx,hd⟩|⟨hx,hc,hv,hw1,hw2,hby⟩
   ·rw[hd]at hnx hit2 hB2
    have hcon:=Lib.contains_iff_indexByte jD.data.toList (s.get! i);have hback:(((s.get! i).toNat:Int)).toNat.toUInt8=s.get! i:=by simp
    cases hin:jD.data.toList.contains (s.get! i)
    ·rw[hin]at hcon
     have hng:¬((0:Int)≤Lib.indexByte jD.data.toList (s.get! i)):=of_decide_eq_false hcon.symm;have oh:=Lib.hid (hno.out.succ hgd hin);clear hcon hno hd hgd;generalize s.get! i=x at *
     go_wp2_with(go_at_call 178;((with_reducible refine(Tryz.strings_IndexRune_ascii _ _ _ (by omega) (by omega)).mono ?_);rintro e w4 ⟨rfl,hw4⟩;rw[hw4,hback]))
     go_roundg g
     case measure=>omega
     case rel=>exact⟨i+1,by omega,by omega,hit2,hB2,oh⟩
    ·rw[hin]at hcon
     have hge:(0:Int)≤Lib.indexByte jD.data.toList (s.get! i):=of_decide_eq_true hcon.symm;have hres:=Lib.hid (Lib.indexAny_hit hno.out hgd hin);clear hcon hno hd hgd;generalize s.get! i=x at *
     go_wp2_with(go_at_call 178;((with_reducible refine(Tryz.strings_IndexRune_ascii _ _ _ (by omega) (by omega)).mono ?_);rintro e w4 ⟨rfl,hw4⟩;rw[hw4,hback]))
     go_ret;exact⟨by rw[hres.out];rfl,hB2⟩
   ·have oh:=Lib.hid (Kv (k:=(Utf8.decode s i).2) hno.out (fun j b h1 h2 h3=>by
     have h4:=hby (j - i) (by omega);rw[show i+(j - i)=j from by omega]at h4;have h5:=Ku s j (by omega);rw[h3]at h5;rw[Option.some.inj h5];exact h4))
    have hid:=Lib.hid (fun W=>MX (Utf8.decode s i).1 hc hv W);clear hno hgd hby hv hx;generalize (Utf8.decode s i).1=c at *;generalize (Utf8.decode s i).2=q at *
    go_wp2_with(go_at_call 178;((with_reducible refine(hid.out _).mono ?_);rintro e w4 ⟨rfl,hb4⟩;have hB3:=bD hB2 hB2.size hb4;have hit3:=(hb4.block _ (Array.getElem?_eq_some_iff.1 hit2).1).trans hit2))
    go_roundg g
    case measure=>omega
    case rel=>exact⟨i+q,by omega,by omega,hit3,hB3,oh⟩
  ·obtain rfl:i=s.size:=by omega
   have hnx:=fun ty=>Lib.run_next_end_at (P:=Tryz.prog) wr w.heap.size s s.size ty hit hlt
   go_wp2;go_ret;exact⟨by rw[Lib.indexAny_none (by rw[←Lib.size_eq];exact hno.out)];rfl,hB⟩
theorem set_zero:∀w,(zeroValue 144).run Tryz.prog w=.ok (.agg (Array.replicate 256 (.bool false))) w:=(zero_of_info (n:=256) (by kernel_rfl)).1
theorem idxAny_c(s:ByteArray)(w:World)(hs:s.size<4294967281):
 Calls Tryz.prog 140 #[.string s,.string jD] w fun e w'=>e=.returned (.int .i64 (Lib.indexAny s.data.toList jD.data.toList))∧Below w.heap.size w w':=by
 by_cases h8:s.size≤8
 ·exact Hz s w h8
 ·refine(Tryz.strings_IndexAny_long set_zero s jD w (show 2≤2 by omega) (by omega) hs (show 2<4294967281 by omega) (fun j b hb=>?_)).mono ?_
  ·have:jD.data.toList=[0,13]:=rfl
   rw[this]at hb
   match j,hb with
   |0,hb=>cases hb;decide
   |1,hb=>cases hb;decide
  ·rintro e w' ⟨rfl,rfl⟩
   exact⟨rfl,((Below.refl _ w).alloc (Nat.le_refl _) _).alloc (by rw[World.size_alloc];omega) _⟩
def strings_ContainsAny.f(a0 a1:ByteArray):Option Bool:=if a1=jD∧a0.size<4294967281 then some (Lib.containsAny a0.data.toList jD.data.toList)else none
theorem strings_ContainsAny.calls(a0 a1:ByteArray)(r:Bool)(w:World)(h:strings_ContainsAny.f a0 a1=some r)(hS_:Ep w):
 Calls Tryz.prog 92 #[.string a0,.string a1] w fun e w'=>e=.returned (.bool r)∧Below w.heap.size w w':=by
 unfold strings_ContainsAny.f at h
 split at h
 ·rename_i hz
  obtain⟨rfl,hz⟩:=hz;have hr:=Option.some.inj h;clear h;have hi:=Lib.hid (idxAny_c a0 w hz);unfold Lib.containsAny at hr;generalize Lib.indexAny a0.data.toList jD.data.toList=n at *;subst hr;go_enter Tryz.func92,Tryz.ntmps92
  go_wp2_with(go_at_call 140;((with_reducible refine hi.out.mono ?_);rintro e w1 ⟨rfl,hb⟩))
  go_ret;exact⟨rfl,hb⟩
 ·cases h
end Go.Proofs.aj.W7
namespace Go.Proofs.aj.W7
open Go.RowKit Go.Proofs.ah.aD Go.Proofs.ah.bJ Go.Proofs.ah.bW
attribute [local go_sem] dB dD dR dS bZ cu dF dG
def dA.f(a0:ByteArray):Option (Bool):=(lu.f a0).bind fun t601=>(if t601=true then((strings_ContainsAny.f a0 (⟨#[0,13]⟩:ByteArray)).bind fun t602=>(some (!t602)))else(some false))
theorem dA.calls(a0:ByteArray)(r:Bool)(w:World)(h:dA.f a0=some r)(hS_:Go.Proofs.YtkcmghlhpbepcaaGreatDoor.Std w):
 Calls Tryz.prog 47 #[.string a0] w fun e w'=>e=.returned (.bool r)∧Below w.heap.size w w':=by
 have HS_:=ak.mk hS_;clear hS_;have HB:=ak.mk (Below.refl w.heap.size w);have H:((lu.f a0).bind fun t601=>(if t601=true then((strings_ContainsAny.f a0 (⟨#[0,13]⟩:ByteArray)).bind fun t602=>(some (!t602)))else(some false)))=some r:=h;clear h;replace H:=Option.bind_eq_some_iff.mp H;obtain⟨t601,A20,H⟩:=H;replace H:(if t601=true then((strings_ContainsAny.f a0 (⟨#[0,13]⟩:ByteArray)).bind fun t602=>(some (!t602)))else(some false))=some r:=H;have A2:=ak.mk A20;clear A20
 by_cases c3:t601=true
 ·subst c3
  have H1:((strings_ContainsAny.f a0 (⟨#[0,13]⟩:ByteArray)).bind fun t602=>(some (!t602)))=some r:=by rw[if_pos rfl]at H;exact H
  clear H;have H:=H1;clear H1;replace H:=Option.bind_eq_some_iff.mp H;obtain⟨t602,A40,H⟩:=H;replace H:(some (!t602))=some r:=H;have A4:=ak.mk A40;clear A40;obtain rfl:=Option.some.inj H;go_enter Tryz.func47,Tryz.ntmps47
  go_wp2_with(first|((with_reducible refine aZ (f:=91) rfl ?_);refine dJ (some 4) rfl rfl Tryz.func91 (by kernel_rfl) rfl #[.string a0] rfl q'a ?_;(with_reducible refine(lu.calls a0 true _ A2.out (Go.Proofs.YtkcmghlhpbepcaaGreatDoor.Std.below HS_.out bz)).mono ?_);rintro e w5 ⟨rfl,hb⟩;refine⟨_,rfl,?_⟩;have n0_:=ak.mk (aG bz hb);clear HB;have HB:=n0_;clear n0_;(try clear hb);(try clear hb2);(try clear hk);(try clear hi))|(go_at_call 92;(with_reducible refine(strings_ContainsAny.calls a0 (⟨#[0,13]⟩:ByteArray) t602 _ A4.out (Go.Proofs.YtkcmghlhpbepcaaGreatDoor.Std.below HS_.out bz)).mono ?_);rintro e w6 ⟨rfl,hb⟩;have n0_:=ak.mk (aG bz hb);clear HB;have HB:=n0_;clear n0_;(try clear hb);(try clear hb2);(try clear hk);(try clear hi)))
  go_ret;exact⟨by first|rfl|(simp[aJ,aM]<;>rfl)|(simp[*,aJ,aM]<;>rfl),bz⟩
 ·replace c3:=Bool.eq_false_iff.mpr c3
  subst c3;have H1:(some false)=some r:=by rw[if_neg (show¬(false=true) by decide)]at H;first|exact H|(simp only[eq_self]at H⊢;exact H)|(simp only[eq_self,if_true]at H⊢;exact H)
  clear H;have H:=H1;clear H1;obtain rfl:=Option.some.inj H;go_enter Tryz.func47,Tryz.ntmps47
  go_wp2_with(first|((with_reducible refine aZ (f:=91) rfl ?_);refine dJ (some 4) rfl rfl Tryz.func91 (by kernel_rfl) rfl #[.string a0] rfl q'a ?_;(with_reducible refine(lu.calls a0 false _ A2.out (Go.Proofs.YtkcmghlhpbepcaaGreatDoor.Std.below HS_.out bz)).mono ?_);rintro e w7 ⟨rfl,hb⟩;refine⟨_,rfl,?_⟩;have n0_:=ak.mk (aG bz hb);clear HB;have HB:=n0_;clear n0_;(try clear hb);(try clear hb2);(try clear hk);(try clear hi)))
  go_ret;exact⟨by first|rfl|(simp[aJ,aM]<;>rfl)|(simp[*,aJ,aM]<;>rfl),bz⟩
end Go.Proofs.aj.W7
