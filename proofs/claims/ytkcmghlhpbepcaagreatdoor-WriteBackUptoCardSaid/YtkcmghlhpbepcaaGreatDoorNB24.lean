/- Lemmas and walks, part 24. -/
import Derived.Test.YtkcmghlhpbepcaaGreatDoorNB23
import Derived.Test.YtkcmghlhpbepcaaGreatDoorNB22
set_option linter.unusedVariables false
set_option linter.unusedSimpArgs false
set_option maxHeartbeats 8000000
set_option maxRecDepth 100000
namespace Go.Proofs.aj.W7
open Go.RowKit Go.Proofs.ah.aD Go.Proofs.ah.bJ Go.Proofs.ah.bW
attribute [local go_sem] dB dD dR dS bZ cu dF dG
mutual
def dU.l0:Nat→Int→List (S34)→Int→Int→Option (Bool)
 |0,_,_,_,_=>none
 |k+1,x3,x6,x7,x8=>if x8<x7 then(if 0≤x8 then(if x8<(x6.length:Int)then(if((au x6 x8).f0)<0 then(dU.j1 k x6 x7 x8 true ((au x6 x8).f0) ((au x6 x8).f1) ((au x6 x8).f2) ((au x6 x8).f3) ((au x6 x8).f4))else(if((au x6 x8).f0)>x3 then(dU.j1 k x6 x7 x8 true ((au x6 x8).f0) ((au x6 x8).f1) ((au x6 x8).f2) ((au x6 x8).f3) ((au x6 x8).f4))else((rows_row.f k ((au x6 x8).f0) ((au x6 x8).f1) ((au x6 x8).f2) ((au x6 x8).f3) ((au x6 x8).f4)).bind fun t583=>(dU.j1 k x6 x7 x8 (!t583) ((au x6 x8).f0) ((au x6 x8).f1) ((au x6 x8).f2) ((au x6 x8).f3) ((au x6 x8).f4)))))else(none))else(none))else(some true)
def dU.j1:Nat→List (S34)→Int→Int→Bool→Int→Int→Bt→Bt→List (S36)→Option (Bool)
 |0,_,_,_,_,_,_,_,_,_=>none
 |k+1,x6,x7,x8,x25,Pb,x583001,x583002,x583003,x583004=>if x25=true then(some false)else(if x583001=0 then(dU.l0 k (wrap64 (Pb+1)) x6 x7 (wrap64 (x8+1)))else(dU.l0 k Pb x6 x7 (wrap64 (x8+1))))
end
def dU.f(k:Nat)(l0:List (S34)):Option (Bool):=dU.l0 k 0 l0 (l0.length:Int) 0
theorem dU.calls(k:Nat)(A0:Option Addr)(c0:Nat)(l0:List (S34))(r:Bool)(w:World)(hr0:Kd.C k34 w A0 l0.length l0)(hc0:l0.length≤c0)(h:dU.f k l0=some r):
 Calls Tryz.prog 85 #[.slice A0 l0.length c0] w fun e w'=>e=.returned (.bool r)∧Below w.heap.size w w':=by
 have hu34:=Tryz.underlying34;have HR0:=ak.mk hr0;have HC0:=ak.mk hc0;clear hr0 hc0;have HB:=ak.mk (Below.refl w.heap.size w);have H:(dU.l0 k 0 l0 (l0.length:Int) 0)=some r:=h;clear h;have H':=ak.mk H;clear H;go_enter Tryz.func85,Tryz.ntmps85;go_wp2
 go_loopg [3,8] k (fun kq v3 v8 w'=>∃(nT fq:Int),v3=.int .i64 nT∧v8=.int .i64 fq∧ak (dU.l0 kq nT l0 (l0.length:Int) fq=some r)∧ak (kq≤k)∧ak (Below w.heap.size w w'))
 case atStart=>exact⟨(0),(0),q'c,q'c,H',⟨Nat.le_refl _⟩,⟨bz⟩⟩
 case round=>
  clear H';obtain⟨nT,fq,rfl,rfl,HA,HK1,HB⟩:=hrel;cases gk with
  |zero=>exact absurd HA.out (by simp[dU.l0])
  |succ k1=>
   have H:=HA.out;clear HA;simp only[dU.l0]at H
   by_cases c2:fq<(l0.length:Int)
   ·rw[if_pos c2]at H
    have Di:decide (fq<(l0.length:Int))=true:=decide_eq_true c2;clear c2
    by_cases c3:0≤fq
    ·rw[if_pos c3]at H
     have nN:decide (0≤fq)=true:=decide_eq_true c3;clear c3
     by_cases c4:fq<(l0.length:Int)
     ·rw[if_pos c4]at H
      have mZ:decide (fq<(l0.length:Int))=true:=decide_eq_true c4;clear c4;have HC5:=ak.mk H;clear H;have p581:0≤(fq:Int):=q'b;have q581:fq<(l0.length:Int):=q'b;obtain⟨ad581,Jk,Jl,e581,DC,DF,DI,DJ,DK,Pf,Pg⟩:=kQ HR0.out fq p581 q581;cases e581;replace DC:=(HB.out.cell (World.block_lt_of_cell? w _ DC)).trans DC;replace DF:=(HB.out.cell (World.block_lt_of_cell? w _ DF)).trans DF;replace DI:=(HB.out.cell (World.block_lt_of_cell? w _ DI)).trans DI;replace DJ:=(HB.out.cell (World.block_lt_of_cell? w _ DJ)).trans DJ;replace DK:=(HB.out.cell (World.block_lt_of_cell? w _ DK)).trans DK;have HR581_4:=ak.mk Pg;have HC581_4:=ak.mk Pf;clear Pg Pf;replace p581:=eq_true p581;replace q581:=eq_true q581
      go_upto_region 5 with(first|((with_reducible refine cO (N:=5) rfl ?_);refine eH ?hg (N:=5) ?hd (cs:=#[.int .i64 0,.int .i64 0,.string (⟨#[]⟩:Bt),.string (⟨#[]⟩:Bt),.slice none 0 0]) (t:=34) ?hr ?_;(case hd=>rfl);(case hg=>rfl);(case hr=>first|(go_simp;done)|(go_simp;rfl));intro jH hg w6 fP hb;have eZ:=ak.mk (fP);have GW582:=ak.mk ((by rw[hg];exact(aR bz):w.heap.size≤jH));have CG:=ak.mk ((by rw[hg];exact(aR bz):w.heap.size≤jH));replace HB:=ak.mk (aG bz hb);clear hb fP hg;have hcz7_0:w6.cell? ⟨jH,0,none⟩=some (.int .i64 0):=(aC eZ.out 0).trans rfl;have hcz7_1:w6.cell? ⟨jH,1,none⟩=some (.int .i64 0):=(aC eZ.out 1).trans rfl;have hcz7_2:w6.cell? ⟨jH,2,none⟩=some (.string (⟨#[]⟩:Bt)):=(aC eZ.out 2).trans rfl;have hcz7_3:w6.cell? ⟨jH,3,none⟩=some (.string (⟨#[]⟩:Bt)):=(aC eZ.out 3).trans rfl;have hcz7_4:w6.cell? ⟨jH,4,none⟩=some (.slice none 0 0):=(aC eZ.out 4).trans rfl;have hfz7_0:=ay eZ.out 0;have hfz7_1:=ay eZ.out 1;have hfz7_2:=ay eZ.out 2;have hfz7_3:=ay eZ.out 3;have hfz7_4:=ay eZ.out 4))
      (try simp only[Act.put,List.setIfInBounds_toArray,List.set_cons_zero,List.set_cons_succ])
      go_cut [25] (fun v25 wc=>∃(kq:Nat) (x25_4:Bool),v25=.bool x25_4∧ak (dU.j1 kq l0 (l0.length:Int) fq x25_4 ((au l0 fq).f0) ((au l0 fq).f1) ((au l0 fq).f2) ((au l0 fq).f3) ((au l0 fq).f4)=some r)∧ak (kq≤k1)∧ak (wc.heap[jH]?=some (.cells #[.int .i64 ((au l0 fq).f0),.int .i64 ((au l0 fq).f1),.string ((au l0 fq).f2),.string ((au l0 fq).f3),(.slice Jk ((au l0 fq).f4).length Jl)] 34 (0,0)))∧ak (Below w.heap.size w wc))
      case first=>
       have H:=HC5.out;clear HC5
       by_cases c8:((au l0 fq).f0)<0
       ·rw[if_pos c8]at H
        have xU:decide (((au l0 fq).f0)<0)=true:=decide_eq_true c8;clear c8
        (first|rw[xU] |(simp only[oO,oP];rw[xU])|skip)
        have H':=ak.mk H;clear H;have wh:w6.cell? ⟨jH,0,none⟩=some (.int .i64 0):=(aC eZ.out 0).trans rfl;have wm:w6.cell? ⟨jH,1,none⟩=some (.int .i64 0):=(aC eZ.out 1).trans rfl;have wo:w6.cell? ⟨jH,2,none⟩=some (.string (⟨#[]⟩:Bt)):=(aC eZ.out 2).trans rfl;have wu:w6.cell? ⟨jH,3,none⟩=some (.string (⟨#[]⟩:Bt)):=(aC eZ.out 3).trans rfl;have wz:w6.cell? ⟨jH,4,none⟩=some (.slice none 0 0):=(aC eZ.out 4).trans rfl;have wB:=ay eZ.out 0;have wC:=ay eZ.out 1;have wD:=ay eZ.out 2;have wE:=ay eZ.out 3;have wF:=ay eZ.out 4;go_wp2
        go_meet
        case rel=>exact⟨_,(true),q'c,H',⟨by have:=HK1.out;first|omega|exact Nat.le_refl _⟩,⟨by(with_reducible repeat(first|refine aT ?_ _|refine aY ?_ |refine aU ?_ _));refine bU (cs:=#[.int .i64 ((au l0 fq).f0),.int .i64 ((au l0 fq).f1),.string ((au l0 fq).f2),.string ((au l0 fq).f3),.slice none 0 0]) ?_ 4 _ rfl;(with_reducible repeat(first|refine aT ?_ _|refine aY ?_ |refine aU ?_ _));refine bU (cs:=#[.int .i64 ((au l0 fq).f0),.int .i64 ((au l0 fq).f1),.string ((au l0 fq).f2),.string (⟨#[]⟩:Bt),.slice none 0 0]) ?_ 3 _ rfl;(with_reducible repeat(first|refine aT ?_ _|refine aY ?_ |refine aU ?_ _));refine bU (cs:=#[.int .i64 ((au l0 fq).f0),.int .i64 ((au l0 fq).f1),.string (⟨#[]⟩:Bt),.string (⟨#[]⟩:Bt),.slice none 0 0]) ?_ 2 _ rfl;(with_reducible repeat(first|refine aT ?_ _|refine aY ?_ |refine aU ?_ _));refine bU (cs:=#[.int .i64 ((au l0 fq).f0),.int .i64 0,.string (⟨#[]⟩:Bt),.string (⟨#[]⟩:Bt),.slice none 0 0]) ?_ 1 _ rfl;(with_reducible repeat(first|refine aT ?_ _|refine aY ?_ |refine aU ?_ _));refine bU (cs:=#[.int .i64 0,.int .i64 0,.string (⟨#[]⟩:Bt),.string (⟨#[]⟩:Bt),.slice none 0 0]) ?_ 0 _ rfl;(with_reducible repeat(first|refine aT ?_ _|refine aY ?_ |refine aU ?_ _));exact eZ.out⟩,⟨bs CG.out⟩⟩
       ·rw[if_neg c8]at H
        have xU:decide (((au l0 fq).f0)<0)=false:=decide_eq_false c8;clear c8
        (first|rw[xU] |(simp only[oO,oP];rw[xU])|skip)
        by_cases c10:((au l0 fq).f0)>nT
        ·rw[if_pos c10]at H
         have Gr:decide (nT<((au l0 fq).f0))=true:=decide_eq_true c10;clear c10;have H':=ak.mk H;clear H;have Og:w6.cell? ⟨jH,0,none⟩=some (.int .i64 0):=(aC eZ.out 0).trans rfl;have Oh:w6.cell? ⟨jH,1,none⟩=some (.int .i64 0):=(aC eZ.out 1).trans rfl;have Oi:w6.cell? ⟨jH,2,none⟩=some (.string (⟨#[]⟩:Bt)):=(aC eZ.out 2).trans rfl;have Oj:w6.cell? ⟨jH,3,none⟩=some (.string (⟨#[]⟩:Bt)):=(aC eZ.out 3).trans rfl;have Ol:w6.cell? ⟨jH,4,none⟩=some (.slice none 0 0):=(aC eZ.out 4).trans rfl;have Om:=ay eZ.out 0;have Oo:=ay eZ.out 1;have Oq:=ay eZ.out 2;have Ot:=ay eZ.out 3;have Ou:=ay eZ.out 4;go_wp2
         go_meet
         case rel=>exact⟨_,(true),q'c,H',⟨by have:=HK1.out;first|omega|exact Nat.le_refl _⟩,⟨by(with_reducible repeat(first|refine aT ?_ _|refine aY ?_ |refine aU ?_ _));refine bU (cs:=#[.int .i64 ((au l0 fq).f0),.int .i64 ((au l0 fq).f1),.string ((au l0 fq).f2),.string ((au l0 fq).f3),.slice none 0 0]) ?_ 4 _ rfl;(with_reducible repeat(first|refine aT ?_ _|refine aY ?_ |refine aU ?_ _));refine bU (cs:=#[.int .i64 ((au l0 fq).f0),.int .i64 ((au l0 fq).f1),.string ((au l0 fq).f2),.string (⟨#[]⟩:Bt),.slice none 0 0]) ?_ 3 _ rfl;(with_reducible repeat(first|refine aT ?_ _|refine aY ?_ |refine aU ?_ _));refine bU (cs:=#[.int .i64 ((au l0 fq).f0),.int .i64 ((au l0 fq).f1),.string (⟨#[]⟩:Bt),.string (⟨#[]⟩:Bt),.slice none 0 0]) ?_ 2 _ rfl;(with_reducible repeat(first|refine aT ?_ _|refine aY ?_ |refine aU ?_ _));refine bU (cs:=#[.int .i64 ((au l0 fq).f0),.int .i64 0,.string (⟨#[]⟩:Bt),.string (⟨#[]⟩:Bt),.slice none 0 0]) ?_ 1 _ rfl;(with_reducible repeat(first|refine aT ?_ _|refine aY ?_ |refine aU ?_ _));refine bU (cs:=#[.int .i64 0,.int .i64 0,.string (⟨#[]⟩:Bt),.string (⟨#[]⟩:Bt),.slice none 0 0]) ?_ 0 _ rfl;(with_reducible repeat(first|refine aT ?_ _|refine aY ?_ |refine aU ?_ _));exact eZ.out⟩,⟨bs CG.out⟩⟩
        ·rw[if_neg c10]at H
         have Gr:decide (nT<((au l0 fq).f0))=false:=decide_eq_false c10;clear c10;replace H:=Option.bind_eq_some_iff.mp H;obtain⟨t583,A120,H⟩:=H;replace H:(dU.j1 k1 l0 (l0.length:Int) fq (!t583) ((au l0 fq).f0) ((au l0 fq).f1) ((au l0 fq).f2) ((au l0 fq).f3) ((au l0 fq).f4))=some r:=H;have A12:=ak.mk A120;clear A120;have H':=ak.mk H;clear H;have hcz13_0:w6.cell? ⟨jH,0,none⟩=some (.int .i64 0):=(aC eZ.out 0).trans rfl;have hcz13_1:w6.cell? ⟨jH,1,none⟩=some (.int .i64 0):=(aC eZ.out 1).trans rfl;have hcz13_2:w6.cell? ⟨jH,2,none⟩=some (.string (⟨#[]⟩:Bt)):=(aC eZ.out 2).trans rfl;have hcz13_3:w6.cell? ⟨jH,3,none⟩=some (.string (⟨#[]⟩:Bt)):=(aC eZ.out 3).trans rfl;have hcz13_4:w6.cell? ⟨jH,4,none⟩=some (.slice none 0 0):=(aC eZ.out 4).trans rfl;have hfz13_0:=ay eZ.out 0;have hfz13_1:=ay eZ.out 1;have hfz13_2:=ay eZ.out 2;have hfz13_3:=ay eZ.out 3;have hfz13_4:=ay eZ.out 4
         go_wp2_with(first|(go_at_call 131;(with_reducible refine(rows_row.calls k1 ((au l0 fq).f0) ((au l0 fq).f1) ((au l0 fq).f2) ((au l0 fq).f3) _ _ ((au l0 fq).f4) t583 _ ?cZ ?dH A12.out).mono ?_);(case cZ=>exact Kd.eF HR581_4.out (bs CG.out));(case dH=>exact HC581_4.out);rintro e w14 ⟨rfl,hb⟩;replace eZ:=ak.mk (dK (g:=jH) (o:=.cells #[.int .i64 ((au l0 fq).f0),.int .i64 ((au l0 fq).f1),.string ((au l0 fq).f2),.string ((au l0 fq).f3),.slice Jk ((au l0 fq).f4).length Jl] 34 (0,0)) (by(with_reducible repeat(first|refine aT ?_ _|refine aY ?_ |refine aU ?_ _));refine bU (cs:=#[.int .i64 ((au l0 fq).f0),.int .i64 ((au l0 fq).f1),.string ((au l0 fq).f2),.string ((au l0 fq).f3),.slice none 0 0]) ?_ 4 _ rfl;(with_reducible repeat(first|refine aT ?_ _|refine aY ?_ |refine aU ?_ _));refine bU (cs:=#[.int .i64 ((au l0 fq).f0),.int .i64 ((au l0 fq).f1),.string ((au l0 fq).f2),.string (⟨#[]⟩:Bt),.slice none 0 0]) ?_ 3 _ rfl;(with_reducible repeat(first|refine aT ?_ _|refine aY ?_ |refine aU ?_ _));refine bU (cs:=#[.int .i64 ((au l0 fq).f0),.int .i64 ((au l0 fq).f1),.string (⟨#[]⟩:Bt),.string (⟨#[]⟩:Bt),.slice none 0 0]) ?_ 2 _ rfl;(with_reducible repeat(first|refine aT ?_ _|refine aY ?_ |refine aU ?_ _));refine bU (cs:=#[.int .i64 ((au l0 fq).f0),.int .i64 0,.string (⟨#[]⟩:Bt),.string (⟨#[]⟩:Bt),.slice none 0 0]) ?_ 1 _ rfl;(with_reducible repeat(first|refine aT ?_ _|refine aY ?_ |refine aU ?_ _));refine bU (cs:=#[.int .i64 0,.int .i64 0,.string (⟨#[]⟩:Bt),.string (⟨#[]⟩:Bt),.slice none 0 0]) ?_ 0 _ rfl;(with_reducible repeat(first|refine aT ?_ _|refine aY ?_ |refine aU ?_ _));exact eZ.out) hb);replace HB:=ak.mk (aG (bs CG.out) hb);(try clear hb);(try clear hb2);(try clear hk);(try clear hi)))
         go_meet
         case rel=>exact⟨_,(!t583),q'c,H',⟨by have:=HK1.out;first|omega|exact Nat.le_refl _⟩,⟨by(with_reducible repeat(first|refine aT ?_ _|refine aY ?_ |refine aU ?_ _));exact eZ.out⟩,⟨bs CG.out⟩⟩
      case rest=>
       clear HC5
       try clear c1
       try clear c2
       try clear Di
       try clear p2
       try clear c3
       try clear nN
       try clear c4
       try clear mZ
       try clear c5
       try clear p5
       try clear q5
       try clear hx5
       try clear c8
       try clear xU
       try clear c10
       try clear Gr
       try clear Og
       try clear Oh
       try clear Oi
       try clear Oj
       try clear Ol
       try clear hcz13_0
       try clear hcz13_1
       try clear hcz13_2
       try clear hcz13_3
       try clear hcz13_4
       try clear hcz7_0
       try clear hcz7_1
       try clear hcz7_2
       try clear hcz7_3
       try clear hcz7_4
       try clear wh
       try clear wm
       try clear wo
       try clear wu
       try clear wz
       try clear Om
       try clear Oo
       try clear Oq
       try clear Ot
       try clear Ou
       try clear hfz13_0
       try clear hfz13_1
       try clear hfz13_2
       try clear hfz13_3
       try clear hfz13_4
       try clear hfz7_0
       try clear hfz7_1
       try clear hfz7_2
       try clear hfz7_3
       try clear hfz7_4
       try clear wB
       try clear wC
       try clear wD
       try clear wE
       try clear wF
       try clear DC
       try clear DF
       try clear DI
       try clear DJ
       try clear DK
       try clear p581
       try clear q581
       obtain⟨kq,x25_4,rfl,HA,HJ4,eZ,HB⟩:=hcut;cases kq with
       |zero=>exact absurd HA.out (by simp[dU.j1])
       |succ kj4=>
        have H:=HA.out;clear HA;simp only[dU.j1]at H
        by_cases c15:x25_4=true
        ·subst c15
         have H1:(some false)=some r:=by rw[if_pos rfl]at H;exact H
         clear H;have H:=H1;clear H1;obtain rfl:=Option.some.inj H;go_wp2;go_ret;exact⟨by first|rfl|(simp[aJ,aM]<;>rfl)|(simp[*,aJ,aM]<;>rfl),bs CG.out⟩
        ·replace c15:=Bool.eq_false_iff.mpr c15
         subst c15;have H1:(if((au l0 fq).f1)=0 then(dU.l0 kj4 (wrap64 (((au l0 fq).f0)+1)) l0 (l0.length:Int) (wrap64 (fq+1)))else(dU.l0 kj4 ((au l0 fq).f0) l0 (l0.length:Int) (wrap64 (fq+1))))=some r:=by rw[if_neg (show¬(false=true) by decide)]at H;first|exact H|(simp only[eq_self]at H⊢;exact H)|(simp only[eq_self,if_true]at H⊢;exact H)
         clear H;have H:=H1;clear H1
         by_cases c16:((au l0 fq).f1)=0
         ·rw[if_pos c16]at H
          have c16b0:(((au l0 fq).f1)==0)=true:=beq_iff_eq.mpr c16;have c16b1:(((au l0 fq).f1) !=0)=false:=bne_eq_false_iff_eq.mpr c16;clear c16;have H':=ak.mk H;clear H;have OG:wc.cell? ⟨jH,0,none⟩=some (.int .i64 ((au l0 fq).f0)):=(aC eZ.out 0).trans rfl;have OH:wc.cell? ⟨jH,1,none⟩=some (.int .i64 ((au l0 fq).f1)):=(aC eZ.out 1).trans rfl;have OI:wc.cell? ⟨jH,2,none⟩=some (.string ((au l0 fq).f2)):=(aC eZ.out 2).trans rfl;have OJ:wc.cell? ⟨jH,3,none⟩=some (.string ((au l0 fq).f3)):=(aC eZ.out 3).trans rfl;have OL:wc.cell? ⟨jH,4,none⟩=some (.slice Jk ((au l0 fq).f4).length Jl):=(aC eZ.out 4).trans rfl;have OM:=ay eZ.out 0;have OO:=ay eZ.out 1;have OP:=ay eZ.out 2;have OQ:=ay eZ.out 3;have OT:=ay eZ.out 4;go_wp2
          go_roundg kj4
          case measure=>have:=HK1.out;have:=HJ4.out;omega
          case rel=>exact⟨(wrap64 (((au l0 fq).f0)+1)),(wrap64 (fq+1)),q'c,q'c,H',⟨by have:=HK1.out;have:=HJ4.out;omega⟩,⟨bs CG.out⟩⟩
         ·rw[if_neg c16]at H
          have c16b0:(((au l0 fq).f1)==0)=false:=beq_eq_false_iff_ne.mpr c16;have c16b1:(((au l0 fq).f1) !=0)=true:=bne_iff_ne.mpr c16;have H':=ak.mk H;clear H;have vQ:wc.cell? ⟨jH,0,none⟩=some (.int .i64 ((au l0 fq).f0)):=(aC eZ.out 0).trans rfl;have vR:wc.cell? ⟨jH,1,none⟩=some (.int .i64 ((au l0 fq).f1)):=(aC eZ.out 1).trans rfl;have vS:wc.cell? ⟨jH,2,none⟩=some (.string ((au l0 fq).f2)):=(aC eZ.out 2).trans rfl;have vT:wc.cell? ⟨jH,3,none⟩=some (.string ((au l0 fq).f3)):=(aC eZ.out 3).trans rfl;have vU:wc.cell? ⟨jH,4,none⟩=some (.slice Jk ((au l0 fq).f4).length Jl):=(aC eZ.out 4).trans rfl;have vV:=ay eZ.out 0;have vW:=ay eZ.out 1;have vX:=ay eZ.out 2;have vY:=ay eZ.out 3;have vZ:=ay eZ.out 4;go_wp2
          go_roundg kj4
          case measure=>have:=HK1.out;have:=HJ4.out;omega
          case rel=>exact⟨(((au l0 fq).f0)),(wrap64 (fq+1)),q'c,q'c,H',⟨by have:=HK1.out;have:=HJ4.out;omega⟩,⟨bs CG.out⟩⟩
     ·rw[if_neg c4]at H
      exact absurd H (by simp)
    ·rw[if_neg c3]at H
     exact absurd H (by simp)
   ·rw[if_neg c2]at H
    have Di:decide (fq<(l0.length:Int))=false:=decide_eq_false c2;clear c2;obtain rfl:=Option.some.inj H;go_wp2;go_ret;exact⟨by first|rfl|(simp[aJ,aM]<;>rfl)|(simp[*,aJ,aM]<;>rfl),bz⟩
def oo.f(k:Nat)(l0:List (S34)):Option (Int):=(qw.f l0).bind fun t584=>(if t584=true then(some 2)else((dU.f k l0).bind fun t585=>(if t585=true then(some 0)else(some 40))))
theorem oo.calls(k:Nat)(A0:Option Addr)(c0:Nat)(l0:List (S34))(r:Int)(w:World)(hr0:Kd.C k34 w A0 l0.length l0)(hc0:l0.length≤c0)(h:oo.f k l0=some r):
 Calls Tryz.prog 39 #[.slice A0 l0.length c0] w fun e w'=>e=.returned (.int .i64 r)∧Below w.heap.size w w':=by
 have HR0:=ak.mk hr0;have HC0:=ak.mk hc0;clear hr0 hc0;have HB:=ak.mk (Below.refl w.heap.size w);have H:((qw.f l0).bind fun t584=>(if t584=true then(some 2)else((dU.f k l0).bind fun t585=>(if t585=true then(some 0)else(some 40)))))=some r:=h;clear h;replace H:=Option.bind_eq_some_iff.mp H;obtain⟨t584,A20,H⟩:=H;replace H:(if t584=true then(some 2)else((dU.f k l0).bind fun t585=>(if t585=true then(some 0)else(some 40))))=some r:=H;have A2:=ak.mk A20;clear A20
 by_cases c3:t584=true
 ·subst c3
  have H1:(some 2)=some r:=by rw[if_pos rfl]at H;exact H
  clear H;have H:=H1;clear H1;obtain rfl:=Option.some.inj H;go_enter Tryz.func39,Tryz.ntmps39
  go_wp2_with(first|((with_reducible refine aZ (f:=84) rfl ?_);refine dJ (some 5) rfl rfl Tryz.func84 (by kernel_rfl) rfl #[.slice A0 l0.length c0] rfl q'a ?_;(with_reducible refine(qw.calls _ _ l0 true _ ?cZ ?dH A2.out).mono ?_);(case cZ=>repeat(first|exact HR0.out|(with_reducible refine Kd.mg ?_ _)|(with_reducible refine Kd.nk ?_ _)|(with_reducible refine Kd.pJ ?_)));(case dH=>exact HC0.out);rintro e w4 ⟨rfl,hb⟩;refine⟨_,rfl,?_⟩;replace HB:=ak.mk (aG bz hb);(try clear hb);(try clear hb2);(try clear hk);(try clear hi)))
  go_ret;exact⟨by first|rfl|(simp[aJ,aM]<;>rfl)|(simp[*,aJ,aM]<;>rfl),bz⟩
 ·replace c3:=Bool.eq_false_iff.mpr c3
  subst c3;have H1:((dU.f k l0).bind fun t585=>(if t585=true then(some 0)else(some 40)))=some r:=by rw[if_neg (show¬(false=true) by decide)]at H;first|exact H|(simp only[eq_self]at H⊢;exact H)|(simp only[eq_self,if_true]at H⊢;exact H)
  clear H;have H:=H1;clear H1;replace H:=Option.bind_eq_some_iff.mp H;obtain⟨t585,A50,H⟩:=H;replace H:(if t585=true then(some 0)else(some 40))=some r:=H;have A5:=ak.mk A50;clear A50
  by_cases c6:t585=true
  ·subst c6
   have H1:(some 0)=some r:=by rw[if_pos rfl]at H;exact H
   clear H;have H:=H1;clear H1;obtain rfl:=Option.some.inj H;go_enter Tryz.func39,Tryz.ntmps39
   go_wp2_with(first|((with_reducible refine aZ (f:=84) rfl ?_);refine dJ (some 5) rfl rfl Tryz.func84 (by kernel_rfl) rfl #[.slice A0 l0.length c0] rfl q'a ?_;(with_reducible refine(qw.calls _ _ l0 false _ ?cZ ?dH A2.out).mono ?_);(case cZ=>repeat(first|exact HR0.out|(with_reducible refine Kd.mg ?_ _)|(with_reducible refine Kd.nk ?_ _)|(with_reducible refine Kd.pJ ?_)));(case dH=>exact HC0.out);rintro e w7 ⟨rfl,hb⟩;refine⟨_,rfl,?_⟩;replace HB:=ak.mk (aG bz hb);(try clear hb);(try clear hb2);(try clear hk);(try clear hi))|((with_reducible refine aZ (f:=85) rfl ?_);refine dJ (some 8) rfl rfl Tryz.func85 (by kernel_rfl) rfl #[.slice A0 l0.length c0] rfl q'a ?_;(with_reducible refine(dU.calls k _ _ l0 true _ ?cZ ?dH A5.out).mono ?_);(case cZ=>exact cz (Kd.eF HR0.out HB.out));(case dH=>exact HC0.out);rintro e w8 ⟨rfl,hb⟩;refine⟨_,rfl,?_⟩;replace HB:=ak.mk (aG bz hb);(try clear hb);(try clear hb2);(try clear hk);(try clear hi)))
   go_ret;exact⟨by first|rfl|(simp[aJ,aM]<;>rfl)|(simp[*,aJ,aM]<;>rfl),bz⟩
  ·replace c6:=Bool.eq_false_iff.mpr c6
   subst c6;have H1:(some 40)=some r:=by rw[if_neg (show¬(false=true) by decide)]at H;first|exact H|(simp only[eq_self]at H⊢;exact H)|(simp only[eq_self,if_true]at H⊢;exact H)
   clear H;have H:=H1;clear H1;obtain rfl:=Option.some.inj H;go_enter Tryz.func39,Tryz.ntmps39
   go_wp2_with(first|((with_reducible refine aZ (f:=84) rfl ?_);refine dJ (some 5) rfl rfl Tryz.func84 (by kernel_rfl) rfl #[.slice A0 l0.length c0] rfl q'a ?_;(with_reducible refine(qw.calls _ _ l0 false _ ?cZ ?dH A2.out).mono ?_);(case cZ=>repeat(first|exact HR0.out|(with_reducible refine Kd.mg ?_ _)|(with_reducible refine Kd.nk ?_ _)|(with_reducible refine Kd.pJ ?_)));(case dH=>exact HC0.out);rintro e w9 ⟨rfl,hb⟩;refine⟨_,rfl,?_⟩;replace HB:=ak.mk (aG bz hb);(try clear hb);(try clear hb2);(try clear hk);(try clear hi))|((with_reducible refine aZ (f:=85) rfl ?_);refine dJ (some 8) rfl rfl Tryz.func85 (by kernel_rfl) rfl #[.slice A0 l0.length c0] rfl q'a ?_;(with_reducible refine(dU.calls k _ _ l0 false _ ?cZ ?dH A5.out).mono ?_);(case cZ=>exact cz (Kd.eF HR0.out HB.out));(case dH=>exact HC0.out);rintro e w10 ⟨rfl,hb⟩;refine⟨_,rfl,?_⟩;replace HB:=ak.mk (aG bz hb);(try clear hb);(try clear hb2);(try clear hk);(try clear hi)))
   go_ret;exact⟨by first|rfl|(simp[aJ,aM]<;>rfl)|(simp[*,aJ,aM]<;>rfl),bz⟩
end Go.Proofs.aj.W7
namespace Go.Proofs.aj.W7
open Go.RowKit Go.Proofs Go.Proofs.aj Go.Proofs.YtkcmghlhpbepcaaGreatDoor Go.Proofs.ah.aD
def stk(l:List Rw):List Bt:=l.foldl after []
def rU(x:Rw):Tk:=if x.f1=0 then⟨1,x.f2,⟨#[]⟩,x.f4,false⟩else if x.f1=1 then⟨0,⟨#[]⟩,x.f3,[],false⟩else⟨3,⟨#[]⟩,x.f3,[],false⟩
def zU(n:Bt):Tk:=⟨2,n,⟨#[]⟩,[],false⟩
def opA(op:List Bt)(x:Rw):List Bt:=if x.f1=0∧kS x.f2=false then op++[x.f2]else op
def emit:List Rw→List Bt→List Tk
 | [],op=>op.reverse.map zU
 |x::r,op=>(op.drop x.f0.toNat).reverse.map zU++rU x::emit r (opA (op.take x.f0.toNat) x)
structure JU (x:Rw) (op:List Bt) (out:List Rw):Prop where
 lo:0≤x.f0
 hi:x.f0≤op.length
 deep:x.f0<60
 len:out.length<4096
 kind:x.f1=0∨x.f1=1∨x.f1=2
 el:x.f1=0→x.f2.data.toList≠[]∧qh x.f2=false∧yu x.f2 (op.take x.f0.toNat)=true∧x.f3=⟨#[]⟩∧uq x.f4=x.f4
 no:x.f1≠0→x.f2=⟨#[]⟩∧x.f4=[]
 text:x.f1=1→x.f3.data.toList≠[]∧wW (op.take x.f0.toNat) out=false
def RowsFit:List Rw→List Bt→List Rw→Prop
 | [],_,_=>True
 |x::r,op,out=>JU x op out∧RowsFit r (opA (op.take x.f0.toNat) x) (out++[x])
def Fz(op:List Bt):Prop:=∀n∈op,n.data.toList≠[]∧qh n=false∧kS n=false
theorem CY{a b op:List Bt}(h:fT op a b op.length<0):pF a b op=op:=by
 unfold pF;rw[zF,if_pos h]
theorem Nz{s:Bt}{op:List Bt}(h:yu s op=true):jk op s=op:=by
 unfold yu at h;simp only[Bool.and_eq_true,Bool.not_eq_true',Bool.and_eq_false_iff,decide_eq_true_eq,decide_eq_false_iff_not]at h;unfold jk;rw[CY h.2]
 split
 ·rename_i hp
  rcases h.1 with h1|h1
  ·rw[h1]at hp;cases hp
  ·exact CY (by omega)
 ·rfl
theorem end_top{op:List Bt}{out:List Rw}{n:Bt}(h:n.data.toList≠[]∧qh n=false∧kS n=false):ji (op++[n]) out false n=(op,out,false):=by
 unfold ji;rw[if_neg h.1,if_neg (by rw[h.2.1];decide),if_neg (by rw[h.2.2];decide)]
 have e:fT (op++[n]) [n] (El n) (op++[n]).length=(op.length:Int):=by
  rw[List.length_append,List.length_cons,List.length_nil,Nat.zero_add,fT];have e1:(op++[n]).getD op.length ⟨#[]⟩=n:=by simp
  rw[e1,if_pos (by simp[Lib.containsS,Lib.idxOfS,Lib.idxFromS])]
 rw[e,if_pos (by omega),Int.toNat_natCast,List.take_append_of_le_length (Nat.le_refl _),List.take_length]
theorem FB(rest:List Tk)(out:List Rw)(op:List Bt):∀(m:List Bt),Fz m→tq (m.map zU++rest) (op++m.reverse) out=tq rest op out
 | [],_=>by simp
 |n::m,h=>by
  have hs:kH (op++(n::m).reverse) out (zU n)=(op++m.reverse,out,false):=by
   unfold kH zU;rw[if_neg (by simp),if_neg (by simp),if_neg (by simp),if_pos (by simp),List.reverse_cons,←List.append_assoc];exact end_top (h n (by simp))
  rw[List.map_cons,List.cons_append,tq,hs,if_neg (by simp)];exact FB rest out op m (fun k hk=>h k (by simp[hk]))
theorem GR(rest:List Tk)(out:List Rw)(ns op:List Bt)(h:Fz ns):tq (ns.reverse.map zU++rest) (op++ns) out=tq rest op out:=by
 have:=FB rest out op ns.reverse (fun n hn=>h n (List.mem_reverse.1 hn))
 rwa [List.reverse_reverse]at this
theorem JV{op:List Bt}{out:List Rw}(x:Rw)(h1:out.length<4096)(h2:op.length<60):pE op out false x=(out++[⟨op.length,x.f1,x.f2,x.f3,x.f4⟩],false):=by
 unfold pE;rw[if_neg (by omega)]
theorem rJ{x:Rw}{op:List Bt}{out:List Rw}(h:JU x op out):kH (op.take x.f0.toNat) out (rU x)=(opA (op.take x.f0.toNat) x,out++[x],false):=by
 have hl:(op.take x.f0.toNat).length=x.f0.toNat:=by rw[List.length_take];have:=h.hi;have:=h.lo;omega
 have hlo:=h.lo;have hd:=h.deep;have hx:((op.take x.f0.toNat).length:Int)=x.f0:=by rw[hl];omega
 have h60:(op.take x.f0.toNat).length<60:=by omega
 have he:=h.el;have hno:=h.no;have htx:=h.text;have hlen:=h.len;generalize op.take x.f0.toNat=op' at *;obtain⟨d,k,nm,tx,at_⟩:=x;simp only at *
 rcases h.kind with rfl|rfl|rfl
 ·obtain⟨a1,a2,a3,rfl,a5⟩:=he rfl
  have et:kH op' out (rU ⟨d,0,nm,⟨#[]⟩,at_⟩)=oJ op' out false nm at_:=by simp[kH,rU]
  rw[et];unfold oJ;rw[if_neg a1,if_neg (by rw[a2];decide),Nz a3,JV _ hlen h60];simp only[a5,hx,opA];cases hv:kS nm<;>simp
 ·obtain⟨rfl,rfl⟩:=hno (by decide)
  obtain⟨a1,a2⟩:=htx rfl;have et:kH op' out (rU ⟨d,1,⟨#[]⟩,tx,[]⟩)=(op',jC op' out false tx):=by simp[kH,rU]
  rw[et];unfold jC;rw[if_neg a1,a2,if_neg (by decide),JV _ hlen h60];simp[hx,opA]
 ·obtain⟨rfl,rfl⟩:=hno (by decide)
  have et:kH op' out (rU ⟨d,2,⟨#[]⟩,tx,[]⟩)=(op',pE op' out false ⟨0,2,⟨#[]⟩,tx,[]⟩):=by simp[kH,rU]
  rw[et,JV _ hlen h60];simp[hx,opA]
theorem Ry{x:Rw}{op:List Bt}{out:List Rw}(h:JU x op out)(ho:Fz op):Fz (opA (op.take x.f0.toNat) x):=by
 unfold opA
 split
 ·rename_i hc
  obtain⟨a1,a2,_⟩:=h.el hc.1;intro n hn
  rcases List.mem_append.1 hn with hn|hn
  ·exact ho n (List.mem_of_mem_take hn)
  ·obtain rfl:=List.mem_singleton.1 hn
   exact⟨a1,a2,hc.2⟩
 ·exact fun n hn=>ho n (List.mem_of_mem_take hn)
theorem GU:∀(r:List Rw) (op:List Bt) (out:List Rw),Fz op→RowsFit r op out→tq (emit r op) op out=some (out++r)
 | [],op,out,ho,_=>by
   have:=GR [] out op [] ho;rw[List.nil_append,List.append_nil]at this;rw[emit,this,tq,List.append_nil]
 |x::r,op,out,ho,h=>by
  obtain⟨h1,h2⟩:=h;have e:=GR (rU x::emit r (opA (op.take x.f0.toNat) x)) out (op.drop x.f0.toNat) (op.take x.f0.toNat) (fun n hn=>ho n (List.mem_of_mem_drop hn));rw[List.take_append_drop]at e;rw[emit,e,tq,rJ h1,if_neg (by simp)];rw[GU r _ _ (Ry h1 ho) h2,List.append_assoc,List.singleton_append]
end Go.Proofs.aj.W7
namespace Go.Proofs.YtkcmghlhpbepcaaGreatDoor
open Go.Proofs
theorem JH{p:UInt8→Bool}{c:UInt8}{r:Txt}(h:p c=true):∀ {a:Txt},(∀x∈a,p x=false)→(a++c::r).findIdx p=a.length
 | [],_=>by simp[List.findIdx_cons,h]
 |x::a,ha=>by
  rw[List.cons_append,List.findIdx_cons,ha x (by simp),JH h (fun y hy=>ha y (by simp[hy]))];simp
theorem Qn{p:UInt8→Bool}:∀ {a:Txt},(∀x∈a,p x=false)→a.findIdx p=a.length
 | [],_=>rfl
 |x::a,ha=>by
  rw[List.findIdx_cons,ha x (by simp),Qn (fun y hy=>ha y (by simp[hy]))];simp
theorem run_hit{t a r q:Txt}{ts:List Tok}(ha:(60:UInt8)∉a)(ho:jN r=some (ts,q)):oZ t (a++60::r)=fD (t++a)++ts++oZ [] q:=by
 have hf:jC (a++60::r)=a.length:=JH (by decide) (fun x hx=>beq_eq_false_iff_ne.2 (fun e=>ha (by rw[←e];exact hx)));rw[Bn,hf];simp[ho]
theorem run_none{t a:Txt}(ha:(60:UInt8)∉a):oZ t a=fD (t++a):=by
 have hf:jC a=a.length:=Qn (fun x hx=>beq_eq_false_iff_ne.2 (fun e=>ha (by rw[←e];exact hx)));rw[Bn,hf];simp
theorem JC(t:Txt):oZ t []=fD t:=by simpa using run_none (t:=t) (a:=[]) (by simp)
theorem LX{nm r:Txt}{c:UInt8}(hn:∀x∈nm,dZ x=false)(hc:dZ c=true):gF (nm++c::r)=(lD [] (c::r)).map fun q=>(⟨0,lN nm,q.1,[],q.2.1⟩,q.2.2):=by
 unfold gF;rw[JH hc hn];simp
theorem attrs_gt(acc:List (Txt×Txt))(r:Txt):lD acc (62::r)=some (acc,false,r):=by
 have hg:uE (62::r)=0:=by simp[uE,List.findIdx_cons,dM]
 rw[yJ,vJ,hg];simp
def quietB:Txt→Bool
 | []=>true
 | [c]=>c !=60
 |c::d::r=>!(c==60&&d==47)&&quietB (d::r)
theorem Nq{name r:Txt}{c:UInt8}(hc:dZ c=true):gN name (60::47::(name++c::r))=true:=by
 simp[gN,hc]
def hasL(l:List UInt8)(c:Nat):Bool:=l.any fun x=>x.toNat==c
end Go.Proofs.YtkcmghlhpbepcaaGreatDoor
namespace Go.Proofs.YtkcmghlhpbepcaaGreatDoor
open Go.RowKit Go.Proofs
theorem NT{c:UInt8}{a r:List UInt8}(h:c∉a):ig c (a++c::r)=(a,r,true):=by
 induction a with
 |nil=>simp[ig]
 |cons x a ih=>
  have hx:x≠c:=fun e=>h (by simp[e])
  rw[List.cons_append,ig,if_neg hx,ih (fun e=>h (by simp[e]))]
theorem uj{name t r:List UInt8}(h:(59:UInt8)∉name)(hm:jK name=(t,true)):iU (38::(name++59::r))=t++iU r:=by
 have e:=NT (r:=r) h;rw[Kk (by rw[e]) (by rw[e,hm]),e,hm]
theorem m_amp:jK [97,109,112]=([38],true):=by decide +kernel
theorem m_lt:jK [108,116]=([60],true):=by decide +kernel
theorem m_gt:jK [103,116]=([62],true):=by decide +kernel
theorem m_quot:jK [113,117,111,116]=([34],true):=by decide +kernel
theorem m_nbsp:jK [110,98,115,112]=([194,160],true):=by decide +kernel
theorem dec_amp(r:List UInt8):iU ([38,97,109,112,59]++r)=38::iU r:=uj (by decide) m_amp
theorem dec_lt(r:List UInt8):iU ([38,108,116,59]++r)=60::iU r:=uj (by decide) m_lt
theorem dec_gt(r:List UInt8):iU ([38,103,116,59]++r)=62::iU r:=uj (by decide) m_gt
theorem dec_quot(r:List UInt8):iU ([38,113,117,111,116,59]++r)=34::iU r:=uj (by decide) m_quot
theorem Kl(r:List UInt8):iU ([38,110,98,115,112,59]++r)=194::160::iU r:=uj (by decide) m_nbsp
theorem Dq(q:Bool)(c:UInt8)(r:List UInt8):iU (oH q c++r)=c::iU r:=by
 unfold oH
 split
 ·rename_i h;rw[h,dec_amp]
 split
 ·rename_i h;rw[h,dec_lt]
 split
 ·rename_i h;rw[h,dec_gt]
 split
 ·rename_i h;rw[h.1,dec_quot]
 ·rename_i h _ _ _
  rw[List.singleton_append,yD,if_neg h]
theorem Hr(q:Bool):∀l,iU (wrL q l)=l
 | []=>by simp[wrL,Ae]
 | [c]=>by
   rw[wrL];have:=Dq q c []
   rwa [List.append_nil,Ae]at this
 |c::d::l=>by
  rw[wrL]
  split
  ·rename_i h
   rw[Kl,Hr q l,h.1,h.2]
  ·rw[Dq,Hr q (d::l)]
theorem Cx(a b:List UInt8)(c:Nat):hasL (a++b) c=(hasL a c||hasL b c):=by simp[hasL]
theorem Ht(q:Bool)(c:UInt8)(n:Nat)(hn:n=60∨n=62∨(n=34∧q=true)):hasL (oH q c) n=false:=by
 unfold oH
 split
 ·rcases hn with rfl|rfl|⟨rfl,_⟩<;>decide
 split
 ·rcases hn with rfl|rfl|⟨rfl,_⟩<;>decide
 split
 ·rcases hn with rfl|rfl|⟨rfl,_⟩<;>decide
 split
 ·rcases hn with rfl|rfl|⟨rfl,_⟩<;>decide
 ·rename_i h1 h2 h3 h4
  simp only[hasL,List.any_cons,List.any_nil,Bool.or_false,beq_eq_false_iff_ne,ne_eq];intro e
  rcases hn with rfl|rfl|⟨rfl,hq⟩
  ·exact h2 (Ad (n:=60) e (by decide))
  ·exact h3 (Ad (n:=62) e (by decide))
  ·exact h4 ⟨Ad (n:=34) e (by decide),hq⟩
theorem Af(q:Bool)(n:Nat)(hn:n=60∨n=62∨(n=34∧q=true)):∀l,hasL (wrL q l) n=false
 | []=>rfl
 | [c]=>by rw[wrL];exact Ht q c n hn
 |c::d::l=>by
  rw[wrL]
  split
  ·rw[Cx,Af q n hn l]
   rcases hn with rfl|rfl|⟨rfl,_⟩<;>decide
  ·rw[Cx,Ht q c n hn,Af q n hn (d::l)]
   rfl
theorem NU(q:Bool)(c:UInt8):(oH q c).length≤6:=by
 unfold oH
 repeat' split
 all_goals simp
theorem Hu(q:Bool):∀l,(wrL q l).length≤6 * l.length
 | []=>by simp[wrL]
 | [c]=>by rw[wrL];have:=NU q c;simp;omega
 |c::d::l=>by
  rw[wrL]
  split
  ·have:=Hu q l
   simp;omega
  ·have:=Hu q (d::l)
   have:=NU q c;simp at *;omega
end Go.Proofs.YtkcmghlhpbepcaaGreatDoor
