/- Lemmas and walks, part 18. -/
import Derived.Test.YtkcmghlhpbepcaaGreatDoorNB17
import Derived.Test.YtkcmghlhpbepcaaGreatDoorNB16
set_option linter.unusedVariables false
set_option linter.unusedSimpArgs false
set_option maxHeartbeats 8000000
set_option maxRecDepth 100000
namespace Go.Proofs.aj.W7
open Go.RowKit Go.Proofs.ah.aD Go.Proofs.ah.bH Go.Proofs.ah.bV
attribute [local go_sem] dA dB dP dQ bY bZ dD dF
mutual
def eO.l0:Nat→Int→List (S34)→Int→Int→Option (Bool)
 |0,_,_,_,_=>none
 |k+1,x3,x6,x7,x8=>if x8<x7 then(if 0≤x8 then(if x8<(x6.length:Int)then(if((au x6 x8).f0)<0 then(eO.j1 k x6 x7 x8 true ((au x6 x8).f0) ((au x6 x8).f1) ((au x6 x8).f2) ((au x6 x8).f3) ((au x6 x8).f4))else(if((au x6 x8).f0)>x3 then(eO.j1 k x6 x7 x8 true ((au x6 x8).f0) ((au x6 x8).f1) ((au x6 x8).f2) ((au x6 x8).f3) ((au x6 x8).f4))else((rows_row.f k ((au x6 x8).f0) ((au x6 x8).f1) ((au x6 x8).f2) ((au x6 x8).f3) ((au x6 x8).f4)).bind fun t583=>(eO.j1 k x6 x7 x8 (!t583) ((au x6 x8).f0) ((au x6 x8).f1) ((au x6 x8).f2) ((au x6 x8).f3) ((au x6 x8).f4)))))else(none))else(none))else(some true)
def eO.j1:Nat→List (S34)→Int→Int→Bool→Int→Int→ByteArray→ByteArray→List (S36)→Option (Bool)
 |0,_,_,_,_,_,_,_,_,_=>none
 |k+1,x6,x7,x8,x25,Oh,x583001,x583002,x583003,x583004=>if x25=true then(some false)else(if x583001=0 then(eO.l0 k (wrap64 (Oh+1)) x6 x7 (wrap64 (x8+1)))else(eO.l0 k Oh x6 x7 (wrap64 (x8+1))))
end
def eO.f(k:Nat)(l0:List (S34)):Option (Bool):=eO.l0 k 0 l0 (l0.length:Int) 0
theorem eO.calls(k:Nat)(A0:Option Addr)(c0:Nat)(l0:List (S34))(r:Bool)(w:World)(hr0:Kd.C k34 w A0 l0.length l0)(hc0:l0.length≤c0)(h:eO.f k l0=some r):
 Calls Tryz.prog 85 #[.slice A0 l0.length c0] w fun e w'=>e=.returned (.bool r)∧Below w.heap.size w w':=by
 have hu34:=Tryz.underlying34;have HR0:=ak.mk hr0;have HC0:=ak.mk hc0;clear hr0 hc0;have HB:=ak.mk (Below.refl w.heap.size w);have H:(eO.l0 k 0 l0 (l0.length:Int) 0)=some r:=h;clear h;have H':=ak.mk H;clear H;go_enter Tryz.func85,Tryz.ntmps85;go_wp2
 go_loopg [3,8] k (fun kq v3 v8 w'=>∃(nI eZ:Int),v3=.int .i64 nI∧v8=.int .i64 eZ∧ak (eO.l0 kq nI l0 (l0.length:Int) eZ=some r)∧ak (kq≤k)∧ak (Below w.heap.size w w'))
 case atStart=>exact⟨(0),(0),q'c,q'c,H',⟨Nat.le_refl _⟩,⟨bz⟩⟩
 case round=>
  clear H';obtain⟨nI,eZ,rfl,rfl,HA,HK1,HB⟩:=hrel;cases gk with
  |zero=>exact absurd HA.out (by simp[eO.l0])
  |succ k1=>
   have H:=HA.out;clear HA;simp only[eO.l0]at H
   by_cases c2:eZ<(l0.length:Int)
   ·rw[if_pos c2]at H
    have CJ:decide (eZ<(l0.length:Int))=true:=decide_eq_true c2;clear c2
    by_cases c3:0≤eZ
    ·rw[if_pos c3]at H
     have nC:decide (0≤eZ)=true:=decide_eq_true c3;clear c3
     by_cases c4:eZ<(l0.length:Int)
     ·rw[if_pos c4]at H
      have mP:decide (eZ<(l0.length:Int))=true:=decide_eq_true c4;clear c4;have HC5:=ak.mk H;clear H;have p581:0≤(eZ:Int):=q'b;have q581:eZ<(l0.length:Int):=q'b;obtain⟨ad581,Iy,Iz,e581,Dc,Df,Dg,Dh,Di,Oi,Oj⟩:=kH HR0.out eZ p581 q581;cases e581;replace Dc:=(HB.out.cell (World.block_lt_of_cell? w _ Dc)).trans Dc;replace Df:=(HB.out.cell (World.block_lt_of_cell? w _ Df)).trans Df;replace Dg:=(HB.out.cell (World.block_lt_of_cell? w _ Dg)).trans Dg;replace Dh:=(HB.out.cell (World.block_lt_of_cell? w _ Dh)).trans Dh;replace Di:=(HB.out.cell (World.block_lt_of_cell? w _ Di)).trans Di;have HR581_4:=ak.mk Oj;have HC581_4:=ak.mk Oi;clear Oj Oi;replace p581:=eq_true p581;replace q581:=eq_true q581
      go_upto_region 5 with(first|((with_reducible refine cB (N:=5) rfl ?_);refine eG ?hg (N:=5) ?hd (cs:=#[.int .i64 0,.int .i64 0,.string (⟨#[]⟩:ByteArray),.string (⟨#[]⟩:ByteArray),.slice none 0 0]) (t:=34) ?hr ?_;(case hd=>rfl);(case hg=>rfl);(case hr=>first|(go_simp;done)|(go_simp;rfl));intro jD hg w6 fK hb;have n0_:=ak.mk (aG bz hb);have n1_:=ak.mk (fK);have n2_:=ak.mk ((by rw[hg];exact(aR bz):w.heap.size≤jD));have n3_:=ak.mk ((by rw[hg];exact(aR bz):w.heap.size≤jD));clear HB;have HB:=n0_;have eY:=n1_;have GW582:=n2_;have Ce:=n3_;clear n0_ n1_ n2_ n3_;clear hb fK hg;have hcz7_0:w6.cell? ⟨jD,0,none⟩=some (.int .i64 0):=(aC eY.out 0).trans rfl;have hcz7_1:w6.cell? ⟨jD,1,none⟩=some (.int .i64 0):=(aC eY.out 1).trans rfl;have hcz7_2:w6.cell? ⟨jD,2,none⟩=some (.string (⟨#[]⟩:ByteArray)):=(aC eY.out 2).trans rfl;have hcz7_3:w6.cell? ⟨jD,3,none⟩=some (.string (⟨#[]⟩:ByteArray)):=(aC eY.out 3).trans rfl;have hcz7_4:w6.cell? ⟨jD,4,none⟩=some (.slice none 0 0):=(aC eY.out 4).trans rfl;have hfz7_0:=ay eY.out 0;have hfz7_1:=ay eY.out 1;have hfz7_2:=ay eY.out 2;have hfz7_3:=ay eY.out 3;have hfz7_4:=ay eY.out 4))
      (try simp only[Act.put,List.setIfInBounds_toArray,List.set_cons_zero,List.set_cons_succ])
      go_cut [25] (fun v25 wc=>∃(kq:Nat) (x25_4:Bool),v25=.bool x25_4∧ak (eO.j1 kq l0 (l0.length:Int) eZ x25_4 ((au l0 eZ).f0) ((au l0 eZ).f1) ((au l0 eZ).f2) ((au l0 eZ).f3) ((au l0 eZ).f4)=some r)∧ak (kq≤k1)∧ak (wc.heap[jD]?=some (.cells #[.int .i64 ((au l0 eZ).f0),.int .i64 ((au l0 eZ).f1),.string ((au l0 eZ).f2),.string ((au l0 eZ).f3),(.slice Iy ((au l0 eZ).f4).length Iz)] 34 (0,0)))∧ak (Below w.heap.size w wc))
      case first=>
       have H:=HC5.out;clear HC5
       by_cases c8:((au l0 eZ).f0)<0
       ·rw[if_pos c8]at H
        have xB:decide (((au l0 eZ).f0)<0)=true:=decide_eq_true c8;clear c8
        (first|rw[xB] |(simp only[oD,oF];rw[xB])|skip)
        have H':=ak.mk H;clear H;have vL:w6.cell? ⟨jD,0,none⟩=some (.int .i64 0):=(aC eY.out 0).trans rfl;have vM:w6.cell? ⟨jD,1,none⟩=some (.int .i64 0):=(aC eY.out 1).trans rfl;have vN:w6.cell? ⟨jD,2,none⟩=some (.string (⟨#[]⟩:ByteArray)):=(aC eY.out 2).trans rfl;have vO:w6.cell? ⟨jD,3,none⟩=some (.string (⟨#[]⟩:ByteArray)):=(aC eY.out 3).trans rfl;have vP:w6.cell? ⟨jD,4,none⟩=some (.slice none 0 0):=(aC eY.out 4).trans rfl;have vQ:=ay eY.out 0;have vR:=ay eY.out 1;have vS:=ay eY.out 2;have vT:=ay eY.out 3;have vU:=ay eY.out 4;go_wp2
        go_meet
        case rel=>exact⟨_,(true),q'c,H',⟨by have:=HK1.out;first|omega|exact Nat.le_refl _⟩,⟨by(with_reducible repeat(first|refine aT ?_ _|refine aY ?_ |refine aU ?_ _));refine bT (cs:=#[.int .i64 ((au l0 eZ).f0),.int .i64 ((au l0 eZ).f1),.string ((au l0 eZ).f2),.string ((au l0 eZ).f3),.slice none 0 0]) ?_ 4 _ rfl;(with_reducible repeat(first|refine aT ?_ _|refine aY ?_ |refine aU ?_ _));refine bT (cs:=#[.int .i64 ((au l0 eZ).f0),.int .i64 ((au l0 eZ).f1),.string ((au l0 eZ).f2),.string (⟨#[]⟩:ByteArray),.slice none 0 0]) ?_ 3 _ rfl;(with_reducible repeat(first|refine aT ?_ _|refine aY ?_ |refine aU ?_ _));refine bT (cs:=#[.int .i64 ((au l0 eZ).f0),.int .i64 ((au l0 eZ).f1),.string (⟨#[]⟩:ByteArray),.string (⟨#[]⟩:ByteArray),.slice none 0 0]) ?_ 2 _ rfl;(with_reducible repeat(first|refine aT ?_ _|refine aY ?_ |refine aU ?_ _));refine bT (cs:=#[.int .i64 ((au l0 eZ).f0),.int .i64 0,.string (⟨#[]⟩:ByteArray),.string (⟨#[]⟩:ByteArray),.slice none 0 0]) ?_ 1 _ rfl;(with_reducible repeat(first|refine aT ?_ _|refine aY ?_ |refine aU ?_ _));refine bT (cs:=#[.int .i64 0,.int .i64 0,.string (⟨#[]⟩:ByteArray),.string (⟨#[]⟩:ByteArray),.slice none 0 0]) ?_ 0 _ rfl;(with_reducible repeat(first|refine aT ?_ _|refine aY ?_ |refine aU ?_ _));exact eY.out⟩,⟨bs Ce.out⟩⟩
       ·rw[if_neg c8]at H
        have xB:decide (((au l0 eZ).f0)<0)=false:=decide_eq_false c8;clear c8
        (first|rw[xB] |(simp only[oD,oF];rw[xB])|skip)
        by_cases c10:((au l0 eZ).f0)>nI
        ·rw[if_pos c10]at H
         have FT:decide (nI<((au l0 eZ).f0))=true:=decide_eq_true c10;clear c10;have H':=ak.mk H;clear H;have Ni:w6.cell? ⟨jD,0,none⟩=some (.int .i64 0):=(aC eY.out 0).trans rfl;have Nj:w6.cell? ⟨jD,1,none⟩=some (.int .i64 0):=(aC eY.out 1).trans rfl;have Nk:w6.cell? ⟨jD,2,none⟩=some (.string (⟨#[]⟩:ByteArray)):=(aC eY.out 2).trans rfl;have Nl:w6.cell? ⟨jD,3,none⟩=some (.string (⟨#[]⟩:ByteArray)):=(aC eY.out 3).trans rfl;have Nn:w6.cell? ⟨jD,4,none⟩=some (.slice none 0 0):=(aC eY.out 4).trans rfl;have Np:=ay eY.out 0;have Nq:=ay eY.out 1;have Nr:=ay eY.out 2;have Ns:=ay eY.out 3;have Nt:=ay eY.out 4;go_wp2
         go_meet
         case rel=>exact⟨_,(true),q'c,H',⟨by have:=HK1.out;first|omega|exact Nat.le_refl _⟩,⟨by(with_reducible repeat(first|refine aT ?_ _|refine aY ?_ |refine aU ?_ _));refine bT (cs:=#[.int .i64 ((au l0 eZ).f0),.int .i64 ((au l0 eZ).f1),.string ((au l0 eZ).f2),.string ((au l0 eZ).f3),.slice none 0 0]) ?_ 4 _ rfl;(with_reducible repeat(first|refine aT ?_ _|refine aY ?_ |refine aU ?_ _));refine bT (cs:=#[.int .i64 ((au l0 eZ).f0),.int .i64 ((au l0 eZ).f1),.string ((au l0 eZ).f2),.string (⟨#[]⟩:ByteArray),.slice none 0 0]) ?_ 3 _ rfl;(with_reducible repeat(first|refine aT ?_ _|refine aY ?_ |refine aU ?_ _));refine bT (cs:=#[.int .i64 ((au l0 eZ).f0),.int .i64 ((au l0 eZ).f1),.string (⟨#[]⟩:ByteArray),.string (⟨#[]⟩:ByteArray),.slice none 0 0]) ?_ 2 _ rfl;(with_reducible repeat(first|refine aT ?_ _|refine aY ?_ |refine aU ?_ _));refine bT (cs:=#[.int .i64 ((au l0 eZ).f0),.int .i64 0,.string (⟨#[]⟩:ByteArray),.string (⟨#[]⟩:ByteArray),.slice none 0 0]) ?_ 1 _ rfl;(with_reducible repeat(first|refine aT ?_ _|refine aY ?_ |refine aU ?_ _));refine bT (cs:=#[.int .i64 0,.int .i64 0,.string (⟨#[]⟩:ByteArray),.string (⟨#[]⟩:ByteArray),.slice none 0 0]) ?_ 0 _ rfl;(with_reducible repeat(first|refine aT ?_ _|refine aY ?_ |refine aU ?_ _));exact eY.out⟩,⟨bs Ce.out⟩⟩
        ·rw[if_neg c10]at H
         have FT:decide (nI<((au l0 eZ).f0))=false:=decide_eq_false c10;clear c10;replace H:=Option.bind_eq_some_iff.mp H;obtain⟨t583,A120,H⟩:=H;replace H:(eO.j1 k1 l0 (l0.length:Int) eZ (!t583) ((au l0 eZ).f0) ((au l0 eZ).f1) ((au l0 eZ).f2) ((au l0 eZ).f3) ((au l0 eZ).f4))=some r:=H;have A12:=ak.mk A120;clear A120;have H':=ak.mk H;clear H;have hcz13_0:w6.cell? ⟨jD,0,none⟩=some (.int .i64 0):=(aC eY.out 0).trans rfl;have hcz13_1:w6.cell? ⟨jD,1,none⟩=some (.int .i64 0):=(aC eY.out 1).trans rfl;have hcz13_2:w6.cell? ⟨jD,2,none⟩=some (.string (⟨#[]⟩:ByteArray)):=(aC eY.out 2).trans rfl;have hcz13_3:w6.cell? ⟨jD,3,none⟩=some (.string (⟨#[]⟩:ByteArray)):=(aC eY.out 3).trans rfl;have hcz13_4:w6.cell? ⟨jD,4,none⟩=some (.slice none 0 0):=(aC eY.out 4).trans rfl;have hfz13_0:=ay eY.out 0;have hfz13_1:=ay eY.out 1;have hfz13_2:=ay eY.out 2;have hfz13_3:=ay eY.out 3;have hfz13_4:=ay eY.out 4
         go_wp2_with(first|(go_at_call 131;(with_reducible refine(rows_row.calls k1 ((au l0 eZ).f0) ((au l0 eZ).f1) ((au l0 eZ).f2) ((au l0 eZ).f3) _ _ ((au l0 eZ).f4) t583 _ ?cO ?dG A12.out).mono ?_);(case cO=>exact Kd.eD HR581_4.out (bs Ce.out));(case dG=>exact HC581_4.out);rintro e w14 ⟨rfl,hb⟩;have n0_:=ak.mk (dJ (g:=jD) (o:=.cells #[.int .i64 ((au l0 eZ).f0),.int .i64 ((au l0 eZ).f1),.string ((au l0 eZ).f2),.string ((au l0 eZ).f3),.slice Iy ((au l0 eZ).f4).length Iz] 34 (0,0)) (by(with_reducible repeat(first|refine aT ?_ _|refine aY ?_ |refine aU ?_ _));refine bT (cs:=#[.int .i64 ((au l0 eZ).f0),.int .i64 ((au l0 eZ).f1),.string ((au l0 eZ).f2),.string ((au l0 eZ).f3),.slice none 0 0]) ?_ 4 _ rfl;(with_reducible repeat(first|refine aT ?_ _|refine aY ?_ |refine aU ?_ _));refine bT (cs:=#[.int .i64 ((au l0 eZ).f0),.int .i64 ((au l0 eZ).f1),.string ((au l0 eZ).f2),.string (⟨#[]⟩:ByteArray),.slice none 0 0]) ?_ 3 _ rfl;(with_reducible repeat(first|refine aT ?_ _|refine aY ?_ |refine aU ?_ _));refine bT (cs:=#[.int .i64 ((au l0 eZ).f0),.int .i64 ((au l0 eZ).f1),.string (⟨#[]⟩:ByteArray),.string (⟨#[]⟩:ByteArray),.slice none 0 0]) ?_ 2 _ rfl;(with_reducible repeat(first|refine aT ?_ _|refine aY ?_ |refine aU ?_ _));refine bT (cs:=#[.int .i64 ((au l0 eZ).f0),.int .i64 0,.string (⟨#[]⟩:ByteArray),.string (⟨#[]⟩:ByteArray),.slice none 0 0]) ?_ 1 _ rfl;(with_reducible repeat(first|refine aT ?_ _|refine aY ?_ |refine aU ?_ _));refine bT (cs:=#[.int .i64 0,.int .i64 0,.string (⟨#[]⟩:ByteArray),.string (⟨#[]⟩:ByteArray),.slice none 0 0]) ?_ 0 _ rfl;(with_reducible repeat(first|refine aT ?_ _|refine aY ?_ |refine aU ?_ _));exact eY.out) hb);have n1_:=ak.mk (aG (bs Ce.out) hb);clear eY;clear HB;have eY:=n0_;have HB:=n1_;clear n0_ n1_;(try clear hb);(try clear hb2);(try clear hk);(try clear hi)))
         go_meet
         case rel=>exact⟨_,(!t583),q'c,H',⟨by have:=HK1.out;first|omega|exact Nat.le_refl _⟩,⟨by(with_reducible repeat(first|refine aT ?_ _|refine aY ?_ |refine aU ?_ _));exact eY.out⟩,⟨bs Ce.out⟩⟩
      case rest=>
       clear HC5
       try clear c1
       try clear c2
       try clear CJ
       try clear p2
       try clear c3
       try clear nC
       try clear c4
       try clear mP
       try clear c5
       try clear p5
       try clear q5
       try clear hx5
       try clear c8
       try clear xB
       try clear c10
       try clear FT
       try clear Ni
       try clear Nj
       try clear Nk
       try clear Nl
       try clear Nn
       try clear hcz13_0
       try clear hcz13_1
       try clear hcz13_2
       try clear hcz13_3
       try clear hcz13_4
       try clear hcz7_0
       try clear hcz7_1
       try clear hcz7_2
       try clear hcz7_3
       try clear hcz7_4
       try clear vL
       try clear vM
       try clear vN
       try clear vO
       try clear vP
       try clear Np
       try clear Nq
       try clear Nr
       try clear Ns
       try clear Nt
       try clear hfz13_0
       try clear hfz13_1
       try clear hfz13_2
       try clear hfz13_3
       try clear hfz13_4
       try clear hfz7_0
       try clear hfz7_1
       try clear hfz7_2
       try clear hfz7_3
       try clear hfz7_4
       try clear vQ
       try clear vR
       try clear vS
       try clear vT
       try clear vU
       try clear Dc
       try clear Df
       try clear Dg
       try clear Dh
       try clear Di
       try clear p581
       try clear q581
       obtain⟨kq,x25_4,rfl,HA,HJ4,eY,HB⟩:=hcut;cases kq with
       |zero=>exact absurd HA.out (by simp[eO.j1])
       |succ kj4=>
        have H:=HA.out;clear HA;simp only[eO.j1]at H
        by_cases c15:x25_4=true
        ·subst c15
         have H1:(some false)=some r:=by rw[if_pos rfl]at H;exact H
         clear H;have H:=H1;clear H1;obtain rfl:=Option.some.inj H;go_wp2;go_ret;exact⟨by first|rfl|(simp[aJ,aM]<;>rfl)|(simp[*,aJ,aM]<;>rfl),bs Ce.out⟩
        ·replace c15:=Bool.eq_false_iff.mpr c15
         subst c15;have H1:(if((au l0 eZ).f1)=0 then(eO.l0 kj4 (wrap64 (((au l0 eZ).f0)+1)) l0 (l0.length:Int) (wrap64 (eZ+1)))else(eO.l0 kj4 ((au l0 eZ).f0) l0 (l0.length:Int) (wrap64 (eZ+1))))=some r:=by rw[if_neg (show¬(false=true) by decide)]at H;first|exact H|(simp only[eq_self]at H⊢;exact H)|(simp only[eq_self,if_true]at H⊢;exact H)
         clear H;have H:=H1;clear H1
         by_cases c16:((au l0 eZ).f1)=0
         ·rw[if_pos c16]at H
          have c16b0:(((au l0 eZ).f1)==0)=true:=beq_iff_eq.mpr c16;have c16b1:(((au l0 eZ).f1) !=0)=false:=bne_eq_false_iff_eq.mpr c16;clear c16;have H':=ak.mk H;clear H;have NI:wc.cell? ⟨jD,0,none⟩=some (.int .i64 ((au l0 eZ).f0)):=(aC eY.out 0).trans rfl;have NJ:wc.cell? ⟨jD,1,none⟩=some (.int .i64 ((au l0 eZ).f1)):=(aC eY.out 1).trans rfl;have NK:wc.cell? ⟨jD,2,none⟩=some (.string ((au l0 eZ).f2)):=(aC eY.out 2).trans rfl;have NM:wc.cell? ⟨jD,3,none⟩=some (.string ((au l0 eZ).f3)):=(aC eY.out 3).trans rfl;have NP:wc.cell? ⟨jD,4,none⟩=some (.slice Iy ((au l0 eZ).f4).length Iz):=(aC eY.out 4).trans rfl;have NQ:=ay eY.out 0;have NR:=ay eY.out 1;have NS:=ay eY.out 2;have NT:=ay eY.out 3;have NU:=ay eY.out 4;go_wp2
          go_roundg kj4
          case measure=>have:=HK1.out;have:=HJ4.out;omega
          case rel=>exact⟨(wrap64 (((au l0 eZ).f0)+1)),(wrap64 (eZ+1)),q'c,q'c,H',⟨by have:=HK1.out;have:=HJ4.out;omega⟩,⟨bs Ce.out⟩⟩
         ·rw[if_neg c16]at H
          have c16b0:(((au l0 eZ).f1)==0)=false:=beq_eq_false_iff_ne.mpr c16;have c16b1:(((au l0 eZ).f1) !=0)=true:=bne_iff_ne.mpr c16;have H':=ak.mk H;clear H;have vB:wc.cell? ⟨jD,0,none⟩=some (.int .i64 ((au l0 eZ).f0)):=(aC eY.out 0).trans rfl;have vC:wc.cell? ⟨jD,1,none⟩=some (.int .i64 ((au l0 eZ).f1)):=(aC eY.out 1).trans rfl;have vD:wc.cell? ⟨jD,2,none⟩=some (.string ((au l0 eZ).f2)):=(aC eY.out 2).trans rfl;have vE:wc.cell? ⟨jD,3,none⟩=some (.string ((au l0 eZ).f3)):=(aC eY.out 3).trans rfl;have vF:wc.cell? ⟨jD,4,none⟩=some (.slice Iy ((au l0 eZ).f4).length Iz):=(aC eY.out 4).trans rfl;have vG:=ay eY.out 0;have vH:=ay eY.out 1;have vI:=ay eY.out 2;have vJ:=ay eY.out 3;have vK:=ay eY.out 4;go_wp2
          go_roundg kj4
          case measure=>have:=HK1.out;have:=HJ4.out;omega
          case rel=>exact⟨(((au l0 eZ).f0)),(wrap64 (eZ+1)),q'c,q'c,H',⟨by have:=HK1.out;have:=HJ4.out;omega⟩,⟨bs Ce.out⟩⟩
     ·rw[if_neg c4]at H
      exact absurd H (by simp)
    ·rw[if_neg c3]at H
     exact absurd H (by simp)
   ·rw[if_neg c2]at H
    have CJ:decide (eZ<(l0.length:Int))=false:=decide_eq_false c2;clear c2;obtain rfl:=Option.some.inj H;go_wp2;go_ret;exact⟨by first|rfl|(simp[aJ,aM]<;>rfl)|(simp[*,aJ,aM]<;>rfl),bz⟩
def oZ.f(k:Nat)(l0:List (S34)):Option (Int):=(qY.f l0).bind fun t584=>(if t584=true then(some 2)else((eO.f k l0).bind fun t585=>(if t585=true then(some 0)else(some 40))))
theorem oZ.calls(k:Nat)(A0:Option Addr)(c0:Nat)(l0:List (S34))(r:Int)(w:World)(hr0:Kd.C k34 w A0 l0.length l0)(hc0:l0.length≤c0)(h:oZ.f k l0=some r):
 Calls Tryz.prog 39 #[.slice A0 l0.length c0] w fun e w'=>e=.returned (.int .i64 r)∧Below w.heap.size w w':=by
 have HR0:=ak.mk hr0;have HC0:=ak.mk hc0;clear hr0 hc0;have HB:=ak.mk (Below.refl w.heap.size w);have H:((qY.f l0).bind fun t584=>(if t584=true then(some 2)else((eO.f k l0).bind fun t585=>(if t585=true then(some 0)else(some 40)))))=some r:=h;clear h;replace H:=Option.bind_eq_some_iff.mp H;obtain⟨t584,A20,H⟩:=H;replace H:(if t584=true then(some 2)else((eO.f k l0).bind fun t585=>(if t585=true then(some 0)else(some 40))))=some r:=H;have A2:=ak.mk A20;clear A20
 by_cases c3:t584=true
 ·subst c3
  have H1:(some 2)=some r:=by rw[if_pos rfl]at H;exact H
  clear H;have H:=H1;clear H1;obtain rfl:=Option.some.inj H;go_enter Tryz.func39,Tryz.ntmps39
  go_wp2_with(first|((with_reducible refine aZ (f:=84) rfl ?_);refine dI (some 5) rfl rfl Tryz.func84 (by kernel_rfl) rfl #[.slice A0 l0.length c0] rfl q'a ?_;(with_reducible refine(qY.calls _ _ l0 true _ ?cO ?dG A2.out).mono ?_);(case cO=>repeat(first|exact HR0.out|(with_reducible refine Kd.lQ ?_ _)|(with_reducible refine Kd.mU ?_ _)|(with_reducible refine Kd.o7 ?_)));(case dG=>exact HC0.out);rintro e w4 ⟨rfl,hb⟩;refine⟨_,rfl,?_⟩;have n0_:=ak.mk (aG bz hb);clear HB;have HB:=n0_;clear n0_;(try clear hb);(try clear hb2);(try clear hk);(try clear hi)))
  go_ret;exact⟨by first|rfl|(simp[aJ,aM]<;>rfl)|(simp[*,aJ,aM]<;>rfl),bz⟩
 ·replace c3:=Bool.eq_false_iff.mpr c3
  subst c3;have H1:((eO.f k l0).bind fun t585=>(if t585=true then(some 0)else(some 40)))=some r:=by rw[if_neg (show¬(false=true) by decide)]at H;first|exact H|(simp only[eq_self]at H⊢;exact H)|(simp only[eq_self,if_true]at H⊢;exact H)
  clear H;have H:=H1;clear H1;replace H:=Option.bind_eq_some_iff.mp H;obtain⟨t585,A50,H⟩:=H;replace H:(if t585=true then(some 0)else(some 40))=some r:=H;have A5:=ak.mk A50;clear A50
  by_cases c6:t585=true
  ·subst c6
   have H1:(some 0)=some r:=by rw[if_pos rfl]at H;exact H
   clear H;have H:=H1;clear H1;obtain rfl:=Option.some.inj H;go_enter Tryz.func39,Tryz.ntmps39
   go_wp2_with(first|((with_reducible refine aZ (f:=84) rfl ?_);refine dI (some 5) rfl rfl Tryz.func84 (by kernel_rfl) rfl #[.slice A0 l0.length c0] rfl q'a ?_;(with_reducible refine(qY.calls _ _ l0 false _ ?cO ?dG A2.out).mono ?_);(case cO=>repeat(first|exact HR0.out|(with_reducible refine Kd.lQ ?_ _)|(with_reducible refine Kd.mU ?_ _)|(with_reducible refine Kd.o7 ?_)));(case dG=>exact HC0.out);rintro e w7 ⟨rfl,hb⟩;refine⟨_,rfl,?_⟩;have n0_:=ak.mk (aG bz hb);clear HB;have HB:=n0_;clear n0_;(try clear hb);(try clear hb2);(try clear hk);(try clear hi))|((with_reducible refine aZ (f:=85) rfl ?_);refine dI (some 8) rfl rfl Tryz.func85 (by kernel_rfl) rfl #[.slice A0 l0.length c0] rfl q'a ?_;(with_reducible refine(eO.calls k _ _ l0 true _ ?cO ?dG A5.out).mono ?_);(case cO=>exact cz (Kd.eD HR0.out HB.out));(case dG=>exact HC0.out);rintro e w8 ⟨rfl,hb⟩;refine⟨_,rfl,?_⟩;have n0_:=ak.mk (aG bz hb);clear HB;have HB:=n0_;clear n0_;(try clear hb);(try clear hb2);(try clear hk);(try clear hi)))
   go_ret;exact⟨by first|rfl|(simp[aJ,aM]<;>rfl)|(simp[*,aJ,aM]<;>rfl),bz⟩
  ·replace c6:=Bool.eq_false_iff.mpr c6
   subst c6;have H1:(some 40)=some r:=by rw[if_neg (show¬(false=true) by decide)]at H;first|exact H|(simp only[eq_self]at H⊢;exact H)|(simp only[eq_self,if_true]at H⊢;exact H)
   clear H;have H:=H1;clear H1;obtain rfl:=Option.some.inj H;go_enter Tryz.func39,Tryz.ntmps39
   go_wp2_with(first|((with_reducible refine aZ (f:=84) rfl ?_);refine dI (some 5) rfl rfl Tryz.func84 (by kernel_rfl) rfl #[.slice A0 l0.length c0] rfl q'a ?_;(with_reducible refine(qY.calls _ _ l0 false _ ?cO ?dG A2.out).mono ?_);(case cO=>repeat(first|exact HR0.out|(with_reducible refine Kd.lQ ?_ _)|(with_reducible refine Kd.mU ?_ _)|(with_reducible refine Kd.o7 ?_)));(case dG=>exact HC0.out);rintro e w9 ⟨rfl,hb⟩;refine⟨_,rfl,?_⟩;have n0_:=ak.mk (aG bz hb);clear HB;have HB:=n0_;clear n0_;(try clear hb);(try clear hb2);(try clear hk);(try clear hi))|((with_reducible refine aZ (f:=85) rfl ?_);refine dI (some 8) rfl rfl Tryz.func85 (by kernel_rfl) rfl #[.slice A0 l0.length c0] rfl q'a ?_;(with_reducible refine(eO.calls k _ _ l0 false _ ?cO ?dG A5.out).mono ?_);(case cO=>exact cz (Kd.eD HR0.out HB.out));(case dG=>exact HC0.out);rintro e w10 ⟨rfl,hb⟩;refine⟨_,rfl,?_⟩;have n0_:=ak.mk (aG bz hb);clear HB;have HB:=n0_;clear n0_;(try clear hb);(try clear hb2);(try clear hk);(try clear hi)))
   go_ret;exact⟨by first|rfl|(simp[aJ,aM]<;>rfl)|(simp[*,aJ,aM]<;>rfl),bz⟩
end Go.Proofs.aj.W7
namespace Go.Proofs.aj.W7
open Go.RowKit Go.Proofs Go.Proofs.aj Go.Proofs.YtkcmghlhpbepcaaGreatDoor Go.Proofs.ah.aD
def stk(l:List Rw):List ByteArray:=l.foldl after []
def rD(x:Rw):Tk:=if x.f1=0 then⟨1,x.f2,⟨#[]⟩,x.f4,false⟩else if x.f1=1 then⟨0,⟨#[]⟩,x.f3,[],false⟩else⟨3,⟨#[]⟩,x.f3,[],false⟩
def zB(n:ByteArray):Tk:=⟨2,n,⟨#[]⟩,[],false⟩
def opA(op:List ByteArray)(x:Rw):List ByteArray:=if x.f1=0∧kJ x.f2=false then op++[x.f2]else op
def emit:List Rw→List ByteArray→List Tk
 | [],op=>op.reverse.map zB
 |x::r,op=>(op.drop x.f0.toNat).reverse.map zB++rD x::emit r (opA (op.take x.f0.toNat) x)
structure Jh (x:Rw) (op:List ByteArray) (out:List Rw):Prop where
 lo:0≤x.f0
 hi:x.f0≤op.length
 deep:x.f0<60
 len:out.length<4096
 kind:x.f1=0∨x.f1=1∨x.f1=2
 el:x.f1=0→x.f2.data.toList≠[]∧pW x.f2=false∧xM x.f2 (op.take x.f0.toNat)=true∧x.f3=⟨#[]⟩∧tK x.f4=x.f4
 no:x.f1≠0→x.f2=⟨#[]⟩∧x.f4=[]
 text:x.f1=1→x.f3.data.toList≠[]∧wG (op.take x.f0.toNat) out=false
def RowsFit:List Rw→List ByteArray→List Rw→Prop
 | [],_,_=>True
 |x::r,op,out=>Jh x op out∧RowsFit r (opA (op.take x.f0.toNat) x) (out++[x])
def ER(op:List ByteArray):Prop:=∀n∈op,n.data.toList≠[]∧pW n=false∧kJ n=false
theorem Cu{a b op:List ByteArray}(h:fP op a b op.length<0):oU a b op=op:=by
 unfold oU;rw[y9,if_pos h]
theorem ML{s:ByteArray}{op:List ByteArray}(h:xM s op=true):jh op s=op:=by
 unfold xM at h;simp only[Bool.and_eq_true,Bool.not_eq_true',Bool.and_eq_false_iff,decide_eq_true_eq,decide_eq_false_iff_not]at h;unfold jh;rw[Cu h.2]
 split
 ·rename_i hp
  rcases h.1 with h1|h1
  ·rw[h1]at hp;cases hp
  ·exact Cu (by omega)
 ·rfl
theorem end_top{op:List ByteArray}{out:List Rw}{n:ByteArray}(h:n.data.toList≠[]∧pW n=false∧kJ n=false):jg (op++[n]) out false n=(op,out,false):=by
 unfold jg;rw[if_neg h.1,if_neg (by rw[h.2.1];decide),if_neg (by rw[h.2.2];decide)]
 have e:fP (op++[n]) [n] (DU n) (op++[n]).length=(op.length:Int):=by
  rw[List.length_append,List.length_cons,List.length_nil,Nat.zero_add,fP];have e1:(op++[n]).getD op.length ⟨#[]⟩=n:=by simp
  rw[e1,if_pos (by simp[Lib.containsS,Lib.idxOfS,Lib.idxFromS])]
 rw[e,if_pos (by omega),Int.toNat_natCast,List.take_append_of_le_length (Nat.le_refl _),List.take_length]
theorem ES(rest:List Tk)(out:List Rw)(op:List ByteArray):∀(m:List ByteArray),ER m→sH (m.map zB++rest) (op++m.reverse) out=sH rest op out
 | [],_=>by simp
 |n::m,h=>by
  have hs:ku (op++(n::m).reverse) out (zB n)=(op++m.reverse,out,false):=by
   unfold ku zB;rw[if_neg (by simp),if_neg (by simp),if_neg (by simp),if_pos (by simp),List.reverse_cons,←List.append_assoc];exact end_top (h n (by simp))
  rw[List.map_cons,List.cons_append,sH,hs,if_neg (by simp)];exact ES rest out op m (fun k hk=>h k (by simp[hk]))
theorem Gf(rest:List Tk)(out:List Rw)(ns op:List ByteArray)(h:ER ns):sH (ns.reverse.map zB++rest) (op++ns) out=sH rest op out:=by
 have:=ES rest out op ns.reverse (fun n hn=>h n (List.mem_reverse.1 hn))
 rwa [List.reverse_reverse]at this
theorem Ji{op:List ByteArray}{out:List Rw}(x:Rw)(h1:out.length<4096)(h2:op.length<60):oQ op out false x=(out++[⟨op.length,x.f1,x.f2,x.f3,x.f4⟩],false):=by
 unfold oQ;rw[if_neg (by omega)]
theorem q9{x:Rw}{op:List ByteArray}{out:List Rw}(h:Jh x op out):ku (op.take x.f0.toNat) out (rD x)=(opA (op.take x.f0.toNat) x,out++[x],false):=by
 have hl:(op.take x.f0.toNat).length=x.f0.toNat:=by rw[List.length_take];have:=h.hi;have:=h.lo;omega
 have hlo:=h.lo;have hd:=h.deep;have hx:((op.take x.f0.toNat).length:Int)=x.f0:=by rw[hl];omega
 have h60:(op.take x.f0.toNat).length<60:=by omega
 have he:=h.el;have hno:=h.no;have htx:=h.text;have hlen:=h.len;generalize op.take x.f0.toNat=op' at *;obtain⟨d,k,nm,tx,at_⟩:=x;simp only at *
 rcases h.kind with rfl|rfl|rfl
 ·obtain⟨a1,a2,a3,rfl,a5⟩:=he rfl
  have et:ku op' out (rD ⟨d,0,nm,⟨#[]⟩,at_⟩)=oq op' out false nm at_:=by simp[ku,rD]
  rw[et];unfold oq;rw[if_neg a1,if_neg (by rw[a2];decide),ML a3,Ji _ hlen h60];simp only[a5,hx,opA];cases hv:kJ nm<;>simp
 ·obtain⟨rfl,rfl⟩:=hno (by decide)
  obtain⟨a1,a2⟩:=htx rfl;have et:ku op' out (rD ⟨d,1,⟨#[]⟩,tx,[]⟩)=(op',jv op' out false tx):=by simp[ku,rD]
  rw[et];unfold jv;rw[if_neg a1,a2,if_neg (by decide),Ji _ hlen h60];simp[hx,opA]
 ·obtain⟨rfl,rfl⟩:=hno (by decide)
  have et:ku op' out (rD ⟨d,2,⟨#[]⟩,tx,[]⟩)=(op',oQ op' out false ⟨0,2,⟨#[]⟩,tx,[]⟩):=by simp[ku,rD]
  rw[et,Ji _ hlen h60];simp[hx,opA]
theorem QD{x:Rw}{op:List ByteArray}{out:List Rw}(h:Jh x op out)(ho:ER op):ER (opA (op.take x.f0.toNat) x):=by
 unfold opA
 split
 ·rename_i hc
  obtain⟨a1,a2,_⟩:=h.el hc.1;intro n hn
  rcases List.mem_append.1 hn with hn|hn
  ·exact ho n (List.mem_of_mem_take hn)
  ·obtain rfl:=List.mem_singleton.1 hn
   exact⟨a1,a2,hc.2⟩
 ·exact fun n hn=>ho n (List.mem_of_mem_take hn)
theorem Gg:∀(r:List Rw) (op:List ByteArray) (out:List Rw),ER op→RowsFit r op out→sH (emit r op) op out=some (out++r)
 | [],op,out,ho,_=>by
   have:=Gf [] out op [] ho;rw[List.nil_append,List.append_nil]at this;rw[emit,this,sH,List.append_nil]
 |x::r,op,out,ho,h=>by
  obtain⟨h1,h2⟩:=h;have e:=Gf (rD x::emit r (opA (op.take x.f0.toNat) x)) out (op.drop x.f0.toNat) (op.take x.f0.toNat) (fun n hn=>ho n (List.mem_of_mem_drop hn));rw[List.take_append_drop]at e;rw[emit,e,sH,q9 h1,if_neg (by simp)];rw[Gg r _ _ (QD h1 ho) h2,List.append_assoc,List.singleton_append]
end Go.Proofs.aj.W7
namespace Go.Proofs.YtkcmghlhpbepcaaGreatDoor
open Go.Proofs
theorem I9{p:UInt8→Bool}{c:UInt8}{r:Txt}(h:p c=true):∀ {a:Txt},(∀x∈a,p x=false)→(a++c::r).findIdx p=a.length
 | [],_=>by simp[List.findIdx_cons,h]
 |x::a,ha=>by
  rw[List.cons_append,List.findIdx_cons,ha x (by simp),I9 h (fun y hy=>ha y (by simp[hy]))];simp
theorem Po{p:UInt8→Bool}:∀ {a:Txt},(∀x∈a,p x=false)→a.findIdx p=a.length
 | [],_=>rfl
 |x::a,ha=>by
  rw[List.findIdx_cons,ha x (by simp),Po (fun y hy=>ha y (by simp[hy]))];simp
theorem run_hit{t a r q:Txt}{ts:List Tok}(ha:(60:UInt8)∉a)(ho:jJ r=some (ts,q)):oK t (a++60::r)=fC (t++a)++ts++oK [] q:=by
 have hf:jv (a++60::r)=a.length:=I9 (by decide) (fun x hx=>beq_eq_false_iff_ne.2 (fun e=>ha (by rw[←e];exact hx)));rw[AJ,hf];simp[ho]
theorem run_none{t a:Txt}(ha:(60:UInt8)∉a):oK t a=fC (t++a):=by
 have hf:jv a=a.length:=Po (fun x hx=>beq_eq_false_iff_ne.2 (fun e=>ha (by rw[←e];exact hx)));rw[AJ,hf];simp
theorem IZ(t:Txt):oK t []=fC t:=by simpa using run_none (t:=t) (a:=[]) (by simp)
theorem K5{nm r:Txt}{c:UInt8}(hn:∀x∈nm,eB x=false)(hc:eB c=true):gB (nm++c::r)=(kV [] (c::r)).map fun q=>(⟨0,lY nm,q.1,[],q.2.1⟩,q.2.2):=by
 unfold gB;rw[I9 hc hn];simp
theorem attrs_gt(acc:List (Txt×Txt))(r:Txt):kV acc (62::r)=some (acc,false,r):=by
 have hg:tT (62::r)=0:=by simp[tT,List.findIdx_cons,dO]
 rw[xZ,uV,hg];simp
def quietB:Txt→Bool
 | []=>true
 | [c]=>c !=60
 |c::d::r=>!(c==60&&d==47)&&quietB (d::r)
theorem MC{name r:Txt}{c:UInt8}(hc:eB c=true):gV name (60::47::(name++c::r))=true:=by
 simp[gV,hc]
def hasL(l:List UInt8)(c:Nat):Bool:=l.any fun x=>x.toNat==c
end Go.Proofs.YtkcmghlhpbepcaaGreatDoor
namespace Go.Proofs.YtkcmghlhpbepcaaGreatDoor
open Go.RowKit Go.Proofs
theorem MZ{c:UInt8}{a r:List UInt8}(h:c∉a):gW c (a++c::r)=(a,r,true):=by
 induction a with
 |nil=>simp[gW]
 |cons x a ih=>
  have hx:x≠c:=fun e=>h (by simp[e])
  rw[List.cons_append,gW,if_neg hx,ih (fun e=>h (by simp[e]))]
theorem tF{name t r:List UInt8}(h:(59:UInt8)∉name)(hm:jG name=(t,true)):iQ (38::(name++59::r))=t++iQ r:=by
 have e:=MZ (r:=r) h;rw[JC (by rw[e]) (by rw[e,hm]),e,hm]
theorem m_amp:jG [97,109,112]=([38],true):=by decide +kernel
theorem m_lt:jG [108,116]=([60],true):=by decide +kernel
theorem m_gt:jG [103,116]=([62],true):=by decide +kernel
theorem m_quot:jG [113,117,111,116]=([34],true):=by decide +kernel
theorem m_nbsp:jG [110,98,115,112]=([194,160],true):=by decide +kernel
theorem dec_amp(r:List UInt8):iQ ([38,97,109,112,59]++r)=38::iQ r:=tF (by decide) m_amp
theorem dec_lt(r:List UInt8):iQ ([38,108,116,59]++r)=60::iQ r:=tF (by decide) m_lt
theorem dec_gt(r:List UInt8):iQ ([38,103,116,59]++r)=62::iQ r:=tF (by decide) m_gt
theorem dec_quot(r:List UInt8):iQ ([38,113,117,111,116,59]++r)=34::iQ r:=tF (by decide) m_quot
theorem JD(r:List UInt8):iQ ([38,110,98,115,112,59]++r)=194::160::iQ r:=tF (by decide) m_nbsp
theorem CV(q:Bool)(c:UInt8)(r:List UInt8):iQ (om q c++r)=c::iQ r:=by
 unfold om
 split
 ·rename_i h;rw[h,dec_amp]
 split
 ·rename_i h;rw[h,dec_lt]
 split
 ·rename_i h;rw[h,dec_gt]
 split
 ·rename_i h;rw[h.1,dec_quot]
 ·rename_i h _ _ _
  rw[List.singleton_append,xS,if_neg h]
theorem Gt(q:Bool):∀l,iQ (wrL q l)=l
 | []=>by simp[wrL,zL]
 | [c]=>by
   rw[wrL];have:=CV q c []
   rwa [List.append_nil,zL]at this
 |c::d::l=>by
  rw[wrL]
  split
  ·rename_i h
   rw[JD,Gt q l,h.1,h.2]
  ·rw[CV,Gt q (d::l)]
theorem BX(a b:List UInt8)(c:Nat):hasL (a++b) c=(hasL a c||hasL b c):=by simp[hasL]
theorem Gu(q:Bool)(c:UInt8)(n:Nat)(hn:n=60∨n=62∨(n=34∧q=true)):hasL (om q c) n=false:=by
 unfold om
 split
 ·rcases hn with rfl|rfl|⟨rfl,_⟩<;>decide
 split
 ·rcases hn with rfl|rfl|⟨rfl,_⟩<;>decide
 split
 ·rcases hn with rfl|rfl|⟨rfl,_⟩<;>decide
 split
 ·rcases hn with rfl|rfl|⟨rfl,_⟩<;>decide
 ·rename_i h1 h2 h3 h4
  simp only[hasL,List.any_cons,List.any_nil,Bool.or_false,beq_eq_false_iff_ne,ne_eq];intro e
  rcases hn with rfl|rfl|⟨rfl,hq⟩
  ·exact h2 (zK (n:=60) e (by decide))
  ·exact h3 (zK (n:=62) e (by decide))
  ·exact h4 ⟨zK (n:=34) e (by decide),hq⟩
theorem zM(q:Bool)(n:Nat)(hn:n=60∨n=62∨(n=34∧q=true)):∀l,hasL (wrL q l) n=false
 | []=>rfl
 | [c]=>by rw[wrL];exact Gu q c n hn
 |c::d::l=>by
  rw[wrL]
  split
  ·rw[BX,zM q n hn l]
   rcases hn with rfl|rfl|⟨rfl,_⟩<;>decide
  ·rw[BX,Gu q c n hn,zM q n hn (d::l)]
   rfl
theorem M0(q:Bool)(c:UInt8):(om q c).length≤6:=by
 unfold om
 repeat' split
 all_goals simp
theorem Gv(q:Bool):∀l,(wrL q l).length≤6 * l.length
 | []=>by simp[wrL]
 | [c]=>by rw[wrL];have:=M0 q c;simp;omega
 |c::d::l=>by
  rw[wrL]
  split
  ·have:=Gv q l
   simp;omega
  ·have:=Gv q (d::l)
   have:=M0 q c;simp at *;omega
theorem hasL_mem{l:List UInt8}{c:UInt8}(h:hasL l c.toNat=false):c∉l:=by
 intro hm;unfold hasL at h;rw[List.any_eq_false]at h;exact h c hm (by simp)
theorem JX(q:Bool)(c:UInt8):1≤(om q c).length:=by
 unfold om
 repeat' split
 all_goals simp
theorem wr_ge(q:Bool):∀l,l.length≤(wrL q l).length
 | []=>by simp
 | [c]=>by rw[wrL];exact JX q c
 |c::d::l=>by
  rw[wrL]
  split
  ·have:=wr_ge q l
   simp;omega
  ·have:=wr_ge q (d::l)
   have:=JX q c;simp at *;omega
end Go.Proofs.YtkcmghlhpbepcaaGreatDoor
namespace Go.Proofs.YtkcmghlhpbepcaaGreatDoor
open Go.Proofs
def jZ(l:List (Txt×Txt)):Txt:=l.flatMap fun a=>32::(a.1++61::34::(wrL true a.2++[34]))
def oO(b:Bool):Txt:=if b then [32,47]else []
def pR(o:Txt)(t:Tok):Txt:=o++t.name++jZ t.attrs++oO t.self++[62]
def rC(raw:Bool)(t:Tok):Txt:=
 if t.kind=0 then(if raw then t.data else wrL false t.data)
 else if t.kind=1 then pR [60] t
 else if t.kind=2 then pR [60,47] ⟨0,t.name,[],[],false⟩
 else if t.kind=3 then [60,33,45,45]++t.data++[45,45,62]
 else if t.kind=4 then [60,33,100,111,99,116,121,112,101,32]++t.data++[62]
 else []
def uI(t:Tok):Bool:=t.kind==1&&mD t.name
def eH(raw:Bool):List Tok→Txt
 | []=>[]
 |t::r=>rC raw t++eH (uI t) r
def Ja(l:List Tok):Txt:=eH false l
structure xJ (s:Txt):Prop where
 ne:s≠[]
 low:lY s=s
 first:∀c r,s=c::r→dO c=false∧c≠47∧c≠62
 rest:∀x∈s.tail,eB x=false∧x≠61
structure yx (s:Txt):Prop where
 low:lY s=s
 letter:jr s=true
 all:∀x∈s,eB x=false
theorem Pt{p:UInt8→Bool}{c:UInt8}{r:Txt}(h:p c=true):(c::r).findIdx p=0:=by simp[List.findIdx_cons,h]
theorem Pv{c:UInt8}{r:Txt}(h:dO c=false):lM (c::r)=c::r:=by
 unfold lM;rw[Pt (by simp[h])];rfl
theorem K6{l:Txt}{n:Nat}{c:UInt8}(e:c.toNat=n)(h:hasL l n=false):c∉l:=by
 subst e;exact hasL_mem h
theorem Qx{nm v r:Txt}(hn:xJ nm):qQ (nm++61::34::(wrL true v++34::r))=((nm,v),r,true):=by
 obtain⟨c,t,rfl⟩:=List.exists_cons_of_ne_nil hn.ne
 have hk:zJ (c::t++61::34::(wrL true v++34::r))=(c::t).length:=by
  unfold zJ
  rw[List.cons_append,List.tail_cons,I9 (by decide) (fun x hx=>by
   have:=hn.rest x hx;simp[this.1,this.2])]
  simp;omega
 have e1:(c::t++61::34::(wrL true v++34::r)).take (c::t).length=c::t:=List.take_left;have e2:(c::t++61::34::(wrL true v++34::r)).drop (c::t).length=61::34::(wrL true v++34::r):=List.drop_left;have e3:gW 34 (wrL true v++34::r)=(wrL true v,r,true):=MZ (K6 (by decide) (zM true 34 (by simp) v));unfold qQ;rw[hk,e1,e2,hn.low];unfold JB;rw[Pv (by decide)];simp only[if_true];rw[Pv (by decide)];simp[valF,e3,Gt]
theorem ME(acc:List (Txt×Txt))(b:Bool)(r:Txt):kV acc (oO b++62::r)=some (acc,b,r):=by
 cases b with
 |false=>exact attrs_gt acc r
 |true=>
  have hg:tT (32::47::62::r)=2:=by simp[tT,List.findIdx_cons,dO]
  show kV acc (32::47::62::r)=_;rw[xZ,uV,hg];simp
theorem addA_new{acc:List (Txt×Txt)}{a:Txt×Txt}(h:∀b∈acc,b.1≠a.1):addA acc a=acc++[a]:=by
 unfold addA;rw[if_neg];rw[List.any_eq_true];rintro⟨b,hb,e⟩;exact h b hb (by simpa using e)
theorem EJ(b:Bool)(r:Txt):∀(l acc:List (Txt×Txt)),(∀a∈l,xJ a.1)→((acc++l).map Prod.fst).Nodup→kV acc (jZ l++(oO b++62::r))=some (acc++l,b,r)
 | [],acc,_,_=>by simpa [jZ]using ME acc b r
 |a::l,acc,h1,h2=>by
  have ha:=h1 a (by simp);obtain⟨nm,v⟩:=a;simp only at ha;have e0:jZ ((nm,v)::l)++(oO b++62::r)=32::(nm++61::34::(wrL true v++34::(jZ l++(oO b++62::r)))):=by simp[jZ]
  have hb:=Qx (v:=v) (r:=jZ l++(oO b++62::r)) ha;obtain⟨c,t,rfl⟩:=List.exists_cons_of_ne_nil ha.ne;obtain⟨f1,f2,f3⟩:=ha.first c t rfl
  have hg:tT (32::(c::t++61::34::(wrL true v++34::(jZ l++(oO b++62::r)))))=1:=by
   unfold tT;rw[List.findIdx_cons,show(!dO 32&&(32:UInt8) !=47)=false from by decide,List.cons_append,Pt (by simp[f1,f2])];simp
  have hne:∀b∈acc,b.1≠(c::t):=by
   intro x hx e;rw[List.map_append,List.nodup_append]at h2;exact h2.2.2 x.1 (List.mem_map_of_mem hx) (c::t) (by simp) e
  rw[e0,xZ,hg];rw[List.cons_append]at hb⊢;simp only[List.drop_succ_cons,List.drop_zero];rw[if_neg f3,hb];simp only[if_true];rw[addA_new hne,EJ b r l _ (fun a ha=>h1 a (by simp[ha])) (by simpa using h2)];simp
theorem Jb(l:List (Txt×Txt))(b:Bool)(r:Txt):∃c q,jZ l++(oO b++62::r)=c::q∧eB c=true:=by
 cases l with
 |nil=>
  cases b with
  |false=>exact⟨62,r,rfl,by decide⟩
  |true=>exact⟨32,47::62::r,rfl,by decide⟩
 |cons a l=>exact⟨32,_,rfl,by decide⟩
theorem Cq{nm r:Txt}{l:List (Txt×Txt)}{b:Bool}(hn:yx nm)(h1:∀a∈l,xJ a.1)(h2:(l.map Prod.fst).Nodup):
 gB (nm++(jZ l++(oO b++62::r)))=some (⟨0,nm,l,[],b⟩,r):=by
 obtain⟨c,q,e,hc⟩:=Jb l b r;have h3:=EJ b r l [] h1 (by simpa using h2);rw[e]at h3⊢;rw[K5 hn.all hc,h3,hn.low];rfl
theorem EK{s r:Txt}(h:jr s=true):jr (s++r)=true:=by
 cases s with
 |nil=>simp[jr]at h
 |cons c t=>exact h
theorem zy{nm r:Txt}{l:List (Txt×Txt)}{b:Bool}(hn:yx nm)(h1:∀a∈l,xJ a.1)(h2:(l.map Prod.fst).Nodup):
 jJ (nm++(jZ l++(oO b++62::r)))=some (if mD nm||kS nm then(⟨1,nm,l,[],b⟩::kP nm r,kF nm r)else([⟨1,nm,l,[],b⟩],r)):=by
 unfold jJ;rw[if_pos (EK hn.letter),wR,Cq hn h1 h2];simp
theorem open_end{nm r:Txt}(hn:yx nm):jJ (47::(nm++62::r))=some ([⟨2,nm,[],[],false⟩],r):=by
 have h:=Cq (r:=r) (l:=[]) (b:=false) hn (by simp) (by simp);simp only[jZ,oO,List.flatMap_nil,List.nil_append,Bool.false_eq_true,if_false]at h;unfold jJ;rw[if_neg (by simp[jr,uU]),if_pos (by simp[Lib.hasPrefix,EK hn.letter]),List.tail_cons,wR,h];simp
theorem Qu{nm r:Txt}:jg nm (60::47::(nm++62::r))=0:=by
 rw[jg,MC (by decide)];rfl
theorem EI(x:Txt):(60:UInt8)∉wrL false x:=K6 (by decide) (zM false 60 (by simp) x)
theorem wr_nil{q:Bool}{x:Txt}(h:x≠[]):wrL q x≠[]:=by
 intro e;have h1:=wr_ge q x;rw[e]at h1;exact h (List.eq_nil_of_length_eq_zero (by simpa using h1))
def plainB(s but:Txt):Bool:=s.all (fun c=>!(dO c||(decide (65≤c.toNat)&&decide (c.toNat≤90))||c==0||but.contains c))&& !s.isEmpty
def MF(s:Txt):Bool:=plainB s [47,62]&&jr s
def K7(s:Txt):Bool:=plainB s [47,62,34,39,60,61]
def okB(c:UInt8):Bool:=!((decide (65≤c.toNat)&&decide (c.toNat≤90))||c==32||c==9||c==10||c==12||c==13||c==62)
def lowerOK(s:Txt):Bool:=s.all okB
structure NameOK (s:Txt):Prop where
 ne:s≠[]
 ok:lowerOK s=true
structure Pp (l:List (Txt×Txt)):Prop where
 each:∀a∈l,NameOK a.1
 once:(l.map Prod.fst).Nodup
structure ShapeOK (t:Tok):Prop where
 ge:0≤t.kind
 le:t.kind≤4
 tag:t.kind=1∨t.kind=2→NameOK t.name∧t.data=[]
 other:t.kind≠1→t.kind≠2→t.name=[]
 start:t.kind≠1→t.attrs=[]∧t.self=false
 text:t.kind=0→t.data≠[]
 attrs:Pp t.attrs
theorem dr_yes{p:UInt8→Bool}:∀ {s r:Txt} {c:UInt8},s.drop (s.findIdx p)=c::r→p c=true
 | [],_,_,h=>by simp at h
 |x::s,r,c,h=>by
  rw[List.findIdx_cons]at h;cases hx:p x with
  |true=>
   rw[hx]at h;simp at h;rw[←h.1];exact hx
  |false=>
   rw[hx]at h;simp at h;exact dr_yes h
theorem attrs0:Pp []:=⟨by simp,by simp⟩
theorem Pq{k:Int}{d:Txt}(hk:k=3∨k=4):ShapeOK ⟨k,[],[],d,false⟩:=by
 rcases hk with rfl|rfl<;>exact⟨by simp,by simp,by simp,by simp,by simp,by simp,attrs0⟩
theorem Pm{c:UInt8}{r:Txt}:∀ {a:Txt},c∉a→gW c (a++c::r)=(a,r,true)
 | [],_=>by simp[gW]
 |x::a,h=>by
  simp only[List.mem_cons,not_or]at h;rw[List.cons_append,gW,if_neg (fun e=>h.1 e.symm),Pm h.2]
theorem I6{X sub:Txt}{i:Nat}(h:Lib.occAt X sub i=true)(k:Nat)(hk:k<sub.length):X[i+k]?=sub[k]?:=by
 obtain⟨t,ht⟩:=List.isPrefixOf_iff_prefix.1 h;rw[←List.getElem?_drop,←ht,List.getElem?_append_left hk]
end Go.Proofs.YtkcmghlhpbepcaaGreatDoor
