/- Lemmas and walks, part 33. -/
import Derived.Test.YtkcmghlhpbepcaaGreatDoorNB32
set_option linter.unusedVariables false
set_option linter.unusedSimpArgs false
set_option maxHeartbeats 8000000
set_option maxRecDepth 100000
namespace Go.Proofs.aj.W7
open Go.RowKit Go.Proofs.ah.aD Go.Proofs.ah.bH Go.Proofs.ah.bV
attribute [local go_sem] dA dB dP dQ bY bZ dD dF
attribute [local go_sem high] eqA36
def gN.l0:Nat→List (S36)→List (S36)→Int→Int→Option (Bool)
 |0,_,_,_,_=>none
 |k+1,x0,x1,x10,x11=>if x11<x10 then(if 0≤x11 then(if x11<(x0.length:Int)then(if x11<(x1.length:Int)then(if(!((((bg x0 x11).f0).toList)==(((bg x1 x11).f0).toList))||(!((((bg x0 x11).f1).toList)==(((bg x1 x11).f1).toList))))=true then(some false)else(gN.l0 k x0 x1 x10 (wrap64 (x11+1))))else(none))else(none))else(none))else(some ((x0.length:Int)==(x1.length:Int)))
def gN.f(k:Nat)(l0 l1:List (S36)):Option (Bool):=gN.l0 k l0 l1 (mn (l0.length:Int) (l1.length:Int)) 0
theorem gN.calls(k:Nat)(A0:Option Addr)(c0:Nat)(l0:List (S36))(A1:Option Addr)(c1:Nat)(l1:List (S36))(r:Bool)(w:World)(hr0:Kd.C k36 w A0 l0.length l0)(hc0:l0.length≤c0)(hr1:Kd.C k36 w A1 l1.length l1)(hc1:l1.length≤c1)(h:gN.f k l0 l1=some r):
 Calls Tryz.prog 88 #[.slice A0 l0.length c0,.slice A1 l1.length c1] w fun e w'=>e=.returned (.bool r)∧Below w.heap.size w w':=by
 have hu36:=Tryz.underlying36;have HR0:=ak.mk hr0;have HC0:=ak.mk hc0;clear hr0 hc0;have HR1:=ak.mk hr1;have HC1:=ak.mk hc1;clear hr1 hc1;have HB:=ak.mk (Below.refl w.heap.size w);have H:(gN.l0 k l0 l1 (mn (l0.length:Int) (l1.length:Int)) 0)=some r:=h;clear h;obtain⟨ji3,hji3⟩:∃j_:Int,(mn (l0.length:Int) (l1.length:Int))=j_:=⟨_,rfl⟩
 replace H:(gN.l0 k l0 l1 ji3 0)=some r:=by first|(rw[hji3]at H;exact H)|(simp only[hji3]at H⊢;exact H)
 (try(have hji3l:0≤ji3:=by(rw[←hji3];unfold mn;(repeat' split)<;>omega)))
 (try(have hji3m:0≤ji3:=by omega))
 have hji3_:(if(l1.length:Int)<(l0.length:Int)then(l1.length:Int)else(l0.length:Int))=ji3:=hji3;have hji3_n:(if l1.length<l0.length then(l1.length:Int)else(l0.length:Int))=ji3:=by(first|(simpa only[Int.ofNat_lt]using hji3_)|(simpa using hji3_))
 have H':=ak.mk H;clear H;go_enter Tryz.func88,Tryz.ntmps88;go_wp2
 repeat(go_quiet (fail);try go_wp2)
 go_loopg [11] k (fun kq v11 w'=>∃(jk:Int),v11=.int .i64 jk∧ak (gN.l0 kq l0 l1 ji3 jk=some r)∧ak (kq≤k)∧ak (Below w.heap.size w w'))
 case atStart=>exact⟨(0),q'c,H',⟨Nat.le_refl _⟩,⟨bz⟩⟩
 case round=>
  clear H'
  try clear c1
  try clear p2
  obtain⟨jk,rfl,HA,HK1,HB⟩:=hrel;cases gk with
  |zero=>exact absurd HA.out (by simp[gN.l0])
  |succ k1=>
   have H:=HA.out;clear HA;simp only[gN.l0]at H
   by_cases c4:jk<ji3
   ·rw[if_pos c4]at H
    have mP:decide (jk<ji3)=true:=decide_eq_true c4;clear c4
    by_cases c5:0≤jk
    ·rw[if_pos c5]at H
     have uf:decide (0≤jk)=true:=decide_eq_true c5;clear c5
     by_cases c6:jk<(l0.length:Int)
     ·rw[if_pos c6]at H
      have zm:decide (jk<(l0.length:Int))=true:=decide_eq_true c6;clear c6
      by_cases c7:jk<(l1.length:Int)
      ·rw[if_pos c7]at H
       have c7b0:decide (jk<(l1.length:Int))=true:=decide_eq_true c7;clear c7
       by_cases c8:(!((((bg l0 jk).f0).toList)==(((bg l1 jk).f0).toList))||(!((((bg l0 jk).f1).toList)==(((bg l1 jk).f1).toList))))=true
       ·rw[if_pos c8]at H
        have xB:(!((((bg l0 jk).f0).toList)==(((bg l1 jk).f0).toList))||(!((((bg l0 jk).f1).toList)==(((bg l1 jk).f1).toList))))=true:=c8;clear c8;obtain rfl:=Option.some.inj H;have p101:0≤(jk:Int):=q'b;have q101:jk<(l0.length:Int):=q'b;obtain⟨ad101,e101,uY,uZ⟩:=lI HR0.out jk p101 q101;cases e101;replace uY:=(HB.out.cell (World.block_lt_of_cell? w _ uY)).trans uY;replace uZ:=(HB.out.cell (World.block_lt_of_cell? w _ uZ)).trans uZ;replace p101:=eq_true p101;replace q101:=eq_true q101;have p102:0≤(jk:Int):=q'b;have q102:jk<(l1.length:Int):=q'b;obtain⟨ad102,e102,vv,vw⟩:=lI HR1.out jk p102 q102;cases e102;replace vv:=(HB.out.cell (World.block_lt_of_cell? w _ vv)).trans vv;replace vw:=(HB.out.cell (World.block_lt_of_cell? w _ vw)).trans vw;replace p102:=eq_true p102;replace q102:=eq_true q102;go_wp2
        repeat(go_quiet (fail);try go_wp2)
        go_ret;exact⟨by first|rfl|(simp[aJ,aM]<;>rfl)|(simp only[←hji3];first|rfl|(simp[aJ,aM]<;>rfl))|(simp[*,aJ,aM]<;>rfl),bz⟩
       ·rw[if_neg c8]at H
        have xB:(!((((bg l0 jk).f0).toList)==(((bg l1 jk).f0).toList))||(!((((bg l0 jk).f1).toList)==(((bg l1 jk).f1).toList))))=false:=by simpa using c8
        clear c8;have H':=ak.mk H;clear H;have p101:0≤(jk:Int):=q'b;have q101:jk<(l0.length:Int):=q'b;obtain⟨ad101,e101,uY,uZ⟩:=lI HR0.out jk p101 q101;cases e101;replace uY:=(HB.out.cell (World.block_lt_of_cell? w _ uY)).trans uY;replace uZ:=(HB.out.cell (World.block_lt_of_cell? w _ uZ)).trans uZ;replace p101:=eq_true p101;replace q101:=eq_true q101;have p102:0≤(jk:Int):=q'b;have q102:jk<(l1.length:Int):=q'b;obtain⟨ad102,e102,vv,vw⟩:=lI HR1.out jk p102 q102;cases e102;replace vv:=(HB.out.cell (World.block_lt_of_cell? w _ vv)).trans vv;replace vw:=(HB.out.cell (World.block_lt_of_cell? w _ vw)).trans vw;replace p102:=eq_true p102;replace q102:=eq_true q102;go_wp2
        repeat(go_quiet (fail);try go_wp2)
        go_roundg k1
        case measure=>have:=HK1.out;omega
        case rel=>exact⟨(wrap64 (jk+1)),q'c,H',⟨by have:=HK1.out;omega⟩,⟨bz⟩⟩
      ·rw[if_neg c7]at H
       exact absurd H (by simp)
     ·rw[if_neg c6]at H
      exact absurd H (by simp)
    ·rw[if_neg c5]at H
     exact absurd H (by simp)
   ·rw[if_neg c4]at H
    have mP:decide (jk<ji3)=false:=decide_eq_false c4;clear c4;obtain rfl:=Option.some.inj H;go_wp2
    repeat(go_quiet (fail);try go_wp2)
    go_ret;exact⟨by first|rfl|(simp[aJ,aM]<;>rfl)|(simp only[←hji3];first|rfl|(simp[aJ,aM]<;>rfl))|(simp[*,aJ,aM]<;>rfl),bz⟩
end Go.Proofs.aj.W7
namespace Go.Proofs.aj.W7
open Go.RowKit Go.Proofs.ah.aD Go.Proofs.ah.bH Go.Proofs.ah.bV
attribute [local go_sem] dA dB dP dQ bY bZ dD dF
def qb.f(k:Nat)(dN dz:Int)(bU dL:ByteArray)(bq:List (S36))(sM sN:Int)(sO sP:ByteArray)(ug:List (S36)):Option (Bool):=if dN=sM then(if dz=sN then(if bU.toList=sO.toList then(if dL.toList=sP.toList then((gN.f k bq ug).bind fun t105=>(some t105))else(some false))else(some false))else(some false))else(some false)
theorem qb.calls(k:Nat)(dN dz:Int)(bU dL:ByteArray)(iy:Option Addr)(eP:Nat)(bq:List (S36))(sM sN:Int)(sO sP:ByteArray)(Bv:Option Addr)(Bw:Nat)(ug:List (S36))(r:Bool)(w:World)(xD:Kd.C k36 w iy bq.length bq)(xE:bq.length≤eP)(hr1_4:Kd.C k36 w Bv ug.length ug)(hc1_4:ug.length≤Bw)(h:qb.f k dN dz bU dL bq sM sN sO sP ug=some r):
 Calls Tryz.prog 87 #[.agg #[.int .i64 dN,.int .i64 dz,.string bU,.string dL,.slice iy bq.length eP],.agg #[.int .i64 sM,.int .i64 sN,.string sO,.string sP,.slice Bv ug.length Bw]] w fun e w'=>e=.returned (.bool r)∧Below w.heap.size w w':=by
 have hu34:=Tryz.underlying34;have xF:=ak.mk xD;have Kt:=ak.mk xE;clear xD xE;have HR1_4:=ak.mk hr1_4;have HC1_4:=ak.mk hc1_4;clear hr1_4 hc1_4;have HB:=ak.mk (Below.refl w.heap.size w);have H:(if dN=sM then(if dz=sN then(if bU.toList=sO.toList then(if dL.toList=sP.toList then((gN.f k bq ug).bind fun t105=>(some t105))else(some false))else(some false))else(some false))else(some false))=some r:=h;clear h
 by_cases c3:dN=sM
 ·rw[if_pos c3]at H
  have nC:(dN==sM)=true:=beq_iff_eq.mpr c3;have zi:(dN !=sM)=false:=bne_eq_false_iff_eq.mpr c3;clear c3
  by_cases c4:dz=sN
  ·rw[if_pos c4]at H
   have mP:(dz==sN)=true:=beq_iff_eq.mpr c4;have Ab:(dz !=sN)=false:=bne_eq_false_iff_eq.mpr c4;clear c4
   by_cases c5:bU.toList=sO.toList
   ·rw[if_pos c5]at H
    have uf:(bU.toList==sO.toList)=true:=beq_iff_eq.mpr c5;have c5b1:(bU.toList !=sO.toList)=false:=bne_eq_false_iff_eq.mpr c5;clear c5
    by_cases c6:dL.toList=sP.toList
    ·rw[if_pos c6]at H
     have zm:(dL.toList==sP.toList)=true:=beq_iff_eq.mpr c6;have c6b1:(dL.toList !=sP.toList)=false:=bne_eq_false_iff_eq.mpr c6;clear c6;replace H:=Option.bind_eq_some_iff.mp H;obtain⟨t105,A70,H⟩:=H;replace H:(some t105)=some r:=H;have A7:=ak.mk A70;clear A70;obtain rfl:=Option.some.inj H;go_enter Tryz.func87,Tryz.ntmps87
     go_wp2_with(first|((with_reducible refine cB (N:=2) rfl ?_);refine eG ?hg (N:=2) ?hd (cs:=#[.int .i64 dN,.int .i64 dz,.string bU,.string dL,.slice iy bq.length eP]) (t:=34) ?hr ?_;(case hd=>rfl);(case hg=>rfl);(case hr=>first|(go_simp;done)|(go_simp;rfl));intro fA hg w8 fK hb;have n0_:=ak.mk (aG bz hb);have n1_:=ak.mk (fK);have n2_:=ak.mk ((by rw[hg];exact(aR bz):w.heap.size≤fA));have n3_:=ak.mk ((by rw[hg];exact(aR bz):w.heap.size≤fA));clear HB;have HB:=n0_;have eu:=n1_;have GW103:=n2_;have lC:=n3_;clear n0_ n1_ n2_ n3_;clear hb fK hg)|((with_reducible refine cB (N:=3) rfl ?_);refine eG ?hg (N:=3) ?hd (cs:=#[.int .i64 sM,.int .i64 sN,.string sO,.string sP,.slice Bv ug.length Bw]) (t:=34) ?hr ?_;(case hd=>rfl);(case hg=>rfl);(case hr=>first|(go_simp;done)|(go_simp;rfl));intro gL hg w9 fK hb;have n0_:=ak.mk (dJ (g:=fA) (o:=.cells #[.int .i64 dN,.int .i64 dz,.string bU,.string dL,.slice iy bq.length eP] 34 (0,0)) (kz eu.out) hb);have n1_:=ak.mk (aG (bs lC.out) hb);have n2_:=ak.mk (fK);have n3_:=ak.mk ((by rw[hg];exact(aR (bs lC.out)):w.heap.size≤gL));have n4_:=ak.mk ((by rw[hg];exact(aR (bs lC.out)):w.heap.size≤gL));have n5_:=ak.mk ((by rw[hg];exact Nat.ne_of_lt (gU (g:=fA) (o:=.cells #[.int .i64 dN,.int .i64 dz,.string bU,.string dL,.slice iy bq.length eP] 34 (0,0)) (kz eu.out)):fA≠gL));have n6_:=ak.mk ((by rw[hg];exact Nat.ne_of_gt (gU (g:=fA) (o:=.cells #[.int .i64 dN,.int .i64 dz,.string bU,.string dL,.slice iy bq.length eP] 34 (0,0)) (kz eu.out)):gL≠fA));clear eu;clear HB;have eu:=n0_;have HB:=n1_;have fU:=n2_;have GW104:=n3_;have yT:=n4_;have mQ:=n5_;have mR:=n6_;clear n0_ n1_ n2_ n3_ n4_ n5_ n6_;clear hb fK hg;have hnb10:=mQ.out;have hnc10:=mR.out;have Ni:w9.cell? ⟨fA,0,none⟩=some (.int .i64 dN):=(aC eu.out 0).trans rfl;have Nj:w9.cell? ⟨fA,1,none⟩=some (.int .i64 dz):=(aC eu.out 1).trans rfl;have Nk:w9.cell? ⟨fA,2,none⟩=some (.string bU):=(aC eu.out 2).trans rfl;have Nl:w9.cell? ⟨fA,3,none⟩=some (.string dL):=(aC eu.out 3).trans rfl;have Nn:w9.cell? ⟨fA,4,none⟩=some (.slice iy bq.length eP):=(aC eu.out 4).trans rfl;have Np:=ay eu.out 0;have Nq:=ay eu.out 1;have Nr:=ay eu.out 2;have Ns:=ay eu.out 3;have Nt:=ay eu.out 4;have Nu:w9.cell? ⟨gL,0,none⟩=some (.int .i64 sM):=(aC fU.out 0).trans rfl;have Nv:w9.cell? ⟨gL,1,none⟩=some (.int .i64 sN):=(aC fU.out 1).trans rfl;have Nw:w9.cell? ⟨gL,2,none⟩=some (.string sO):=(aC fU.out 2).trans rfl;have Ny:w9.cell? ⟨gL,3,none⟩=some (.string sP):=(aC fU.out 3).trans rfl;have Nz:w9.cell? ⟨gL,4,none⟩=some (.slice Bv ug.length Bw):=(aC fU.out 4).trans rfl;have NA:=ay fU.out 0;have NC:=ay fU.out 1;have ND:=ay fU.out 2;have NG:=ay fU.out 3;have NH:=ay fU.out 4)|(go_at_call 88;(with_reducible refine(gN.calls k _ _ bq _ _ ug t105 _ ?cO ?dG ?nG ?nH A7.out).mono ?_);(case cO=>exact cz (Kd.eD xF.out HB.out));(case dG=>exact Kt.out);(case nG=>exact cz (Kd.eD HR1_4.out HB.out));(case nH=>exact HC1_4.out);rintro e w13 ⟨rfl,hb⟩;have n0_:=ak.mk (dJ (g:=fA) (o:=.cells #[.int .i64 dN,.int .i64 dz,.string bU,.string dL,.slice iy bq.length eP] 34 (0,0)) (kz eu.out) hb);have n1_:=ak.mk (dJ (g:=gL) (o:=.cells #[.int .i64 sM,.int .i64 sN,.string sO,.string sP,.slice Bv ug.length Bw] 34 (0,0)) (kz fU.out) hb);have n2_:=ak.mk (aG (by repeat(first|(with_reducible first|exact HB.out|apply bX|apply bE|apply dn|refine aH ?_ lC.out|refine aH ?_ yT.out)|exact HB.out)) hb);clear eu;clear fU;clear HB;have eu:=n0_;have fU:=n1_;have HB:=n2_;clear n0_ n1_ n2_;(try clear hb);(try clear hb2);(try clear hk);(try clear hi)))
     go_ret;exact⟨by first|rfl|(simp[aJ,aM]<;>rfl)|(simp[*,aJ,aM]<;>rfl),by repeat(first|(with_reducible first|exact HB.out|apply bX|apply bE|apply dn|refine aH ?_ lC.out|refine aH ?_ yT.out)|exact HB.out)⟩
    ·rw[if_neg c6]at H
     have zm:(dL.toList==sP.toList)=false:=beq_eq_false_iff_ne.mpr c6;have c6b1:(dL.toList !=sP.toList)=true:=bne_iff_ne.mpr c6;obtain rfl:=Option.some.inj H;go_enter Tryz.func87,Tryz.ntmps87
     go_wp2_with(first|((with_reducible refine cB (N:=2) rfl ?_);refine eG ?hg (N:=2) ?hd (cs:=#[.int .i64 dN,.int .i64 dz,.string bU,.string dL,.slice iy bq.length eP]) (t:=34) ?hr ?_;(case hd=>rfl);(case hg=>rfl);(case hr=>first|(go_simp;done)|(go_simp;rfl));intro fA hg w14 fK hb;have n0_:=ak.mk (aG bz hb);have n1_:=ak.mk (fK);have n2_:=ak.mk ((by rw[hg];exact(aR bz):w.heap.size≤fA));have n3_:=ak.mk ((by rw[hg];exact(aR bz):w.heap.size≤fA));clear HB;have HB:=n0_;have eu:=n1_;have GW103:=n2_;have lC:=n3_;clear n0_ n1_ n2_ n3_;clear hb fK hg)|((with_reducible refine cB (N:=3) rfl ?_);refine eG ?hg (N:=3) ?hd (cs:=#[.int .i64 sM,.int .i64 sN,.string sO,.string sP,.slice Bv ug.length Bw]) (t:=34) ?hr ?_;(case hd=>rfl);(case hg=>rfl);(case hr=>first|(go_simp;done)|(go_simp;rfl));intro gL hg w15 fK hb;have n0_:=ak.mk (dJ (g:=fA) (o:=.cells #[.int .i64 dN,.int .i64 dz,.string bU,.string dL,.slice iy bq.length eP] 34 (0,0)) (kz eu.out) hb);have n1_:=ak.mk (aG (bs lC.out) hb);have n2_:=ak.mk (fK);have n3_:=ak.mk ((by rw[hg];exact(aR (bs lC.out)):w.heap.size≤gL));have n4_:=ak.mk ((by rw[hg];exact(aR (bs lC.out)):w.heap.size≤gL));have n5_:=ak.mk ((by rw[hg];exact Nat.ne_of_lt (gU (g:=fA) (o:=.cells #[.int .i64 dN,.int .i64 dz,.string bU,.string dL,.slice iy bq.length eP] 34 (0,0)) (kz eu.out)):fA≠gL));have n6_:=ak.mk ((by rw[hg];exact Nat.ne_of_gt (gU (g:=fA) (o:=.cells #[.int .i64 dN,.int .i64 dz,.string bU,.string dL,.slice iy bq.length eP] 34 (0,0)) (kz eu.out)):gL≠fA));clear eu;clear HB;have eu:=n0_;have HB:=n1_;have fU:=n2_;have GW104:=n3_;have yT:=n4_;have mQ:=n5_;have mR:=n6_;clear n0_ n1_ n2_ n3_ n4_ n5_ n6_;clear hb fK hg;have hnb16:=mQ.out;have hnc16:=mR.out;have NI:w15.cell? ⟨fA,0,none⟩=some (.int .i64 dN):=(aC eu.out 0).trans rfl;have NJ:w15.cell? ⟨fA,1,none⟩=some (.int .i64 dz):=(aC eu.out 1).trans rfl;have NK:w15.cell? ⟨fA,2,none⟩=some (.string bU):=(aC eu.out 2).trans rfl;have NM:w15.cell? ⟨fA,3,none⟩=some (.string dL):=(aC eu.out 3).trans rfl;have NP:w15.cell? ⟨fA,4,none⟩=some (.slice iy bq.length eP):=(aC eu.out 4).trans rfl;have NQ:=ay eu.out 0;have NR:=ay eu.out 1;have NS:=ay eu.out 2;have NT:=ay eu.out 3;have NU:=ay eu.out 4;have vB:w15.cell? ⟨gL,0,none⟩=some (.int .i64 sM):=(aC fU.out 0).trans rfl;have vC:w15.cell? ⟨gL,1,none⟩=some (.int .i64 sN):=(aC fU.out 1).trans rfl;have vD:w15.cell? ⟨gL,2,none⟩=some (.string sO):=(aC fU.out 2).trans rfl;have vE:w15.cell? ⟨gL,3,none⟩=some (.string sP):=(aC fU.out 3).trans rfl;have vF:w15.cell? ⟨gL,4,none⟩=some (.slice Bv ug.length Bw):=(aC fU.out 4).trans rfl;have vG:=ay fU.out 0;have vH:=ay fU.out 1;have vI:=ay fU.out 2;have vJ:=ay fU.out 3;have vK:=ay fU.out 4))
     go_ret;exact⟨by first|rfl|(simp[aJ,aM]<;>rfl)|(simp[*,aJ,aM]<;>rfl),by repeat(first|(with_reducible first|exact HB.out|apply bX|apply bE|apply dn|refine aH ?_ lC.out|refine aH ?_ yT.out)|exact HB.out)⟩
   ·rw[if_neg c5]at H
    have uf:(bU.toList==sO.toList)=false:=beq_eq_false_iff_ne.mpr c5;have c5b1:(bU.toList !=sO.toList)=true:=bne_iff_ne.mpr c5;obtain rfl:=Option.some.inj H;go_enter Tryz.func87,Tryz.ntmps87
    go_wp2_with(first|((with_reducible refine cB (N:=2) rfl ?_);refine eG ?hg (N:=2) ?hd (cs:=#[.int .i64 dN,.int .i64 dz,.string bU,.string dL,.slice iy bq.length eP]) (t:=34) ?hr ?_;(case hd=>rfl);(case hg=>rfl);(case hr=>first|(go_simp;done)|(go_simp;rfl));intro fA hg w19 fK hb;have n0_:=ak.mk (aG bz hb);have n1_:=ak.mk (fK);have n2_:=ak.mk ((by rw[hg];exact(aR bz):w.heap.size≤fA));have n3_:=ak.mk ((by rw[hg];exact(aR bz):w.heap.size≤fA));clear HB;have HB:=n0_;have eu:=n1_;have GW103:=n2_;have lC:=n3_;clear n0_ n1_ n2_ n3_;clear hb fK hg)|((with_reducible refine cB (N:=3) rfl ?_);refine eG ?hg (N:=3) ?hd (cs:=#[.int .i64 sM,.int .i64 sN,.string sO,.string sP,.slice Bv ug.length Bw]) (t:=34) ?hr ?_;(case hd=>rfl);(case hg=>rfl);(case hr=>first|(go_simp;done)|(go_simp;rfl));intro gL hg w20 fK hb;have n0_:=ak.mk (dJ (g:=fA) (o:=.cells #[.int .i64 dN,.int .i64 dz,.string bU,.string dL,.slice iy bq.length eP] 34 (0,0)) (kz eu.out) hb);have n1_:=ak.mk (aG (bs lC.out) hb);have n2_:=ak.mk (fK);have n3_:=ak.mk ((by rw[hg];exact(aR (bs lC.out)):w.heap.size≤gL));have n4_:=ak.mk ((by rw[hg];exact(aR (bs lC.out)):w.heap.size≤gL));have n5_:=ak.mk ((by rw[hg];exact Nat.ne_of_lt (gU (g:=fA) (o:=.cells #[.int .i64 dN,.int .i64 dz,.string bU,.string dL,.slice iy bq.length eP] 34 (0,0)) (kz eu.out)):fA≠gL));have n6_:=ak.mk ((by rw[hg];exact Nat.ne_of_gt (gU (g:=fA) (o:=.cells #[.int .i64 dN,.int .i64 dz,.string bU,.string dL,.slice iy bq.length eP] 34 (0,0)) (kz eu.out)):gL≠fA));clear eu;clear HB;have eu:=n0_;have HB:=n1_;have fU:=n2_;have GW104:=n3_;have yT:=n4_;have mQ:=n5_;have mR:=n6_;clear n0_ n1_ n2_ n3_ n4_ n5_ n6_;clear hb fK hg;have hnb21:=mQ.out;have hnc21:=mR.out;have GK:w20.cell? ⟨fA,0,none⟩=some (.int .i64 dN):=(aC eu.out 0).trans rfl;have GL:w20.cell? ⟨fA,1,none⟩=some (.int .i64 dz):=(aC eu.out 1).trans rfl;have GN:w20.cell? ⟨fA,2,none⟩=some (.string bU):=(aC eu.out 2).trans rfl;have GQ:w20.cell? ⟨fA,3,none⟩=some (.string dL):=(aC eu.out 3).trans rfl;have GR:w20.cell? ⟨fA,4,none⟩=some (.slice iy bq.length eP):=(aC eu.out 4).trans rfl;have GU:=ay eu.out 0;have GV:=ay eu.out 1;have GX:=ay eu.out 2;have GY:=ay eu.out 3;have GZ:=ay eu.out 4;have hcz23_0:w20.cell? ⟨gL,0,none⟩=some (.int .i64 sM):=(aC fU.out 0).trans rfl;have hcz23_1:w20.cell? ⟨gL,1,none⟩=some (.int .i64 sN):=(aC fU.out 1).trans rfl;have hcz23_2:w20.cell? ⟨gL,2,none⟩=some (.string sO):=(aC fU.out 2).trans rfl;have hcz23_3:w20.cell? ⟨gL,3,none⟩=some (.string sP):=(aC fU.out 3).trans rfl;have hcz23_4:w20.cell? ⟨gL,4,none⟩=some (.slice Bv ug.length Bw):=(aC fU.out 4).trans rfl;have hfz23_0:=ay fU.out 0;have hfz23_1:=ay fU.out 1;have hfz23_2:=ay fU.out 2;have hfz23_3:=ay fU.out 3;have hfz23_4:=ay fU.out 4))
    go_ret;exact⟨by first|rfl|(simp[aJ,aM]<;>rfl)|(simp[*,aJ,aM]<;>rfl),by repeat(first|(with_reducible first|exact HB.out|apply bX|apply bE|apply dn|refine aH ?_ lC.out|refine aH ?_ yT.out)|exact HB.out)⟩
  ·rw[if_neg c4]at H
   have mP:(dz==sN)=false:=beq_eq_false_iff_ne.mpr c4;have Ab:(dz !=sN)=true:=bne_iff_ne.mpr c4;obtain rfl:=Option.some.inj H;go_enter Tryz.func87,Tryz.ntmps87
   go_wp2_with(first|((with_reducible refine cB (N:=2) rfl ?_);refine eG ?hg (N:=2) ?hd (cs:=#[.int .i64 dN,.int .i64 dz,.string bU,.string dL,.slice iy bq.length eP]) (t:=34) ?hr ?_;(case hd=>rfl);(case hg=>rfl);(case hr=>first|(go_simp;done)|(go_simp;rfl));intro fA hg w24 fK hb;have n0_:=ak.mk (aG bz hb);have n1_:=ak.mk (fK);have n2_:=ak.mk ((by rw[hg];exact(aR bz):w.heap.size≤fA));have n3_:=ak.mk ((by rw[hg];exact(aR bz):w.heap.size≤fA));clear HB;have HB:=n0_;have eu:=n1_;have GW103:=n2_;have lC:=n3_;clear n0_ n1_ n2_ n3_;clear hb fK hg)|((with_reducible refine cB (N:=3) rfl ?_);refine eG ?hg (N:=3) ?hd (cs:=#[.int .i64 sM,.int .i64 sN,.string sO,.string sP,.slice Bv ug.length Bw]) (t:=34) ?hr ?_;(case hd=>rfl);(case hg=>rfl);(case hr=>first|(go_simp;done)|(go_simp;rfl));intro gL hg w25 fK hb;have n0_:=ak.mk (dJ (g:=fA) (o:=.cells #[.int .i64 dN,.int .i64 dz,.string bU,.string dL,.slice iy bq.length eP] 34 (0,0)) (kz eu.out) hb);have n1_:=ak.mk (aG (bs lC.out) hb);have n2_:=ak.mk (fK);have n3_:=ak.mk ((by rw[hg];exact(aR (bs lC.out)):w.heap.size≤gL));have n4_:=ak.mk ((by rw[hg];exact(aR (bs lC.out)):w.heap.size≤gL));have n5_:=ak.mk ((by rw[hg];exact Nat.ne_of_lt (gU (g:=fA) (o:=.cells #[.int .i64 dN,.int .i64 dz,.string bU,.string dL,.slice iy bq.length eP] 34 (0,0)) (kz eu.out)):fA≠gL));have n6_:=ak.mk ((by rw[hg];exact Nat.ne_of_gt (gU (g:=fA) (o:=.cells #[.int .i64 dN,.int .i64 dz,.string bU,.string dL,.slice iy bq.length eP] 34 (0,0)) (kz eu.out)):gL≠fA));clear eu;clear HB;have eu:=n0_;have HB:=n1_;have fU:=n2_;have GW104:=n3_;have yT:=n4_;have mQ:=n5_;have mR:=n6_;clear n0_ n1_ n2_ n3_ n4_ n5_ n6_;clear hb fK hg;have hnb26:=mQ.out;have hnc26:=mR.out;have hcz27_0:w25.cell? ⟨fA,0,none⟩=some (.int .i64 dN):=(aC eu.out 0).trans rfl;have hcz27_1:w25.cell? ⟨fA,1,none⟩=some (.int .i64 dz):=(aC eu.out 1).trans rfl;have hcz27_2:w25.cell? ⟨fA,2,none⟩=some (.string bU):=(aC eu.out 2).trans rfl;have hcz27_3:w25.cell? ⟨fA,3,none⟩=some (.string dL):=(aC eu.out 3).trans rfl;have hcz27_4:w25.cell? ⟨fA,4,none⟩=some (.slice iy bq.length eP):=(aC eu.out 4).trans rfl;have hfz27_0:=ay eu.out 0;have hfz27_1:=ay eu.out 1;have hfz27_2:=ay eu.out 2;have hfz27_3:=ay eu.out 3;have hfz27_4:=ay eu.out 4;have NV:w25.cell? ⟨gL,0,none⟩=some (.int .i64 sM):=(aC fU.out 0).trans rfl;have NW:w25.cell? ⟨gL,1,none⟩=some (.int .i64 sN):=(aC fU.out 1).trans rfl;have NY:w25.cell? ⟨gL,2,none⟩=some (.string sO):=(aC fU.out 2).trans rfl;have NZ:w25.cell? ⟨gL,3,none⟩=some (.string sP):=(aC fU.out 3).trans rfl;have N7:w25.cell? ⟨gL,4,none⟩=some (.slice Bv ug.length Bw):=(aC fU.out 4).trans rfl;have N8:=ay fU.out 0;have N9:=ay fU.out 1;have Oa:=ay fU.out 2;have Ob:=ay fU.out 3;have Oc:=ay fU.out 4))
   go_ret;exact⟨by first|rfl|(simp[aJ,aM]<;>rfl)|(simp[*,aJ,aM]<;>rfl),by repeat(first|(with_reducible first|exact HB.out|apply bX|apply bE|apply dn|refine aH ?_ lC.out|refine aH ?_ yT.out)|exact HB.out)⟩
 ·rw[if_neg c3]at H
  have nC:(dN==sM)=false:=beq_eq_false_iff_ne.mpr c3;have zi:(dN !=sM)=true:=bne_iff_ne.mpr c3;obtain rfl:=Option.some.inj H;go_enter Tryz.func87,Tryz.ntmps87
  go_wp2_with(first|((with_reducible refine cB (N:=2) rfl ?_);refine eG ?hg (N:=2) ?hd (cs:=#[.int .i64 dN,.int .i64 dz,.string bU,.string dL,.slice iy bq.length eP]) (t:=34) ?hr ?_;(case hd=>rfl);(case hg=>rfl);(case hr=>first|(go_simp;done)|(go_simp;rfl));intro fA hg w29 fK hb;have n0_:=ak.mk (aG bz hb);have n1_:=ak.mk (fK);have n2_:=ak.mk ((by rw[hg];exact(aR bz):w.heap.size≤fA));have n3_:=ak.mk ((by rw[hg];exact(aR bz):w.heap.size≤fA));clear HB;have HB:=n0_;have eu:=n1_;have GW103:=n2_;have lC:=n3_;clear n0_ n1_ n2_ n3_;clear hb fK hg)|((with_reducible refine cB (N:=3) rfl ?_);refine eG ?hg (N:=3) ?hd (cs:=#[.int .i64 sM,.int .i64 sN,.string sO,.string sP,.slice Bv ug.length Bw]) (t:=34) ?hr ?_;(case hd=>rfl);(case hg=>rfl);(case hr=>first|(go_simp;done)|(go_simp;rfl));intro gL hg w30 fK hb;have n0_:=ak.mk (dJ (g:=fA) (o:=.cells #[.int .i64 dN,.int .i64 dz,.string bU,.string dL,.slice iy bq.length eP] 34 (0,0)) (kz eu.out) hb);have n1_:=ak.mk (aG (bs lC.out) hb);have n2_:=ak.mk (fK);have n3_:=ak.mk ((by rw[hg];exact(aR (bs lC.out)):w.heap.size≤gL));have n4_:=ak.mk ((by rw[hg];exact(aR (bs lC.out)):w.heap.size≤gL));have n5_:=ak.mk ((by rw[hg];exact Nat.ne_of_lt (gU (g:=fA) (o:=.cells #[.int .i64 dN,.int .i64 dz,.string bU,.string dL,.slice iy bq.length eP] 34 (0,0)) (kz eu.out)):fA≠gL));have n6_:=ak.mk ((by rw[hg];exact Nat.ne_of_gt (gU (g:=fA) (o:=.cells #[.int .i64 dN,.int .i64 dz,.string bU,.string dL,.slice iy bq.length eP] 34 (0,0)) (kz eu.out)):gL≠fA));clear eu;clear HB;have eu:=n0_;have HB:=n1_;have fU:=n2_;have GW104:=n3_;have yT:=n4_;have mQ:=n5_;have mR:=n6_;clear n0_ n1_ n2_ n3_ n4_ n5_ n6_;clear hb fK hg;have hnb31:=mQ.out;have hnc31:=mR.out;have hcz32_0:w30.cell? ⟨fA,0,none⟩=some (.int .i64 dN):=(aC eu.out 0).trans rfl;have hcz32_1:w30.cell? ⟨fA,1,none⟩=some (.int .i64 dz):=(aC eu.out 1).trans rfl;have hcz32_2:w30.cell? ⟨fA,2,none⟩=some (.string bU):=(aC eu.out 2).trans rfl;have hcz32_3:w30.cell? ⟨fA,3,none⟩=some (.string dL):=(aC eu.out 3).trans rfl;have hcz32_4:w30.cell? ⟨fA,4,none⟩=some (.slice iy bq.length eP):=(aC eu.out 4).trans rfl;have hfz32_0:=ay eu.out 0;have hfz32_1:=ay eu.out 1;have hfz32_2:=ay eu.out 2;have hfz32_3:=ay eu.out 3;have hfz32_4:=ay eu.out 4;have hcz33_0:w30.cell? ⟨gL,0,none⟩=some (.int .i64 sM):=(aC fU.out 0).trans rfl;have hcz33_1:w30.cell? ⟨gL,1,none⟩=some (.int .i64 sN):=(aC fU.out 1).trans rfl;have hcz33_2:w30.cell? ⟨gL,2,none⟩=some (.string sO):=(aC fU.out 2).trans rfl;have hcz33_3:w30.cell? ⟨gL,3,none⟩=some (.string sP):=(aC fU.out 3).trans rfl;have hcz33_4:w30.cell? ⟨gL,4,none⟩=some (.slice Bv ug.length Bw):=(aC fU.out 4).trans rfl;have hfz33_0:=ay fU.out 0;have hfz33_1:=ay fU.out 1;have hfz33_2:=ay fU.out 2;have hfz33_3:=ay fU.out 3;have hfz33_4:=ay fU.out 4))
  go_ret;exact⟨by first|rfl|(simp[aJ,aM]<;>rfl)|(simp[*,aJ,aM]<;>rfl),by repeat(first|(with_reducible first|exact HB.out|apply bX|apply bE|apply dn|refine aH ?_ lC.out|refine aH ?_ yT.out)|exact HB.out)⟩
end Go.Proofs.aj.W7
namespace Go.Proofs.aj.W7
open Go.RowKit Go.Proofs Go.Proofs.YtkcmghlhpbepcaaGreatDoor
theorem nL{w:World}{a:Addr}{v:Value}(h:w.cell? a=some v):∀o,(w.alloc o).cell? a=some v:=fun o=>aV h ((Below.refl _ w).alloc (Nat.le_refl _) o)
structure Rr where
 depth:Int
 kind:Int
 name:Txt
 data:Txt
 attrs:List (Txt×Txt)
 deriving DecidableEq
def prS(a:S36):Txt×Txt:=(a.f0.data.toList,a.f1.data.toList)
def lZ(x:Rw):Rr:=⟨x.f0,x.f1,x.f2.data.toList,x.f3.data.toList,x.f4.map prS⟩
theorem w64{x:Int}(h0: -9223372036854775808≤x)(h1:x≤9223372036854775807):wrap64 x=x:=by unfold wrap64;omega
theorem qK(a b:ByteArray):a.toList=b.toList↔a.data.toList=b.data.toList:=by rw[Lib.toList_data,Lib.toList_data]
theorem bytes_beq(a b:ByteArray):(a.toList==b.toList)=(a.data.toList==b.data.toList):=by rw[Lib.toList_data,Lib.toList_data]
theorem attrs_l0(xs ys:List S36)(hx:xs.length≤9223372036854775807)(hy:ys.length≤9223372036854775807):∀(d i k:Nat),min xs.length ys.length - i≤d→i≤min xs.length ys.length→d<k→
 gN.l0 k xs ys ((min xs.length ys.length:Nat):Int) i=some (decide ((xs.drop i).map prS=(ys.drop i).map prS)):=by
 intro d
 induction d with
 |zero=>
  intro i k hd hi hk;obtain⟨k,rfl⟩:∃m,k=m+1:=⟨k - 1,by omega⟩
  simp only[gN.l0];rw[if_neg (by omega)]
  by_cases h:xs.length=ys.length
  ·rw[List.drop_of_length_le (by omega),List.drop_of_length_le (by omega)]
   simp[h]
  ·have e1:((xs.length:Int)==(ys.length:Int))=false:=by rw[beq_eq_false_iff_ne];omega
   have e2:¬(xs.drop i).map prS=(ys.drop i).map prS:=fun e=>by have:=congrArg List.length e;simp at this;omega
   rw[e1,decide_eq_false e2]
 |succ d ih=>
  intro i k hd hi hk;obtain⟨k,rfl⟩:∃m,k=m+1:=⟨k - 1,by omega⟩
  by_cases hlt:i<min xs.length ys.length
  ·have hxi:i<xs.length:=by omega
   have hyi:i<ys.length:=by omega
   have ex:bg xs i=xs[i]:=by simp[bg,hxi]
   have ey:bg ys i=ys[i]:=by simp[bg,hyi]
   simp only[gN.l0];rw[if_pos (by omega),if_pos (by omega),if_pos (by omega),if_pos (by omega),ex,ey,bytes_beq,bytes_beq,List.drop_eq_getElem_cons hxi,List.drop_eq_getElem_cons hyi,List.map_cons,List.map_cons]
   by_cases he:prS xs[i]=prS ys[i]
   ·have h1:(xs[i].f0.data.toList==ys[i].f0.data.toList)=true:=by rw[beq_iff_eq];exact congrArg Prod.fst he
    have h2:(xs[i].f1.data.toList==ys[i].f1.data.toList)=true:=by rw[beq_iff_eq];exact congrArg Prod.snd he
    rw[h1,h2];simp only[Bool.not_true,Bool.or_self,Bool.false_eq_true,if_false];rw[show wrap64 ((i:Int)+1)=((i+1:Nat):Int)from by rw[w64 (by omega) (by omega)];omega,ih (i+1) k (by omega) (by omega) (by omega),he]
    congr 1
    simp
   ·have h1:(!(xs[i].f0.data.toList==ys[i].f0.data.toList)|| !(xs[i].f1.data.toList==ys[i].f1.data.toList))=true:=by
     by_cases h2:xs[i].f0.data.toList=ys[i].f0.data.toList
     ·have h3:¬xs[i].f1.data.toList=ys[i].f1.data.toList:=fun h3=>he (by unfold prS;rw[h2,h3])
      rw[Bool.or_eq_true];exact .inr (by rw[Bool.not_eq_true',beq_eq_false_iff_ne];exact h3)
     ·rw[Bool.or_eq_true];exact .inl (by rw[Bool.not_eq_true',beq_eq_false_iff_ne];exact h2)
    rw[h1,if_pos rfl,decide_eq_false (fun e=>he (List.cons.inj e).1)]
  ·have hii:i=min xs.length ys.length:=by omega
   have:=ih i (k+1) (by omega) hi (by omega);exact this
theorem mn_nat(x y:Nat):Go.Proofs.ah.aD.mn (x y:Int)=((min x y:Nat):Int):=by unfold Go.Proofs.ah.aD.mn;split<;>omega
theorem attrs_f(xs ys:List S36)(hx:xs.length≤9223372036854775807)(hy:ys.length≤9223372036854775807)(k:Nat)(hk:xs.length<k):gN.f k xs ys=some (decide (xs.map prS=ys.map prS)):=by
 unfold gN.f;rw[mn_nat];exact attrs_l0 xs ys hx hy (min xs.length ys.length) 0 k (by omega) (by omega) (by omega)
theorem same1_f(x y:Rw)(hx:x.f4.length≤9223372036854775807)(hy:y.f4.length≤9223372036854775807)(k:Nat)(hk:x.f4.length<k):
 qb.f k x.f0 x.f1 x.f2 x.f3 x.f4 y.f0 y.f1 y.f2 y.f3 y.f4=some (decide (lZ x=lZ y)):=by
 unfold qb.f
 by_cases h0:x.f0=y.f0
 ·rw[if_pos h0]
  by_cases h1:x.f1=y.f1
  ·rw[if_pos h1]
   by_cases h2:x.f2.data.toList=y.f2.data.toList
   ·rw[if_pos ((qK _ _).2 h2)]
    by_cases h3:x.f3.data.toList=y.f3.data.toList
    ·rw[if_pos ((qK _ _).2 h3),attrs_f _ _ hx hy k hk,Option.bind_some]
     congr 1
     rw[decide_eq_decide];unfold lZ;simp[h0,h1,h2,h3]
    ·rw[if_neg (fun h=>h3 ((qK _ _).1 h)),decide_eq_false (fun e=>h3 (congrArg Rr.data e))]
   ·rw[if_neg (fun h=>h2 ((qK _ _).1 h)),decide_eq_false (fun e=>h2 (congrArg Rr.name e))]
  ·rw[if_neg h1,decide_eq_false (fun e=>h1 (congrArg Rr.kind e))]
 ·rw[if_neg h0,decide_eq_false (fun e=>h0 (congrArg Rr.depth e))]
theorem Mh(xs ys:List Rw)(A B:Option Addr)(c d:Nat)(w:World)(hx:k34.C w A xs.length xs)(hy:k34.C w B ys.length ys)(b:Bool)(hb:decide (xs.map lZ=ys.map lZ)=b):
 Calls Tryz.prog 86 #[.slice A xs.length c,.slice B ys.length d,.func (.func 87) #[] #[]] w fun e w'=>e=.returned (.bool b)∧Below w.heap.size w w':=by
 have hxl:=hx.2.1;have hyl:=hy.2.1
 by_cases hlen:xs.length=ys.length
 ·have hlI:((xs.length:Int) !=(ys.length:Int))=false:=by rw[bne_eq_false_iff_eq];omega
  have hlI2:((ys.length:Int) !=(ys.length:Int))=false:=by simp
  go_enter Tryz.func86,Tryz.ntmps86;replace hlen:=Lib.hid hlen;go_wp2
  go_loopw [17] (fun v wr=>∃(k:Nat),v=.int .i64 k∧k≤xs.length∧Hid (∀j (h1:j<xs.length) (h2:j<ys.length),j<k→lZ xs[j]=lZ ys[j])∧Below w.heap.size w wr) (fun v _=>xs.length - (intOf v).toNat)
  case atStart=>exact⟨0,rfl,by omega,fun j _ _ h=>by omega,Below.refl _ _⟩
  case round=>
   obtain⟨k,rfl,hk,hno,hB⟩:=hrel;have hle:=hlen.out
   by_cases hlt:k<xs.length
   ·have hlty:k<ys.length:=by omega
    obtain⟨g,o,A4,c4,rfl,z0,z1,z2,z3,z4,l4,g4⟩:=uS (Go.Proofs.ah.aD.Kd.eD hx hB) k hlt;obtain⟨g',o',B4,d4,rfl,y0,y1,y2,y3,y4,m4,h4⟩:=uS (Go.Proofs.ah.aD.Kd.eD hy hB) k hlty
    have hsm:Hid (∀W,Below wr.heap.size wr W→Calls Tryz.prog 87 #[.agg #[.int .i64 xs[k].f0,.int .i64 xs[k].f1,.string xs[k].f2,.string xs[k].f3,.slice A4 xs[k].f4.length c4],.agg #[.int .i64 ys[k].f0,.int .i64 ys[k].f1,.string ys[k].f2,.string ys[k].f3,.slice B4 ys[k].f4.length d4]] W fun e w'=>e=.returned (.bool (decide (lZ xs[k]=lZ ys[k])))∧Below W.heap.size W w'):=fun W hW=>
     qb.calls (xs[k].f4.length+1) _ _ _ _ _ _ _ _ _ _ _ _ _ _ _ W (Go.Proofs.ah.aD.Kd.eD g4 hW) l4 (Go.Proofs.ah.aD.Kd.eD h4 hW) m4 (same1_f xs[k] ys[k] g4.2.1 h4.2.1 _ (by omega))
    have hyes:Hid (lZ xs[k]=lZ ys[k]→∀j (h1:j<xs.length) (h2:j<ys.length),j<k+1→lZ xs[j]=lZ ys[j]):=fun h j h1 h2 hj=>by
     by_cases e:j=k
     ·subst e;exact h
     ·exact hno.out j h1 h2 (by omega)
    have hnot:Hid (¬lZ xs[k]=lZ ys[k]→b=false):=fun h=>by
     rw[←hb];refine decide_eq_false (fun e=>h ?_);have e2:(xs.map lZ)[k]?=(ys.map lZ)[k]?:=by rw[e]
     rw[List.getElem?_map,List.getElem?_map,List.getElem?_eq_getElem hlt,List.getElem?_eq_getElem hlty]at e2;simpa using e2
    by_cases he:lZ xs[k]=lZ ys[k]
    ·skip
     rw[decide_eq_true he]at hsm;have hy2:=Lib.hid (hyes.out he);clear he hyes hnot hno hb hle;generalize xs[k]=x at *;generalize ys[k]=y at *;obtain⟨xd,xk,xn,xt,xa⟩:=x;obtain⟨yd,yk,yn,yt,ya⟩:=y;simp only at z0 z1 z2 z3 z4 y0 y1 y2 y3 y4 hsm;have Y0:=nL y0;have Y1:=nL y1;have Y2:=nL y2;have Y3:=nL y3;have Y4:=nL y4
     go_wp2_with(go_at_call 87;((with_reducible refine(hsm.out _ (((Below.refl _ _).alloc (Nat.le_refl _) _).alloc (by rw[World.size_alloc];omega) _)).mono ?_);rintro e w1 ⟨rfl,hb1⟩;have hB1:=bD ((hB.alloc hB.size _).alloc (by rw[World.size_alloc];have:=hB.size;omega) _) (by rw[World.size_alloc,World.size_alloc];have:=hB.size;omega) hb1))
     exact⟨⟨k+1,rfl,by omega,hy2,hB1⟩,by simp[intOf];omega⟩
    ·skip
     rw[decide_eq_false he]at hsm;have hbf:=hnot.out he;clear he hyes hnot hno hb hle;generalize xs[k]=x at *;generalize ys[k]=y at *;obtain⟨xd,xk,xn,xt,xa⟩:=x;obtain⟨yd,yk,yn,yt,ya⟩:=y;simp only at z0 z1 z2 z3 z4 y0 y1 y2 y3 y4 hsm;have Y0:=nL y0;have Y1:=nL y1;have Y2:=nL y2;have Y3:=nL y3;have Y4:=nL y4
     go_wp2_with(go_at_call 87;((with_reducible refine(hsm.out _ (((Below.refl _ _).alloc (Nat.le_refl _) _).alloc (by rw[World.size_alloc];omega) _)).mono ?_);rintro e w1 ⟨rfl,hb1⟩;have hB1:=bD ((hB.alloc hB.size _).alloc (by rw[World.size_alloc];have:=hB.size;omega) _) (by rw[World.size_alloc,World.size_alloc];have:=hB.size;omega) hb1))
     go_ret;rw[hbf];exact⟨rfl,hB1⟩
   ·have hbt:b=true:=by
     rw[←hb];refine decide_eq_true (List.ext_getElem (by simp;omega) (fun j h1 h2=>?_));simp only[List.length_map]at h1 h2;rw[List.getElem_map,List.getElem_map];exact hno.out j h1 h2 (by omega)
    clear hno hb hle;subst hbt;go_wp2;go_ret;exact⟨rfl,hB⟩
 ·have hbf:b=false:=by rw[←hb];exact decide_eq_false (fun e=>hlen (by have:=congrArg List.length e;simpa using this))
  have hlI:((xs.length:Int) !=(ys.length:Int))=true:=by rw[bne_iff_ne];omega
  have hlI2:((xs.length:Int)==(ys.length:Int))=false:=by rw[beq_eq_false_iff_ne];omega
  clear hb;subst hbf;go_enter Tryz.func86,Tryz.ntmps86;go_wp2;go_ret;exact⟨rfl,Below.refl _ _⟩
def o9.f(l0 l1:List Rw):Option Bool:=some (decide (l0.map lZ=l1.map lZ))
theorem o9.calls(A0:Option Addr)(c0:Nat)(l0:List Rw)(A1:Option Addr)(c1:Nat)(l1:List Rw)(r:Bool)(w:World)(hr0:k34.C w A0 l0.length l0)(hc0:l0.length≤c0)(hr1:k34.C w A1 l1.length l1)(hc1:l1.length≤c1)(h:o9.f l0 l1=some r):
 Calls Tryz.prog 40 #[.slice A0 l0.length c0,.slice A1 l1.length c1] w fun e w'=>e=.returned (.bool r)∧Below w.heap.size w w':=by
 have hi:=Lib.hid (Mh l0 l1 A0 A1 c0 c1 w hr0 hr1 r (Option.some.inj h));clear h;go_enter Tryz.func40,Tryz.ntmps40
 go_wp2_with(go_at_call 86;((with_reducible refine hi.out.mono ?_);rintro e w1 ⟨rfl,hb1⟩))
 go_ret;exact⟨rfl,hb1⟩
end Go.Proofs.aj.W7
namespace Go.Proofs.aj.W7
open Go.RowKit Go.Proofs.ah.aD Go.Proofs.ah.bH Go.Proofs.ah.bV
attribute [local go_sem] dA dB dP dQ bY bZ dD dF
def nR.f(k:Nat)(a0:ByteArray):Option (Bool):=(bA.f k a0 (([(⟨#[116,101,120,116,97,114,101,97]⟩:ByteArray),(⟨#[116,105,116,108,101]⟩:ByteArray)] :List ByteArray))).bind fun t376=>(some t376)
theorem nR.calls(k:Nat)(a0:ByteArray)(r:Bool)(w:World)(h:nR.f k a0=some r):
 Calls Tryz.prog 33 #[.string a0] w fun e w'=>e=.returned (.bool r)∧Below w.heap.size w w':=by
 have HB:=ak.mk (Below.refl w.heap.size w);have H:((bA.f k a0 (([(⟨#[116,101,120,116,97,114,101,97]⟩:ByteArray),(⟨#[116,105,116,108,101]⟩:ByteArray)] :List ByteArray))).bind fun t376=>(some t376))=some r:=h;clear h;obtain⟨y373,Kw⟩:∃y_:List ByteArray,y_=(([(⟨#[116,101,120,116,97,114,101,97]⟩:ByteArray),(⟨#[116,105,116,108,101]⟩:ByteArray)] :List ByteArray)):=⟨_,rfl⟩
 replace H:((bA.f k a0 y373).bind fun t376=>(some t376))=some r:=by first|(rw[Kw];with_reducible exact H)|(have H2_:=(Option.bind_some _ _).symm.trans H;rw[Kw];with_reducible exact H2_)|(have H2_:=(Option.bind_some _ _).symm.trans H;with_reducible exact H2_)|with_reducible exact H|(rw[Kw];exact H)|exact H
 have Ny373:=ak.mk Kw;clear Kw;replace H:=Option.bind_eq_some_iff.mp H;obtain⟨t376,A20,H⟩:=H;replace H:(some t376)=some r:=H;have A2:=ak.mk A20;clear A20;obtain rfl:=Option.some.inj H;go_enter Tryz.func33,Tryz.ntmps33
 go_wp2_with(first|((with_reducible refine cB (N:=4) rfl ?_);refine Kd.jN Kd.string _ 9 ?hg (N:=4) ?hd (xs:=([(⟨#[116,101,120,116,97,114,101,97]⟩:ByteArray),(⟨#[116,105,116,108,101]⟩:ByteArray)] :List ByteArray)) (inner:=[.string (⟨#[116,101,120,116,97,114,101,97]⟩:ByteArray),.string (⟨#[116,105,116,108,101]⟩:ByteArray)]) (ok:=fun _=>True) (okp:=fun _=>True) ?hr ?hp (fun _ hk=>hk) trivial (Below.refl _ _) (Nat.le_refl _) (by simp) ?_;(case hd=>rfl);(case hg=>rfl);(case hr=>first|(go_simp;done)|(go_simp;rfl));(case hp=>exact(bK.one (show Kd.M Kd.string _ _ _ (⟨#[116,101,120,116,97,114,101,97]⟩:ByteArray) [.string (⟨#[116,101,120,116,97,114,101,97]⟩:ByteArray)]from rfl) (bK.one (show Kd.M Kd.string _ _ _ (⟨#[116,105,116,108,101]⟩:ByteArray) [.string (⟨#[116,105,116,108,101]⟩:ByteArray)]from rfl) (bK.none _ _))));intro v374 w3 ho4 hb hg_ fH;clear hg_ fH;(first|rw[←Ny373.out]at ho4|(simp only[Int.reduceToNat]at ho4;rw[←Ny373.out]at ho4));have n0_:=ak.mk (Kd.d9 ho4 (aR bz));have n1_:=ak.mk (aG bz hb);clear HB;have HO375:=n0_;have HB:=n1_;clear n0_ n1_;clear hb ho4;obtain⟨Ao5,co5,eo5⟩:=Kd.dH HO375.out;subst eo5)|((with_reducible refine aZ (f:=81) rfl ?_);refine dI (some 5) rfl rfl Tryz.func81 (by kernel_rfl) rfl #[.string a0,.slice Ao5 y373.length co5] rfl q'a ?_;(with_reducible refine(bA.calls k a0 _ _ y373 t376 _ ?cO ?dG A2.out).mono ?_);(case cO=>exact cz (Kd.bJ HO375.out).2.2);(case dG=>exact(Kd.bJ HO375.out).2.1);rintro e w' ⟨rfl,⟨nd,rfl⟩⟩;refine⟨_,rfl,?_⟩))
 go_ret;exact⟨by first|rfl|(simp[aJ,aM]<;>rfl)|(simp[*,aJ,aM]<;>rfl),bz⟩
end Go.Proofs.aj.W7
