/- Lemmas and walks, part 40. -/
import Derived.Test.YtkcmghlhpbepcaaGreatDoorNB39
set_option linter.unusedVariables false
set_option linter.unusedSimpArgs false
set_option maxHeartbeats 8000000
set_option maxRecDepth 100000
namespace Go.Proofs.aj.W7
open Go.RowKit Go.Proofs.ah.aD Go.Proofs.ah.bJ Go.Proofs.ah.bW
attribute [local go_sem] dB dD dR dS bZ cu dF dG
def qo.f(k:Nat)(dO dz:Int)(bV dL:Bt)(bA:List (S36))(tJ tK:Int)(tL tN:Bt)(uK:List (S36)):Option (Bool):=if dO=tJ then(if dz=tK then(if bV.toList=tL.toList then(if dL.toList=tN.toList then((gV.f k bA uK).bind fun t105=>(some t105))else(some false))else(some false))else(some false))else(some false)
theorem qo.calls(k:Nat)(dO dz:Int)(bV dL:Bt)(iC:Option Addr)(eP:Nat)(bA:List (S36))(tJ tK:Int)(tL tN:Bt)(BU:Option Addr)(BX:Nat)(uK:List (S36))(r:Bool)(w:World)(xW:Kd.C k36 w iC bA.length bA)(xX:bA.length≤eP)(hr1_4:Kd.C k36 w BU uK.length uK)(hc1_4:uK.length≤BX)(h:qo.f k dO dz bV dL bA tJ tK tL tN uK=some r):
 Calls Tryz.prog 87 #[.agg #[.int .i64 dO,.int .i64 dz,.string bV,.string dL,.slice iC bA.length eP],.agg #[.int .i64 tJ,.int .i64 tK,.string tL,.string tN,.slice BU uK.length BX]] w fun e w'=>e=.returned (.bool r)∧Below w.heap.size w w':=by
 have hu34:=Tryz.underlying34;have xY:=ak.mk xW;have K9:=ak.mk xX;clear xW xX;have HR1_4:=ak.mk hr1_4;have HC1_4:=ak.mk hc1_4;clear hr1_4 hc1_4;have HB:=ak.mk (Below.refl w.heap.size w);have H:(if dO=tJ then(if dz=tK then(if bV.toList=tL.toList then(if dL.toList=tN.toList then((gV.f k bA uK).bind fun t105=>(some t105))else(some false))else(some false))else(some false))else(some false))=some r:=h;clear h
 by_cases c3:dO=tJ
 ·rw[if_pos c3]at H
  have nN:(dO==tJ)=true:=beq_iff_eq.mpr c3;have zJ:(dO !=tJ)=false:=bne_eq_false_iff_eq.mpr c3;clear c3
  by_cases c4:dz=tK
  ·rw[if_pos c4]at H
   have mZ:(dz==tK)=true:=beq_iff_eq.mpr c4;have AA:(dz !=tK)=false:=bne_eq_false_iff_eq.mpr c4;clear c4
   by_cases c5:bV.toList=tL.toList
   ·rw[if_pos c5]at H
    have uJ:(bV.toList==tL.toList)=true:=beq_iff_eq.mpr c5;have c5b1:(bV.toList !=tL.toList)=false:=bne_eq_false_iff_eq.mpr c5;clear c5
    by_cases c6:dL.toList=tN.toList
    ·rw[if_pos c6]at H
     have zL:(dL.toList==tN.toList)=true:=beq_iff_eq.mpr c6;have c6b1:(dL.toList !=tN.toList)=false:=bne_eq_false_iff_eq.mpr c6;clear c6;replace H:=Option.bind_eq_some_iff.mp H;obtain⟨t105,A70,H⟩:=H;replace H:(some t105)=some r:=H;have A7:=ak.mk A70;clear A70;obtain rfl:=Option.some.inj H;go_enter Tryz.func87,Tryz.ntmps87
     go_wp2_with(first|((with_reducible refine cO (N:=2) rfl ?_);refine eH ?hg (N:=2) ?hd (cs:=#[.int .i64 dO,.int .i64 dz,.string bV,.string dL,.slice iC bA.length eP]) (t:=34) ?hr ?_;(case hd=>rfl);(case hg=>rfl);(case hr=>first|(go_simp;done)|(go_simp;rfl));intro fB hg w8 fP hb;have eD:=ak.mk (fP);have GW103:=ak.mk ((by rw[hg];exact(aR bz):w.heap.size≤fB));have lS:=ak.mk ((by rw[hg];exact(aR bz):w.heap.size≤fB));replace HB:=ak.mk (aG bz hb);clear hb fP hg)|((with_reducible refine cO (N:=3) rfl ?_);refine eH ?hg (N:=3) ?hd (cs:=#[.int .i64 tJ,.int .i64 tK,.string tL,.string tN,.slice BU uK.length BX]) (t:=34) ?hr ?_;(case hd=>rfl);(case hg=>rfl);(case hr=>first|(go_simp;done)|(go_simp;rfl));intro gQ hg w9 fP hb;have fZ:=ak.mk (fP);have GW104:=ak.mk ((by rw[hg];exact(aR (bs lS.out)):w.heap.size≤gQ));have zw:=ak.mk ((by rw[hg];exact(aR (bs lS.out)):w.heap.size≤gQ));have ng:=ak.mk ((by rw[hg];exact Nat.ne_of_lt (gZ (g:=fB) (o:=.cells #[.int .i64 dO,.int .i64 dz,.string bV,.string dL,.slice iC bA.length eP] 34 (0,0)) (kz eD.out)):fB≠gQ));have ni:=ak.mk ((by rw[hg];exact Nat.ne_of_gt (gZ (g:=fB) (o:=.cells #[.int .i64 dO,.int .i64 dz,.string bV,.string dL,.slice iC bA.length eP] 34 (0,0)) (kz eD.out)):gQ≠fB));replace eD:=ak.mk (dK (g:=fB) (o:=.cells #[.int .i64 dO,.int .i64 dz,.string bV,.string dL,.slice iC bA.length eP] 34 (0,0)) (kz eD.out) hb);replace HB:=ak.mk (aG (bs lS.out) hb);clear hb fP hg;have hnb10:=ng.out;have hnc10:=ni.out;have Og:w9.cell? ⟨fB,0,none⟩=some (.int .i64 dO):=(aC eD.out 0).trans rfl;have Oh:w9.cell? ⟨fB,1,none⟩=some (.int .i64 dz):=(aC eD.out 1).trans rfl;have Oi:w9.cell? ⟨fB,2,none⟩=some (.string bV):=(aC eD.out 2).trans rfl;have Oj:w9.cell? ⟨fB,3,none⟩=some (.string dL):=(aC eD.out 3).trans rfl;have Ol:w9.cell? ⟨fB,4,none⟩=some (.slice iC bA.length eP):=(aC eD.out 4).trans rfl;have Om:=ay eD.out 0;have Oo:=ay eD.out 1;have Oq:=ay eD.out 2;have Ot:=ay eD.out 3;have Ou:=ay eD.out 4;have Ov:w9.cell? ⟨gQ,0,none⟩=some (.int .i64 tJ):=(aC fZ.out 0).trans rfl;have Ow:w9.cell? ⟨gQ,1,none⟩=some (.int .i64 tK):=(aC fZ.out 1).trans rfl;have Ox:w9.cell? ⟨gQ,2,none⟩=some (.string tL):=(aC fZ.out 2).trans rfl;have Oy:w9.cell? ⟨gQ,3,none⟩=some (.string tN):=(aC fZ.out 3).trans rfl;have Oz:w9.cell? ⟨gQ,4,none⟩=some (.slice BU uK.length BX):=(aC fZ.out 4).trans rfl;have OA:=ay fZ.out 0;have OB:=ay fZ.out 1;have OC:=ay fZ.out 2;have OD:=ay fZ.out 3;have OE:=ay fZ.out 4)|(go_at_call 88;(with_reducible refine(gV.calls k _ _ bA _ _ uK t105 _ ?cZ ?dH ?nR ?nS A7.out).mono ?_);(case cZ=>exact cz (Kd.eF xY.out HB.out));(case dH=>exact K9.out);(case nR=>exact cz (Kd.eF HR1_4.out HB.out));(case nS=>exact HC1_4.out);rintro e w13 ⟨rfl,hb⟩;replace eD:=ak.mk (dK (g:=fB) (o:=.cells #[.int .i64 dO,.int .i64 dz,.string bV,.string dL,.slice iC bA.length eP] 34 (0,0)) (kz eD.out) hb);replace fZ:=ak.mk (dK (g:=gQ) (o:=.cells #[.int .i64 tJ,.int .i64 tK,.string tL,.string tN,.slice BU uK.length BX] 34 (0,0)) (kz fZ.out) hb);replace HB:=ak.mk (aG (by repeat(first|(with_reducible first|exact HB.out|apply bY|apply bE|apply dn|refine aH ?_ lS.out|refine aH ?_ zw.out)|exact HB.out)) hb);(try clear hb);(try clear hb2);(try clear hk);(try clear hi)))
     go_ret;exact⟨by first|rfl|(simp[aJ,aM]<;>rfl)|(simp[*,aJ,aM]<;>rfl),by repeat(first|(with_reducible first|exact HB.out|apply bY|apply bE|apply dn|refine aH ?_ lS.out|refine aH ?_ zw.out)|exact HB.out)⟩
    ·rw[if_neg c6]at H
     have zL:(dL.toList==tN.toList)=false:=beq_eq_false_iff_ne.mpr c6;have c6b1:(dL.toList !=tN.toList)=true:=bne_iff_ne.mpr c6;obtain rfl:=Option.some.inj H;go_enter Tryz.func87,Tryz.ntmps87
     go_wp2_with(first|((with_reducible refine cO (N:=2) rfl ?_);refine eH ?hg (N:=2) ?hd (cs:=#[.int .i64 dO,.int .i64 dz,.string bV,.string dL,.slice iC bA.length eP]) (t:=34) ?hr ?_;(case hd=>rfl);(case hg=>rfl);(case hr=>first|(go_simp;done)|(go_simp;rfl));intro fB hg w14 fP hb;have eD:=ak.mk (fP);have GW103:=ak.mk ((by rw[hg];exact(aR bz):w.heap.size≤fB));have lS:=ak.mk ((by rw[hg];exact(aR bz):w.heap.size≤fB));replace HB:=ak.mk (aG bz hb);clear hb fP hg)|((with_reducible refine cO (N:=3) rfl ?_);refine eH ?hg (N:=3) ?hd (cs:=#[.int .i64 tJ,.int .i64 tK,.string tL,.string tN,.slice BU uK.length BX]) (t:=34) ?hr ?_;(case hd=>rfl);(case hg=>rfl);(case hr=>first|(go_simp;done)|(go_simp;rfl));intro gQ hg w15 fP hb;have fZ:=ak.mk (fP);have GW104:=ak.mk ((by rw[hg];exact(aR (bs lS.out)):w.heap.size≤gQ));have zw:=ak.mk ((by rw[hg];exact(aR (bs lS.out)):w.heap.size≤gQ));have ng:=ak.mk ((by rw[hg];exact Nat.ne_of_lt (gZ (g:=fB) (o:=.cells #[.int .i64 dO,.int .i64 dz,.string bV,.string dL,.slice iC bA.length eP] 34 (0,0)) (kz eD.out)):fB≠gQ));have ni:=ak.mk ((by rw[hg];exact Nat.ne_of_gt (gZ (g:=fB) (o:=.cells #[.int .i64 dO,.int .i64 dz,.string bV,.string dL,.slice iC bA.length eP] 34 (0,0)) (kz eD.out)):gQ≠fB));replace eD:=ak.mk (dK (g:=fB) (o:=.cells #[.int .i64 dO,.int .i64 dz,.string bV,.string dL,.slice iC bA.length eP] 34 (0,0)) (kz eD.out) hb);replace HB:=ak.mk (aG (bs lS.out) hb);clear hb fP hg;have hnb16:=ng.out;have hnc16:=ni.out;have OG:w15.cell? ⟨fB,0,none⟩=some (.int .i64 dO):=(aC eD.out 0).trans rfl;have OH:w15.cell? ⟨fB,1,none⟩=some (.int .i64 dz):=(aC eD.out 1).trans rfl;have OI:w15.cell? ⟨fB,2,none⟩=some (.string bV):=(aC eD.out 2).trans rfl;have OJ:w15.cell? ⟨fB,3,none⟩=some (.string dL):=(aC eD.out 3).trans rfl;have OL:w15.cell? ⟨fB,4,none⟩=some (.slice iC bA.length eP):=(aC eD.out 4).trans rfl;have OM:=ay eD.out 0;have OO:=ay eD.out 1;have OP:=ay eD.out 2;have OQ:=ay eD.out 3;have OT:=ay eD.out 4;have vQ:w15.cell? ⟨gQ,0,none⟩=some (.int .i64 tJ):=(aC fZ.out 0).trans rfl;have vR:w15.cell? ⟨gQ,1,none⟩=some (.int .i64 tK):=(aC fZ.out 1).trans rfl;have vS:w15.cell? ⟨gQ,2,none⟩=some (.string tL):=(aC fZ.out 2).trans rfl;have vT:w15.cell? ⟨gQ,3,none⟩=some (.string tN):=(aC fZ.out 3).trans rfl;have vU:w15.cell? ⟨gQ,4,none⟩=some (.slice BU uK.length BX):=(aC fZ.out 4).trans rfl;have vV:=ay fZ.out 0;have vW:=ay fZ.out 1;have vX:=ay fZ.out 2;have vY:=ay fZ.out 3;have vZ:=ay fZ.out 4))
     go_ret;exact⟨by first|rfl|(simp[aJ,aM]<;>rfl)|(simp[*,aJ,aM]<;>rfl),by repeat(first|(with_reducible first|exact HB.out|apply bY|apply bE|apply dn|refine aH ?_ lS.out|refine aH ?_ zw.out)|exact HB.out)⟩
   ·rw[if_neg c5]at H
    have uJ:(bV.toList==tL.toList)=false:=beq_eq_false_iff_ne.mpr c5;have c5b1:(bV.toList !=tL.toList)=true:=bne_iff_ne.mpr c5;obtain rfl:=Option.some.inj H;go_enter Tryz.func87,Tryz.ntmps87
    go_wp2_with(first|((with_reducible refine cO (N:=2) rfl ?_);refine eH ?hg (N:=2) ?hd (cs:=#[.int .i64 dO,.int .i64 dz,.string bV,.string dL,.slice iC bA.length eP]) (t:=34) ?hr ?_;(case hd=>rfl);(case hg=>rfl);(case hr=>first|(go_simp;done)|(go_simp;rfl));intro fB hg w19 fP hb;have eD:=ak.mk (fP);have GW103:=ak.mk ((by rw[hg];exact(aR bz):w.heap.size≤fB));have lS:=ak.mk ((by rw[hg];exact(aR bz):w.heap.size≤fB));replace HB:=ak.mk (aG bz hb);clear hb fP hg)|((with_reducible refine cO (N:=3) rfl ?_);refine eH ?hg (N:=3) ?hd (cs:=#[.int .i64 tJ,.int .i64 tK,.string tL,.string tN,.slice BU uK.length BX]) (t:=34) ?hr ?_;(case hd=>rfl);(case hg=>rfl);(case hr=>first|(go_simp;done)|(go_simp;rfl));intro gQ hg w20 fP hb;have fZ:=ak.mk (fP);have GW104:=ak.mk ((by rw[hg];exact(aR (bs lS.out)):w.heap.size≤gQ));have zw:=ak.mk ((by rw[hg];exact(aR (bs lS.out)):w.heap.size≤gQ));have ng:=ak.mk ((by rw[hg];exact Nat.ne_of_lt (gZ (g:=fB) (o:=.cells #[.int .i64 dO,.int .i64 dz,.string bV,.string dL,.slice iC bA.length eP] 34 (0,0)) (kz eD.out)):fB≠gQ));have ni:=ak.mk ((by rw[hg];exact Nat.ne_of_gt (gZ (g:=fB) (o:=.cells #[.int .i64 dO,.int .i64 dz,.string bV,.string dL,.slice iC bA.length eP] 34 (0,0)) (kz eD.out)):gQ≠fB));replace eD:=ak.mk (dK (g:=fB) (o:=.cells #[.int .i64 dO,.int .i64 dz,.string bV,.string dL,.slice iC bA.length eP] 34 (0,0)) (kz eD.out) hb);replace HB:=ak.mk (aG (bs lS.out) hb);clear hb fP hg;have hnb21:=ng.out;have hnc21:=ni.out;have H9:w20.cell? ⟨fB,0,none⟩=some (.int .i64 dO):=(aC eD.out 0).trans rfl;have Ia:w20.cell? ⟨fB,1,none⟩=some (.int .i64 dz):=(aC eD.out 1).trans rfl;have Ib:w20.cell? ⟨fB,2,none⟩=some (.string bV):=(aC eD.out 2).trans rfl;have Ic:w20.cell? ⟨fB,3,none⟩=some (.string dL):=(aC eD.out 3).trans rfl;have Ie:w20.cell? ⟨fB,4,none⟩=some (.slice iC bA.length eP):=(aC eD.out 4).trans rfl;have Ig:=ay eD.out 0;have Ih:=ay eD.out 1;have Ii:=ay eD.out 2;have Ij:=ay eD.out 3;have Ik:=ay eD.out 4;have hcz23_0:w20.cell? ⟨gQ,0,none⟩=some (.int .i64 tJ):=(aC fZ.out 0).trans rfl;have hcz23_1:w20.cell? ⟨gQ,1,none⟩=some (.int .i64 tK):=(aC fZ.out 1).trans rfl;have hcz23_2:w20.cell? ⟨gQ,2,none⟩=some (.string tL):=(aC fZ.out 2).trans rfl;have hcz23_3:w20.cell? ⟨gQ,3,none⟩=some (.string tN):=(aC fZ.out 3).trans rfl;have hcz23_4:w20.cell? ⟨gQ,4,none⟩=some (.slice BU uK.length BX):=(aC fZ.out 4).trans rfl;have hfz23_0:=ay fZ.out 0;have hfz23_1:=ay fZ.out 1;have hfz23_2:=ay fZ.out 2;have hfz23_3:=ay fZ.out 3;have hfz23_4:=ay fZ.out 4))
    go_ret;exact⟨by first|rfl|(simp[aJ,aM]<;>rfl)|(simp[*,aJ,aM]<;>rfl),by repeat(first|(with_reducible first|exact HB.out|apply bY|apply bE|apply dn|refine aH ?_ lS.out|refine aH ?_ zw.out)|exact HB.out)⟩
  ·rw[if_neg c4]at H
   have mZ:(dz==tK)=false:=beq_eq_false_iff_ne.mpr c4;have AA:(dz !=tK)=true:=bne_iff_ne.mpr c4;obtain rfl:=Option.some.inj H;go_enter Tryz.func87,Tryz.ntmps87
   go_wp2_with(first|((with_reducible refine cO (N:=2) rfl ?_);refine eH ?hg (N:=2) ?hd (cs:=#[.int .i64 dO,.int .i64 dz,.string bV,.string dL,.slice iC bA.length eP]) (t:=34) ?hr ?_;(case hd=>rfl);(case hg=>rfl);(case hr=>first|(go_simp;done)|(go_simp;rfl));intro fB hg w24 fP hb;have eD:=ak.mk (fP);have GW103:=ak.mk ((by rw[hg];exact(aR bz):w.heap.size≤fB));have lS:=ak.mk ((by rw[hg];exact(aR bz):w.heap.size≤fB));replace HB:=ak.mk (aG bz hb);clear hb fP hg)|((with_reducible refine cO (N:=3) rfl ?_);refine eH ?hg (N:=3) ?hd (cs:=#[.int .i64 tJ,.int .i64 tK,.string tL,.string tN,.slice BU uK.length BX]) (t:=34) ?hr ?_;(case hd=>rfl);(case hg=>rfl);(case hr=>first|(go_simp;done)|(go_simp;rfl));intro gQ hg w25 fP hb;have fZ:=ak.mk (fP);have GW104:=ak.mk ((by rw[hg];exact(aR (bs lS.out)):w.heap.size≤gQ));have zw:=ak.mk ((by rw[hg];exact(aR (bs lS.out)):w.heap.size≤gQ));have ng:=ak.mk ((by rw[hg];exact Nat.ne_of_lt (gZ (g:=fB) (o:=.cells #[.int .i64 dO,.int .i64 dz,.string bV,.string dL,.slice iC bA.length eP] 34 (0,0)) (kz eD.out)):fB≠gQ));have ni:=ak.mk ((by rw[hg];exact Nat.ne_of_gt (gZ (g:=fB) (o:=.cells #[.int .i64 dO,.int .i64 dz,.string bV,.string dL,.slice iC bA.length eP] 34 (0,0)) (kz eD.out)):gQ≠fB));replace eD:=ak.mk (dK (g:=fB) (o:=.cells #[.int .i64 dO,.int .i64 dz,.string bV,.string dL,.slice iC bA.length eP] 34 (0,0)) (kz eD.out) hb);replace HB:=ak.mk (aG (bs lS.out) hb);clear hb fP hg;have hnb26:=ng.out;have hnc26:=ni.out;have hcz27_0:w25.cell? ⟨fB,0,none⟩=some (.int .i64 dO):=(aC eD.out 0).trans rfl;have hcz27_1:w25.cell? ⟨fB,1,none⟩=some (.int .i64 dz):=(aC eD.out 1).trans rfl;have hcz27_2:w25.cell? ⟨fB,2,none⟩=some (.string bV):=(aC eD.out 2).trans rfl;have hcz27_3:w25.cell? ⟨fB,3,none⟩=some (.string dL):=(aC eD.out 3).trans rfl;have hcz27_4:w25.cell? ⟨fB,4,none⟩=some (.slice iC bA.length eP):=(aC eD.out 4).trans rfl;have hfz27_0:=ay eD.out 0;have hfz27_1:=ay eD.out 1;have hfz27_2:=ay eD.out 2;have hfz27_3:=ay eD.out 3;have hfz27_4:=ay eD.out 4;have OU:w25.cell? ⟨gQ,0,none⟩=some (.int .i64 tJ):=(aC fZ.out 0).trans rfl;have OV:w25.cell? ⟨gQ,1,none⟩=some (.int .i64 tK):=(aC fZ.out 1).trans rfl;have OW:w25.cell? ⟨gQ,2,none⟩=some (.string tL):=(aC fZ.out 2).trans rfl;have OX:w25.cell? ⟨gQ,3,none⟩=some (.string tN):=(aC fZ.out 3).trans rfl;have OY:w25.cell? ⟨gQ,4,none⟩=some (.slice BU uK.length BX):=(aC fZ.out 4).trans rfl;have OZ:=ay fZ.out 0;have O1:=ay fZ.out 1;have O4:=ay fZ.out 2;have O5:=ay fZ.out 3;have O6:=ay fZ.out 4))
   go_ret;exact⟨by first|rfl|(simp[aJ,aM]<;>rfl)|(simp[*,aJ,aM]<;>rfl),by repeat(first|(with_reducible first|exact HB.out|apply bY|apply bE|apply dn|refine aH ?_ lS.out|refine aH ?_ zw.out)|exact HB.out)⟩
 ·rw[if_neg c3]at H
  have nN:(dO==tJ)=false:=beq_eq_false_iff_ne.mpr c3;have zJ:(dO !=tJ)=true:=bne_iff_ne.mpr c3;obtain rfl:=Option.some.inj H;go_enter Tryz.func87,Tryz.ntmps87
  go_wp2_with(first|((with_reducible refine cO (N:=2) rfl ?_);refine eH ?hg (N:=2) ?hd (cs:=#[.int .i64 dO,.int .i64 dz,.string bV,.string dL,.slice iC bA.length eP]) (t:=34) ?hr ?_;(case hd=>rfl);(case hg=>rfl);(case hr=>first|(go_simp;done)|(go_simp;rfl));intro fB hg w29 fP hb;have eD:=ak.mk (fP);have GW103:=ak.mk ((by rw[hg];exact(aR bz):w.heap.size≤fB));have lS:=ak.mk ((by rw[hg];exact(aR bz):w.heap.size≤fB));replace HB:=ak.mk (aG bz hb);clear hb fP hg)|((with_reducible refine cO (N:=3) rfl ?_);refine eH ?hg (N:=3) ?hd (cs:=#[.int .i64 tJ,.int .i64 tK,.string tL,.string tN,.slice BU uK.length BX]) (t:=34) ?hr ?_;(case hd=>rfl);(case hg=>rfl);(case hr=>first|(go_simp;done)|(go_simp;rfl));intro gQ hg w30 fP hb;have fZ:=ak.mk (fP);have GW104:=ak.mk ((by rw[hg];exact(aR (bs lS.out)):w.heap.size≤gQ));have zw:=ak.mk ((by rw[hg];exact(aR (bs lS.out)):w.heap.size≤gQ));have ng:=ak.mk ((by rw[hg];exact Nat.ne_of_lt (gZ (g:=fB) (o:=.cells #[.int .i64 dO,.int .i64 dz,.string bV,.string dL,.slice iC bA.length eP] 34 (0,0)) (kz eD.out)):fB≠gQ));have ni:=ak.mk ((by rw[hg];exact Nat.ne_of_gt (gZ (g:=fB) (o:=.cells #[.int .i64 dO,.int .i64 dz,.string bV,.string dL,.slice iC bA.length eP] 34 (0,0)) (kz eD.out)):gQ≠fB));replace eD:=ak.mk (dK (g:=fB) (o:=.cells #[.int .i64 dO,.int .i64 dz,.string bV,.string dL,.slice iC bA.length eP] 34 (0,0)) (kz eD.out) hb);replace HB:=ak.mk (aG (bs lS.out) hb);clear hb fP hg;have hnb31:=ng.out;have hnc31:=ni.out;have hcz32_0:w30.cell? ⟨fB,0,none⟩=some (.int .i64 dO):=(aC eD.out 0).trans rfl;have hcz32_1:w30.cell? ⟨fB,1,none⟩=some (.int .i64 dz):=(aC eD.out 1).trans rfl;have hcz32_2:w30.cell? ⟨fB,2,none⟩=some (.string bV):=(aC eD.out 2).trans rfl;have hcz32_3:w30.cell? ⟨fB,3,none⟩=some (.string dL):=(aC eD.out 3).trans rfl;have hcz32_4:w30.cell? ⟨fB,4,none⟩=some (.slice iC bA.length eP):=(aC eD.out 4).trans rfl;have hfz32_0:=ay eD.out 0;have hfz32_1:=ay eD.out 1;have hfz32_2:=ay eD.out 2;have hfz32_3:=ay eD.out 3;have hfz32_4:=ay eD.out 4;have hcz33_0:w30.cell? ⟨gQ,0,none⟩=some (.int .i64 tJ):=(aC fZ.out 0).trans rfl;have hcz33_1:w30.cell? ⟨gQ,1,none⟩=some (.int .i64 tK):=(aC fZ.out 1).trans rfl;have hcz33_2:w30.cell? ⟨gQ,2,none⟩=some (.string tL):=(aC fZ.out 2).trans rfl;have hcz33_3:w30.cell? ⟨gQ,3,none⟩=some (.string tN):=(aC fZ.out 3).trans rfl;have hcz33_4:w30.cell? ⟨gQ,4,none⟩=some (.slice BU uK.length BX):=(aC fZ.out 4).trans rfl;have hfz33_0:=ay fZ.out 0;have hfz33_1:=ay fZ.out 1;have hfz33_2:=ay fZ.out 2;have hfz33_3:=ay fZ.out 3;have hfz33_4:=ay fZ.out 4))
  go_ret;exact⟨by first|rfl|(simp[aJ,aM]<;>rfl)|(simp[*,aJ,aM]<;>rfl),by repeat(first|(with_reducible first|exact HB.out|apply bY|apply bE|apply dn|refine aH ?_ lS.out|refine aH ?_ zw.out)|exact HB.out)⟩
end Go.Proofs.aj.W7
namespace Go.Proofs.aj.W7
open Go.RowKit Go.Proofs Go.Proofs.YtkcmghlhpbepcaaGreatDoor
theorem nW{w:World}{a:Addr}{v:Value}(h:w.cell? a=some v):∀o,(w.alloc o).cell? a=some v:=fun o=>aV h ((Below.refl _ w).alloc (Nat.le_refl _) o)
structure Rr where
 depth:Int
 kind:Int
 name:Txt
 data:Txt
 attrs:List (Txt×Txt)
 deriving DecidableEq
def prS(a:S36):Txt×Txt:=(a.f0.data.toList,a.f1.data.toList)
def mH(x:Rw):Rr:=⟨x.f0,x.f1,x.f2.data.toList,x.f3.data.toList,x.f4.map prS⟩
theorem w64{x:Int}(h0: -9223372036854775808≤x)(h1:x≤9223372036854775807):wrap64 x=x:=by unfold wrap64;omega
theorem qV(a b:ByteArray):a.toList=b.toList↔a.data.toList=b.data.toList:=by rw[Lib.toList_data,Lib.toList_data]
theorem bytes_beq(a b:ByteArray):(a.toList==b.toList)=(a.data.toList==b.data.toList):=by rw[Lib.toList_data,Lib.toList_data]
theorem attrs_l0(xs ys:List S36)(hx:xs.length≤9223372036854775807)(hy:ys.length≤9223372036854775807):∀(d i k:Nat),min xs.length ys.length - i≤d→i≤min xs.length ys.length→d<k→
 gV.l0 k xs ys ((min xs.length ys.length:Nat):Int) i=some (decide ((xs.drop i).map prS=(ys.drop i).map prS)):=by
 intro d
 induction d with
 |zero=>
  intro i k hd hi hk;obtain⟨k,rfl⟩:∃m,k=m+1:=⟨k - 1,by omega⟩
  simp only[gV.l0];rw[if_neg (by omega)]
  by_cases h:xs.length=ys.length
  ·rw[List.drop_of_length_le (by omega),List.drop_of_length_le (by omega)]
   simp[h]
  ·have e1:((xs.length:Int)==(ys.length:Int))=false:=by rw[beq_eq_false_iff_ne];omega
   have e2:¬(xs.drop i).map prS=(ys.drop i).map prS:=fun e=>by have:=congrArg List.length e;simp at this;omega
   rw[e1,decide_eq_false e2]
 |succ d ih=>
  intro i k hd hi hk;obtain⟨k,rfl⟩:∃m,k=m+1:=⟨k - 1,by omega⟩
  by_cases hlt:i<min xs.length ys.length
  ·have hxi:i<xs.length:=by omega
   have hyi:i<ys.length:=by omega
   have ex:bq xs i=xs[i]:=by simp[bq,hxi]
   have ey:bq ys i=ys[i]:=by simp[bq,hyi]
   simp only[gV.l0];rw[if_pos (by omega),if_pos (by omega),if_pos (by omega),if_pos (by omega),ex,ey,bytes_beq,bytes_beq,List.drop_eq_getElem_cons hxi,List.drop_eq_getElem_cons hyi,List.map_cons,List.map_cons]
   by_cases he:prS xs[i]=prS ys[i]
   ·have h1:(xs[i].f0.data.toList==ys[i].f0.data.toList)=true:=by rw[beq_iff_eq];exact congrArg Prod.fst he
    have h2:(xs[i].f1.data.toList==ys[i].f1.data.toList)=true:=by rw[beq_iff_eq];exact congrArg Prod.snd he
    rw[h1,h2];simp only[Bool.not_true,Bool.or_self,Bool.false_eq_true,if_false];rw[show wrap64 ((i:Int)+1)=((i+1:Nat):Int)from by rw[w64 (by omega) (by omega)];omega,ih (i+1) k (by omega) (by omega) (by omega),he]
    congr 1
    simp
   ·have h1:(!(xs[i].f0.data.toList==ys[i].f0.data.toList)|| !(xs[i].f1.data.toList==ys[i].f1.data.toList))=true:=by
     by_cases h2:xs[i].f0.data.toList=ys[i].f0.data.toList
     ·have h3:¬xs[i].f1.data.toList=ys[i].f1.data.toList:=fun h3=>he (by unfold prS;rw[h2,h3])
      rw[Bool.or_eq_true];exact .inr (by rw[Bool.not_eq_true',beq_eq_false_iff_ne];exact h3)
     ·rw[Bool.or_eq_true];exact .inl (by rw[Bool.not_eq_true',beq_eq_false_iff_ne];exact h2)
    rw[h1,if_pos rfl,decide_eq_false (fun e=>he (List.cons.inj e).1)]
  ·have hii:i=min xs.length ys.length:=by omega
   have:=ih i (k+1) (by omega) hi (by omega);exact this
theorem mn_nat(x y:Nat):Go.Proofs.ah.aD.mn (x:Int) (y:Int)=((min x y:Nat):Int):=by unfold Go.Proofs.ah.aD.mn;split<;>omega
theorem attrs_f(xs ys:List S36)(hx:xs.length≤9223372036854775807)(hy:ys.length≤9223372036854775807)(k:Nat)(hk:xs.length<k):gV.f k xs ys=some (decide (xs.map prS=ys.map prS)):=by
 unfold gV.f;rw[mn_nat];exact attrs_l0 xs ys hx hy (min xs.length ys.length) 0 k (by omega) (by omega) (by omega)
theorem same1_f(x y:Rw)(hx:x.f4.length≤9223372036854775807)(hy:y.f4.length≤9223372036854775807)(k:Nat)(hk:x.f4.length<k):
 qo.f k x.f0 x.f1 x.f2 x.f3 x.f4 y.f0 y.f1 y.f2 y.f3 y.f4=some (decide (mH x=mH y)):=by
 unfold qo.f
 by_cases h0:x.f0=y.f0
 ·rw[if_pos h0]
  by_cases h1:x.f1=y.f1
  ·rw[if_pos h1]
   by_cases h2:x.f2.data.toList=y.f2.data.toList
   ·rw[if_pos ((qV _ _).2 h2)]
    by_cases h3:x.f3.data.toList=y.f3.data.toList
    ·rw[if_pos ((qV _ _).2 h3),attrs_f _ _ hx hy k hk,Option.bind_some]
     congr 1
     rw[decide_eq_decide];unfold mH;simp[h0,h1,h2,h3]
    ·rw[if_neg (fun h=>h3 ((qV _ _).1 h)),decide_eq_false (fun e=>h3 (congrArg Rr.data e))]
   ·rw[if_neg (fun h=>h2 ((qV _ _).1 h)),decide_eq_false (fun e=>h2 (congrArg Rr.name e))]
  ·rw[if_neg h1,decide_eq_false (fun e=>h1 (congrArg Rr.kind e))]
 ·rw[if_neg h0,decide_eq_false (fun e=>h0 (congrArg Rr.depth e))]
theorem M9(xs ys:List Rw)(A B:Option Addr)(c d:Nat)(w:World)(hx:k34.C w A xs.length xs)(hy:k34.C w B ys.length ys)(b:Bool)(hb:decide (xs.map mH=ys.map mH)=b):
 Calls Tryz.prog 86 #[.slice A xs.length c,.slice B ys.length d,.func (.func 87) #[] #[]] w fun e w'=>e=.returned (.bool b)∧Below w.heap.size w w':=by
 have hxl:=hx.2.1;have hyl:=hy.2.1
 by_cases hlen:xs.length=ys.length
 ·have hlI:((xs.length:Int) !=(ys.length:Int))=false:=by rw[bne_eq_false_iff_eq];omega
  have hlI2:((ys.length:Int) !=(ys.length:Int))=false:=by simp
  go_enter Tryz.func86,Tryz.ntmps86;replace hlen:=Lib.hid hlen;go_wp2
  go_loopw [17] (fun v wr=>∃(k:Nat),v=.int .i64 k∧k≤xs.length∧Hid (∀j (h1:j<xs.length) (h2:j<ys.length),j<k→mH xs[j]=mH ys[j])∧Below w.heap.size w wr) (fun v _=>xs.length - (intOf v).toNat)
  case atStart=>exact⟨0,rfl,by omega,fun j _ _ h=>by omega,Below.refl _ _⟩
  case round=>
   obtain⟨k,rfl,hk,hno,hB⟩:=hrel;have hle:=hlen.out
   by_cases hlt:k<xs.length
   ·have hlty:k<ys.length:=by omega
    obtain⟨g,o,A4,c4,rfl,z0,z1,z2,z3,z4,l4,g4⟩:=vI (Go.Proofs.ah.aD.Kd.eF hx hB) k hlt;obtain⟨g',o',B4,d4,rfl,y0,y1,y2,y3,y4,m4,h4⟩:=vI (Go.Proofs.ah.aD.Kd.eF hy hB) k hlty
    have hsm:Hid (∀W,Below wr.heap.size wr W→Calls Tryz.prog 87 #[.agg #[.int .i64 xs[k].f0,.int .i64 xs[k].f1,.string xs[k].f2,.string xs[k].f3,.slice A4 xs[k].f4.length c4],.agg #[.int .i64 ys[k].f0,.int .i64 ys[k].f1,.string ys[k].f2,.string ys[k].f3,.slice B4 ys[k].f4.length d4]] W fun e w'=>e=.returned (.bool (decide (mH xs[k]=mH ys[k])))∧Below W.heap.size W w'):=fun W hW=>
     qo.calls (xs[k].f4.length+1) _ _ _ _ _ _ _ _ _ _ _ _ _ _ _ W (Go.Proofs.ah.aD.Kd.eF g4 hW) l4 (Go.Proofs.ah.aD.Kd.eF h4 hW) m4 (same1_f xs[k] ys[k] g4.2.1 h4.2.1 _ (by omega))
    have hyes:Hid (mH xs[k]=mH ys[k]→∀j (h1:j<xs.length) (h2:j<ys.length),j<k+1→mH xs[j]=mH ys[j]):=fun h j h1 h2 hj=>by
     by_cases e:j=k
     ·subst e;exact h
     ·exact hno.out j h1 h2 (by omega)
    have hnot:Hid (¬mH xs[k]=mH ys[k]→b=false):=fun h=>by
     rw[←hb];refine decide_eq_false (fun e=>h ?_);have e2:(xs.map mH)[k]?=(ys.map mH)[k]?:=by rw[e]
     rw[List.getElem?_map,List.getElem?_map,List.getElem?_eq_getElem hlt,List.getElem?_eq_getElem hlty]at e2;simpa using e2
    by_cases he:mH xs[k]=mH ys[k]
    ·skip
     rw[decide_eq_true he]at hsm;have hy2:=Lib.hid (hyes.out he);clear he hyes hnot hno hb hle;generalize xs[k]=x at *;generalize ys[k]=y at *;obtain⟨xd,xk,xn,xt,xa⟩:=x;obtain⟨yd,yk,yn,yt,ya⟩:=y;simp only at z0 z1 z2 z3 z4 y0 y1 y2 y3 y4 hsm;have Y0:=nW y0;have Y1:=nW y1;have Y2:=nW y2;have Y3:=nW y3;have Y4:=nW y4
     go_wp2_with(go_at_call 87;((with_reducible refine(hsm.out _ (((Below.refl _ _).alloc (Nat.le_refl _) _).alloc (by rw[World.size_alloc];omega) _)).mono ?_);rintro e w1 ⟨rfl,hb1⟩;have hB1:=bD ((hB.alloc hB.size _).alloc (by rw[World.size_alloc];have:=hB.size;omega) _) (by rw[World.size_alloc,World.size_alloc];have:=hB.size;omega) hb1))
     exact⟨⟨k+1,rfl,by omega,hy2,hB1⟩,by simp[intOf];omega⟩
    ·skip
     rw[decide_eq_false he]at hsm;have hbf:=hnot.out he;clear he hyes hnot hno hb hle;generalize xs[k]=x at *;generalize ys[k]=y at *;obtain⟨xd,xk,xn,xt,xa⟩:=x;obtain⟨yd,yk,yn,yt,ya⟩:=y;simp only at z0 z1 z2 z3 z4 y0 y1 y2 y3 y4 hsm;have Y0:=nW y0;have Y1:=nW y1;have Y2:=nW y2;have Y3:=nW y3;have Y4:=nW y4
     go_wp2_with(go_at_call 87;((with_reducible refine(hsm.out _ (((Below.refl _ _).alloc (Nat.le_refl _) _).alloc (by rw[World.size_alloc];omega) _)).mono ?_);rintro e w1 ⟨rfl,hb1⟩;have hB1:=bD ((hB.alloc hB.size _).alloc (by rw[World.size_alloc];have:=hB.size;omega) _) (by rw[World.size_alloc,World.size_alloc];have:=hB.size;omega) hb1))
     go_ret;rw[hbf];exact⟨rfl,hB1⟩
   ·have hbt:b=true:=by
     rw[←hb];refine decide_eq_true (List.ext_getElem (by simp;omega) (fun j h1 h2=>?_));simp only[List.length_map]at h1 h2;rw[List.getElem_map,List.getElem_map];exact hno.out j h1 h2 (by omega)
    clear hno hb hle;subst hbt;go_wp2;go_ret;exact⟨rfl,hB⟩
 ·have hbf:b=false:=by rw[←hb];exact decide_eq_false (fun e=>hlen (by have:=congrArg List.length e;simpa using this))
  have hlI:((xs.length:Int) !=(ys.length:Int))=true:=by rw[bne_iff_ne];omega
  have hlI2:((xs.length:Int)==(ys.length:Int))=false:=by rw[beq_eq_false_iff_ne];omega
  clear hb;subst hbf;go_enter Tryz.func86,Tryz.ntmps86;go_wp2;go_ret;exact⟨rfl,Below.refl _ _⟩
def nu.f(l0 l1:List Rw):Option Bool:=some (decide (l0.map mH=l1.map mH))
theorem nu.calls(A0:Option Addr)(c0:Nat)(l0:List Rw)(A1:Option Addr)(c1:Nat)(l1:List Rw)(r:Bool)(w:World)(hr0:k34.C w A0 l0.length l0)(hc0:l0.length≤c0)(hr1:k34.C w A1 l1.length l1)(hc1:l1.length≤c1)(h:nu.f l0 l1=some r):
 Calls Tryz.prog 40 #[.slice A0 l0.length c0,.slice A1 l1.length c1] w fun e w'=>e=.returned (.bool r)∧Below w.heap.size w w':=by
 have hi:=Lib.hid (M9 l0 l1 A0 A1 c0 c1 w hr0 hr1 r (Option.some.inj h));clear h;go_enter Tryz.func40,Tryz.ntmps40
 go_wp2_with(go_at_call 86;((with_reducible refine hi.out.mono ?_);rintro e w1 ⟨rfl,hb1⟩))
 go_ret;exact⟨rfl,hb1⟩
end Go.Proofs.aj.W7
