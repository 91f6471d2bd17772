/- Lemmas and walks, part 41. -/
import Derived.Test.YtkcmghlhpbepcaaGreatDoorWS40
set_option linter.unusedVariables false
set_option linter.unusedSimpArgs false
set_option maxHeartbeats 8000000
set_option maxRecDepth 100000
namespace Go.Proofs.aj.W7
open Go.RowKit Go.Proofs.ah.aD Go.Proofs.ah.bG Go.Proofs.ah.bR
attribute [local go_sem] dD dF dV dW bU bV dG dH
def qo.f(k:Nat)(dP dw:Int)(bQ dM:Bt)(bA:List (S36))(sQ sS:Int)(sU sV:Bt)(um:List (S36)):Option (Bool):=if dP=sQ then(if dw=sS then(if bQ.toList=sU.toList then(if dM.toList=sV.toList then((gQ.f k bA um).bind fun t105=>(some t105))else(some false))else(some false))else(some false))else(some false)
theorem qo.calls(k:Nat)(dP dw:Int)(bQ dM:Bt)(iD:Option Addr)(eX:Nat)(bA:List (S36))(sQ sS:Int)(sU sV:Bt)(Cm:Option Addr)(Cn:Nat)(um:List (S36))(r:Bool)(w:World)(xS:Kd.C k36 w iD bA.length bA)(xU:bA.length≤eX)(hr1_4:Kd.C k36 w Cm um.length um)(hc1_4:um.length≤Cn)(h:qo.f k dP dw bQ dM bA sQ sS sU sV um=some r):
 Calls Tryz.prog 87 #[.agg #[.int .i64 dP,.int .i64 dw,.string bQ,.string dM,.slice iD bA.length eX],.agg #[.int .i64 sQ,.int .i64 sS,.string sU,.string sV,.slice Cm um.length Cn]] w fun e w'=>e=.returned (.bool r)∧Below w.heap.size w w':=by
 have hu34:=Tryz.underlying34;have xV:=ak.mk xS;have LG:=ak.mk xU;clear xS xU;have HR1_4:=ak.mk hr1_4;have HC1_4:=ak.mk hc1_4;clear hr1_4 hc1_4;have HB:=ak.mk (Below.refl w.heap.size w);have H:(if dP=sQ then(if dw=sS then(if bQ.toList=sU.toList then(if dM.toList=sV.toList then((gQ.f k bA um).bind fun t105=>(some t105))else(some false))else(some false))else(some false))else(some false))=some r:=h;clear h
 by_cases c3:dP=sQ
 ·rw[if_pos c3]at H
  have nD:(dP==sQ)=true:=beq_iff_eq.mpr c3;have ze:(dP !=sQ)=false:=bne_eq_false_iff_eq.mpr c3;clear c3
  by_cases c4:dw=sS
  ·rw[if_pos c4]at H
   have nN:(dw==sS)=true:=beq_iff_eq.mpr c4;have zJ:(dw !=sS)=false:=bne_eq_false_iff_eq.mpr c4;clear c4
   by_cases c5:bQ.toList=sU.toList
   ·rw[if_pos c5]at H
    have xD:(bQ.toList==sU.toList)=true:=beq_iff_eq.mpr c5;have c5b1:(bQ.toList !=sU.toList)=false:=bne_eq_false_iff_eq.mpr c5;clear c5
    by_cases c6:dM.toList=sV.toList
    ·rw[if_pos c6]at H
     have AA:(dM.toList==sV.toList)=true:=beq_iff_eq.mpr c6;have c6b1:(dM.toList !=sV.toList)=false:=bne_eq_false_iff_eq.mpr c6;clear c6;replace H:=Option.bind_eq_some_iff.mp H;obtain⟨t105,A70,H⟩:=H;replace H:(some t105)=some r:=H;have A7:=ak.mk A70;clear A70;obtain rfl:=Option.some.inj H;go_enter Tryz.func87,Tryz.ntmps87
     go_wp2_with(first|((with_reducible refine cu (N:=2) rfl ?_);refine eT ?hg (N:=2) ?hd (cs:=#[.int .i64 dP,.int .i64 dw,.string bQ,.string dM,.slice iD bA.length eX]) (t:=34) ?hr ?_;(case hd=>rfl);(case hg=>rfl);(case hr=>first|(go_simp;done)|(go_simp;rfl));intro fC hg w8 fU hb;have eB:=ak.mk (fU);have GW103:=ak.mk ((by rw[hg];exact(aU bz):w.heap.size≤fC));have lW:=ak.mk ((by rw[hg];exact(aU bz):w.heap.size≤fC));replace HB:=ak.mk (aG bz hb);clear hb fU hg)|((with_reducible refine cu (N:=3) rfl ?_);refine eT ?hg (N:=3) ?hd (cs:=#[.int .i64 sQ,.int .i64 sS,.string sU,.string sV,.slice Cm um.length Cn]) (t:=34) ?hr ?_;(case hd=>rfl);(case hg=>rfl);(case hr=>first|(go_simp;done)|(go_simp;rfl));intro gP hg w9 fU hb;have gy:=ak.mk (fU);have GW104:=ak.mk ((by rw[hg];exact(aU (bs lW.out)):w.heap.size≤gP));have zu:=ak.mk ((by rw[hg];exact(aU (bs lW.out)):w.heap.size≤gP));have nE:=ak.mk ((by rw[hg];exact Nat.ne_of_lt (gW (g:=fC) (o:=.cells #[.int .i64 dP,.int .i64 dw,.string bQ,.string dM,.slice iD bA.length eX] 34 (0,0)) (kz eB.out)):fC≠gP));have nG:=ak.mk ((by rw[hg];exact Nat.ne_of_gt (gW (g:=fC) (o:=.cells #[.int .i64 dP,.int .i64 dw,.string bQ,.string dM,.slice iD bA.length eX] 34 (0,0)) (kz eB.out)):gP≠fC));replace eB:=ak.mk (dI (g:=fC) (o:=.cells #[.int .i64 dP,.int .i64 dw,.string bQ,.string dM,.slice iD bA.length eX] 34 (0,0)) (kz eB.out) hb);replace HB:=ak.mk (aG (bs lW.out) hb);clear hb fU hg;have hnb10:=nE.out;have hnc10:=nG.out;have OY:w9.cell? ⟨fC,0,none⟩=some (.int .i64 dP):=(aC eB.out 0).trans rfl;have OZ:w9.cell? ⟨fC,1,none⟩=some (.int .i64 dw):=(aC eB.out 1).trans rfl;have O1:w9.cell? ⟨fC,2,none⟩=some (.string bQ):=(aC eB.out 2).trans rfl;have O4:w9.cell? ⟨fC,3,none⟩=some (.string dM):=(aC eB.out 3).trans rfl;have O5:w9.cell? ⟨fC,4,none⟩=some (.slice iD bA.length eX):=(aC eB.out 4).trans rfl;have O6:=ay eB.out 0;have O7:=ay eB.out 1;have O8:=ay eB.out 2;have O9:=ay eB.out 3;have Pb:=ay eB.out 4;have hcz12_0:w9.cell? ⟨gP,0,none⟩=some (.int .i64 sQ):=(aC gy.out 0).trans rfl;have hcz12_1:w9.cell? ⟨gP,1,none⟩=some (.int .i64 sS):=(aC gy.out 1).trans rfl;have hcz12_2:w9.cell? ⟨gP,2,none⟩=some (.string sU):=(aC gy.out 2).trans rfl;have hcz12_3:w9.cell? ⟨gP,3,none⟩=some (.string sV):=(aC gy.out 3).trans rfl;have hcz12_4:w9.cell? ⟨gP,4,none⟩=some (.slice Cm um.length Cn):=(aC gy.out 4).trans rfl;have hfz12_0:=ay gy.out 0;have hfz12_1:=ay gy.out 1;have hfz12_2:=ay gy.out 2;have hfz12_3:=ay gy.out 3;have hfz12_4:=ay gy.out 4)|(go_at_call 88;(with_reducible refine(gQ.calls k _ _ bA _ _ um t105 _ ?dz ?dA ?mX ?mY A7.out).mono ?_);(case dz=>exact cz (Kd.eF xV.out HB.out));(case dA=>exact LG.out);(case mX=>exact cz (Kd.eF HR1_4.out HB.out));(case mY=>exact HC1_4.out);rintro e w13 ⟨rfl,hb⟩;replace eB:=ak.mk (dI (g:=fC) (o:=.cells #[.int .i64 dP,.int .i64 dw,.string bQ,.string dM,.slice iD bA.length eX] 34 (0,0)) (kz eB.out) hb);replace gy:=ak.mk (dI (g:=gP) (o:=.cells #[.int .i64 sQ,.int .i64 sS,.string sU,.string sV,.slice Cm um.length Cn] 34 (0,0)) (kz gy.out) hb);replace HB:=ak.mk (aG (by repeat(first|(with_reducible first|exact HB.out|apply bY|apply bE|apply dh|refine aH ?_ lW.out|refine aH ?_ zu.out)|exact HB.out)) hb);(try clear hb);(try clear hb2);(try clear hk);(try clear hi)))
     go_ret;exact⟨by first|rfl|(simp[aJ,aM]<;>rfl)|(simp[*,aJ,aM]<;>rfl),by repeat(first|(with_reducible first|exact HB.out|apply bY|apply bE|apply dh|refine aH ?_ lW.out|refine aH ?_ zu.out)|exact HB.out)⟩
    ·rw[if_neg c6]at H
     have AA:(dM.toList==sV.toList)=false:=beq_eq_false_iff_ne.mpr c6;have c6b1:(dM.toList !=sV.toList)=true:=bne_iff_ne.mpr c6;obtain rfl:=Option.some.inj H;go_enter Tryz.func87,Tryz.ntmps87
     go_wp2_with(first|((with_reducible refine cu (N:=2) rfl ?_);refine eT ?hg (N:=2) ?hd (cs:=#[.int .i64 dP,.int .i64 dw,.string bQ,.string dM,.slice iD bA.length eX]) (t:=34) ?hr ?_;(case hd=>rfl);(case hg=>rfl);(case hr=>first|(go_simp;done)|(go_simp;rfl));intro fC hg w14 fU hb;have eB:=ak.mk (fU);have GW103:=ak.mk ((by rw[hg];exact(aU bz):w.heap.size≤fC));have lW:=ak.mk ((by rw[hg];exact(aU bz):w.heap.size≤fC));replace HB:=ak.mk (aG bz hb);clear hb fU hg)|((with_reducible refine cu (N:=3) rfl ?_);refine eT ?hg (N:=3) ?hd (cs:=#[.int .i64 sQ,.int .i64 sS,.string sU,.string sV,.slice Cm um.length Cn]) (t:=34) ?hr ?_;(case hd=>rfl);(case hg=>rfl);(case hr=>first|(go_simp;done)|(go_simp;rfl));intro gP hg w15 fU hb;have gy:=ak.mk (fU);have GW104:=ak.mk ((by rw[hg];exact(aU (bs lW.out)):w.heap.size≤gP));have zu:=ak.mk ((by rw[hg];exact(aU (bs lW.out)):w.heap.size≤gP));have nE:=ak.mk ((by rw[hg];exact Nat.ne_of_lt (gW (g:=fC) (o:=.cells #[.int .i64 dP,.int .i64 dw,.string bQ,.string dM,.slice iD bA.length eX] 34 (0,0)) (kz eB.out)):fC≠gP));have nG:=ak.mk ((by rw[hg];exact Nat.ne_of_gt (gW (g:=fC) (o:=.cells #[.int .i64 dP,.int .i64 dw,.string bQ,.string dM,.slice iD bA.length eX] 34 (0,0)) (kz eB.out)):gP≠fC));replace eB:=ak.mk (dI (g:=fC) (o:=.cells #[.int .i64 dP,.int .i64 dw,.string bQ,.string dM,.slice iD bA.length eX] 34 (0,0)) (kz eB.out) hb);replace HB:=ak.mk (aG (bs lW.out) hb);clear hb fU hg;have hnb16:=nE.out;have hnc16:=nG.out;have hcz17_0:w15.cell? ⟨fC,0,none⟩=some (.int .i64 dP):=(aC eB.out 0).trans rfl;have hcz17_1:w15.cell? ⟨fC,1,none⟩=some (.int .i64 dw):=(aC eB.out 1).trans rfl;have hcz17_2:w15.cell? ⟨fC,2,none⟩=some (.string bQ):=(aC eB.out 2).trans rfl;have hcz17_3:w15.cell? ⟨fC,3,none⟩=some (.string dM):=(aC eB.out 3).trans rfl;have hcz17_4:w15.cell? ⟨fC,4,none⟩=some (.slice iD bA.length eX):=(aC eB.out 4).trans rfl;have hfz17_0:=ay eB.out 0;have hfz17_1:=ay eB.out 1;have hfz17_2:=ay eB.out 2;have hfz17_3:=ay eB.out 3;have hfz17_4:=ay eB.out 4;have vF:w15.cell? ⟨gP,0,none⟩=some (.int .i64 sQ):=(aC gy.out 0).trans rfl;have vG:w15.cell? ⟨gP,1,none⟩=some (.int .i64 sS):=(aC gy.out 1).trans rfl;have vH:w15.cell? ⟨gP,2,none⟩=some (.string sU):=(aC gy.out 2).trans rfl;have vI:w15.cell? ⟨gP,3,none⟩=some (.string sV):=(aC gy.out 3).trans rfl;have vJ:w15.cell? ⟨gP,4,none⟩=some (.slice Cm um.length Cn):=(aC gy.out 4).trans rfl;have vK:=ay gy.out 0;have vL:=ay gy.out 1;have vM:=ay gy.out 2;have vN:=ay gy.out 3;have vO:=ay gy.out 4))
     go_ret;exact⟨by first|rfl|(simp[aJ,aM]<;>rfl)|(simp[*,aJ,aM]<;>rfl),by repeat(first|(with_reducible first|exact HB.out|apply bY|apply bE|apply dh|refine aH ?_ lW.out|refine aH ?_ zu.out)|exact HB.out)⟩
   ·rw[if_neg c5]at H
    have xD:(bQ.toList==sU.toList)=false:=beq_eq_false_iff_ne.mpr c5;have c5b1:(bQ.toList !=sU.toList)=true:=bne_iff_ne.mpr c5;obtain rfl:=Option.some.inj H;go_enter Tryz.func87,Tryz.ntmps87
    go_wp2_with(first|((with_reducible refine cu (N:=2) rfl ?_);refine eT ?hg (N:=2) ?hd (cs:=#[.int .i64 dP,.int .i64 dw,.string bQ,.string dM,.slice iD bA.length eX]) (t:=34) ?hr ?_;(case hd=>rfl);(case hg=>rfl);(case hr=>first|(go_simp;done)|(go_simp;rfl));intro fC hg w19 fU hb;have eB:=ak.mk (fU);have GW103:=ak.mk ((by rw[hg];exact(aU bz):w.heap.size≤fC));have lW:=ak.mk ((by rw[hg];exact(aU bz):w.heap.size≤fC));replace HB:=ak.mk (aG bz hb);clear hb fU hg)|((with_reducible refine cu (N:=3) rfl ?_);refine eT ?hg (N:=3) ?hd (cs:=#[.int .i64 sQ,.int .i64 sS,.string sU,.string sV,.slice Cm um.length Cn]) (t:=34) ?hr ?_;(case hd=>rfl);(case hg=>rfl);(case hr=>first|(go_simp;done)|(go_simp;rfl));intro gP hg w20 fU hb;have gy:=ak.mk (fU);have GW104:=ak.mk ((by rw[hg];exact(aU (bs lW.out)):w.heap.size≤gP));have zu:=ak.mk ((by rw[hg];exact(aU (bs lW.out)):w.heap.size≤gP));have nE:=ak.mk ((by rw[hg];exact Nat.ne_of_lt (gW (g:=fC) (o:=.cells #[.int .i64 dP,.int .i64 dw,.string bQ,.string dM,.slice iD bA.length eX] 34 (0,0)) (kz eB.out)):fC≠gP));have nG:=ak.mk ((by rw[hg];exact Nat.ne_of_gt (gW (g:=fC) (o:=.cells #[.int .i64 dP,.int .i64 dw,.string bQ,.string dM,.slice iD bA.length eX] 34 (0,0)) (kz eB.out)):gP≠fC));replace eB:=ak.mk (dI (g:=fC) (o:=.cells #[.int .i64 dP,.int .i64 dw,.string bQ,.string dM,.slice iD bA.length eX] 34 (0,0)) (kz eB.out) hb);replace HB:=ak.mk (aG (bs lW.out) hb);clear hb fU hg;have hnb21:=nE.out;have hnc21:=nG.out;have IQ:w20.cell? ⟨fC,0,none⟩=some (.int .i64 dP):=(aC eB.out 0).trans rfl;have IU:w20.cell? ⟨fC,1,none⟩=some (.int .i64 dw):=(aC eB.out 1).trans rfl;have IV:w20.cell? ⟨fC,2,none⟩=some (.string bQ):=(aC eB.out 2).trans rfl;have IW:w20.cell? ⟨fC,3,none⟩=some (.string dM):=(aC eB.out 3).trans rfl;have IX:w20.cell? ⟨fC,4,none⟩=some (.slice iD bA.length eX):=(aC eB.out 4).trans rfl;have IY:=ay eB.out 0;have IZ:=ay eB.out 1;have I4:=ay eB.out 2;have I5:=ay eB.out 3;have I6:=ay eB.out 4;have hcz23_0:w20.cell? ⟨gP,0,none⟩=some (.int .i64 sQ):=(aC gy.out 0).trans rfl;have hcz23_1:w20.cell? ⟨gP,1,none⟩=some (.int .i64 sS):=(aC gy.out 1).trans rfl;have hcz23_2:w20.cell? ⟨gP,2,none⟩=some (.string sU):=(aC gy.out 2).trans rfl;have hcz23_3:w20.cell? ⟨gP,3,none⟩=some (.string sV):=(aC gy.out 3).trans rfl;have hcz23_4:w20.cell? ⟨gP,4,none⟩=some (.slice Cm um.length Cn):=(aC gy.out 4).trans rfl;have hfz23_0:=ay gy.out 0;have hfz23_1:=ay gy.out 1;have hfz23_2:=ay gy.out 2;have hfz23_3:=ay gy.out 3;have hfz23_4:=ay gy.out 4))
    go_ret;exact⟨by first|rfl|(simp[aJ,aM]<;>rfl)|(simp[*,aJ,aM]<;>rfl),by repeat(first|(with_reducible first|exact HB.out|apply bY|apply bE|apply dh|refine aH ?_ lW.out|refine aH ?_ zu.out)|exact HB.out)⟩
  ·rw[if_neg c4]at H
   have nN:(dw==sS)=false:=beq_eq_false_iff_ne.mpr c4;have zJ:(dw !=sS)=true:=bne_iff_ne.mpr c4;obtain rfl:=Option.some.inj H;go_enter Tryz.func87,Tryz.ntmps87
   go_wp2_with(first|((with_reducible refine cu (N:=2) rfl ?_);refine eT ?hg (N:=2) ?hd (cs:=#[.int .i64 dP,.int .i64 dw,.string bQ,.string dM,.slice iD bA.length eX]) (t:=34) ?hr ?_;(case hd=>rfl);(case hg=>rfl);(case hr=>first|(go_simp;done)|(go_simp;rfl));intro fC hg w24 fU hb;have eB:=ak.mk (fU);have GW103:=ak.mk ((by rw[hg];exact(aU bz):w.heap.size≤fC));have lW:=ak.mk ((by rw[hg];exact(aU bz):w.heap.size≤fC));replace HB:=ak.mk (aG bz hb);clear hb fU hg)|((with_reducible refine cu (N:=3) rfl ?_);refine eT ?hg (N:=3) ?hd (cs:=#[.int .i64 sQ,.int .i64 sS,.string sU,.string sV,.slice Cm um.length Cn]) (t:=34) ?hr ?_;(case hd=>rfl);(case hg=>rfl);(case hr=>first|(go_simp;done)|(go_simp;rfl));intro gP hg w25 fU hb;have gy:=ak.mk (fU);have GW104:=ak.mk ((by rw[hg];exact(aU (bs lW.out)):w.heap.size≤gP));have zu:=ak.mk ((by rw[hg];exact(aU (bs lW.out)):w.heap.size≤gP));have nE:=ak.mk ((by rw[hg];exact Nat.ne_of_lt (gW (g:=fC) (o:=.cells #[.int .i64 dP,.int .i64 dw,.string bQ,.string dM,.slice iD bA.length eX] 34 (0,0)) (kz eB.out)):fC≠gP));have nG:=ak.mk ((by rw[hg];exact Nat.ne_of_gt (gW (g:=fC) (o:=.cells #[.int .i64 dP,.int .i64 dw,.string bQ,.string dM,.slice iD bA.length eX] 34 (0,0)) (kz eB.out)):gP≠fC));replace eB:=ak.mk (dI (g:=fC) (o:=.cells #[.int .i64 dP,.int .i64 dw,.string bQ,.string dM,.slice iD bA.length eX] 34 (0,0)) (kz eB.out) hb);replace HB:=ak.mk (aG (bs lW.out) hb);clear hb fU hg;have hnb26:=nE.out;have hnc26:=nG.out;have hcz27_0:w25.cell? ⟨fC,0,none⟩=some (.int .i64 dP):=(aC eB.out 0).trans rfl;have hcz27_1:w25.cell? ⟨fC,1,none⟩=some (.int .i64 dw):=(aC eB.out 1).trans rfl;have hcz27_2:w25.cell? ⟨fC,2,none⟩=some (.string bQ):=(aC eB.out 2).trans rfl;have hcz27_3:w25.cell? ⟨fC,3,none⟩=some (.string dM):=(aC eB.out 3).trans rfl;have hcz27_4:w25.cell? ⟨fC,4,none⟩=some (.slice iD bA.length eX):=(aC eB.out 4).trans rfl;have hfz27_0:=ay eB.out 0;have hfz27_1:=ay eB.out 1;have hfz27_2:=ay eB.out 2;have hfz27_3:=ay eB.out 3;have hfz27_4:=ay eB.out 4;have Pf:w25.cell? ⟨gP,0,none⟩=some (.int .i64 sQ):=(aC gy.out 0).trans rfl;have Pg:w25.cell? ⟨gP,1,none⟩=some (.int .i64 sS):=(aC gy.out 1).trans rfl;have Ph:w25.cell? ⟨gP,2,none⟩=some (.string sU):=(aC gy.out 2).trans rfl;have Pj:w25.cell? ⟨gP,3,none⟩=some (.string sV):=(aC gy.out 3).trans rfl;have Pk:w25.cell? ⟨gP,4,none⟩=some (.slice Cm um.length Cn):=(aC gy.out 4).trans rfl;have Pm:=ay gy.out 0;have Pn:=ay gy.out 1;have Po:=ay gy.out 2;have Pp:=ay gy.out 3;have Pq:=ay gy.out 4))
   go_ret;exact⟨by first|rfl|(simp[aJ,aM]<;>rfl)|(simp[*,aJ,aM]<;>rfl),by repeat(first|(with_reducible first|exact HB.out|apply bY|apply bE|apply dh|refine aH ?_ lW.out|refine aH ?_ zu.out)|exact HB.out)⟩
 ·rw[if_neg c3]at H
  have nD:(dP==sQ)=false:=beq_eq_false_iff_ne.mpr c3;have ze:(dP !=sQ)=true:=bne_iff_ne.mpr c3;obtain rfl:=Option.some.inj H;go_enter Tryz.func87,Tryz.ntmps87
  go_wp2_with(first|((with_reducible refine cu (N:=2) rfl ?_);refine eT ?hg (N:=2) ?hd (cs:=#[.int .i64 dP,.int .i64 dw,.string bQ,.string dM,.slice iD bA.length eX]) (t:=34) ?hr ?_;(case hd=>rfl);(case hg=>rfl);(case hr=>first|(go_simp;done)|(go_simp;rfl));intro fC hg w29 fU hb;have eB:=ak.mk (fU);have GW103:=ak.mk ((by rw[hg];exact(aU bz):w.heap.size≤fC));have lW:=ak.mk ((by rw[hg];exact(aU bz):w.heap.size≤fC));replace HB:=ak.mk (aG bz hb);clear hb fU hg)|((with_reducible refine cu (N:=3) rfl ?_);refine eT ?hg (N:=3) ?hd (cs:=#[.int .i64 sQ,.int .i64 sS,.string sU,.string sV,.slice Cm um.length Cn]) (t:=34) ?hr ?_;(case hd=>rfl);(case hg=>rfl);(case hr=>first|(go_simp;done)|(go_simp;rfl));intro gP hg w30 fU hb;have gy:=ak.mk (fU);have GW104:=ak.mk ((by rw[hg];exact(aU (bs lW.out)):w.heap.size≤gP));have zu:=ak.mk ((by rw[hg];exact(aU (bs lW.out)):w.heap.size≤gP));have nE:=ak.mk ((by rw[hg];exact Nat.ne_of_lt (gW (g:=fC) (o:=.cells #[.int .i64 dP,.int .i64 dw,.string bQ,.string dM,.slice iD bA.length eX] 34 (0,0)) (kz eB.out)):fC≠gP));have nG:=ak.mk ((by rw[hg];exact Nat.ne_of_gt (gW (g:=fC) (o:=.cells #[.int .i64 dP,.int .i64 dw,.string bQ,.string dM,.slice iD bA.length eX] 34 (0,0)) (kz eB.out)):gP≠fC));replace eB:=ak.mk (dI (g:=fC) (o:=.cells #[.int .i64 dP,.int .i64 dw,.string bQ,.string dM,.slice iD bA.length eX] 34 (0,0)) (kz eB.out) hb);replace HB:=ak.mk (aG (bs lW.out) hb);clear hb fU hg;have hnb31:=nE.out;have hnc31:=nG.out;have hcz32_0:w30.cell? ⟨fC,0,none⟩=some (.int .i64 dP):=(aC eB.out 0).trans rfl;have hcz32_1:w30.cell? ⟨fC,1,none⟩=some (.int .i64 dw):=(aC eB.out 1).trans rfl;have hcz32_2:w30.cell? ⟨fC,2,none⟩=some (.string bQ):=(aC eB.out 2).trans rfl;have hcz32_3:w30.cell? ⟨fC,3,none⟩=some (.string dM):=(aC eB.out 3).trans rfl;have hcz32_4:w30.cell? ⟨fC,4,none⟩=some (.slice iD bA.length eX):=(aC eB.out 4).trans rfl;have hfz32_0:=ay eB.out 0;have hfz32_1:=ay eB.out 1;have hfz32_2:=ay eB.out 2;have hfz32_3:=ay eB.out 3;have hfz32_4:=ay eB.out 4;have hcz33_0:w30.cell? ⟨gP,0,none⟩=some (.int .i64 sQ):=(aC gy.out 0).trans rfl;have hcz33_1:w30.cell? ⟨gP,1,none⟩=some (.int .i64 sS):=(aC gy.out 1).trans rfl;have hcz33_2:w30.cell? ⟨gP,2,none⟩=some (.string sU):=(aC gy.out 2).trans rfl;have hcz33_3:w30.cell? ⟨gP,3,none⟩=some (.string sV):=(aC gy.out 3).trans rfl;have hcz33_4:w30.cell? ⟨gP,4,none⟩=some (.slice Cm um.length Cn):=(aC gy.out 4).trans rfl;have hfz33_0:=ay gy.out 0;have hfz33_1:=ay gy.out 1;have hfz33_2:=ay gy.out 2;have hfz33_3:=ay gy.out 3;have hfz33_4:=ay gy.out 4))
  go_ret;exact⟨by first|rfl|(simp[aJ,aM]<;>rfl)|(simp[*,aJ,aM]<;>rfl),by repeat(first|(with_reducible first|exact HB.out|apply bY|apply bE|apply dh|refine aH ?_ lW.out|refine aH ?_ zu.out)|exact HB.out)⟩
end Go.Proofs.aj.W7
namespace Go.Proofs.aj.W7
open Go.RowKit Go.Proofs Go.Proofs.YtkcmghlhpbepcaaGreatDoor
theorem nT{w:World}{a:Addr}{v:Value}(h:w.cell? a=some v):∀o,(w.alloc o).cell? a=some v:=fun o=>aR h ((Below.refl _ w).alloc (Nat.le_refl _) o)
structure Rr where
 depth:Int
 kind:Int
 name:Txt
 data:Txt
 attrs:List (Txt×Txt)
 deriving DecidableEq
def prS(a:S36):Txt×Txt:=(a.f0.data.toList,a.f1.data.toList)
def mI(x:Rw):Rr:=⟨x.f0,x.f1,x.f2.data.toList,x.f3.data.toList,x.f4.map prS⟩
theorem w64{x:Int}(h0: -9223372036854775808≤x)(h1:x≤9223372036854775807):wrap64 x=x:=by unfold wrap64;omega
theorem qR(a b:ByteArray):a.toList=b.toList↔a.data.toList=b.data.toList:=by rw[Lib.toList_data,Lib.toList_data]
theorem bytes_beq(a b:ByteArray):(a.toList==b.toList)=(a.data.toList==b.data.toList):=by rw[Lib.toList_data,Lib.toList_data]
theorem attrs_l0(xs ys:List S36)(hx:xs.length≤9223372036854775807)(hy:ys.length≤9223372036854775807):∀(d i k:Nat),min xs.length ys.length - i≤d→i≤min xs.length ys.length→d<k→
 gQ.l0 k xs ys ((min xs.length ys.length:Nat):Int) i=some (decide ((xs.drop i).map prS=(ys.drop i).map prS)):=by
 intro d
 induction d with
 |zero=>
  intro i k hd hi hk;obtain⟨k,rfl⟩:∃m,k=m+1:=⟨k - 1,by omega⟩
  simp only[gQ.l0];rw[if_neg (by omega)]
  by_cases h:xs.length=ys.length
  ·rw[List.drop_of_length_le (by omega),List.drop_of_length_le (by omega)]
   simp[h]
  ·have e1:((xs.length:Int)==(ys.length:Int))=false:=by rw[beq_eq_false_iff_ne];omega
   have e2:¬(xs.drop i).map prS=(ys.drop i).map prS:=fun e=>by have:=congrArg List.length e;simp at this;omega
   rw[e1,decide_eq_false e2]
 |succ d ih=>
  intro i k hd hi hk;obtain⟨k,rfl⟩:∃m,k=m+1:=⟨k - 1,by omega⟩
  by_cases hlt:i<min xs.length ys.length
  ·have hxi:i<xs.length:=by omega
   have hyi:i<ys.length:=by omega
   have ex:bg xs i=xs[i]:=by simp[bg,hxi]
   have ey:bg ys i=ys[i]:=by simp[bg,hyi]
   simp only[gQ.l0];rw[if_pos (by omega),if_pos (by omega),if_pos (by omega),if_pos (by omega),ex,ey,bytes_beq,bytes_beq,List.drop_eq_getElem_cons hxi,List.drop_eq_getElem_cons hyi,List.map_cons,List.map_cons]
   by_cases he:prS xs[i]=prS ys[i]
   ·have h1:(xs[i].f0.data.toList==ys[i].f0.data.toList)=true:=by rw[beq_iff_eq];exact congrArg Prod.fst he
    have h2:(xs[i].f1.data.toList==ys[i].f1.data.toList)=true:=by rw[beq_iff_eq];exact congrArg Prod.snd he
    rw[h1,h2];simp only[Bool.not_true,Bool.or_self,Bool.false_eq_true,if_false];rw[show wrap64 ((i:Int)+1)=((i+1:Nat):Int)from by rw[w64 (by omega) (by omega)];omega,ih (i+1) k (by omega) (by omega) (by omega),he]
    congr 1
    simp
   ·have h1:(!(xs[i].f0.data.toList==ys[i].f0.data.toList)|| !(xs[i].f1.data.toList==ys[i].f1.data.toList))=true:=by
     by_cases h2:xs[i].f0.data.toList=ys[i].f0.data.toList
     ·have h3:¬xs[i].f1.data.toList=ys[i].f1.data.toList:=fun h3=>he (by unfold prS;rw[h2,h3])
      rw[Bool.or_eq_true];exact .inr (by rw[Bool.not_eq_true',beq_eq_false_iff_ne];exact h3)
     ·rw[Bool.or_eq_true];exact .inl (by rw[Bool.not_eq_true',beq_eq_false_iff_ne];exact h2)
    rw[h1,if_pos rfl,decide_eq_false (fun e=>he (List.cons.inj e).1)]
  ·have hii:i=min xs.length ys.length:=by omega
   have:=ih i (k+1) (by omega) hi (by omega);exact this
theorem mn_nat(x y:Nat):Go.Proofs.ah.aD.mn (x:Int) (y:Int)=((min x y:Nat):Int):=by unfold Go.Proofs.ah.aD.mn;split<;>omega
theorem attrs_f(xs ys:List S36)(hx:xs.length≤9223372036854775807)(hy:ys.length≤9223372036854775807)(k:Nat)(hk:xs.length<k):gQ.f k xs ys=some (decide (xs.map prS=ys.map prS)):=by
 unfold gQ.f;rw[mn_nat];exact attrs_l0 xs ys hx hy (min xs.length ys.length) 0 k (by omega) (by omega) (by omega)
theorem same1_f(x y:Rw)(hx:x.f4.length≤9223372036854775807)(hy:y.f4.length≤9223372036854775807)(k:Nat)(hk:x.f4.length<k):
 qo.f k x.f0 x.f1 x.f2 x.f3 x.f4 y.f0 y.f1 y.f2 y.f3 y.f4=some (decide (mI x=mI y)):=by
 unfold qo.f
 by_cases h0:x.f0=y.f0
 ·rw[if_pos h0]
  by_cases h1:x.f1=y.f1
  ·rw[if_pos h1]
   by_cases h2:x.f2.data.toList=y.f2.data.toList
   ·rw[if_pos ((qR _ _).2 h2)]
    by_cases h3:x.f3.data.toList=y.f3.data.toList
    ·rw[if_pos ((qR _ _).2 h3),attrs_f _ _ hx hy k hk,Option.bind_some]
     congr 1
     rw[decide_eq_decide];unfold mI;simp[h0,h1,h2,h3]
    ·rw[if_neg (fun h=>h3 ((qR _ _).1 h)),decide_eq_false (fun e=>h3 (congrArg Rr.data e))]
   ·rw[if_neg (fun h=>h2 ((qR _ _).1 h)),decide_eq_false (fun e=>h2 (congrArg Rr.name e))]
  ·rw[if_neg h1,decide_eq_false (fun e=>h1 (congrArg Rr.kind e))]
 ·rw[if_neg h0,decide_eq_false (fun e=>h0 (congrArg Rr.depth e))]
theorem NK(xs ys:List Rw)(A B:Option Addr)(c d:Nat)(w:World)(hx:k34.C w A xs.length xs)(hy:k34.C w B ys.length ys)(b:Bool)(hb:decide (xs.map mI=ys.map mI)=b):
 Calls Tryz.prog 86 #[.slice A xs.length c,.slice B ys.length d,.func (.func 87) #[] #[]] w fun e w'=>e=.returned (.bool b)∧Below w.heap.size w w':=by
 have hxl:=hx.2.1;have hyl:=hy.2.1
 by_cases hlen:xs.length=ys.length
 ·have hlI:((xs.length:Int) !=(ys.length:Int))=false:=by rw[bne_eq_false_iff_eq];omega
  have hlI2:((ys.length:Int) !=(ys.length:Int))=false:=by simp
  go_enter Tryz.func86,Tryz.ntmps86;replace hlen:=Lib.hid hlen;go_wp2
  go_loopw [17] (fun v wr=>∃(k:Nat),v=.int .i64 k∧k≤xs.length∧Hid (∀j (h1:j<xs.length) (h2:j<ys.length),j<k→mI xs[j]=mI ys[j])∧Below w.heap.size w wr) (fun v _=>xs.length - (intOf v).toNat)
  case atStart=>exact⟨0,rfl,by omega,fun j _ _ h=>by omega,Below.refl _ _⟩
  case round=>
   obtain⟨k,rfl,hk,hno,hB⟩:=hrel;have hle:=hlen.out
   by_cases hlt:k<xs.length
   ·have hlty:k<ys.length:=by omega
    obtain⟨g,o,A4,c4,rfl,z0,z1,z2,z3,z4,l4,g4⟩:=uY (Go.Proofs.ah.aD.Kd.eF hx hB) k hlt;obtain⟨g',o',B4,d4,rfl,y0,y1,y2,y3,y4,m4,h4⟩:=uY (Go.Proofs.ah.aD.Kd.eF hy hB) k hlty
    have hsm:Hid (∀W,Below wr.heap.size wr W→Calls Tryz.prog 87 #[.agg #[.int .i64 xs[k].f0,.int .i64 xs[k].f1,.string xs[k].f2,.string xs[k].f3,.slice A4 xs[k].f4.length c4],.agg #[.int .i64 ys[k].f0,.int .i64 ys[k].f1,.string ys[k].f2,.string ys[k].f3,.slice B4 ys[k].f4.length d4]] W fun e w'=>e=.returned (.bool (decide (mI xs[k]=mI ys[k])))∧Below W.heap.size W w'):=fun W hW=>
     qo.calls (xs[k].f4.length+1) _ _ _ _ _ _ _ _ _ _ _ _ _ _ _ W (Go.Proofs.ah.aD.Kd.eF g4 hW) l4 (Go.Proofs.ah.aD.Kd.eF h4 hW) m4 (same1_f xs[k] ys[k] g4.2.1 h4.2.1 _ (by omega))
    have hyes:Hid (mI xs[k]=mI ys[k]→∀j (h1:j<xs.length) (h2:j<ys.length),j<k+1→mI xs[j]=mI ys[j]):=fun h j h1 h2 hj=>by
     by_cases e:j=k
     ·subst e;exact h
     ·exact hno.out j h1 h2 (by omega)
    have hnot:Hid (¬mI xs[k]=mI ys[k]→b=false):=fun h=>by
     rw[←hb];refine decide_eq_false (fun e=>h ?_);have e2:(xs.map mI)[k]?=(ys.map mI)[k]?:=by rw[e]
     rw[List.getElem?_map,List.getElem?_map,List.getElem?_eq_getElem hlt,List.getElem?_eq_getElem hlty]at e2;simpa using e2
    by_cases he:mI xs[k]=mI ys[k]
    ·skip
     rw[decide_eq_true he]at hsm;have hy2:=Lib.hid (hyes.out he);clear he hyes hnot hno hb hle;generalize xs[k]=x at *;generalize ys[k]=y at *;obtain⟨xd,xk,xn,xt,xa⟩:=x;obtain⟨yd,yk,yn,yt,ya⟩:=y;simp only at z0 z1 z2 z3 z4 y0 y1 y2 y3 y4 hsm;have Y0:=nT y0;have Y1:=nT y1;have Y2:=nT y2;have Y3:=nT y3;have Y4:=nT y4
     go_wp2_with(go_at_call 87;((with_reducible refine(hsm.out _ (((Below.refl _ _).alloc (Nat.le_refl _) _).alloc (by rw[World.size_alloc];omega) _)).mono ?_);rintro e w1 ⟨rfl,hb1⟩;have hB1:=bC ((hB.alloc hB.size _).alloc (by rw[World.size_alloc];have:=hB.size;omega) _) (by rw[World.size_alloc,World.size_alloc];have:=hB.size;omega) hb1))
     exact⟨⟨k+1,rfl,by omega,hy2,hB1⟩,by simp[intOf];omega⟩
    ·skip
     rw[decide_eq_false he]at hsm;have hbf:=hnot.out he;clear he hyes hnot hno hb hle;generalize xs[k]=x at *;generalize ys[k]=y at *;obtain⟨xd,xk,xn,xt,xa⟩:=x;obtain⟨yd,yk,yn,yt,ya⟩:=y;simp only at z0 z1 z2 z3 z4 y0 y1 y2 y3 y4 hsm;have Y0:=nT y0;have Y1:=nT y1;have Y2:=nT y2;have Y3:=nT y3;have Y4:=nT y4
     go_wp2_with(go_at_call 87;((with_reducible refine(hsm.out _ (((Below.refl _ _).alloc (Nat.le_refl _) _).alloc (by rw[World.size_alloc];omega) _)).mono ?_);rintro e w1 ⟨rfl,hb1⟩;have hB1:=bC ((hB.alloc hB.size _).alloc (by rw[World.size_alloc];have:=hB.size;omega) _) (by rw[World.size_alloc,World.size_alloc];have:=hB.size;omega) hb1))
     go_ret;rw[hbf];exact⟨rfl,hB1⟩
   ·have hbt:b=true:=by
     rw[←hb];refine decide_eq_true (List.ext_getElem (by simp;omega) (fun j h1 h2=>?_));simp only[List.length_map]at h1 h2;rw[List.getElem_map,List.getElem_map];exact hno.out j h1 h2 (by omega)
    clear hno hb hle;subst hbt;go_wp2;go_ret;exact⟨rfl,hB⟩
 ·have hbf:b=false:=by rw[←hb];exact decide_eq_false (fun e=>hlen (by have:=congrArg List.length e;simpa using this))
  have hlI:((xs.length:Int) !=(ys.length:Int))=true:=by rw[bne_iff_ne];omega
  have hlI2:((xs.length:Int)==(ys.length:Int))=false:=by rw[beq_eq_false_iff_ne];omega
  clear hb;subst hbf;go_enter Tryz.func86,Tryz.ntmps86;go_wp2;go_ret;exact⟨rfl,Below.refl _ _⟩
def pQ.f(l0 l1:List Rw):Option Bool:=some (decide (l0.map mI=l1.map mI))
theorem pQ.calls(A0:Option Addr)(c0:Nat)(l0:List Rw)(A1:Option Addr)(c1:Nat)(l1:List Rw)(r:Bool)(w:World)(hr0:k34.C w A0 l0.length l0)(hc0:l0.length≤c0)(hr1:k34.C w A1 l1.length l1)(hc1:l1.length≤c1)(h:pQ.f l0 l1=some r):
 Calls Tryz.prog 40 #[.slice A0 l0.length c0,.slice A1 l1.length c1] w fun e w'=>e=.returned (.bool r)∧Below w.heap.size w w':=by
 have hi:=Lib.hid (NK l0 l1 A0 A1 c0 c1 w hr0 hr1 r (Option.some.inj h));clear h;go_enter Tryz.func40,Tryz.ntmps40
 go_wp2_with(go_at_call 86;((with_reducible refine hi.out.mono ?_);rintro e w1 ⟨rfl,hb1⟩))
 go_ret;exact⟨rfl,hb1⟩
end Go.Proofs.aj.W7
namespace Go.Proofs.aj.W7
open Go.RowKit Go.Proofs.ah.aD Go.Proofs.ah.bG Go.Proofs.ah.bR
attribute [local go_sem] dD dF dV dW bU bV dG dH
attribute [local go_sem high] eqA36
def dY.l0:Nat→List (S36)→List (S36)→Int→Option (Bool)
 |0,_,_,_=>none
 |k+1,x0,x1,x5=>if x5<(x0.length:Int)then(if 0≤x5 then(if x5<(x1.length:Int)then(if(!((((bg x0 x5).f0).toList)==(((bg x1 x5).f0).toList))||(!((((bg x0 x5).f1).toList)==(((bg x1 x5).f1).toList))))=true then(some false)else(dY.l0 k x0 x1 (wrap64 (x5+1))))else(none))else(none))else(some true)
def dY.f(k:Nat)(l0 l1:List (S36)):Option (Bool):=if(l0.length:Int)=(l1.length:Int)then(dY.l0 k l0 l1 0)else(some false)
theorem dY.calls(k:Nat)(A0:Option Addr)(c0:Nat)(l0:List (S36))(A1:Option Addr)(c1:Nat)(l1:List (S36))(r:Bool)(w:World)(hr0:Kd.C k36 w A0 l0.length l0)(hc0:l0.length≤c0)(hr1:Kd.C k36 w A1 l1.length l1)(hc1:l1.length≤c1)(h:dY.f k l0 l1=some r):
 Calls Tryz.prog 71 #[.slice A0 l0.length c0,.slice A1 l1.length c1] w fun e w'=>e=.returned (.bool r)∧bK w w':=by
 have hu36:=Tryz.underlying36;have HR0:=ak.mk hr0;have HC0:=ak.mk hc0;clear hr0 hc0;have HR1:=ak.mk hr1;have HC1:=ak.mk hc1;clear hr1 hc1;have H:(if(l0.length:Int)=(l1.length:Int)then(dY.l0 k l0 l1 0)else(some false))=some r:=h;clear h
 by_cases c3:(l0.length:Int)=(l1.length:Int)
 ·rw[if_pos c3]at H
  have nD:((l0.length:Int)==(l1.length:Int))=true:=beq_iff_eq.mpr c3;have ze:((l0.length:Int) !=(l1.length:Int))=false:=bne_eq_false_iff_eq.mpr c3;have c3b2:(l0.length==l1.length)=true:=by first|simpa using c3|(simp at c3⊢;omega)
  clear c3;have H':=ak.mk H;clear H;go_enter Tryz.func71,Tryz.ntmps71;go_wp2
  repeat(go_quiet (fail);try go_wp2)
  go_loopg [5] k (fun kq v5 w'=>∃(iW:Int),v5=.int .i64 iW∧ak (dY.l0 kq l0 l1 iW=some r)∧ak (kq≤k)∧bK w w')
  case atStart=>exact⟨(0),q'c,H',⟨Nat.le_refl _⟩,by repeat(first|exact bK.refl _|apply bK.step)⟩
  case round=>
   clear H'
   try clear c1
   try clear p2
   try clear c3
   try clear nD
   try clear ze
   try clear c3b2
   obtain⟨iW,rfl,HA,HK1,⟨m1,rfl⟩⟩:=hrel;cases gk with
   |zero=>exact absurd HA.out (by simp[dY.l0])
   |succ k1=>
    have H:=HA.out;clear HA;simp only[dY.l0]at H
    by_cases c4:iW<(l0.length:Int)
    ·rw[if_pos c4]at H
     have nN:decide (iW<(l0.length:Int))=true:=decide_eq_true c4;clear c4
     by_cases c5:0≤iW
     ·rw[if_pos c5]at H
      have xD:decide (0≤iW)=true:=decide_eq_true c5;clear c5
      by_cases c6:iW<(l1.length:Int)
      ·rw[if_pos c6]at H
       have AA:decide (iW<(l1.length:Int))=true:=decide_eq_true c6;clear c6
       by_cases c7:(!((((bg l0 iW).f0).toList)==(((bg l1 iW).f0).toList))||(!((((bg l0 iW).f1).toList)==(((bg l1 iW).f1).toList))))=true
       ·rw[if_pos c7]at H
        have c7b0:(!((((bg l0 iW).f0).toList)==(((bg l1 iW).f0).toList))||(!((((bg l0 iW).f1).toList)==(((bg l1 iW).f1).toList))))=true:=c7;clear c7;obtain rfl:=Option.some.inj H;have p106:0≤(iW:Int):=q'b;have q106:iW<(l0.length:Int):=q'b;obtain⟨ad106,e106,hx106_0,hx106_1⟩:=l7 HR0.out iW p106 q106;cases e106;replace p106:=eq_true p106;replace q106:=eq_true q106;have p107:0≤(iW:Int):=q'b;have q107:iW<(l1.length:Int):=q'b;obtain⟨ad107,e107,hx107_0,hx107_1⟩:=l7 HR1.out iW p107 q107;cases e107;replace p107:=eq_true p107;replace q107:=eq_true q107;go_wp2
        repeat(go_quiet (fail);try go_wp2)
        go_ret;exact⟨q'c,by repeat(first|exact bK.refl _|apply bK.step)⟩
       ·rw[if_neg c7]at H
        have c7b0:(!((((bg l0 iW).f0).toList)==(((bg l1 iW).f0).toList))||(!((((bg l0 iW).f1).toList)==(((bg l1 iW).f1).toList))))=false:=by simpa using c7
        clear c7;have H':=ak.mk H;clear H;have p106:0≤(iW:Int):=q'b;have q106:iW<(l0.length:Int):=q'b;obtain⟨ad106,e106,hx106_0,hx106_1⟩:=l7 HR0.out iW p106 q106;cases e106;replace p106:=eq_true p106;replace q106:=eq_true q106;have p107:0≤(iW:Int):=q'b;have q107:iW<(l1.length:Int):=q'b;obtain⟨ad107,e107,hx107_0,hx107_1⟩:=l7 HR1.out iW p107 q107;cases e107;replace p107:=eq_true p107;replace q107:=eq_true q107;go_wp2
        repeat(go_quiet (fail);try go_wp2)
        go_roundg k1
        case measure=>have:=HK1.out;omega
        case rel=>exact⟨(wrap64 (iW+1)),q'c,H',⟨by have:=HK1.out;omega⟩,by repeat(first|exact bK.refl _|apply bK.step)⟩
      ·rw[if_neg c6]at H
       exact absurd H (by simp)
     ·rw[if_neg c5]at H
      exact absurd H (by simp)
    ·rw[if_neg c4]at H
     have nN:decide (iW<(l0.length:Int))=false:=decide_eq_false c4;clear c4;obtain rfl:=Option.some.inj H;go_wp2
     repeat(go_quiet (fail);try go_wp2)
     go_ret;exact⟨q'c,by repeat(first|exact bK.refl _|apply bK.step)⟩
 ·rw[if_neg c3]at H
  have nD:((l0.length:Int)==(l1.length:Int))=false:=beq_eq_false_iff_ne.mpr c3;have ze:((l0.length:Int) !=(l1.length:Int))=true:=bne_iff_ne.mpr c3;have c3b2:(l0.length==l1.length)=false:=by first|simpa using c3|(simp at c3⊢;omega)
  obtain rfl:=Option.some.inj H;go_enter Tryz.func71,Tryz.ntmps71;go_wp2
  repeat(go_quiet (fail);try go_wp2)
  go_ret;exact⟨q'c,by repeat(first|exact bK.refl _|apply bK.step)⟩
end Go.Proofs.aj.W7
