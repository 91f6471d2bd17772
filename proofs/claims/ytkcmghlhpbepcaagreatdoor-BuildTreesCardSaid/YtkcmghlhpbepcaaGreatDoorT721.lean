/- Lemmas and walks, part 21. -/
import Derived.Test.YtkcmghlhpbepcaaGreatDoorT720
set_option linter.unusedVariables false
set_option linter.unusedSimpArgs false
set_option maxHeartbeats 8000000
set_option maxRecDepth 100000
namespace Go.Proofs.aj.W7
open Go.RowKit Go.Proofs.ah.aG Go.Proofs.ah.bX Go.Proofs.ah.dN
attribute [local go_sem] dZ d9 eU eX dS dU eu eB
def gq.l0:Nat→Int→List (S34)→List (S34)→Int→Int→Option ((List (S34)))
 |0,_,_,_,_,_=>none
 |k+1,x1,x5,x8,x9,x10=>if x10<x9 then(if 0≤x10 then(if x10<(x8.length:Int)then((pX.f ((bJ x8 x10).f4)).bind fun rF=>(if x5.length<1954687338268 then(gq.l0 k x1 (x5++[(⟨wrap64 (((bJ x8 x10).f0)+x1),(bJ x8 x10).f1,(bJ x8 x10).f2,(bJ x8 x10).f3,rF⟩:S34)]) x8 x9 (wrap64 (x10+1)))else(none)))else(none))else(none))else(some x5)
def gq.f(k:Nat)(l0:List (S34))(a1:Int):Option ((List (S34))):=gq.l0 k a1 ([] :List (S34)) l0 (l0.length:Int) 0
theorem gq.calls(k:Nat)(A0:Option Addr)(c0:Nat)(l0:List (S34))(a1:Int)(r:List (S34))(w:World)(hr0:Kd.C k34 w A0 l0.length l0)(hc0:l0.length≤c0)(h:gq.f k l0 a1=some r):
 Calls Tryz.prog 89 #[.slice A0 l0.length c0,.int .i64 a1] w fun e w'=>∃v0_:Value,e=.returned (v0_)∧Kd.R k34 34 w' w.heap.size (fun _=>True) v0_ r∧Below w.heap.size w w':=by
 have hu34:=Tryz.underlying34;have HR0:=ak.mk hr0;have HC0:=ak.mk hc0;clear hr0 hc0;have HB:=ak.mk (Below.refl w.heap.size w);have H:(gq.l0 k a1 ([] :List (S34)) l0 (l0.length:Int) 0)=some r:=h;clear h;have H':=ak.mk H;clear H;go_enter Tryz.func89,Tryz.ntmps89;go_wp2
 go_loopg [5,10] k (fun kq v5 v10 w'=>∃(fC:List (S34)) (dI:Int),v10=.int .i64 dI∧ak (gq.l0 kq a1 fC l0 (l0.length:Int) dI=some r)∧ak (kq≤k)∧ak (Kd.R k34 34 w' w.heap.size (fun _=>True) v5 fC)∧ak (Below w.heap.size w w'))
 case atStart=>exact⟨(([] :List (S34))),(0),q'c,H',⟨Nat.le_refl _⟩,⟨by first|exact Kd.iJ _ _ _ _ _|exact Kd.uU _ _ _ _ _|exact Kd.uV _ _ _ _ _|exact Kd.uW _ _ _ _ _|exact Kd.uX _ _ _ _ _⟩,⟨bz⟩⟩
 case round=>
  clear H'
  try clear p2
  obtain⟨fC,dI,rfl,HA,HK1,dh,HB⟩:=hrel;cases gk with
  |zero=>exact absurd HA.out (by simp[gq.l0])
  |succ k1=>
   have H:=HA.out;clear HA;simp only[gq.l0]at H
   by_cases c3:dI<(l0.length:Int)
   ·rw[if_pos c3]at H
    have lI:decide (dI<(l0.length:Int))=true:=decide_eq_true c3;clear c3
    by_cases c4:0≤dI
    ·rw[if_pos c4]at H
     have zV:decide (0≤dI)=true:=decide_eq_true c4;clear c4
     by_cases c5:dI<(l0.length:Int)
     ·rw[if_pos c5]at H
      have zW:decide (dI<(l0.length:Int))=true:=decide_eq_true c5;clear c5;replace H:=Option.bind_eq_some_iff.mp H;obtain⟨rF,A60,H⟩:=H;replace H:(if fC.length<1954687338268 then(gq.l0 k1 a1 (fC++[(⟨wrap64 (((bJ l0 dI).f0)+a1),(bJ l0 dI).f1,(bJ l0 dI).f2,(bJ l0 dI).f3,rF⟩:S34)]) l0 (l0.length:Int) (wrap64 (dI+1)))else(none))=some r:=H;have A6:=ak.mk A60;clear A60
      by_cases c7:fC.length<1954687338268
      ·rw[if_pos c7]at H
       have LMc7:=ak.mk c7;clear c7;obtain⟨y118,Gd⟩:∃y_:List (S34),y_=(fC++[(⟨wrap64 (((bJ l0 dI).f0)+a1),(bJ l0 dI).f1,(bJ l0 dI).f2,(bJ l0 dI).f3,rF⟩:S34)]):=⟨_,rfl⟩
       replace H:(gq.l0 k1 a1 y118 l0 (l0.length:Int) (wrap64 (dI+1)))=some r:=by first|(rw[Gd];with_reducible exact H)|(have H2_:=(Option.bind_some _ _).symm.trans H;rw[Gd];with_reducible exact H2_)|(have H2_:=(Option.bind_some _ _).symm.trans H;with_reducible exact H2_)|with_reducible exact H|(rw[Gd];exact H)|exact H
       have Ny118:=ak.mk Gd;clear Gd;have H':=ak.mk H;clear H;have p113:0≤(dI:Int):=q'b;have q113:dI<(l0.length:Int):=q'b;obtain⟨ad113,wX,wY,e113,DV,DW,DX,DY,DZ,Jg,Jh⟩:=qH HR0.out dI p113 q113;cases e113;replace DV:=(HB.out.cell (World.block_lt_of_cell? w _ DV)).trans DV;replace DW:=(HB.out.cell (World.block_lt_of_cell? w _ DW)).trans DW;replace DX:=(HB.out.cell (World.block_lt_of_cell? w _ DX)).trans DX;replace DY:=(HB.out.cell (World.block_lt_of_cell? w _ DY)).trans DY;replace DZ:=(HB.out.cell (World.block_lt_of_cell? w _ DZ)).trans DZ;have HR113_4:=ak.mk Jh;have HC113_4:=ak.mk Jg;clear Jh Jg;replace p113:=eq_true p113;replace q113:=eq_true q113
       go_wp2_with(first|((with_reducible refine bY (N:=7) rfl ?_);refine wV ?hg (N:=7) ?hd (cs:=#[.int .i64 0,.int .i64 0,.string (⟨#[]⟩:Bt),.string (⟨#[]⟩:Bt),.slice none 0 0]) (t:=34) ?hr ?_;(case hd=>rfl);(case hg=>rfl);(case hr=>first|(go_simp;done)|(go_simp;rfl));intro iy hg w8 hbox hb;have gJ:=ak.mk (hbox);have GW114:=ak.mk ((by rw[hg];exact(aJ bz):w.heap.size≤iy));have Aq:=ak.mk ((by rw[hg];exact(aJ bz):w.heap.size≤iy));replace dh:=ak.mk (Kd.dR (Kd.R_elderB (rz dh.out) iy (Nat.le_of_eq hg.symm)) hb);replace HB:=ak.mk (aN bz hb);clear hb hbox hg;have hcz9_0:w8.cell? ⟨iy,0,none⟩=some (.int .i64 0):=(aA gJ.out 0).trans rfl;have hcz9_1:w8.cell? ⟨iy,1,none⟩=some (.int .i64 0):=(aA gJ.out 1).trans rfl;have hcz9_2:w8.cell? ⟨iy,2,none⟩=some (.string (⟨#[]⟩:Bt)):=(aA gJ.out 2).trans rfl;have hcz9_3:w8.cell? ⟨iy,3,none⟩=some (.string (⟨#[]⟩:Bt)):=(aA gJ.out 3).trans rfl;have hcz9_4:w8.cell? ⟨iy,4,none⟩=some (.slice none 0 0):=(aA gJ.out 4).trans rfl;have hfz9_0:=aU gJ.out 0;have hfz9_1:=aU gJ.out 1;have hfz9_2:=aU gJ.out 2;have hfz9_3:=aU gJ.out 3;have hfz9_4:=aU gJ.out 4)|((with_reducible refine bC (f:=132) rfl ?_);refine dH (some 21) rfl rfl Tryz.func132 (by kernel_rfl) rfl #[.slice wX ((bJ l0 dI).f4).length wY] rfl q'a ?_;(with_reducible refine(pX.calls _ _ ((bJ l0 dI).f4) rF _ ?dB ?dD A6.out).mono ?_);(case dB=>exact Kd.bS HR113_4.out (bs Aq.out));(case dD=>exact HC113_4.out);rintro e w10 ⟨v116,rfl,ho0,hb⟩;refine⟨_,rfl,?_⟩;have BX:=ak.mk (Kd.bM ho0 (aJ (bs Aq.out)));replace dh:=ak.mk (Kd.bP (by(with_reducible repeat(first|apply Kd.aZ|apply Kd.bB|apply Kd.bq));exact(Kd.dz (Kd.jk (p:=⟨iy,0,none⟩) (Kd.jk (p:=⟨iy,4,none⟩) (Kd.jk (p:=⟨iy,3,none⟩) (Kd.jk (p:=⟨iy,2,none⟩) (Kd.jk (p:=⟨iy,1,none⟩) (Kd.jk (p:=⟨iy,0,none⟩) (Kd.dz dh.out (fun k_ hk=>(⟨hk,hk.2⟩:_∧k_≠iy))) (fun _ hk=>hk.2) (.int .i64 ((bJ l0 dI).f0))) (fun _ hk=>hk.2) (.int .i64 ((bJ l0 dI).f1))) (fun _ hk=>hk.2) (.string ((bJ l0 dI).f2))) (fun _ hk=>hk.2) (.string ((bJ l0 dI).f3))) (fun _ hk=>hk.2) (.slice wX ((bJ l0 dI).f4).length wY)) (fun _ hk=>hk.2) (.int .i64 (wrap64 (((bJ l0 dI).f0)+a1)))) (fun _ h_=>h_.1))) (Kd.cK ho0) hb);replace gJ:=ak.mk (kF (g:=iy) (o:=.cells #[.int .i64 (wrap64 (((bJ l0 dI).f0)+a1)),.int .i64 ((bJ l0 dI).f1),.string ((bJ l0 dI).f2),.string ((bJ l0 dI).f3),.slice wX ((bJ l0 dI).f4).length wY] 34 (0,0)) (by(with_reducible repeat(first|refine cO ?_ _|refine cB ?_ |refine bT ?_ _));refine fT (cs:=#[.int .i64 ((bJ l0 dI).f0),.int .i64 ((bJ l0 dI).f1),.string ((bJ l0 dI).f2),.string ((bJ l0 dI).f3),.slice wX ((bJ l0 dI).f4).length wY]) ?_ 0 _ rfl;(with_reducible repeat(first|refine cO ?_ _|refine cB ?_ |refine bT ?_ _));refine fT (cs:=#[.int .i64 ((bJ l0 dI).f0),.int .i64 ((bJ l0 dI).f1),.string ((bJ l0 dI).f2),.string ((bJ l0 dI).f3),.slice none 0 0]) ?_ 4 _ rfl;(with_reducible repeat(first|refine cO ?_ _|refine cB ?_ |refine bT ?_ _));refine fT (cs:=#[.int .i64 ((bJ l0 dI).f0),.int .i64 ((bJ l0 dI).f1),.string ((bJ l0 dI).f2),.string (⟨#[]⟩:Bt),.slice none 0 0]) ?_ 3 _ rfl;(with_reducible repeat(first|refine cO ?_ _|refine cB ?_ |refine bT ?_ _));refine fT (cs:=#[.int .i64 ((bJ l0 dI).f0),.int .i64 ((bJ l0 dI).f1),.string (⟨#[]⟩:Bt),.string (⟨#[]⟩:Bt),.slice none 0 0]) ?_ 2 _ rfl;(with_reducible repeat(first|refine cO ?_ _|refine cB ?_ |refine bT ?_ _));refine fT (cs:=#[.int .i64 ((bJ l0 dI).f0),.int .i64 0,.string (⟨#[]⟩:Bt),.string (⟨#[]⟩:Bt),.slice none 0 0]) ?_ 1 _ rfl;(with_reducible repeat(first|refine cO ?_ _|refine cB ?_ |refine bT ?_ _));refine fT (cs:=#[.int .i64 0,.int .i64 0,.string (⟨#[]⟩:Bt),.string (⟨#[]⟩:Bt),.slice none 0 0]) ?_ 0 _ rfl;(with_reducible repeat(first|refine cO ?_ _|refine cB ?_ |refine bT ?_ _));exact gJ.out) hb);replace HB:=ak.mk (aN (bs Aq.out) hb);(try clear hb);(try clear hb2);(try clear hk);(try clear hi);(try clear ho0);obtain⟨zT,zU,eo11⟩:=Kd.bF BX.out;subst eo11;have hcz12_0:w10.cell? ⟨iy,0,none⟩=some (.int .i64 (wrap64 (((bJ l0 dI).f0)+a1))):=(aA gJ.out 0).trans rfl;have hcz12_1:w10.cell? ⟨iy,1,none⟩=some (.int .i64 ((bJ l0 dI).f1)):=(aA gJ.out 1).trans rfl;have hcz12_2:w10.cell? ⟨iy,2,none⟩=some (.string ((bJ l0 dI).f2)):=(aA gJ.out 2).trans rfl;have hcz12_3:w10.cell? ⟨iy,3,none⟩=some (.string ((bJ l0 dI).f3)):=(aA gJ.out 3).trans rfl;have hcz12_4:w10.cell? ⟨iy,4,none⟩=some (.slice wX ((bJ l0 dI).f4).length wY):=(aA gJ.out 4).trans rfl;have hfz12_0:=aU gJ.out 0;have hfz12_1:=aU gJ.out 1;have hfz12_2:=aU gJ.out 2;have hfz12_3:=aU gJ.out 3;have hfz12_4:=aU gJ.out 4)|((with_reducible refine qD (t:=32) (p:=22) rfl ?_);refine rZ (t:=32) (p:=22) (v:=?vo_w13) (w1:=(w10.setCell ⟨iy,4,none⟩ (.slice zT rF.length zU))) ?hg ?ho ?hn ?hr ?_;(case ho=>rfl);(case hg=>rfl);(case hn=>rfl);(case hr=>first|(go_simp;done)|(go_simp;rfl));intro w13 hw;have n0_:ak (Kd.R k34 34 w13 w.heap.size (fun k_=>some k_≠(.slice zT rF.length zU:Value).ownBlock∧k_≠iy) u5 fC):=⟨(by rw[hw];exact(by(with_reducible repeat(first|apply Kd.aZ|apply Kd.bB|apply Kd.bq));exact Kd.dz (Kd.jk (p:=⟨iy,4,none⟩) (Kd.dz dh.out (fun k_ hk=>(⟨hk,hk.1.2⟩:_∧k_≠iy))) (fun _ hk=>hk.2) (.slice zT rF.length zU)) (fun _ hk=>⟨hk.1.2,hk.1.1.2⟩)))⟩;have n1_:ak (Kd.R k36 36 w13 w.heap.size (fun _=>True) (.slice zT rF.length zU) rF):=⟨(by rw[hw];exact(by(with_reducible repeat(first|apply Kd.aZ|apply Kd.bB|apply Kd.bq));exact Kd.dz (Kd.jk (p:=⟨iy,4,none⟩) (Kd.qO BX.out gJ.out (by decide)) (fun _ hk=>hk.2) (.slice zT rF.length zU)) (fun _ hk=>trivial)))⟩;have n2_:ak (w13.heap[iy]?=some (.cells #[.int .i64 (wrap64 (((bJ l0 dI).f0)+a1)),.int .i64 ((bJ l0 dI).f1),.string ((bJ l0 dI).f2),.string ((bJ l0 dI).f3),.slice zT rF.length zU] 34 (0,0))):=⟨(by rw[hw];exact(by(with_reducible repeat(first|refine cO ?_ _|refine cB ?_ |refine bT ?_ _));refine fT (cs:=#[.int .i64 (wrap64 (((bJ l0 dI).f0)+a1)),.int .i64 ((bJ l0 dI).f1),.string ((bJ l0 dI).f2),.string ((bJ l0 dI).f3),.slice wX ((bJ l0 dI).f4).length wY]) ?_ 4 _ rfl;(with_reducible repeat(first|refine cO ?_ _|refine cB ?_ |refine bT ?_ _));exact gJ.out))⟩;have n3_:ak (Below w.heap.size w w13):=⟨(by rw[hw];exact(bs Aq.out))⟩;clear hw;clear dh;clear BX;clear gJ;clear HB;have dh:=n0_;have BX:=n1_;have gJ:=n2_;have HB:=n3_;clear n0_ n1_ n2_ n3_;have hcz14_0:w13.cell? ⟨iy,0,none⟩=some (.int .i64 (wrap64 (((bJ l0 dI).f0)+a1))):=(aA gJ.out 0).trans rfl;have hcz14_1:w13.cell? ⟨iy,1,none⟩=some (.int .i64 ((bJ l0 dI).f1)):=(aA gJ.out 1).trans rfl;have hcz14_2:w13.cell? ⟨iy,2,none⟩=some (.string ((bJ l0 dI).f2)):=(aA gJ.out 2).trans rfl;have hcz14_3:w13.cell? ⟨iy,3,none⟩=some (.string ((bJ l0 dI).f3)):=(aA gJ.out 3).trans rfl;have hcz14_4:w13.cell? ⟨iy,4,none⟩=some (.slice zT rF.length zU):=(aA gJ.out 4).trans rfl;have hfz14_0:=aU gJ.out 0;have hfz14_1:=aU gJ.out 1;have hfz14_2:=aU gJ.out 2;have hfz14_3:=aU gJ.out 3;have hfz14_4:=aU gJ.out 4)|((with_reducible refine fG (b:=.append) (xs:=#[.tmp 23,.tmp 25]) rfl ?_);at_builtin;refine Kd.fZ k34 (w0:=w) w.heap.size rfl (.tmp 23) (.tmp 25) 22 34 (.agg #[(.int .i64 0),(.int .i64 0),(.string ⟨#[]⟩),(.string ⟨#[]⟩),(.slice none 0 0)]) 72 rfl Tryz.underlying22 jy rfl (by decide) (by omega) u5 fC (⟨wrap64 (((bJ l0 dI).f0)+a1),(bJ l0 dI).f1,(bJ l0 dI).f2,(bJ l0 dI).f3,rF⟩:S34) [.int .i64 (wrap64 (((bJ l0 dI).f0)+a1)),.int .i64 ((bJ l0 dI).f1),.string ((bJ l0 dI).f2),.string ((bJ l0 dI).f3),.slice zT rF.length zU] (fun k_=>k_≠iy) (fun k_=>((fun k_=>k_≠iy)) k_∧some k_≠(u5:Value).ownBlock) rfl rfl ?aP (fun _ hk=>hk) ?aF ?aO ?aB ?aS ?aL ?_;(case aP=>exact jE _ _ _ (⟨wrap64 (((bJ l0 dI).f0)+a1),(bJ l0 dI).f1,(bJ l0 dI).f2,(bJ l0 dI).f3,rF⟩:S34) (Kd.dz (Kd.qO (Kd.r9 (BX.out) (Kd.iZ dh.out) (by decide)) gJ.out (by decide)) (fun k_ hk=>⟨hk.2,hk.1.2⟩)));(case aB=>exact(bs Aq.out));(case aF=>exact(fun k_ hk=>Kd.freshB (g:=iy) (o:=.cells #[.int .i64 (wrap64 (((bJ l0 dI).f0)+a1)),.int .i64 ((bJ l0 dI).f1),.string ((bJ l0 dI).f2),.string ((bJ l0 dI).f3),.slice zT rF.length zU] 34 (0,0)) (kz gJ.out) k_ hk));(case aO=>exact(by(with_reducible repeat(first|apply Kd.aZ|apply Kd.bB|apply Kd.bq));exact Kd.dz dh.out (fun _ hk=>hk.2)));(case aS=>exact(aJ (bs Aq.out)));(case aL=>have:=LMc7.out;omega);intro v119 w15 ho hb hg hat;rw[←Ny118.out]at ho;have HO120:=ak.mk (ho);replace gJ:=ak.mk (iO (g:=iy) (o:=.cells #[.int .i64 (wrap64 (((bJ l0 dI).f0)+a1)),.int .i64 ((bJ l0 dI).f1),.string ((bJ l0 dI).f2),.string ((bJ l0 dI).f3),.slice zT rF.length zU] 34 (0,0)) (kz gJ.out) hg (Kd.R_away dh.out (fun _ hk=>hk.2)));replace HB:=ak.mk (hb);clear dh BX;clear ho hb hg hat))
       go_roundg k1
       case measure=>have:=HK1.out;omega
       case rel=>exact⟨(y118),(wrap64 (dI+1)),q'c,H',⟨by have:=HK1.out;omega⟩,⟨by(with_reducible repeat(first|apply Kd.aZ|apply Kd.bB|apply Kd.bq));exact Kd.dz HO120.out (fun _ hk=>trivial)⟩,⟨bs Aq.out⟩⟩
      ·rw[if_neg c7]at H
       exact absurd H (by simp)
     ·rw[if_neg c5]at H
      exact absurd H (by simp)
    ·rw[if_neg c4]at H
     exact absurd H (by simp)
   ·rw[if_neg c3]at H
    have lI:decide (dI<(l0.length:Int))=false:=decide_eq_false c3;clear c3;obtain rfl:=Option.some.inj H;go_wp2;go_ret;exact⟨_,by first|rfl|(simp[aQ,aT]<;>rfl)|(simp[*,aQ,aT]<;>rfl),by(with_reducible repeat(first|apply Kd.aZ|apply Kd.bB|apply Kd.bq));exact dh.out,bz⟩
end Go.Proofs.aj.W7
namespace Go.Proofs.aj.W7
open Go.RowKit Go.Proofs Go.Proofs.YtkcmghlhpbepcaaGreatDoor Go.Proofs.ah.aG
def uQ(outs:List Rw)(x:Rw):Option (List Rw):=
 if x.f1=1∧x.f3.data.toList=[]then some outs
 else if x.f1=1∧0<outs.length∧(bJ outs ((outs.length:Int) - 1)).f1=1∧(bJ outs ((outs.length:Int) - 1)).f0=x.f0 then
  if(bJ outs ((outs.length:Int) - 1)).f3.size+x.f3.size≤9223372036854775807 then
   some (outs.set (outs.length - 1) ⟨(bJ outs ((outs.length:Int) - 1)).f0,(bJ outs ((outs.length:Int) - 1)).f1,(bJ outs ((outs.length:Int) - 1)).f2,(bJ outs ((outs.length:Int) - 1)).f3++x.f3,(bJ outs ((outs.length:Int) - 1)).f4⟩)
  else none
 else if outs.length<1000000000000 then some (outs++[x])else none
def qF:List Rw→List Rw→Option (List Rw)
 |outs,[]=>some outs
 |outs,x::xs=>(uQ outs x).bind fun o=>qF o xs
def jT.f(l0:List Rw):Option (List Rw):=(gq.f (l0.length+1) l0 0).bind fun ms=>qF [] ms
theorem jV(w:World)(o:Obj):(w.alloc o).drew=w.drew.alloc o:=rfl
theorem oJ{v v1:Value}{n m:Nat}(h:∀k,v.ownBlock=some k→n≤k)(hat:v1.ownBlock=v.ownBlock∨∃b,v1.ownBlock=some b∧m≤b)(hm:n≤m):∀k,v1.ownBlock=some k→n≤k:=by
 intro k hk
 rcases hat with e|⟨b,e,hb⟩
 ·exact h k (e▸hk)
 ·rw[e]at hk
  cases hk;omega
theorem jT.calls(A:Option Addr)(c:Nat)(xs res:List Rw)(w:World)(hr:k34.C w A xs.length xs)(hcap:xs.length≤c)(h:jT.f xs=some res):
 Calls Tryz.prog 41 #[.slice A xs.length c] w fun e w'=>∃v0_:Value,e=.returned (v0_)∧Kd.R k34 34 w' w.heap.size (fun _=>True) v0_ res∧Below w.heap.size w w':=by
 unfold jT.f at h;obtain⟨ms,hms,h⟩:=Option.bind_eq_some_iff.1 h;have hmv:=Lib.hid (gq.calls (xs.length+1) A c xs 0 ms w hr hcap hms);clear hms;replace h:=Lib.hid h;go_enter Tryz.func41,Tryz.ntmps41
 go_wp2_with(go_at_call 89;((with_reducible refine hmv.out.mono ?_);rintro e w1 ⟨vm,rfl,hm,hb1⟩;obtain⟨A1,c1,rfl⟩:=Kd.bF hm))
 have hml:=(Kd.aI hm).2.2.2.1
 go_loopw [3,10] (fun vo vi wr=>∃(i:Nat) (outs:List Rw),vi=.int .i64 i∧i≤ms.length∧Hid (qF outs (ms.drop i)=some res)∧Kd.R k34 34 wr w.heap.size (fun _=>True) vo outs∧Below w1.heap.size w1 wr∧Hid (∀k,vo.ownBlock=some k→w1.heap.size≤k)) (fun _ vi _=>ms.length - (intOf vi).toNat)
 case atStart=>exact⟨0,[],rfl,Nat.zero_le _,h.out,Kd.iJ _ _ _ _ _,Below.refl _ _,fun k hk=>by simp[Value.ownBlock]at hk⟩
 case round=>
  obtain⟨i,outs,rfl,hi,hrest,hO,hB,hown⟩:=hrel;obtain⟨A2,c2,rfl⟩:=Kd.bF hO;have hol:=(Kd.aI hO).2.2.2.1;have hbw:=hb1.size;have hbz:=hB.size
  by_cases hlt:i<ms.length
  ·obtain⟨gm,capm,hv,-,-,-⟩:=Kd.wI hm (by omega)
   simp only[Value.slice.injEq,true_and]at hv;obtain⟨rfl,rfl⟩:=hv;obtain⟨cs,hcl,hM,hcell,hfz⟩:=Kd.ug hm (⟨0,0,⟨#[]⟩,⟨#[]⟩,[]⟩:Rw) i (by omega) (by omega);have hgd:ms.getD (i:Int).toNat (⟨0,0,⟨#[]⟩,⟨#[]⟩,[]⟩:Rw)=ms[i]:=by simp[hlt]
   rw[hgd]at hM;have Cw:=hrest.out;rw[List.drop_eq_getElem_cons hlt]at Cw;simp only[qF]at Cw;obtain⟨o2,hst,hre⟩:=Option.bind_eq_some_iff.1 Cw;clear hrest hgd hfz Cw;generalize ms[i]=x at *;obtain⟨v4,rfl,hv4⟩:=jA hM;obtain⟨A4,c4,rfl⟩:=Kd.bF hv4;have z0:=dG (hcell 0 _ rfl) hB;have z1:=dG (hcell 1 _ rfl) hB;have z2:=dG (hcell 2 _ rfl) hB;have z3:=dG (hcell 3 _ rfl) hB;have z4:=dG (hcell 4 _ rfl) hB;change wr.cell? ⟨gm,i * 5,none⟩=_ at z0;change wr.cell? ⟨gm,i * 5+1,none⟩=_ at z1;change wr.cell? ⟨gm,i * 5+2,none⟩=_ at z2;change wr.cell? ⟨gm,i * 5+3,none⟩=_ at z3;change wr.cell? ⟨gm,i * 5+4,none⟩=_ at z4;have hrest3:=Lib.hid hre;clear hcell hcl hre;obtain⟨xd,xk,xn,xt,xa⟩:=x;simp only at z0 z1 z2 z3 z4;have hnt:=bR wr #[.int .i64 xd,.int .i64 xk,.string xn,.string xt,.slice A4 xa.length c4] 34;obtain⟨⟨p0,p1,p2,p3,p4⟩,p5⟩:=bE hnt;have hBA:=hB.alloc hbz (.cells #[.int .i64 xd,.int .i64 xk,.string xn,.string xt,.slice A4 xa.length c4] 34);have hOA:=Kd.aZ hO (.cells #[.int .i64 xd,.int .i64 xk,.string xn,.string xt,.slice A4 xa.length c4] 34)
   have hsA:w.heap.size≤(wr.alloc (.cells #[.int .i64 xd,.int .i64 xk,.string xn,.string xt,.slice A4 xa.length c4] 34)).heap.size:=by rw[World.size_alloc];omega
   have hsB:w1.heap.size≤(wr.alloc (.cells #[.int .i64 xd,.int .i64 xk,.string xn,.string xt,.slice A4 xa.length c4] 34)).heap.size:=by rw[World.size_alloc];omega
   have hMp:=Kd.fq k34 (ok':=fun k=>k<w1.heap.size) (fun k hk=>hk.2.2.1) (Kd.fH k34 hM);have hsz1:(wr.alloc (.cells #[.int .i64 xd,.int .i64 xk,.string xn,.string xt,.slice A4 xa.length c4] 34)).heap.size=wr.heap.size+1:=World.size_alloc _ _;unfold uQ at hst
   by_cases hA:xk=1∧xt.data.toList=[]
   ·rw[if_pos hA]at hst
    obtain rfl:=Option.some.inj hst;obtain⟨rfl,hxt⟩:=hA
    obtain rfl:xt=⟨#[]⟩:=by
     obtain⟨d⟩:=xt;simpa using hxt
    clear hst;go_wp2;exact⟨⟨i+1,outs,rfl,by omega,hrest3,hOA,hBA,hown⟩,by simp[intOf];omega⟩
   ·rw[if_neg hA]at hst
    have hne:xk=1→¬xt.data.toList=[]:=fun e1 e2=>hA ⟨e1,e2⟩
    clear hA;have hne1:xk=1→(xt.toList==[])=false:=fun e1=>by rw[beq_eq_false_iff_ne,Lib.toList_data];exact hne e1
    by_cases hk1:xk=1
    ·have hx1:=hne1 hk1
     have hx2:¬xt.toList=[]:=by rw[Lib.toList_data];exact hne hk1
     subst hk1
     by_cases hn0:0<outs.length
     ·obtain⟨go,capo,hv,-,-,-⟩:=Kd.wI hO hn0
      simp only[Value.slice.injEq,true_and]at hv;obtain⟨rfl,rfl⟩:=hv;obtain⟨m,hm1⟩:∃m,outs.length=m+1:=⟨outs.length - 1,by omega⟩
      obtain⟨cs,hcl,hMo,kL,hfzo⟩:=Kd.ug hOA (⟨0,0,⟨#[]⟩,⟨#[]⟩,[]⟩:Rw) (m:Int) (by omega) (by omega);have hgd:outs.getD (m:Int).toNat (⟨0,0,⟨#[]⟩,⟨#[]⟩,[]⟩:Rw)=outs[m]:=by simp[show m<outs.length by omega]
      have hrd:bJ outs ((outs.length:Int) - 1)=outs[m]:=by
       rw[show(outs.length:Int) - 1=(m:Int)from by omega];simp[bJ,show m<outs.length by omega]
      rw[hgd]at hMo;rw[hrd,show outs.length - 1=m from by omega]at hst;generalize outs[m]=y at *;obtain⟨w4,rfl,hw4⟩:=jA hMo;have y0:=kL 0 _ rfl;have y1:=kL 1 _ rfl;have y3:=kL 3 _ rfl;have f3:=hfzo 3;change World.cell? _ ⟨go,m * 5,none⟩=_ at y0;change World.cell? _ ⟨go,m * 5+1,none⟩=_ at y1;change World.cell? _ ⟨go,m * 5+3,none⟩=_ at y3;change World.frozen? _ ⟨go,m * 5+3,none⟩=_ at f3;obtain⟨yd,yk,yn,yt,ya⟩:=y;simp only at y0 y1 y3
      by_cases hB1:yk=1∧yd=xd
      ·rw[if_pos ⟨rfl,hn0,hB1⟩]at hst
       obtain⟨rfl,rfl⟩:=hB1;have hcx:¬xt=⟨#[]⟩:=fun e=>hx2 (by rw[Lib.toList_data,e])
       clear hne hne1;rw[hm1];go_wp2
       first
        |go_region
        |skip
       by_cases hsz:yt.size+xt.size≤9223372036854775807
       ·rw[if_pos hsz]at hst
        obtain rfl:=Option.some.inj hst;have a1:decide (yt.size+xt.size≤9223372036854775807)=true:=decide_eq_true hsz;have a2:(9223372036854775807<yt.size+xt.size)=False:=eq_false (by omega);clear hst;go_wp2
        first
         |go_region
         |skip
        go_wp2;have hge:=hown.out go (by simp[Value.ownBlock]);have hS:=(Kd.R_seg hOA (m:Int) (by omega) (by omega) (c:=[.int .i64 yd,.int .i64 1,.string yn,.string yt,w4]) (seg:=[.string (yt++xt)]) (j:=3) hcl kL (by show 3+1≤5;omega) (x':=(⟨yd,1,yn,yt++xt,ya⟩:Rw)) (okp:=fun k=>True∧k≠go) (jE _ _ _ (⟨yd,1,yn,yt++xt,ya⟩:Rw) hw4) (fun _ h=>h)).1;rw[hm1]at hS;have hBS:Below w1.heap.size w1 _:=hBA.setCell (p:=⟨go,m * 5+3,none⟩) hge (.string (yt++xt));exact⟨⟨i+1,outs.set m (⟨yd,1,yn,yt++xt,ya⟩:Rw),rfl,by omega,hrest3,Kd.bq (Kd.bq hS),bU (bU hBS),Lib.hid (fun k hk=>hown.out k (by simpa [Value.ownBlock]using hk))⟩,by simp[intOf];omega⟩
       ·rw[if_neg hsz]at hst
        cases hst
      ·rw[if_neg (fun e=>hB1 e.2.2)]at hst
       have hcx:¬xt=⟨#[]⟩:=fun e=>hx2 (by rw[Lib.toList_data,e])
       clear hne hne1
       by_cases hy1:yk=1
       ·subst hy1
        have hy2:(yd==xd)=false:=beq_eq_false_iff_ne.2 (fun e=>hB1 ⟨rfl,e⟩)
        by_cases hlen:outs.length<1000000000000
        ·rw[if_pos hlen]at hst
         obtain rfl:=Option.some.inj hst;clear hst;rw[hm1];rw[hm1]at hOA hown
         go_wp2_with(at_builtin;(try rw[jV]);refine Kd.fZ k34 (w0:=w1) w.heap.size rfl (.tmp 16) (.tmp 18) 22 34 (.agg #[(.int .i64 0),(.int .i64 0),(.string ⟨#[]⟩),(.string ⟨#[]⟩),(.slice none 0 0)]) 72 rfl Tryz.underlying22 jy rfl (by decide) (by omega) (.slice (some ⟨go,0,none⟩) (m+1) c2) outs (⟨xd,1,xn,xt,xa⟩:Rw) [.int .i64 xd,.int .i64 1,.string xn,.string xt,.slice A4 xa.length c4] (fun _=>True) (fun k=>k<w1.heap.size) rfl ?aX ?aP ?aK ?aF ?aO ?aB ?aS ?aL ?_;(case aX=>exact congrArg (fun n=>Value.slice (some ⟨n,0,none⟩) 1 1) hsz1.symm);(case aP=>exact Kd.ny hMp (by first|with_reducible exact bU hBA|with_reducible exact hBA));(case aK=>exact fun k hk=>⟨trivial,fun e=>by have:=hown.out k e.symm;omega⟩);(case aF=>exact fun _ _=>trivial);(case aO=>first|with_reducible exact Kd.bq hOA|with_reducible exact hOA);(case aB=>exact Below.mono (by first|with_reducible exact bU hBA|with_reducible exact hBA) hbw);(case aS=>exact hsA);(case aL=>omega);intro v1 w2 hO2 hb2 hg2 pR;obtain⟨A3,c3,rfl⟩:=Kd.bF hO2;have hB2:=Below.grown (bU hBA) hg2 hsB (fun k hk=>hown.out k hk);have hown2:=Lib.hid (oJ hown.out pR hsB))
         first
          |(go_region;go_wp2_with(at_builtin;(try rw[jV]);refine Kd.fZ k34 (w0:=w1) w.heap.size rfl (.tmp 16) (.tmp 18) 22 34 (.agg #[(.int .i64 0),(.int .i64 0),(.string ⟨#[]⟩),(.string ⟨#[]⟩),(.slice none 0 0)]) 72 rfl Tryz.underlying22 jy rfl (by decide) (by omega) (.slice (some ⟨go,0,none⟩) (m+1) c2) outs (⟨xd,1,xn,xt,xa⟩:Rw) [.int .i64 xd,.int .i64 1,.string xn,.string xt,.slice A4 xa.length c4] (fun _=>True) (fun k=>k<w1.heap.size) rfl ?aX ?aP ?aK ?aF ?aO ?aB ?aS ?aL ?_;(case aX=>exact congrArg (fun n=>Value.slice (some ⟨n,0,none⟩) 1 1) hsz1.symm);(case aP=>exact Kd.ny hMp (by first|with_reducible exact bU hBA|with_reducible exact hBA));(case aK=>exact fun k hk=>⟨trivial,fun e=>by have:=hown.out k e.symm;omega⟩);(case aF=>exact fun _ _=>trivial);(case aO=>first|with_reducible exact Kd.bq hOA|with_reducible exact hOA);(case aB=>exact Below.mono (by first|with_reducible exact bU hBA|with_reducible exact hBA) hbw);(case aS=>exact hsA);(case aL=>omega);intro v1 w2 hO2 hb2 hg2 pR;obtain⟨A3,c3,rfl⟩:=Kd.bF hO2;have hB2:=Below.grown (bU hBA) hg2 hsB (fun k hk=>hown.out k hk);have hown2:=Lib.hid (oJ hown.out pR hsB)))
          |skip
         rw[List.length_append,hm1,List.length_singleton]at hO2 hown2;exact⟨⟨i+1,outs++[(⟨xd,1,xn,xt,xa⟩:Rw)],rfl,by omega,hrest3,hO2,hB2,hown2⟩,by simp[intOf];omega⟩
        ·rw[if_neg hlen]at hst
         cases hst
       ·have hy2:(yk==1)=false:=beq_eq_false_iff_ne.2 hy1
        by_cases hlen:outs.length<1000000000000
        ·rw[if_pos hlen]at hst
         obtain rfl:=Option.some.inj hst;clear hst;rw[hm1];rw[hm1]at hOA hown
         go_wp2_with(at_builtin;(try rw[jV]);refine Kd.fZ k34 (w0:=w1) w.heap.size rfl (.tmp 16) (.tmp 18) 22 34 (.agg #[(.int .i64 0),(.int .i64 0),(.string ⟨#[]⟩),(.string ⟨#[]⟩),(.slice none 0 0)]) 72 rfl Tryz.underlying22 jy rfl (by decide) (by omega) (.slice (some ⟨go,0,none⟩) (m+1) c2) outs (⟨xd,1,xn,xt,xa⟩:Rw) [.int .i64 xd,.int .i64 1,.string xn,.string xt,.slice A4 xa.length c4] (fun _=>True) (fun k=>k<w1.heap.size) rfl ?aX ?aP ?aK ?aF ?aO ?aB ?aS ?aL ?_;(case aX=>exact congrArg (fun n=>Value.slice (some ⟨n,0,none⟩) 1 1) hsz1.symm);(case aP=>exact Kd.ny hMp (by first|with_reducible exact bU hBA|with_reducible exact hBA));(case aK=>exact fun k hk=>⟨trivial,fun e=>by have:=hown.out k e.symm;omega⟩);(case aF=>exact fun _ _=>trivial);(case aO=>first|with_reducible exact Kd.bq hOA|with_reducible exact hOA);(case aB=>exact Below.mono (by first|with_reducible exact bU hBA|with_reducible exact hBA) hbw);(case aS=>exact hsA);(case aL=>omega);intro v1 w2 hO2 hb2 hg2 pR;obtain⟨A3,c3,rfl⟩:=Kd.bF hO2;have hB2:=Below.grown (bU hBA) hg2 hsB (fun k hk=>hown.out k hk);have hown2:=Lib.hid (oJ hown.out pR hsB))
         first
          |(go_region;go_wp2_with(at_builtin;(try rw[jV]);refine Kd.fZ k34 (w0:=w1) w.heap.size rfl (.tmp 16) (.tmp 18) 22 34 (.agg #[(.int .i64 0),(.int .i64 0),(.string ⟨#[]⟩),(.string ⟨#[]⟩),(.slice none 0 0)]) 72 rfl Tryz.underlying22 jy rfl (by decide) (by omega) (.slice (some ⟨go,0,none⟩) (m+1) c2) outs (⟨xd,1,xn,xt,xa⟩:Rw) [.int .i64 xd,.int .i64 1,.string xn,.string xt,.slice A4 xa.length c4] (fun _=>True) (fun k=>k<w1.heap.size) rfl ?aX ?aP ?aK ?aF ?aO ?aB ?aS ?aL ?_;(case aX=>exact congrArg (fun n=>Value.slice (some ⟨n,0,none⟩) 1 1) hsz1.symm);(case aP=>exact Kd.ny hMp (by first|with_reducible exact bU hBA|with_reducible exact hBA));(case aK=>exact fun k hk=>⟨trivial,fun e=>by have:=hown.out k e.symm;omega⟩);(case aF=>exact fun _ _=>trivial);(case aO=>first|with_reducible exact Kd.bq hOA|with_reducible exact hOA);(case aB=>exact Below.mono (by first|with_reducible exact bU hBA|with_reducible exact hBA) hbw);(case aS=>exact hsA);(case aL=>omega);intro v1 w2 hO2 hb2 hg2 pR;obtain⟨A3,c3,rfl⟩:=Kd.bF hO2;have hB2:=Below.grown (bU hBA) hg2 hsB (fun k hk=>hown.out k hk);have hown2:=Lib.hid (oJ hown.out pR hsB)))
          |skip
         rw[List.length_append,hm1,List.length_singleton]at hO2 hown2;exact⟨⟨i+1,outs++[(⟨xd,1,xn,xt,xa⟩:Rw)],rfl,by omega,hrest3,hO2,hB2,hown2⟩,by simp[intOf];omega⟩
        ·rw[if_neg hlen]at hst
         cases hst
     ·rw[if_neg (fun e=>hn0 e.2.1)]at hst
      have hcx:¬xt=⟨#[]⟩:=fun e=>hx2 (by rw[Lib.toList_data,e])
      have hl0:outs.length=0:=by omega
      clear hne hne1
      by_cases hlen:outs.length<1000000000000
      ·rw[if_pos hlen]at hst
       obtain rfl:=Option.some.inj hst;clear hst;rw[hl0];rw[hl0]at hOA hown
       go_wp2_with(at_builtin;(try rw[jV]);refine Kd.fZ k34 (w0:=w1) w.heap.size rfl (.tmp 16) (.tmp 18) 22 34 (.agg #[(.int .i64 0),(.int .i64 0),(.string ⟨#[]⟩),(.string ⟨#[]⟩),(.slice none 0 0)]) 72 rfl Tryz.underlying22 jy rfl (by decide) (by omega) (.slice A2 0 c2) outs (⟨xd,1,xn,xt,xa⟩:Rw) [.int .i64 xd,.int .i64 1,.string xn,.string xt,.slice A4 xa.length c4] (fun _=>True) (fun k=>k<w1.heap.size) rfl ?aX ?aP ?aK ?aF ?aO ?aB ?aS ?aL ?_;(case aX=>exact congrArg (fun n=>Value.slice (some ⟨n,0,none⟩) 1 1) hsz1.symm);(case aP=>exact Kd.ny hMp (by first|with_reducible exact bU hBA|with_reducible exact hBA));(case aK=>exact fun k hk=>⟨trivial,fun e=>by have:=hown.out k e.symm;omega⟩);(case aF=>exact fun _ _=>trivial);(case aO=>first|with_reducible exact Kd.bq hOA|with_reducible exact hOA);(case aB=>exact Below.mono (by first|with_reducible exact bU hBA|with_reducible exact hBA) hbw);(case aS=>exact hsA);(case aL=>omega);intro v1 w2 hO2 hb2 hg2 pR;obtain⟨A3,c3,rfl⟩:=Kd.bF hO2;have hB2:=Below.grown (bU hBA) hg2 hsB (fun k hk=>hown.out k hk);have hown2:=Lib.hid (oJ hown.out pR hsB))
       first
        |(go_region;go_wp2_with(at_builtin;(try rw[jV]);refine Kd.fZ k34 (w0:=w1) w.heap.size rfl (.tmp 16) (.tmp 18) 22 34 (.agg #[(.int .i64 0),(.int .i64 0),(.string ⟨#[]⟩),(.string ⟨#[]⟩),(.slice none 0 0)]) 72 rfl Tryz.underlying22 jy rfl (by decide) (by omega) (.slice A2 0 c2) outs (⟨xd,1,xn,xt,xa⟩:Rw) [.int .i64 xd,.int .i64 1,.string xn,.string xt,.slice A4 xa.length c4] (fun _=>True) (fun k=>k<w1.heap.size) rfl ?aX ?aP ?aK ?aF ?aO ?aB ?aS ?aL ?_;(case aX=>exact congrArg (fun n=>Value.slice (some ⟨n,0,none⟩) 1 1) hsz1.symm);(case aP=>exact Kd.ny hMp (by first|with_reducible exact bU hBA|with_reducible exact hBA));(case aK=>exact fun k hk=>⟨trivial,fun e=>by have:=hown.out k e.symm;omega⟩);(case aF=>exact fun _ _=>trivial);(case aO=>first|with_reducible exact Kd.bq hOA|with_reducible exact hOA);(case aB=>exact Below.mono (by first|with_reducible exact bU hBA|with_reducible exact hBA) hbw);(case aS=>exact hsA);(case aL=>omega);intro v1 w2 hO2 hb2 hg2 pR;obtain⟨A3,c3,rfl⟩:=Kd.bF hO2;have hB2:=Below.grown (bU hBA) hg2 hsB (fun k hk=>hown.out k hk);have hown2:=Lib.hid (oJ hown.out pR hsB)))
        |skip
       rw[List.length_append,hl0,List.length_singleton,Nat.zero_add]at hO2 hown2;exact⟨⟨i+1,outs++[(⟨xd,1,xn,xt,xa⟩:Rw)],rfl,by omega,hrest3,hO2,hB2,hown2⟩,by simp[intOf];omega⟩
      ·rw[if_neg hlen]at hst
       cases hst
    ·rw[if_neg (fun e=>hk1 e.1)]at hst
     have hq1:(xk==1)=false:=beq_eq_false_iff_ne.2 hk1;clear hne hne1
     by_cases hlen:outs.length<1000000000000
     ·rw[if_pos hlen]at hst
      obtain rfl:=Option.some.inj hst;clear hst
      go_wp2_with(at_builtin;(try rw[jV]);refine Kd.fZ k34 (w0:=w1) w.heap.size rfl (.tmp 16) (.tmp 18) 22 34 (.agg #[(.int .i64 0),(.int .i64 0),(.string ⟨#[]⟩),(.string ⟨#[]⟩),(.slice none 0 0)]) 72 rfl Tryz.underlying22 jy rfl (by decide) (by omega) (.slice A2 outs.length c2) outs (⟨xd,xk,xn,xt,xa⟩:Rw) [.int .i64 xd,.int .i64 xk,.string xn,.string xt,.slice A4 xa.length c4] (fun _=>True) (fun k=>k<w1.heap.size) rfl ?aX ?aP ?aK ?aF ?aO ?aB ?aS ?aL ?_;(case aX=>exact congrArg (fun n=>Value.slice (some ⟨n,0,none⟩) 1 1) hsz1.symm);(case aP=>exact Kd.ny hMp (by first|with_reducible exact bU hBA|with_reducible exact hBA));(case aK=>exact fun k hk=>⟨trivial,fun e=>by have:=hown.out k e.symm;omega⟩);(case aF=>exact fun _ _=>trivial);(case aO=>first|with_reducible exact Kd.bq hOA|with_reducible exact hOA);(case aB=>exact Below.mono (by first|with_reducible exact bU hBA|with_reducible exact hBA) hbw);(case aS=>exact hsA);(case aL=>omega);intro v1 w2 hO2 hb2 hg2 pR;obtain⟨A3,c3,rfl⟩:=Kd.bF hO2;have hB2:=Below.grown (bU hBA) hg2 hsB (fun k hk=>hown.out k hk);have hown2:=Lib.hid (oJ hown.out pR hsB))
      first
       |(go_region;go_wp2_with(at_builtin;(try rw[jV]);refine Kd.fZ k34 (w0:=w1) w.heap.size rfl (.tmp 16) (.tmp 18) 22 34 (.agg #[(.int .i64 0),(.int .i64 0),(.string ⟨#[]⟩),(.string ⟨#[]⟩),(.slice none 0 0)]) 72 rfl Tryz.underlying22 jy rfl (by decide) (by omega) (.slice A2 outs.length c2) outs (⟨xd,xk,xn,xt,xa⟩:Rw) [.int .i64 xd,.int .i64 xk,.string xn,.string xt,.slice A4 xa.length c4] (fun _=>True) (fun k=>k<w1.heap.size) rfl ?aX ?aP ?aK ?aF ?aO ?aB ?aS ?aL ?_;(case aX=>exact congrArg (fun n=>Value.slice (some ⟨n,0,none⟩) 1 1) hsz1.symm);(case aP=>exact Kd.ny hMp (by first|with_reducible exact bU hBA|with_reducible exact hBA));(case aK=>exact fun k hk=>⟨trivial,fun e=>by have:=hown.out k e.symm;omega⟩);(case aF=>exact fun _ _=>trivial);(case aO=>first|with_reducible exact Kd.bq hOA|with_reducible exact hOA);(case aB=>exact Below.mono (by first|with_reducible exact bU hBA|with_reducible exact hBA) hbw);(case aS=>exact hsA);(case aL=>omega);intro v1 w2 hO2 hb2 hg2 pR;obtain⟨A3,c3,rfl⟩:=Kd.bF hO2;have hB2:=Below.grown (bU hBA) hg2 hsB (fun k hk=>hown.out k hk);have hown2:=Lib.hid (oJ hown.out pR hsB)))
       |skip
      rw[List.length_append,List.length_singleton]at hO2 hown2;exact⟨⟨i+1,outs++[(⟨xd,xk,xn,xt,xa⟩:Rw)],rfl,by omega,hrest3,hO2,hB2,hown2⟩,by simp[intOf];omega⟩
     ·rw[if_neg hlen]at hst
      cases hst
  ·have hr0:outs=res:=by
    have h1:=hrest.out;rw[List.drop_of_length_le (by omega)]at h1;exact Option.some.inj h1
   subst hr0;clear hrest h;go_wp2;go_ret;exact⟨_,rfl,hO,Go.Proofs.YtkcmghlhpbepcaaGreatDoor.bO hb1 hbw hB⟩
end Go.Proofs.aj.W7
