/- Lemmas and walks, part 18. -/
import Derived.Test.YtkcmghlhpbepcaaGreatDoorWS17
set_option linter.unusedVariables false
set_option linter.unusedSimpArgs false
set_option maxHeartbeats 8000000
set_option maxRecDepth 100000
namespace Go.Proofs.aj.W7
open Go.RowKit Go.Proofs.ah.aD Go.Proofs.ah.bG Go.Proofs.ah.bR
attribute [local go_sem] dD dF dV dW bU bV dG dH
def gZ.l0:Nat→Int→List (S34)→List (S34)→Int→Int→Option ((List (S34)))
 |0,_,_,_,_,_=>none
 |k+1,x1,x5,x8,x9,x10=>if x10<x9 then(if 0≤x10 then(if x10<(x8.length:Int)then((tY.f ((au x8 x10).f4)).bind fun xF=>(if x5.length<1954687338268 then(gZ.l0 k x1 (x5++[(⟨wrap64 (((au x8 x10).f0)+x1),(au x8 x10).f1,(au x8 x10).f2,(au x8 x10).f3,xF⟩:S34)]) x8 x9 (wrap64 (x10+1)))else(none)))else(none))else(none))else(some x5)
def gZ.f(k:Nat)(l0:List (S34))(a1:Int):Option ((List (S34))):=gZ.l0 k a1 ([] :List (S34)) l0 (l0.length:Int) 0
theorem gZ.calls(k:Nat)(A0:Option Addr)(c0:Nat)(l0:List (S34))(a1:Int)(r:List (S34))(w:World)(hr0:Kd.C k34 w A0 l0.length l0)(hc0:l0.length≤c0)(h:gZ.f k l0 a1=some r):
 Calls Tryz.prog 89 #[.slice A0 l0.length c0,.int .i64 a1] w fun e w'=>∃v0_:Value,e=.returned (v0_)∧Kd.R k34 34 w' w.heap.size (fun _=>True) v0_ r∧Below w.heap.size w w':=by
 have hu34:=Tryz.underlying34;have HR0:=ak.mk hr0;have HC0:=ak.mk hc0;clear hr0 hc0;have HB:=ak.mk (Below.refl w.heap.size w);have H:(gZ.l0 k a1 ([] :List (S34)) l0 (l0.length:Int) 0)=some r:=h;clear h;have H':=ak.mk H;clear H;go_enter Tryz.func89,Tryz.ntmps89;go_wp2
 go_loopg [5,10] k (fun kq v5 v10 w'=>∃(iW:List (S34)) (dX:Int),v10=.int .i64 dX∧ak (gZ.l0 kq a1 iW l0 (l0.length:Int) dX=some r)∧ak (kq≤k)∧ak (Kd.R k34 34 w' w.heap.size (fun _=>True) v5 iW)∧ak (Below w.heap.size w w'))
 case atStart=>exact⟨(([] :List (S34))),(0),q'c,H',⟨Nat.le_refl _⟩,⟨by first|exact Kd.nI _ _ _ _ _|exact Kd.N_nil _ _ _ _ _|exact Kd.V_nil _ _ _ _ _|exact Kd.Q_nil _ _ _ _ _|exact Kd.S_nil _ _ _ _ _⟩,⟨bz⟩⟩
 case round=>
  clear H'
  try clear p2
  obtain⟨iW,dX,rfl,HA,HK1,Bg,HB⟩:=hrel;cases gk with
  |zero=>exact absurd HA.out (by simp[gZ.l0])
  |succ k1=>
   have H:=HA.out;clear HA;simp only[gZ.l0]at H
   by_cases c3:dX<(l0.length:Int)
   ·rw[if_pos c3]at H
    have nD:decide (dX<(l0.length:Int))=true:=decide_eq_true c3;clear c3
    by_cases c4:0≤dX
    ·rw[if_pos c4]at H
     have nN:decide (0≤dX)=true:=decide_eq_true c4;clear c4
     by_cases c5:dX<(l0.length:Int)
     ·rw[if_pos c5]at H
      have xD:decide (dX<(l0.length:Int))=true:=decide_eq_true c5;clear c5;replace H:=Option.bind_eq_some_iff.mp H;obtain⟨xF,A60,H⟩:=H;replace H:(if iW.length<1954687338268 then(gZ.l0 k1 a1 (iW++[(⟨wrap64 (((au l0 dX).f0)+a1),(au l0 dX).f1,(au l0 dX).f2,(au l0 dX).f3,xF⟩:S34)]) l0 (l0.length:Int) (wrap64 (dX+1)))else(none))=some r:=H;have A6:=ak.mk A60;clear A60
      by_cases c7:iW.length<1954687338268
      ·rw[if_pos c7]at H
       have LMc7:=ak.mk c7;clear c7;obtain⟨y118,LY⟩:∃y_:List (S34),y_=(iW++[(⟨wrap64 (((au l0 dX).f0)+a1),(au l0 dX).f1,(au l0 dX).f2,(au l0 dX).f3,xF⟩:S34)]):=⟨_,rfl⟩
       replace H:(gZ.l0 k1 a1 y118 l0 (l0.length:Int) (wrap64 (dX+1)))=some r:=by first|(rw[LY];with_reducible exact H)|(have H2_:=(Option.bind_some _ _).symm.trans H;rw[LY];with_reducible exact H2_)|(have H2_:=(Option.bind_some _ _).symm.trans H;with_reducible exact H2_)|with_reducible exact H|(rw[LY];exact H)|exact H
       have Ny118:=ak.mk LY;clear LY;have H':=ak.mk H;clear H;have p113:0≤(dX:Int):=q'b;have q113:dX<(l0.length:Int):=q'b;obtain⟨ad113,Cw,Cx,e113,JW,JX,JY,JZ,J2,Qn,Qo⟩:=lg HR0.out dX p113 q113;cases e113;replace JW:=(HB.out.cell (World.block_lt_of_cell? w _ JW)).trans JW;replace JX:=(HB.out.cell (World.block_lt_of_cell? w _ JX)).trans JX;replace JY:=(HB.out.cell (World.block_lt_of_cell? w _ JY)).trans JY;replace JZ:=(HB.out.cell (World.block_lt_of_cell? w _ JZ)).trans JZ;replace J2:=(HB.out.cell (World.block_lt_of_cell? w _ J2)).trans J2;have HR113_4:=ak.mk Qo;have HC113_4:=ak.mk Qn;clear Qo Qn;replace p113:=eq_true p113;replace q113:=eq_true q113
       go_wp2_with(first|((with_reducible refine cu (N:=7) rfl ?_);refine eT ?hg (N:=7) ?hd (cs:=#[.int .i64 0,.int .i64 0,.string (⟨#[]⟩:Bt),.string (⟨#[]⟩:Bt),.slice none 0 0]) (t:=34) ?hr ?_;(case hd=>rfl);(case hg=>rfl);(case hr=>first|(go_simp;done)|(go_simp;rfl));intro jE hg w8 fU hb;have iY:=ak.mk (fU);have GW114:=ak.mk ((by rw[hg];exact(aU bz):w.heap.size≤jE));have EZ:=ak.mk ((by rw[hg];exact(aU bz):w.heap.size≤jE));replace Bg:=ak.mk (Kd.bZ (Kd.R_elderB (rz Bg.out) jE (Nat.le_of_eq hg.symm)) hb);replace HB:=ak.mk (aG bz hb);clear hb fU hg;have vP:w8.cell? ⟨jE,0,none⟩=some (.int .i64 0):=(aC iY.out 0).trans rfl;have vQ:w8.cell? ⟨jE,1,none⟩=some (.int .i64 0):=(aC iY.out 1).trans rfl;have vR:w8.cell? ⟨jE,2,none⟩=some (.string (⟨#[]⟩:Bt)):=(aC iY.out 2).trans rfl;have vS:w8.cell? ⟨jE,3,none⟩=some (.string (⟨#[]⟩:Bt)):=(aC iY.out 3).trans rfl;have vT:w8.cell? ⟨jE,4,none⟩=some (.slice none 0 0):=(aC iY.out 4).trans rfl;have vU:=ay iY.out 0;have vV:=ay iY.out 1;have vW:=ay iY.out 2;have vX:=ay iY.out 3;have vY:=ay iY.out 4)|((with_reducible refine aZ (f:=132) rfl ?_);refine dO (some 21) rfl rfl Tryz.func132 (by kernel_rfl) rfl #[.slice Cw ((au l0 dX).f4).length Cx] rfl q'a ?_;(with_reducible refine(tY.calls _ _ ((au l0 dX).f4) xF _ ?dz ?dA A6.out).mono ?_);(case dz=>exact Kd.eF HR113_4.out (bs EZ.out));(case dA=>exact HC113_4.out);rintro e w10 ⟨v116,rfl,ho0,hb⟩;refine⟨_,rfl,?_⟩;have GZ:=ak.mk (Kd.dR ho0 (aU (bs EZ.out)));replace Bg:=ak.mk (Kd.ig (by(with_reducible repeat(first|apply Kd.fB|apply Kd.gq|apply Kd.fJ));exact(Kd.iU (Kd.gU (p:=⟨jE,0,none⟩) (Kd.gU (p:=⟨jE,4,none⟩) (Kd.gU (p:=⟨jE,3,none⟩) (Kd.gU (p:=⟨jE,2,none⟩) (Kd.gU (p:=⟨jE,1,none⟩) (Kd.gU (p:=⟨jE,0,none⟩) (Kd.iU Bg.out (fun k_ hk=>(⟨hk,hk.2⟩:_∧k_≠jE))) (fun _ hk=>hk.2) (.int .i64 ((au l0 dX).f0))) (fun _ hk=>hk.2) (.int .i64 ((au l0 dX).f1))) (fun _ hk=>hk.2) (.string ((au l0 dX).f2))) (fun _ hk=>hk.2) (.string ((au l0 dX).f3))) (fun _ hk=>hk.2) (.slice Cw ((au l0 dX).f4).length Cx)) (fun _ hk=>hk.2) (.int .i64 (wrap64 (((au l0 dX).f0)+a1)))) (fun _ h_=>h_.1))) (Kd.jT ho0) hb);replace iY:=ak.mk (dI (g:=jE) (o:=.cells #[.int .i64 (wrap64 (((au l0 dX).f0)+a1)),.int .i64 ((au l0 dX).f1),.string ((au l0 dX).f2),.string ((au l0 dX).f3),.slice Cw ((au l0 dX).f4).length Cx] 34 (0,0)) (by(with_reducible repeat(first|refine aV ?_ _|refine aY ?_ |refine aW ?_ _));refine bT (cs:=#[.int .i64 ((au l0 dX).f0),.int .i64 ((au l0 dX).f1),.string ((au l0 dX).f2),.string ((au l0 dX).f3),.slice Cw ((au l0 dX).f4).length Cx]) ?_ 0 _ rfl;(with_reducible repeat(first|refine aV ?_ _|refine aY ?_ |refine aW ?_ _));refine bT (cs:=#[.int .i64 ((au l0 dX).f0),.int .i64 ((au l0 dX).f1),.string ((au l0 dX).f2),.string ((au l0 dX).f3),.slice none 0 0]) ?_ 4 _ rfl;(with_reducible repeat(first|refine aV ?_ _|refine aY ?_ |refine aW ?_ _));refine bT (cs:=#[.int .i64 ((au l0 dX).f0),.int .i64 ((au l0 dX).f1),.string ((au l0 dX).f2),.string (⟨#[]⟩:Bt),.slice none 0 0]) ?_ 3 _ rfl;(with_reducible repeat(first|refine aV ?_ _|refine aY ?_ |refine aW ?_ _));refine bT (cs:=#[.int .i64 ((au l0 dX).f0),.int .i64 ((au l0 dX).f1),.string (⟨#[]⟩:Bt),.string (⟨#[]⟩:Bt),.slice none 0 0]) ?_ 2 _ rfl;(with_reducible repeat(first|refine aV ?_ _|refine aY ?_ |refine aW ?_ _));refine bT (cs:=#[.int .i64 ((au l0 dX).f0),.int .i64 0,.string (⟨#[]⟩:Bt),.string (⟨#[]⟩:Bt),.slice none 0 0]) ?_ 1 _ rfl;(with_reducible repeat(first|refine aV ?_ _|refine aY ?_ |refine aW ?_ _));refine bT (cs:=#[.int .i64 0,.int .i64 0,.string (⟨#[]⟩:Bt),.string (⟨#[]⟩:Bt),.slice none 0 0]) ?_ 0 _ rfl;(with_reducible repeat(first|refine aV ?_ _|refine aY ?_ |refine aW ?_ _));exact iY.out) hb);replace HB:=ak.mk (aG (bs EZ.out) hb);(try clear hb);(try clear hb2);(try clear hk);(try clear hi);(try clear ho0);obtain⟨EO,EP,eo11⟩:=Kd.cK GZ.out;subst eo11;have hcz12_0:w10.cell? ⟨jE,0,none⟩=some (.int .i64 (wrap64 (((au l0 dX).f0)+a1))):=(aC iY.out 0).trans rfl;have hcz12_1:w10.cell? ⟨jE,1,none⟩=some (.int .i64 ((au l0 dX).f1)):=(aC iY.out 1).trans rfl;have hcz12_2:w10.cell? ⟨jE,2,none⟩=some (.string ((au l0 dX).f2)):=(aC iY.out 2).trans rfl;have hcz12_3:w10.cell? ⟨jE,3,none⟩=some (.string ((au l0 dX).f3)):=(aC iY.out 3).trans rfl;have hcz12_4:w10.cell? ⟨jE,4,none⟩=some (.slice Cw ((au l0 dX).f4).length Cx):=(aC iY.out 4).trans rfl;have hfz12_0:=ay iY.out 0;have hfz12_1:=ay iY.out 1;have hfz12_2:=ay iY.out 2;have hfz12_3:=ay iY.out 3;have hfz12_4:=ay iY.out 4)|((with_reducible refine lN (t:=32) (p:=22) rfl ?_);refine kN (t:=32) (p:=22) (v:=?vo_w13) (w1:=(w10.setCell ⟨jE,4,none⟩ (.slice EO xF.length EP))) ?hg ?ho ?hn ?hr ?_;(case ho=>rfl);(case hg=>rfl);(case hn=>rfl);(case hr=>first|(go_simp;done)|(go_simp;rfl));intro w13 hw;have n0_:ak (Kd.R k34 34 w13 w.heap.size (fun k_=>some k_≠(.slice EO xF.length EP:Value).ownBlock∧k_≠jE) u5 iW):=⟨(by rw[hw];exact(by(with_reducible repeat(first|apply Kd.fB|apply Kd.gq|apply Kd.fJ));exact Kd.iU (Kd.gU (p:=⟨jE,4,none⟩) (Kd.iU Bg.out (fun k_ hk=>(⟨hk,hk.1.2⟩:_∧k_≠jE))) (fun _ hk=>hk.2) (.slice EO xF.length EP)) (fun _ hk=>⟨hk.1.2,hk.1.1.2⟩)))⟩;have n1_:ak (Kd.R k36 36 w13 w.heap.size (fun _=>True) (.slice EO xF.length EP) xF):=⟨(by rw[hw];exact(by(with_reducible repeat(first|apply Kd.fB|apply Kd.gq|apply Kd.fJ));exact Kd.iU (Kd.gU (p:=⟨jE,4,none⟩) (Kd.oK GZ.out iY.out (by decide)) (fun _ hk=>hk.2) (.slice EO xF.length EP)) (fun _ hk=>trivial)))⟩;have n2_:ak (w13.heap[jE]?=some (.cells #[.int .i64 (wrap64 (((au l0 dX).f0)+a1)),.int .i64 ((au l0 dX).f1),.string ((au l0 dX).f2),.string ((au l0 dX).f3),.slice EO xF.length EP] 34 (0,0))):=⟨(by rw[hw];exact(by(with_reducible repeat(first|refine aV ?_ _|refine aY ?_ |refine aW ?_ _));refine bT (cs:=#[.int .i64 (wrap64 (((au l0 dX).f0)+a1)),.int .i64 ((au l0 dX).f1),.string ((au l0 dX).f2),.string ((au l0 dX).f3),.slice Cw ((au l0 dX).f4).length Cx]) ?_ 4 _ rfl;(with_reducible repeat(first|refine aV ?_ _|refine aY ?_ |refine aW ?_ _));exact iY.out))⟩;have n3_:ak (Below w.heap.size w w13):=⟨(by rw[hw];exact(bs EZ.out))⟩;clear hw;clear Bg;clear GZ;clear iY;clear HB;have Bg:=n0_;have GZ:=n1_;have iY:=n2_;have HB:=n3_;clear n0_ n1_ n2_ n3_;have vZ:w13.cell? ⟨jE,0,none⟩=some (.int .i64 (wrap64 (((au l0 dX).f0)+a1))):=(aC iY.out 0).trans rfl;have wh:w13.cell? ⟨jE,1,none⟩=some (.int .i64 ((au l0 dX).f1)):=(aC iY.out 1).trans rfl;have wm:w13.cell? ⟨jE,2,none⟩=some (.string ((au l0 dX).f2)):=(aC iY.out 2).trans rfl;have wo:w13.cell? ⟨jE,3,none⟩=some (.string ((au l0 dX).f3)):=(aC iY.out 3).trans rfl;have wu:w13.cell? ⟨jE,4,none⟩=some (.slice EO xF.length EP):=(aC iY.out 4).trans rfl;have wz:=ay iY.out 0;have wB:=ay iY.out 1;have wC:=ay iY.out 2;have wD:=ay iY.out 3;have wE:=ay iY.out 4)|((with_reducible refine uX (b:=.append) (xs:=#[.tmp 23,.tmp 25]) rfl ?_);at_builtin;refine Kd.mP k34 (w0:=w) w.heap.size rfl (.tmp 23) (.tmp 25) 22 34 (.agg #[(.int .i64 0),(.int .i64 0),(.string ⟨#[]⟩),(.string ⟨#[]⟩),(.slice none 0 0)]) 72 rfl Tryz.underlying22 sO rfl (by decide) (by omega) u5 iW (⟨wrap64 (((au l0 dX).f0)+a1),(au l0 dX).f1,(au l0 dX).f2,(au l0 dX).f3,xF⟩:S34) [.int .i64 (wrap64 (((au l0 dX).f0)+a1)),.int .i64 ((au l0 dX).f1),.string ((au l0 dX).f2),.string ((au l0 dX).f3),.slice EO xF.length EP] (fun k_=>k_≠jE) (fun k_=>((fun k_=>k_≠jE)) k_∧some k_≠(u5:Value).ownBlock) rfl rfl ?aP (fun _ hk=>hk) ?aF ?aO ?aB ?aS ?aL ?_;(case aP=>exact yC _ _ _ (⟨wrap64 (((au l0 dX).f0)+a1),(au l0 dX).f1,(au l0 dX).f2,(au l0 dX).f3,xF⟩:S34) (Kd.iU (Kd.oK (Kd.R_apart' (GZ.out) (Kd.Iy Bg.out) (by decide)) iY.out (by decide)) (fun k_ hk=>⟨hk.2,hk.1.2⟩)));(case aB=>exact(bs EZ.out));(case aF=>exact(fun k_ hk=>Kd.freshB (g:=jE) (o:=.cells #[.int .i64 (wrap64 (((au l0 dX).f0)+a1)),.int .i64 ((au l0 dX).f1),.string ((au l0 dX).f2),.string ((au l0 dX).f3),.slice EO xF.length EP] 34 (0,0)) (kz iY.out) k_ hk));(case aO=>exact(by(with_reducible repeat(first|apply Kd.fB|apply Kd.gq|apply Kd.fJ));exact Kd.iU Bg.out (fun _ hk=>hk.2)));(case aS=>exact(aU (bs EZ.out)));(case aL=>have:=LMc7.out;omega);intro v119 w15 ho hb hg hat;rw[←Ny118.out]at ho;have HO120:=ak.mk (ho);replace iY:=ak.mk (tT (g:=jE) (o:=.cells #[.int .i64 (wrap64 (((au l0 dX).f0)+a1)),.int .i64 ((au l0 dX).f1),.string ((au l0 dX).f2),.string ((au l0 dX).f3),.slice EO xF.length EP] 34 (0,0)) (kz iY.out) hg (Kd.R_away Bg.out (fun _ hk=>hk.2)));replace HB:=ak.mk (hb);clear Bg GZ;clear ho hb hg hat))
       go_roundg k1
       case measure=>have:=HK1.out;omega
       case rel=>exact⟨(y118),(wrap64 (dX+1)),q'c,H',⟨by have:=HK1.out;omega⟩,⟨by(with_reducible repeat(first|apply Kd.fB|apply Kd.gq|apply Kd.fJ));exact Kd.iU HO120.out (fun _ hk=>trivial)⟩,⟨bs EZ.out⟩⟩
      ·rw[if_neg c7]at H
       exact absurd H (by simp)
     ·rw[if_neg c5]at H
      exact absurd H (by simp)
    ·rw[if_neg c4]at H
     exact absurd H (by simp)
   ·rw[if_neg c3]at H
    have nD:decide (dX<(l0.length:Int))=false:=decide_eq_false c3;clear c3;obtain rfl:=Option.some.inj H;go_wp2;go_ret;exact⟨_,by first|rfl|(simp[aJ,aM]<;>rfl)|(simp[*,aJ,aM]<;>rfl),by(with_reducible repeat(first|apply Kd.fB|apply Kd.gq|apply Kd.fJ));exact Bg.out,bz⟩
end Go.Proofs.aj.W7
namespace Go.Proofs.aj.W7
open Go.RowKit Go.Proofs Go.Proofs.YtkcmghlhpbepcaaGreatDoor Go.Proofs.ah.aD
def Au(outs:List Rw)(x:Rw):Option (List Rw):=
 if x.f1=1∧x.f3.data.toList=[]then some outs
 else if x.f1=1∧0<outs.length∧(au outs ((outs.length:Int) - 1)).f1=1∧(au outs ((outs.length:Int) - 1)).f0=x.f0 then
  if(au outs ((outs.length:Int) - 1)).f3.size+x.f3.size≤9223372036854775807 then
   some (outs.set (outs.length - 1) ⟨(au outs ((outs.length:Int) - 1)).f0,(au outs ((outs.length:Int) - 1)).f1,(au outs ((outs.length:Int) - 1)).f2,(au outs ((outs.length:Int) - 1)).f3++x.f3,(au outs ((outs.length:Int) - 1)).f4⟩)
  else none
 else if outs.length<1000000000000 then some (outs++[x])else none
def uZ:List Rw→List Rw→Option (List Rw)
 |outs,[]=>some outs
 |outs,x::xs=>(Au outs x).bind fun o=>uZ o xs
def jH.f(l0:List Rw):Option (List Rw):=(gZ.f (l0.length+1) l0 0).bind fun ms=>uZ [] ms
theorem mQ(w:World)(o:Obj):(w.alloc o).drew=w.drew.alloc o:=rfl
theorem rY{v v1:Value}{n m:Nat}(h:∀k,v.ownBlock=some k→n≤k)(hat:v1.ownBlock=v.ownBlock∨∃b,v1.ownBlock=some b∧m≤b)(hm:n≤m):∀k,v1.ownBlock=some k→n≤k:=by
 intro k hk
 rcases hat with e|⟨b,e,hb⟩
 ·exact h k (e▸hk)
 ·rw[e]at hk
  cases hk;omega
theorem jH.calls(A:Option Addr)(c:Nat)(xs res:List Rw)(w:World)(hr:k34.C w A xs.length xs)(hcap:xs.length≤c)(h:jH.f xs=some res):
 Calls Tryz.prog 41 #[.slice A xs.length c] w fun e w'=>∃v0_:Value,e=.returned (v0_)∧Kd.R k34 34 w' w.heap.size (fun _=>True) v0_ res∧Below w.heap.size w w':=by
 unfold jH.f at h;obtain⟨ms,hms,h⟩:=Option.bind_eq_some_iff.1 h;have hmv:=Lib.hid (gZ.calls (xs.length+1) A c xs 0 ms w hr hcap hms);clear hms;replace h:=Lib.hid h;go_enter Tryz.func41,Tryz.ntmps41
 go_wp2_with(go_at_call 89;((with_reducible refine hmv.out.mono ?_);rintro e w1 ⟨vm,rfl,hm,hb1⟩;obtain⟨A1,c1,rfl⟩:=Kd.cK hm))
 have hml:=(Kd.bq hm).2.2.2.1
 go_loopw [3,10] (fun vo vi wr=>∃(i:Nat) (outs:List Rw),vi=.int .i64 i∧i≤ms.length∧Hid (uZ outs (ms.drop i)=some res)∧Kd.R k34 34 wr w.heap.size (fun _=>True) vo outs∧Below w1.heap.size w1 wr∧Hid (∀k,vo.ownBlock=some k→w1.heap.size≤k)) (fun _ vi _=>ms.length - (intOf vi).toNat)
 case atStart=>exact⟨0,[],rfl,Nat.zero_le _,h.out,Kd.nI _ _ _ _ _,Below.refl _ _,fun k hk=>by simp[Value.ownBlock]at hk⟩
 case round=>
  obtain⟨i,outs,rfl,hi,hrest,hO,hB,hown⟩:=hrel;obtain⟨A2,c2,rfl⟩:=Kd.cK hO;have hol:=(Kd.bq hO).2.2.2.1;have hbw:=hb1.size;have hbz:=hB.size
  by_cases hlt:i<ms.length
  ·obtain⟨gm,capm,hv,-,-,-⟩:=Kd.Eu hm (by omega)
   simp only[Value.slice.injEq,true_and]at hv;obtain⟨rfl,rfl⟩:=hv;obtain⟨cs,hcl,hM,hcell,hfz⟩:=Kd.Nt hm (⟨0,0,⟨#[]⟩,⟨#[]⟩,[]⟩:Rw) i (by omega) (by omega);have hgd:ms.getD (i:Int).toNat (⟨0,0,⟨#[]⟩,⟨#[]⟩,[]⟩:Rw)=ms[i]:=by simp[hlt]
   rw[hgd]at hM;have IC:=hrest.out;rw[List.drop_eq_getElem_cons hlt]at IC;simp only[uZ]at IC;obtain⟨o2,hst,hre⟩:=Option.bind_eq_some_iff.1 IC;clear hrest hgd hfz IC;generalize ms[i]=x at *;obtain⟨v4,rfl,hv4⟩:=Ce hM;obtain⟨A4,c4,rfl⟩:=Kd.cK hv4;have z0:=aR (hcell 0 _ rfl) hB;have z1:=aR (hcell 1 _ rfl) hB;have z2:=aR (hcell 2 _ rfl) hB;have z3:=aR (hcell 3 _ rfl) hB;have z4:=aR (hcell 4 _ rfl) hB;change wr.cell? ⟨gm,i * 5,none⟩=_ at z0;change wr.cell? ⟨gm,i * 5+1,none⟩=_ at z1;change wr.cell? ⟨gm,i * 5+2,none⟩=_ at z2;change wr.cell? ⟨gm,i * 5+3,none⟩=_ at z3;change wr.cell? ⟨gm,i * 5+4,none⟩=_ at z4;have hrest3:=Lib.hid hre;clear hcell hcl hre;obtain⟨xd,xk,xn,xt,xa⟩:=x;simp only at z0 z1 z2 z3 z4;have hnt:=bM wr #[.int .i64 xd,.int .i64 xk,.string xn,.string xt,.slice A4 xa.length c4] 34;obtain⟨⟨p0,p1,p2,p3,p4⟩,p5⟩:=aT hnt;have hBA:=hB.alloc hbz (.cells #[.int .i64 xd,.int .i64 xk,.string xn,.string xt,.slice A4 xa.length c4] 34);have hOA:=Kd.fB hO (.cells #[.int .i64 xd,.int .i64 xk,.string xn,.string xt,.slice A4 xa.length c4] 34)
   have hsA:w.heap.size≤(wr.alloc (.cells #[.int .i64 xd,.int .i64 xk,.string xn,.string xt,.slice A4 xa.length c4] 34)).heap.size:=by rw[World.size_alloc];omega
   have hsB:w1.heap.size≤(wr.alloc (.cells #[.int .i64 xd,.int .i64 xk,.string xn,.string xt,.slice A4 xa.length c4] 34)).heap.size:=by rw[World.size_alloc];omega
   have hMp:=Kd.gG k34 (ok':=fun k=>k<w1.heap.size) (fun k hk=>hk.2.2.1) (Kd.gL k34 hM);have hsz1:(wr.alloc (.cells #[.int .i64 xd,.int .i64 xk,.string xn,.string xt,.slice A4 xa.length c4] 34)).heap.size=wr.heap.size+1:=World.size_alloc _ _;unfold Au at hst
   by_cases hA:xk=1∧xt.data.toList=[]
   ·rw[if_pos hA]at hst
    obtain rfl:=Option.some.inj hst;obtain⟨rfl,hxt⟩:=hA
    obtain rfl:xt=⟨#[]⟩:=by
     obtain⟨d⟩:=xt;simpa using hxt
    clear hst;go_wp2;exact⟨⟨i+1,outs,rfl,by omega,hrest3,hOA,hBA,hown⟩,by simp[intOf];omega⟩
   ·rw[if_neg hA]at hst
    have hne:xk=1→¬xt.data.toList=[]:=fun e1 e2=>hA ⟨e1,e2⟩
    clear hA;have hne1:xk=1→(xt.toList==[])=false:=fun e1=>by rw[beq_eq_false_iff_ne,Lib.toList_data];exact hne e1
    by_cases hk1:xk=1
    ·have hx1:=hne1 hk1
     have hx2:¬xt.toList=[]:=by rw[Lib.toList_data];exact hne hk1
     subst hk1
     by_cases hn0:0<outs.length
     ·obtain⟨go,capo,hv,-,-,-⟩:=Kd.Eu hO hn0
      simp only[Value.slice.injEq,true_and]at hv;obtain⟨rfl,rfl⟩:=hv;obtain⟨m,hm1⟩:∃m,outs.length=m+1:=⟨outs.length - 1,by omega⟩
      obtain⟨cs,hcl,hMo,uW,hfzo⟩:=Kd.Nt hOA (⟨0,0,⟨#[]⟩,⟨#[]⟩,[]⟩:Rw) (m:Int) (by omega) (by omega);have hgd:outs.getD (m:Int).toNat (⟨0,0,⟨#[]⟩,⟨#[]⟩,[]⟩:Rw)=outs[m]:=by simp[show m<outs.length by omega]
      have hrd:au outs ((outs.length:Int) - 1)=outs[m]:=by
       rw[show(outs.length:Int) - 1=(m:Int)from by omega];simp[au,show m<outs.length by omega]
      rw[hgd]at hMo;rw[hrd,show outs.length - 1=m from by omega]at hst;generalize outs[m]=y at *;obtain⟨w4,rfl,hw4⟩:=Ce hMo;have y0:=uW 0 _ rfl;have y1:=uW 1 _ rfl;have y3:=uW 3 _ rfl;have f3:=hfzo 3;change World.cell? _ ⟨go,m * 5,none⟩=_ at y0;change World.cell? _ ⟨go,m * 5+1,none⟩=_ at y1;change World.cell? _ ⟨go,m * 5+3,none⟩=_ at y3;change World.frozen? _ ⟨go,m * 5+3,none⟩=_ at f3;obtain⟨yd,yk,yn,yt,ya⟩:=y;simp only at y0 y1 y3
      by_cases hB1:yk=1∧yd=xd
      ·rw[if_pos ⟨rfl,hn0,hB1⟩]at hst
       obtain⟨rfl,rfl⟩:=hB1;have hcx:¬xt=⟨#[]⟩:=fun e=>hx2 (by rw[Lib.toList_data,e])
       clear hne hne1;rw[hm1];go_wp2
       first
        |go_region
        |skip
       by_cases hsz:yt.size+xt.size≤9223372036854775807
       ·rw[if_pos hsz]at hst
        obtain rfl:=Option.some.inj hst;have a1:decide (yt.size+xt.size≤9223372036854775807)=true:=decide_eq_true hsz;have a2:(9223372036854775807<yt.size+xt.size)=False:=eq_false (by omega);clear hst;go_wp2
        first
         |go_region
         |skip
        go_wp2;have hge:=hown.out go (by simp[Value.ownBlock]);have hS:=(Kd.R_seg hOA (m:Int) (by omega) (by omega) (c:=[.int .i64 yd,.int .i64 1,.string yn,.string yt,w4]) (seg:=[.string (yt++xt)]) (j:=3) hcl uW (by show 3+1≤5;omega) (x':=(⟨yd,1,yn,yt++xt,ya⟩:Rw)) (okp:=fun k=>True∧k≠go) (yC _ _ _ (⟨yd,1,yn,yt++xt,ya⟩:Rw) hw4) (fun _ h=>h)).1;rw[hm1]at hS;have hBS:Below w1.heap.size w1 _:=hBA.setCell (p:=⟨go,m * 5+3,none⟩) hge (.string (yt++xt));exact⟨⟨i+1,outs.set m (⟨yd,1,yn,yt++xt,ya⟩:Rw),rfl,by omega,hrest3,Kd.fJ (Kd.fJ hS),bX (bX hBS),Lib.hid (fun k hk=>hown.out k (by simpa [Value.ownBlock]using hk))⟩,by simp[intOf];omega⟩
       ·rw[if_neg hsz]at hst
        cases hst
      ·rw[if_neg (fun e=>hB1 e.2.2)]at hst
       have hcx:¬xt=⟨#[]⟩:=fun e=>hx2 (by rw[Lib.toList_data,e])
       clear hne hne1
       by_cases hy1:yk=1
       ·subst hy1
        have hy2:(yd==xd)=false:=beq_eq_false_iff_ne.2 (fun e=>hB1 ⟨rfl,e⟩)
        by_cases hlen:outs.length<1000000000000
        ·rw[if_pos hlen]at hst
         obtain rfl:=Option.some.inj hst;clear hst;rw[hm1];rw[hm1]at hOA hown
         go_wp2_with(at_builtin;(try rw[mQ]);refine Kd.mP k34 (w0:=w1) w.heap.size rfl (.tmp 16) (.tmp 18) 22 34 (.agg #[(.int .i64 0),(.int .i64 0),(.string ⟨#[]⟩),(.string ⟨#[]⟩),(.slice none 0 0)]) 72 rfl Tryz.underlying22 sO rfl (by decide) (by omega) (.slice (some ⟨go,0,none⟩) (m+1) c2) outs (⟨xd,1,xn,xt,xa⟩:Rw) [.int .i64 xd,.int .i64 1,.string xn,.string xt,.slice A4 xa.length c4] (fun _=>True) (fun k=>k<w1.heap.size) rfl ?aX ?aP ?aK ?aF ?aO ?aB ?aS ?aL ?_;(case aX=>exact congrArg (fun n=>Value.slice (some ⟨n,0,none⟩) 1 1) hsz1.symm);(case aP=>exact Kd.qH hMp (by first|with_reducible exact bX hBA|with_reducible exact hBA));(case aK=>exact fun k hk=>⟨trivial,fun e=>by have:=hown.out k e.symm;omega⟩);(case aF=>exact fun _ _=>trivial);(case aO=>first|with_reducible exact Kd.fJ hOA|with_reducible exact hOA);(case aB=>exact Below.mono (by first|with_reducible exact bX hBA|with_reducible exact hBA) hbw);(case aS=>exact hsA);(case aL=>omega);intro v1 w2 hO2 hb2 hg2 xK;obtain⟨A3,c3,rfl⟩:=Kd.cK hO2;have hB2:=Below.grown (bX hBA) hg2 hsB (fun k hk=>hown.out k hk);have hown2:=Lib.hid (rY hown.out xK hsB))
         first
          |(go_region;go_wp2_with(at_builtin;(try rw[mQ]);refine Kd.mP k34 (w0:=w1) w.heap.size rfl (.tmp 16) (.tmp 18) 22 34 (.agg #[(.int .i64 0),(.int .i64 0),(.string ⟨#[]⟩),(.string ⟨#[]⟩),(.slice none 0 0)]) 72 rfl Tryz.underlying22 sO rfl (by decide) (by omega) (.slice (some ⟨go,0,none⟩) (m+1) c2) outs (⟨xd,1,xn,xt,xa⟩:Rw) [.int .i64 xd,.int .i64 1,.string xn,.string xt,.slice A4 xa.length c4] (fun _=>True) (fun k=>k<w1.heap.size) rfl ?aX ?aP ?aK ?aF ?aO ?aB ?aS ?aL ?_;(case aX=>exact congrArg (fun n=>Value.slice (some ⟨n,0,none⟩) 1 1) hsz1.symm);(case aP=>exact Kd.qH hMp (by first|with_reducible exact bX hBA|with_reducible exact hBA));(case aK=>exact fun k hk=>⟨trivial,fun e=>by have:=hown.out k e.symm;omega⟩);(case aF=>exact fun _ _=>trivial);(case aO=>first|with_reducible exact Kd.fJ hOA|with_reducible exact hOA);(case aB=>exact Below.mono (by first|with_reducible exact bX hBA|with_reducible exact hBA) hbw);(case aS=>exact hsA);(case aL=>omega);intro v1 w2 hO2 hb2 hg2 xK;obtain⟨A3,c3,rfl⟩:=Kd.cK hO2;have hB2:=Below.grown (bX hBA) hg2 hsB (fun k hk=>hown.out k hk);have hown2:=Lib.hid (rY hown.out xK hsB)))
          |skip
         rw[List.length_append,hm1,List.length_singleton]at hO2 hown2;exact⟨⟨i+1,outs++[(⟨xd,1,xn,xt,xa⟩:Rw)],rfl,by omega,hrest3,hO2,hB2,hown2⟩,by simp[intOf];omega⟩
        ·rw[if_neg hlen]at hst
         cases hst
       ·have hy2:(yk==1)=false:=beq_eq_false_iff_ne.2 hy1
        by_cases hlen:outs.length<1000000000000
        ·rw[if_pos hlen]at hst
         obtain rfl:=Option.some.inj hst;clear hst;rw[hm1];rw[hm1]at hOA hown
         go_wp2_with(at_builtin;(try rw[mQ]);refine Kd.mP k34 (w0:=w1) w.heap.size rfl (.tmp 16) (.tmp 18) 22 34 (.agg #[(.int .i64 0),(.int .i64 0),(.string ⟨#[]⟩),(.string ⟨#[]⟩),(.slice none 0 0)]) 72 rfl Tryz.underlying22 sO rfl (by decide) (by omega) (.slice (some ⟨go,0,none⟩) (m+1) c2) outs (⟨xd,1,xn,xt,xa⟩:Rw) [.int .i64 xd,.int .i64 1,.string xn,.string xt,.slice A4 xa.length c4] (fun _=>True) (fun k=>k<w1.heap.size) rfl ?aX ?aP ?aK ?aF ?aO ?aB ?aS ?aL ?_;(case aX=>exact congrArg (fun n=>Value.slice (some ⟨n,0,none⟩) 1 1) hsz1.symm);(case aP=>exact Kd.qH hMp (by first|with_reducible exact bX hBA|with_reducible exact hBA));(case aK=>exact fun k hk=>⟨trivial,fun e=>by have:=hown.out k e.symm;omega⟩);(case aF=>exact fun _ _=>trivial);(case aO=>first|with_reducible exact Kd.fJ hOA|with_reducible exact hOA);(case aB=>exact Below.mono (by first|with_reducible exact bX hBA|with_reducible exact hBA) hbw);(case aS=>exact hsA);(case aL=>omega);intro v1 w2 hO2 hb2 hg2 xK;obtain⟨A3,c3,rfl⟩:=Kd.cK hO2;have hB2:=Below.grown (bX hBA) hg2 hsB (fun k hk=>hown.out k hk);have hown2:=Lib.hid (rY hown.out xK hsB))
         first
          |(go_region;go_wp2_with(at_builtin;(try rw[mQ]);refine Kd.mP k34 (w0:=w1) w.heap.size rfl (.tmp 16) (.tmp 18) 22 34 (.agg #[(.int .i64 0),(.int .i64 0),(.string ⟨#[]⟩),(.string ⟨#[]⟩),(.slice none 0 0)]) 72 rfl Tryz.underlying22 sO rfl (by decide) (by omega) (.slice (some ⟨go,0,none⟩) (m+1) c2) outs (⟨xd,1,xn,xt,xa⟩:Rw) [.int .i64 xd,.int .i64 1,.string xn,.string xt,.slice A4 xa.length c4] (fun _=>True) (fun k=>k<w1.heap.size) rfl ?aX ?aP ?aK ?aF ?aO ?aB ?aS ?aL ?_;(case aX=>exact congrArg (fun n=>Value.slice (some ⟨n,0,none⟩) 1 1) hsz1.symm);(case aP=>exact Kd.qH hMp (by first|with_reducible exact bX hBA|with_reducible exact hBA));(case aK=>exact fun k hk=>⟨trivial,fun e=>by have:=hown.out k e.symm;omega⟩);(case aF=>exact fun _ _=>trivial);(case aO=>first|with_reducible exact Kd.fJ hOA|with_reducible exact hOA);(case aB=>exact Below.mono (by first|with_reducible exact bX hBA|with_reducible exact hBA) hbw);(case aS=>exact hsA);(case aL=>omega);intro v1 w2 hO2 hb2 hg2 xK;obtain⟨A3,c3,rfl⟩:=Kd.cK hO2;have hB2:=Below.grown (bX hBA) hg2 hsB (fun k hk=>hown.out k hk);have hown2:=Lib.hid (rY hown.out xK hsB)))
          |skip
         rw[List.length_append,hm1,List.length_singleton]at hO2 hown2;exact⟨⟨i+1,outs++[(⟨xd,1,xn,xt,xa⟩:Rw)],rfl,by omega,hrest3,hO2,hB2,hown2⟩,by simp[intOf];omega⟩
        ·rw[if_neg hlen]at hst
         cases hst
     ·rw[if_neg (fun e=>hn0 e.2.1)]at hst
      have hcx:¬xt=⟨#[]⟩:=fun e=>hx2 (by rw[Lib.toList_data,e])
      have hl0:outs.length=0:=by omega
      clear hne hne1
      by_cases hlen:outs.length<1000000000000
      ·rw[if_pos hlen]at hst
       obtain rfl:=Option.some.inj hst;clear hst;rw[hl0];rw[hl0]at hOA hown
       go_wp2_with(at_builtin;(try rw[mQ]);refine Kd.mP k34 (w0:=w1) w.heap.size rfl (.tmp 16) (.tmp 18) 22 34 (.agg #[(.int .i64 0),(.int .i64 0),(.string ⟨#[]⟩),(.string ⟨#[]⟩),(.slice none 0 0)]) 72 rfl Tryz.underlying22 sO rfl (by decide) (by omega) (.slice A2 0 c2) outs (⟨xd,1,xn,xt,xa⟩:Rw) [.int .i64 xd,.int .i64 1,.string xn,.string xt,.slice A4 xa.length c4] (fun _=>True) (fun k=>k<w1.heap.size) rfl ?aX ?aP ?aK ?aF ?aO ?aB ?aS ?aL ?_;(case aX=>exact congrArg (fun n=>Value.slice (some ⟨n,0,none⟩) 1 1) hsz1.symm);(case aP=>exact Kd.qH hMp (by first|with_reducible exact bX hBA|with_reducible exact hBA));(case aK=>exact fun k hk=>⟨trivial,fun e=>by have:=hown.out k e.symm;omega⟩);(case aF=>exact fun _ _=>trivial);(case aO=>first|with_reducible exact Kd.fJ hOA|with_reducible exact hOA);(case aB=>exact Below.mono (by first|with_reducible exact bX hBA|with_reducible exact hBA) hbw);(case aS=>exact hsA);(case aL=>omega);intro v1 w2 hO2 hb2 hg2 xK;obtain⟨A3,c3,rfl⟩:=Kd.cK hO2;have hB2:=Below.grown (bX hBA) hg2 hsB (fun k hk=>hown.out k hk);have hown2:=Lib.hid (rY hown.out xK hsB))
       first
        |(go_region;go_wp2_with(at_builtin;(try rw[mQ]);refine Kd.mP k34 (w0:=w1) w.heap.size rfl (.tmp 16) (.tmp 18) 22 34 (.agg #[(.int .i64 0),(.int .i64 0),(.string ⟨#[]⟩),(.string ⟨#[]⟩),(.slice none 0 0)]) 72 rfl Tryz.underlying22 sO rfl (by decide) (by omega) (.slice A2 0 c2) outs (⟨xd,1,xn,xt,xa⟩:Rw) [.int .i64 xd,.int .i64 1,.string xn,.string xt,.slice A4 xa.length c4] (fun _=>True) (fun k=>k<w1.heap.size) rfl ?aX ?aP ?aK ?aF ?aO ?aB ?aS ?aL ?_;(case aX=>exact congrArg (fun n=>Value.slice (some ⟨n,0,none⟩) 1 1) hsz1.symm);(case aP=>exact Kd.qH hMp (by first|with_reducible exact bX hBA|with_reducible exact hBA));(case aK=>exact fun k hk=>⟨trivial,fun e=>by have:=hown.out k e.symm;omega⟩);(case aF=>exact fun _ _=>trivial);(case aO=>first|with_reducible exact Kd.fJ hOA|with_reducible exact hOA);(case aB=>exact Below.mono (by first|with_reducible exact bX hBA|with_reducible exact hBA) hbw);(case aS=>exact hsA);(case aL=>omega);intro v1 w2 hO2 hb2 hg2 xK;obtain⟨A3,c3,rfl⟩:=Kd.cK hO2;have hB2:=Below.grown (bX hBA) hg2 hsB (fun k hk=>hown.out k hk);have hown2:=Lib.hid (rY hown.out xK hsB)))
        |skip
       rw[List.length_append,hl0,List.length_singleton,Nat.zero_add]at hO2 hown2;exact⟨⟨i+1,outs++[(⟨xd,1,xn,xt,xa⟩:Rw)],rfl,by omega,hrest3,hO2,hB2,hown2⟩,by simp[intOf];omega⟩
      ·rw[if_neg hlen]at hst
       cases hst
    ·rw[if_neg (fun e=>hk1 e.1)]at hst
     have hq1:(xk==1)=false:=beq_eq_false_iff_ne.2 hk1;clear hne hne1
     by_cases hlen:outs.length<1000000000000
     ·rw[if_pos hlen]at hst
      obtain rfl:=Option.some.inj hst;clear hst
      go_wp2_with(at_builtin;(try rw[mQ]);refine Kd.mP k34 (w0:=w1) w.heap.size rfl (.tmp 16) (.tmp 18) 22 34 (.agg #[(.int .i64 0),(.int .i64 0),(.string ⟨#[]⟩),(.string ⟨#[]⟩),(.slice none 0 0)]) 72 rfl Tryz.underlying22 sO rfl (by decide) (by omega) (.slice A2 outs.length c2) outs (⟨xd,xk,xn,xt,xa⟩:Rw) [.int .i64 xd,.int .i64 xk,.string xn,.string xt,.slice A4 xa.length c4] (fun _=>True) (fun k=>k<w1.heap.size) rfl ?aX ?aP ?aK ?aF ?aO ?aB ?aS ?aL ?_;(case aX=>exact congrArg (fun n=>Value.slice (some ⟨n,0,none⟩) 1 1) hsz1.symm);(case aP=>exact Kd.qH hMp (by first|with_reducible exact bX hBA|with_reducible exact hBA));(case aK=>exact fun k hk=>⟨trivial,fun e=>by have:=hown.out k e.symm;omega⟩);(case aF=>exact fun _ _=>trivial);(case aO=>first|with_reducible exact Kd.fJ hOA|with_reducible exact hOA);(case aB=>exact Below.mono (by first|with_reducible exact bX hBA|with_reducible exact hBA) hbw);(case aS=>exact hsA);(case aL=>omega);intro v1 w2 hO2 hb2 hg2 xK;obtain⟨A3,c3,rfl⟩:=Kd.cK hO2;have hB2:=Below.grown (bX hBA) hg2 hsB (fun k hk=>hown.out k hk);have hown2:=Lib.hid (rY hown.out xK hsB))
      first
       |(go_region;go_wp2_with(at_builtin;(try rw[mQ]);refine Kd.mP k34 (w0:=w1) w.heap.size rfl (.tmp 16) (.tmp 18) 22 34 (.agg #[(.int .i64 0),(.int .i64 0),(.string ⟨#[]⟩),(.string ⟨#[]⟩),(.slice none 0 0)]) 72 rfl Tryz.underlying22 sO rfl (by decide) (by omega) (.slice A2 outs.length c2) outs (⟨xd,xk,xn,xt,xa⟩:Rw) [.int .i64 xd,.int .i64 xk,.string xn,.string xt,.slice A4 xa.length c4] (fun _=>True) (fun k=>k<w1.heap.size) rfl ?aX ?aP ?aK ?aF ?aO ?aB ?aS ?aL ?_;(case aX=>exact congrArg (fun n=>Value.slice (some ⟨n,0,none⟩) 1 1) hsz1.symm);(case aP=>exact Kd.qH hMp (by first|with_reducible exact bX hBA|with_reducible exact hBA));(case aK=>exact fun k hk=>⟨trivial,fun e=>by have:=hown.out k e.symm;omega⟩);(case aF=>exact fun _ _=>trivial);(case aO=>first|with_reducible exact Kd.fJ hOA|with_reducible exact hOA);(case aB=>exact Below.mono (by first|with_reducible exact bX hBA|with_reducible exact hBA) hbw);(case aS=>exact hsA);(case aL=>omega);intro v1 w2 hO2 hb2 hg2 xK;obtain⟨A3,c3,rfl⟩:=Kd.cK hO2;have hB2:=Below.grown (bX hBA) hg2 hsB (fun k hk=>hown.out k hk);have hown2:=Lib.hid (rY hown.out xK hsB)))
       |skip
      rw[List.length_append,List.length_singleton]at hO2 hown2;exact⟨⟨i+1,outs++[(⟨xd,xk,xn,xt,xa⟩:Rw)],rfl,by omega,hrest3,hO2,hB2,hown2⟩,by simp[intOf];omega⟩
     ·rw[if_neg hlen]at hst
      cases hst
  ·have hr0:outs=res:=by
    have h1:=hrest.out;rw[List.drop_of_length_le (by omega)]at h1;exact Option.some.inj h1
   subst hr0;clear hrest h;go_wp2;go_ret;exact⟨_,rfl,hO,Go.Proofs.YtkcmghlhpbepcaaGreatDoor.bC hb1 hbw hB⟩
end Go.Proofs.aj.W7
