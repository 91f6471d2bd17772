/- Lemmas and walks, part 13. -/
import Derived.Test.YtkcmghlhpbepcaaGreatDoorNB12
set_option linter.unusedVariables false
set_option linter.unusedSimpArgs false
set_option maxHeartbeats 8000000
set_option maxRecDepth 100000
namespace Go.Proofs.aj.W7
open Go.RowKit Go.Proofs.ah.aD Go.Proofs.ah.bH Go.Proofs.ah.bV
attribute [local go_sem] dA dB dP dQ bY bZ dD dF
def gX.l0:Nat→Int→List (S34)→List (S34)→Int→Int→Option ((List (S34)))
 |0,_,_,_,_,_=>none
 |k+1,x1,x5,x8,x9,x10=>if x10<x9 then(if 0≤x10 then(if x10<(x8.length:Int)then((tN.f ((au x8 x10).f4)).bind fun wQ=>(if x5.length<1954687338268 then(gX.l0 k x1 (x5++[(⟨wrap64 (((au x8 x10).f0)+x1),(au x8 x10).f1,(au x8 x10).f2,(au x8 x10).f3,wQ⟩:S34)]) x8 x9 (wrap64 (x10+1)))else(none)))else(none))else(none))else(some x5)
def gX.f(k:Nat)(l0:List (S34))(a1:Int):Option ((List (S34))):=gX.l0 k a1 ([] :List (S34)) l0 (l0.length:Int) 0
theorem gX.calls(k:Nat)(A0:Option Addr)(c0:Nat)(l0:List (S34))(a1:Int)(r:List (S34))(w:World)(hr0:Kd.C k34 w A0 l0.length l0)(hc0:l0.length≤c0)(h:gX.f k l0 a1=some r):
 Calls Tryz.prog 89 #[.slice A0 l0.length c0,.int .i64 a1] w fun e w'=>∃v0_:Value,e=.returned (v0_)∧Kd.R k34 34 w' w.heap.size (fun _=>True) v0_ r∧Below w.heap.size w w':=by
 have hu34:=Tryz.underlying34;have HR0:=ak.mk hr0;have HC0:=ak.mk hc0;clear hr0 hc0;have HB:=ak.mk (Below.refl w.heap.size w);have H:(gX.l0 k a1 ([] :List (S34)) l0 (l0.length:Int) 0)=some r:=h;clear h;have H':=ak.mk H;clear H;go_enter Tryz.func89,Tryz.ntmps89;go_wp2
 go_loopg [5,10] k (fun kq v5 v10 w'=>∃(iN:List (S34)) (dS:Int),v10=.int .i64 dS∧ak (gX.l0 kq a1 iN l0 (l0.length:Int) dS=some r)∧ak (kq≤k)∧ak (Kd.R k34 34 w' w.heap.size (fun _=>True) v5 iN)∧ak (Below w.heap.size w w'))
 case atStart=>exact⟨(([] :List (S34))),(0),q'c,H',⟨Nat.le_refl _⟩,⟨by first|exact Kd.ni _ _ _ _ _|exact Kd.N_nil _ _ _ _ _|exact Kd.V_nil _ _ _ _ _|exact Kd.Q_nil _ _ _ _ _|exact Kd.S_nil _ _ _ _ _⟩,⟨bz⟩⟩
 case round=>
  clear H'
  try clear p2
  obtain⟨iN,dS,rfl,HA,HK1,Av,HB⟩:=hrel;cases gk with
  |zero=>exact absurd HA.out (by simp[gX.l0])
  |succ k1=>
   have H:=HA.out;clear HA;simp only[gX.l0]at H
   by_cases c3:dS<(l0.length:Int)
   ·rw[if_pos c3]at H
    have nC:decide (dS<(l0.length:Int))=true:=decide_eq_true c3;clear c3
    by_cases c4:0≤dS
    ·rw[if_pos c4]at H
     have mP:decide (0≤dS)=true:=decide_eq_true c4;clear c4
     by_cases c5:dS<(l0.length:Int)
     ·rw[if_pos c5]at H
      have uf:decide (dS<(l0.length:Int))=true:=decide_eq_true c5;clear c5;replace H:=Option.bind_eq_some_iff.mp H;obtain⟨wQ,A60,H⟩:=H;replace H:(if iN.length<1954687338268 then(gX.l0 k1 a1 (iN++[(⟨wrap64 (((au l0 dS).f0)+a1),(au l0 dS).f1,(au l0 dS).f2,(au l0 dS).f3,wQ⟩:S34)]) l0 (l0.length:Int) (wrap64 (dS+1)))else(none))=some r:=H;have A6:=ak.mk A60;clear A60
      by_cases c7:iN.length<1954687338268
      ·rw[if_pos c7]at H
       have LMc7:=ak.mk c7;clear c7;obtain⟨y118,KL⟩:∃y_:List (S34),y_=(iN++[(⟨wrap64 (((au l0 dS).f0)+a1),(au l0 dS).f1,(au l0 dS).f2,(au l0 dS).f3,wQ⟩:S34)]):=⟨_,rfl⟩
       replace H:(gX.l0 k1 a1 y118 l0 (l0.length:Int) (wrap64 (dS+1)))=some r:=by first|(rw[KL];with_reducible exact H)|(have H2_:=(Option.bind_some _ _).symm.trans H;rw[KL];with_reducible exact H2_)|(have H2_:=(Option.bind_some _ _).symm.trans H;with_reducible exact H2_)|with_reducible exact H|(rw[KL];exact H)|exact H
       have Ny118:=ak.mk KL;clear KL;have H':=ak.mk H;clear H;have p113:0≤(dS:Int):=q'b;have q113:dS<(l0.length:Int):=q'b;obtain⟨ad113,BI,BJ,e113,IK,IL,IQ,IU,IV,O8,O9⟩:=kH HR0.out dS p113 q113;cases e113;replace IK:=(HB.out.cell (World.block_lt_of_cell? w _ IK)).trans IK;replace IL:=(HB.out.cell (World.block_lt_of_cell? w _ IL)).trans IL;replace IQ:=(HB.out.cell (World.block_lt_of_cell? w _ IQ)).trans IQ;replace IU:=(HB.out.cell (World.block_lt_of_cell? w _ IU)).trans IU;replace IV:=(HB.out.cell (World.block_lt_of_cell? w _ IV)).trans IV;have HR113_4:=ak.mk O9;have HC113_4:=ak.mk O8;clear O9 O8;replace p113:=eq_true p113;replace q113:=eq_true q113
       go_wp2_with(first|((with_reducible refine cB (N:=7) rfl ?_);refine eG ?hg (N:=7) ?hd (cs:=#[.int .i64 0,.int .i64 0,.string (⟨#[]⟩:ByteArray),.string (⟨#[]⟩:ByteArray),.slice none 0 0]) (t:=34) ?hr ?_;(case hd=>rfl);(case hg=>rfl);(case hr=>first|(go_simp;done)|(go_simp;rfl));intro jq hg w8 fK hb;have n0_:=ak.mk (Kd.dV (Kd.R_elderB (rz Av.out) jq (Nat.le_of_eq hg.symm)) hb);have n1_:=ak.mk (aG bz hb);have n2_:=ak.mk (fK);have n3_:=ak.mk ((by rw[hg];exact(aR bz):w.heap.size≤jq));have n4_:=ak.mk ((by rw[hg];exact(aR bz):w.heap.size≤jq));clear Av;clear HB;have Av:=n0_;have HB:=n1_;have iP:=n2_;have GW114:=n3_;have Et:=n4_;clear n0_ n1_ n2_ n3_ n4_;clear hb fK hg;have vL:w8.cell? ⟨jq,0,none⟩=some (.int .i64 0):=(aC iP.out 0).trans rfl;have vM:w8.cell? ⟨jq,1,none⟩=some (.int .i64 0):=(aC iP.out 1).trans rfl;have vN:w8.cell? ⟨jq,2,none⟩=some (.string (⟨#[]⟩:ByteArray)):=(aC iP.out 2).trans rfl;have vO:w8.cell? ⟨jq,3,none⟩=some (.string (⟨#[]⟩:ByteArray)):=(aC iP.out 3).trans rfl;have vP:w8.cell? ⟨jq,4,none⟩=some (.slice none 0 0):=(aC iP.out 4).trans rfl;have vQ:=ay iP.out 0;have vR:=ay iP.out 1;have vS:=ay iP.out 2;have vT:=ay iP.out 3;have vU:=ay iP.out 4)|((with_reducible refine aZ (f:=132) rfl ?_);refine dI (some 21) rfl rfl Tryz.func132 (by kernel_rfl) rfl #[.slice BI ((au l0 dS).f4).length BJ] rfl q'a ?_;(with_reducible refine(tN.calls _ _ ((au l0 dS).f4) wQ _ ?cO ?dG A6.out).mono ?_);(case cO=>exact Kd.eD HR113_4.out (bs Et.out));(case dG=>exact HC113_4.out);rintro e w10 ⟨v116,rfl,ho0,hb⟩;refine⟨_,rfl,?_⟩;have n0_:=ak.mk (Kd.je (by(with_reducible repeat(first|apply Kd.fq|apply Kd.fT|apply Kd.fG));exact(Kd.iG (Kd.gQ (p:=⟨jq,0,none⟩) (Kd.gQ (p:=⟨jq,4,none⟩) (Kd.gQ (p:=⟨jq,3,none⟩) (Kd.gQ (p:=⟨jq,2,none⟩) (Kd.gQ (p:=⟨jq,1,none⟩) (Kd.gQ (p:=⟨jq,0,none⟩) (Kd.iG Av.out (fun k_ hk=>(⟨hk,hk.2⟩:_∧k_≠jq))) (fun _ hk=>hk.2) (.int .i64 ((au l0 dS).f0))) (fun _ hk=>hk.2) (.int .i64 ((au l0 dS).f1))) (fun _ hk=>hk.2) (.string ((au l0 dS).f2))) (fun _ hk=>hk.2) (.string ((au l0 dS).f3))) (fun _ hk=>hk.2) (.slice BI ((au l0 dS).f4).length BJ)) (fun _ hk=>hk.2) (.int .i64 (wrap64 (((au l0 dS).f0)+a1)))) (fun _ h_=>h_.1))) (Kd.jH ho0) hb);have n1_:=ak.mk (Kd.d9 ho0 (aR (bs Et.out)));have n2_:=ak.mk (dJ (g:=jq) (o:=.cells #[.int .i64 (wrap64 (((au l0 dS).f0)+a1)),.int .i64 ((au l0 dS).f1),.string ((au l0 dS).f2),.string ((au l0 dS).f3),.slice BI ((au l0 dS).f4).length BJ] 34 (0,0)) (by(with_reducible repeat(first|refine aT ?_ _|refine aY ?_ |refine aU ?_ _));refine bT (cs:=#[.int .i64 ((au l0 dS).f0),.int .i64 ((au l0 dS).f1),.string ((au l0 dS).f2),.string ((au l0 dS).f3),.slice BI ((au l0 dS).f4).length BJ]) ?_ 0 _ rfl;(with_reducible repeat(first|refine aT ?_ _|refine aY ?_ |refine aU ?_ _));refine bT (cs:=#[.int .i64 ((au l0 dS).f0),.int .i64 ((au l0 dS).f1),.string ((au l0 dS).f2),.string ((au l0 dS).f3),.slice none 0 0]) ?_ 4 _ rfl;(with_reducible repeat(first|refine aT ?_ _|refine aY ?_ |refine aU ?_ _));refine bT (cs:=#[.int .i64 ((au l0 dS).f0),.int .i64 ((au l0 dS).f1),.string ((au l0 dS).f2),.string (⟨#[]⟩:ByteArray),.slice none 0 0]) ?_ 3 _ rfl;(with_reducible repeat(first|refine aT ?_ _|refine aY ?_ |refine aU ?_ _));refine bT (cs:=#[.int .i64 ((au l0 dS).f0),.int .i64 ((au l0 dS).f1),.string (⟨#[]⟩:ByteArray),.string (⟨#[]⟩:ByteArray),.slice none 0 0]) ?_ 2 _ rfl;(with_reducible repeat(first|refine aT ?_ _|refine aY ?_ |refine aU ?_ _));refine bT (cs:=#[.int .i64 ((au l0 dS).f0),.int .i64 0,.string (⟨#[]⟩:ByteArray),.string (⟨#[]⟩:ByteArray),.slice none 0 0]) ?_ 1 _ rfl;(with_reducible repeat(first|refine aT ?_ _|refine aY ?_ |refine aU ?_ _));refine bT (cs:=#[.int .i64 0,.int .i64 0,.string (⟨#[]⟩:ByteArray),.string (⟨#[]⟩:ByteArray),.slice none 0 0]) ?_ 0 _ rfl;(with_reducible repeat(first|refine aT ?_ _|refine aY ?_ |refine aU ?_ _));exact iP.out) hb);have n3_:=ak.mk (aG (bs Et.out) hb);clear Av;clear iP;clear HB;have Av:=n0_;have F6:=n1_;have iP:=n2_;have HB:=n3_;clear n0_ n1_ n2_ n3_;(try clear hb);(try clear hb2);(try clear hk);(try clear hi);(try clear ho0);obtain⟨Ef,Eh,eo11⟩:=Kd.dH F6.out;subst eo11;have Nu:w10.cell? ⟨jq,0,none⟩=some (.int .i64 (wrap64 (((au l0 dS).f0)+a1))):=(aC iP.out 0).trans rfl;have Nv:w10.cell? ⟨jq,1,none⟩=some (.int .i64 ((au l0 dS).f1)):=(aC iP.out 1).trans rfl;have Nw:w10.cell? ⟨jq,2,none⟩=some (.string ((au l0 dS).f2)):=(aC iP.out 2).trans rfl;have Ny:w10.cell? ⟨jq,3,none⟩=some (.string ((au l0 dS).f3)):=(aC iP.out 3).trans rfl;have Nz:w10.cell? ⟨jq,4,none⟩=some (.slice BI ((au l0 dS).f4).length BJ):=(aC iP.out 4).trans rfl;have NA:=ay iP.out 0;have NC:=ay iP.out 1;have ND:=ay iP.out 2;have NG:=ay iP.out 3;have NH:=ay iP.out 4)|((with_reducible refine jW (t:=32) (p:=22) rfl ?_);refine jy (t:=32) (p:=22) (v:=?vo_w13) (w1:=(w10.setCell ⟨jq,4,none⟩ (.slice Ef wQ.length Eh))) ?hg ?ho ?hn ?hr ?_;(case ho=>rfl);(case hg=>rfl);(case hn=>rfl);(case hr=>first|(go_simp;done)|(go_simp;rfl));intro w13 hw;have n0_:ak (Kd.R k34 34 w13 w.heap.size (fun k_=>some k_≠(.slice Ef wQ.length Eh:Value).ownBlock∧k_≠jq) u5 iN):=⟨(by rw[hw];exact(by(with_reducible repeat(first|apply Kd.fq|apply Kd.fT|apply Kd.fG));exact Kd.iG (Kd.gQ (p:=⟨jq,4,none⟩) (Kd.iG Av.out (fun k_ hk=>(⟨hk,hk.1.2⟩:_∧k_≠jq))) (fun _ hk=>hk.2) (.slice Ef wQ.length Eh)) (fun _ hk=>⟨hk.1.2,hk.1.1.2⟩)))⟩;have n1_:ak (Kd.R k36 36 w13 w.heap.size (fun _=>True) (.slice Ef wQ.length Eh) wQ):=⟨(by rw[hw];exact(by(with_reducible repeat(first|apply Kd.fq|apply Kd.fT|apply Kd.fG));exact Kd.iG (Kd.gQ (p:=⟨jq,4,none⟩) (Kd.ou F6.out iP.out (by decide)) (fun _ hk=>hk.2) (.slice Ef wQ.length Eh)) (fun _ hk=>trivial)))⟩;have n2_:ak (w13.heap[jq]?=some (.cells #[.int .i64 (wrap64 (((au l0 dS).f0)+a1)),.int .i64 ((au l0 dS).f1),.string ((au l0 dS).f2),.string ((au l0 dS).f3),.slice Ef wQ.length Eh] 34 (0,0))):=⟨(by rw[hw];exact(by(with_reducible repeat(first|refine aT ?_ _|refine aY ?_ |refine aU ?_ _));refine bT (cs:=#[.int .i64 (wrap64 (((au l0 dS).f0)+a1)),.int .i64 ((au l0 dS).f1),.string ((au l0 dS).f2),.string ((au l0 dS).f3),.slice BI ((au l0 dS).f4).length BJ]) ?_ 4 _ rfl;(with_reducible repeat(first|refine aT ?_ _|refine aY ?_ |refine aU ?_ _));exact iP.out))⟩;have n3_:ak (Below w.heap.size w w13):=⟨(by rw[hw];exact(bs Et.out))⟩;clear hw;clear Av;clear F6;clear iP;clear HB;have Av:=n0_;have F6:=n1_;have iP:=n2_;have HB:=n3_;clear n0_ n1_ n2_ n3_;have rP:w13.cell? ⟨jq,0,none⟩=some (.int .i64 (wrap64 (((au l0 dS).f0)+a1))):=(aC iP.out 0).trans rfl;have rQ:w13.cell? ⟨jq,1,none⟩=some (.int .i64 ((au l0 dS).f1)):=(aC iP.out 1).trans rfl;have rR:w13.cell? ⟨jq,2,none⟩=some (.string ((au l0 dS).f2)):=(aC iP.out 2).trans rfl;have rT:w13.cell? ⟨jq,3,none⟩=some (.string ((au l0 dS).f3)):=(aC iP.out 3).trans rfl;have rU:w13.cell? ⟨jq,4,none⟩=some (.slice Ef wQ.length Eh):=(aC iP.out 4).trans rfl;have rV:=ay iP.out 0;have rW:=ay iP.out 1;have rX:=ay iP.out 2;have rY:=ay iP.out 3;have rZ:=ay iP.out 4)|((with_reducible refine qz (b:=.append) (xs:=#[.tmp 23,.tmp 25]) rfl ?_);at_builtin;refine Kd.lu k34 (w0:=w) w.heap.size rfl (.tmp 23) (.tmp 25) 22 34 (.agg #[(.int .i64 0),(.int .i64 0),(.string ⟨#[]⟩),(.string ⟨#[]⟩),(.slice none 0 0)]) 72 rfl Tryz.underlying22 qR rfl (by decide) (by omega) u5 iN (⟨wrap64 (((au l0 dS).f0)+a1),(au l0 dS).f1,(au l0 dS).f2,(au l0 dS).f3,wQ⟩:S34) [.int .i64 (wrap64 (((au l0 dS).f0)+a1)),.int .i64 ((au l0 dS).f1),.string ((au l0 dS).f2),.string ((au l0 dS).f3),.slice Ef wQ.length Eh] (fun k_=>k_≠jq) (fun k_=>((fun k_=>k_≠jq)) k_∧some k_≠(u5:Value).ownBlock) rfl rfl ?aP (fun _ hk=>hk) ?aF ?aO ?aB ?aS ?aL ?_;(case aP=>exact xU _ _ _ (⟨wrap64 (((au l0 dS).f0)+a1),(au l0 dS).f1,(au l0 dS).f2,(au l0 dS).f3,wQ⟩:S34) (Kd.iG (Kd.ou (Kd.R_apart' (F6.out) (Kd.Gw Av.out) (by decide)) iP.out (by decide)) (fun k_ hk=>⟨hk.2,hk.1.2⟩)));(case aB=>exact(bs Et.out));(case aF=>exact(fun k_ hk=>Kd.freshB (g:=jq) (o:=.cells #[.int .i64 (wrap64 (((au l0 dS).f0)+a1)),.int .i64 ((au l0 dS).f1),.string ((au l0 dS).f2),.string ((au l0 dS).f3),.slice Ef wQ.length Eh] 34 (0,0)) (kz iP.out) k_ hk));(case aO=>exact(by(with_reducible repeat(first|apply Kd.fq|apply Kd.fT|apply Kd.fG));exact Kd.iG Av.out (fun _ hk=>hk.2)));(case aS=>exact(aR (bs Et.out)));(case aL=>have:=LMc7.out;omega);intro v119 w15 ho hb hg hat;rw[←Ny118.out]at ho;have n0_:=ak.mk (qJ (g:=jq) (o:=.cells #[.int .i64 (wrap64 (((au l0 dS).f0)+a1)),.int .i64 ((au l0 dS).f1),.string ((au l0 dS).f2),.string ((au l0 dS).f3),.slice Ef wQ.length Eh] 34 (0,0)) (kz iP.out) hg (Kd.R_away Av.out (fun _ hk=>hk.2)));have n1_:=ak.mk (hb);have n2_:=ak.mk (ho);clear iP;clear HB;clear Av;clear F6;have iP:=n0_;have HB:=n1_;have HO120:=n2_;clear n0_ n1_ n2_;clear ho hb hg hat))
       go_roundg k1
       case measure=>have:=HK1.out;omega
       case rel=>exact⟨(y118),(wrap64 (dS+1)),q'c,H',⟨by have:=HK1.out;omega⟩,⟨by(with_reducible repeat(first|apply Kd.fq|apply Kd.fT|apply Kd.fG));exact Kd.iG HO120.out (fun _ hk=>trivial)⟩,⟨bs Et.out⟩⟩
      ·rw[if_neg c7]at H
       exact absurd H (by simp)
     ·rw[if_neg c5]at H
      exact absurd H (by simp)
    ·rw[if_neg c4]at H
     exact absurd H (by simp)
   ·rw[if_neg c3]at H
    have nC:decide (dS<(l0.length:Int))=false:=decide_eq_false c3;clear c3;obtain rfl:=Option.some.inj H;go_wp2;go_ret;exact⟨_,by first|rfl|(simp[aJ,aM]<;>rfl)|(simp[*,aJ,aM]<;>rfl),by(with_reducible repeat(first|apply Kd.fq|apply Kd.fT|apply Kd.fG));exact Av.out,bz⟩
end Go.Proofs.aj.W7
namespace Go.Proofs.aj.W7
open Go.RowKit Go.Proofs Go.Proofs.YtkcmghlhpbepcaaGreatDoor Go.Proofs.ah.aD
def zU(outs:List Rw)(x:Rw):Option (List Rw):=
 if x.f1=1∧x.f3.data.toList=[]then some outs
 else if x.f1=1∧0<outs.length∧(au outs ((outs.length:Int) - 1)).f1=1∧(au outs ((outs.length:Int) - 1)).f0=x.f0 then
  if(au outs ((outs.length:Int) - 1)).f3.size+x.f3.size≤9223372036854775807 then
   some (outs.set (outs.length - 1) ⟨(au outs ((outs.length:Int) - 1)).f0,(au outs ((outs.length:Int) - 1)).f1,(au outs ((outs.length:Int) - 1)).f2,(au outs ((outs.length:Int) - 1)).f3++x.f3,(au outs ((outs.length:Int) - 1)).f4⟩)
  else none
 else if outs.length<1000000000000 then some (outs++[x])else none
def uT:List Rw→List Rw→Option (List Rw)
 |outs,[]=>some outs
 |outs,x::xs=>(zU outs x).bind fun o=>uT o xs
def jw.f(l0:List Rw):Option (List Rw):=(gX.f (l0.length+1) l0 0).bind fun ms=>uT [] ms
theorem l9(w:World)(o:Obj):(w.alloc o).drew=w.drew.alloc o:=rfl
theorem rH{v v1:Value}{n m:Nat}(h:∀k,v.ownBlock=some k→n≤k)(hat:v1.ownBlock=v.ownBlock∨∃b,v1.ownBlock=some b∧m≤b)(hm:n≤m):∀k,v1.ownBlock=some k→n≤k:=by
 intro k hk
 rcases hat with e|⟨b,e,hb⟩
 ·exact h k (e▸hk)
 ·rw[e]at hk
  cases hk;omega
theorem jw.calls(A:Option Addr)(c:Nat)(xs res:List Rw)(w:World)(hr:k34.C w A xs.length xs)(hcap:xs.length≤c)(h:jw.f xs=some res):
 Calls Tryz.prog 41 #[.slice A xs.length c] w fun e w'=>∃v0_:Value,e=.returned (v0_)∧Kd.R k34 34 w' w.heap.size (fun _=>True) v0_ res∧Below w.heap.size w w':=by
 unfold jw.f at h;obtain⟨ms,hms,h⟩:=Option.bind_eq_some_iff.1 h;have hmv:=Lib.hid (gX.calls (xs.length+1) A c xs 0 ms w hr hcap hms);clear hms;replace h:=Lib.hid h;go_enter Tryz.func41,Tryz.ntmps41
 go_wp2_with(go_at_call 89;((with_reducible refine hmv.out.mono ?_);rintro e w1 ⟨vm,rfl,hm,hb1⟩;obtain⟨A1,c1,rfl⟩:=Kd.dH hm))
 have hml:=(Kd.bJ hm).2.2.2.1
 go_loopw [3,10] (fun vo vi wr=>∃(i:Nat) (outs:List Rw),vi=.int .i64 i∧i≤ms.length∧Hid (uT outs (ms.drop i)=some res)∧Kd.R k34 34 wr w.heap.size (fun _=>True) vo outs∧Below w1.heap.size w1 wr∧Hid (∀k,vo.ownBlock=some k→w1.heap.size≤k)) (fun _ vi _=>ms.length - (intOf vi).toNat)
 case atStart=>exact⟨0,[],rfl,Nat.zero_le _,h.out,Kd.ni _ _ _ _ _,Below.refl _ _,fun k hk=>by simp[Value.ownBlock]at hk⟩
 case round=>
  obtain⟨i,outs,rfl,hi,hrest,hO,hB,hown⟩:=hrel;obtain⟨A2,c2,rfl⟩:=Kd.dH hO;have hol:=(Kd.bJ hO).2.2.2.1;have hbw:=hb1.size;have hbz:=hB.size
  by_cases hlt:i<ms.length
  ·obtain⟨gm,capm,hv,-,-,-⟩:=Kd.DL hm (by omega)
   simp only[Value.slice.injEq,true_and]at hv;obtain⟨rfl,rfl⟩:=hv;obtain⟨cs,hcl,hM,hcell,hfz⟩:=Kd.LW hm (⟨0,0,⟨#[]⟩,⟨#[]⟩,[]⟩:Rw) i (by omega) (by omega);have hgd:ms.getD (i:Int).toNat (⟨0,0,⟨#[]⟩,⟨#[]⟩,[]⟩:Rw)=ms[i]:=by simp[hlt]
   rw[hgd]at hM;have GA:=hrest.out;rw[List.drop_eq_getElem_cons hlt]at GA;simp only[uT]at GA;obtain⟨o2,hst,hre⟩:=Option.bind_eq_some_iff.1 GA;clear hrest hgd hfz GA;generalize ms[i]=x at *;obtain⟨v4,rfl,hv4⟩:=Bn hM;obtain⟨A4,c4,rfl⟩:=Kd.dH hv4;have z0:=aV (hcell 0 _ rfl) hB;have z1:=aV (hcell 1 _ rfl) hB;have z2:=aV (hcell 2 _ rfl) hB;have z3:=aV (hcell 3 _ rfl) hB;have z4:=aV (hcell 4 _ rfl) hB;change wr.cell? ⟨gm,i * 5,none⟩=_ at z0;change wr.cell? ⟨gm,i * 5+1,none⟩=_ at z1;change wr.cell? ⟨gm,i * 5+2,none⟩=_ at z2;change wr.cell? ⟨gm,i * 5+3,none⟩=_ at z3;change wr.cell? ⟨gm,i * 5+4,none⟩=_ at z4;have hrest3:=Lib.hid hre;clear hcell hcl hre;obtain⟨xd,xk,xn,xt,xa⟩:=x;simp only at z0 z1 z2 z3 z4;have hnt:=bQ wr #[.int .i64 xd,.int .i64 xk,.string xn,.string xt,.slice A4 xa.length c4] 34;obtain⟨⟨p0,p1,p2,p3,p4⟩,p5⟩:=aW hnt;have hBA:=hB.alloc hbz (.cells #[.int .i64 xd,.int .i64 xk,.string xn,.string xt,.slice A4 xa.length c4] 34);have hOA:=Kd.fq hO (.cells #[.int .i64 xd,.int .i64 xk,.string xn,.string xt,.slice A4 xa.length c4] 34)
   have hsA:w.heap.size≤(wr.alloc (.cells #[.int .i64 xd,.int .i64 xk,.string xn,.string xt,.slice A4 xa.length c4] 34)).heap.size:=by rw[World.size_alloc];omega
   have hsB:w1.heap.size≤(wr.alloc (.cells #[.int .i64 xd,.int .i64 xk,.string xn,.string xt,.slice A4 xa.length c4] 34)).heap.size:=by rw[World.size_alloc];omega
   have hMp:=Kd.fZ k34 (ok':=fun k=>k<w1.heap.size) (fun k hk=>hk.2.2.1) (Kd.gG k34 hM);have hsz1:(wr.alloc (.cells #[.int .i64 xd,.int .i64 xk,.string xn,.string xt,.slice A4 xa.length c4] 34)).heap.size=wr.heap.size+1:=World.size_alloc _ _;unfold zU at hst
   by_cases hA:xk=1∧xt.data.toList=[]
   ·rw[if_pos hA]at hst
    obtain rfl:=Option.some.inj hst;obtain⟨rfl,hxt⟩:=hA
    obtain rfl:xt=⟨#[]⟩:=by
     obtain⟨d⟩:=xt;simpa using hxt
    clear hst;go_wp2;exact⟨⟨i+1,outs,rfl,by omega,hrest3,hOA,hBA,hown⟩,by simp[intOf];omega⟩
   ·rw[if_neg hA]at hst
    have hne:xk=1→¬xt.data.toList=[]:=fun e1 e2=>hA ⟨e1,e2⟩
    clear hA;have hne1:xk=1→(xt.toList==[])=false:=fun e1=>by rw[beq_eq_false_iff_ne,Lib.toList_data];exact hne e1
    by_cases hk1:xk=1
    ·have hx1:=hne1 hk1
     have hx2:¬xt.toList=[]:=by rw[Lib.toList_data];exact hne hk1
     subst hk1
     by_cases hn0:0<outs.length
     ·obtain⟨go,capo,hv,-,-,-⟩:=Kd.DL hO hn0
      simp only[Value.slice.injEq,true_and]at hv;obtain⟨rfl,rfl⟩:=hv;obtain⟨m,hm1⟩:∃m,outs.length=m+1:=⟨outs.length - 1,by omega⟩
      obtain⟨cs,hcl,hMo,uR,hfzo⟩:=Kd.LW hOA (⟨0,0,⟨#[]⟩,⟨#[]⟩,[]⟩:Rw) (m:Int) (by omega) (by omega);have hgd:outs.getD (m:Int).toNat (⟨0,0,⟨#[]⟩,⟨#[]⟩,[]⟩:Rw)=outs[m]:=by simp[show m<outs.length by omega]
      have hrd:au outs ((outs.length:Int) - 1)=outs[m]:=by
       rw[show(outs.length:Int) - 1=(m:Int)from by omega];simp[au,show m<outs.length by omega]
      rw[hgd]at hMo;rw[hrd,show outs.length - 1=m from by omega]at hst;generalize outs[m]=y at *;obtain⟨w4,rfl,hw4⟩:=Bn hMo;have y0:=uR 0 _ rfl;have y1:=uR 1 _ rfl;have y3:=uR 3 _ rfl;have f3:=hfzo 3;change World.cell? _ ⟨go,m * 5,none⟩=_ at y0;change World.cell? _ ⟨go,m * 5+1,none⟩=_ at y1;change World.cell? _ ⟨go,m * 5+3,none⟩=_ at y3;change World.frozen? _ ⟨go,m * 5+3,none⟩=_ at f3;obtain⟨yd,yk,yn,yt,ya⟩:=y;simp only at y0 y1 y3
      by_cases hB1:yk=1∧yd=xd
      ·rw[if_pos ⟨rfl,hn0,hB1⟩]at hst
       obtain⟨rfl,rfl⟩:=hB1;have hcx:¬xt=⟨#[]⟩:=fun e=>hx2 (by rw[Lib.toList_data,e])
       clear hne hne1;rw[hm1];go_wp2
       first
        |go_region
        |skip
       by_cases hsz:yt.size+xt.size≤9223372036854775807
       ·rw[if_pos hsz]at hst
        obtain rfl:=Option.some.inj hst;have a1:decide (yt.size+xt.size≤9223372036854775807)=true:=decide_eq_true hsz;have a2:(9223372036854775807<yt.size+xt.size)=False:=eq_false (by omega);clear hst;go_wp2
        first
         |go_region
         |skip
        go_wp2;have hge:=hown.out go (by simp[Value.ownBlock]);have hS:=(Kd.R_seg hOA (m:Int) (by omega) (by omega) (c:=[.int .i64 yd,.int .i64 1,.string yn,.string yt,w4]) (seg:=[.string (yt++xt)]) (j:=3) hcl uR (by show 3+1≤5;omega) (x':=(⟨yd,1,yn,yt++xt,ya⟩:Rw)) (okp:=fun k=>True∧k≠go) (xU _ _ _ (⟨yd,1,yn,yt++xt,ya⟩:Rw) hw4) (fun _ h=>h)).1;rw[hm1]at hS;have hBS:Below w1.heap.size w1 _:=hBA.setCell (p:=⟨go,m * 5+3,none⟩) hge (.string (yt++xt));exact⟨⟨i+1,outs.set m (⟨yd,1,yn,yt++xt,ya⟩:Rw),rfl,by omega,hrest3,Kd.fG (Kd.fG hS),bW (bW hBS),Lib.hid (fun k hk=>hown.out k (by simpa [Value.ownBlock]using hk))⟩,by simp[intOf];omega⟩
       ·rw[if_neg hsz]at hst
        cases hst
      ·rw[if_neg (fun e=>hB1 e.2.2)]at hst
       have hcx:¬xt=⟨#[]⟩:=fun e=>hx2 (by rw[Lib.toList_data,e])
       clear hne hne1
       by_cases hy1:yk=1
       ·subst hy1
        have hy2:(yd==xd)=false:=beq_eq_false_iff_ne.2 (fun e=>hB1 ⟨rfl,e⟩)
        by_cases hlen:outs.length<1000000000000
        ·rw[if_pos hlen]at hst
         obtain rfl:=Option.some.inj hst;clear hst;rw[hm1];rw[hm1]at hOA hown
         go_wp2_with(at_builtin;(try rw[l9]);refine Kd.lu k34 (w0:=w1) w.heap.size rfl (.tmp 16) (.tmp 18) 22 34 (.agg #[(.int .i64 0),(.int .i64 0),(.string ⟨#[]⟩),(.string ⟨#[]⟩),(.slice none 0 0)]) 72 rfl Tryz.underlying22 qR rfl (by decide) (by omega) (.slice (some ⟨go,0,none⟩) (m+1) c2) outs (⟨xd,1,xn,xt,xa⟩:Rw) [.int .i64 xd,.int .i64 1,.string xn,.string xt,.slice A4 xa.length c4] (fun _=>True) (fun k=>k<w1.heap.size) rfl ?aX ?aP ?aK ?aF ?aO ?aB ?aS ?aL ?_;(case aX=>exact congrArg (fun n=>Value.slice (some ⟨n,0,none⟩) 1 1) hsz1.symm);(case aP=>exact Kd.qA hMp (by first|with_reducible exact bW hBA|with_reducible exact hBA));(case aK=>exact fun k hk=>⟨trivial,fun e=>by have:=hown.out k e.symm;omega⟩);(case aF=>exact fun _ _=>trivial);(case aO=>first|with_reducible exact Kd.fG hOA|with_reducible exact hOA);(case aB=>exact Below.mono (by first|with_reducible exact bW hBA|with_reducible exact hBA) hbw);(case aS=>exact hsA);(case aL=>omega);intro v1 w2 hO2 hb2 hg2 wX;obtain⟨A3,c3,rfl⟩:=Kd.dH hO2;have hB2:=Below.grown (bW hBA) hg2 hsB (fun k hk=>hown.out k hk);have hown2:=Lib.hid (rH hown.out wX hsB))
         first
          |(go_region;go_wp2_with(at_builtin;(try rw[l9]);refine Kd.lu k34 (w0:=w1) w.heap.size rfl (.tmp 16) (.tmp 18) 22 34 (.agg #[(.int .i64 0),(.int .i64 0),(.string ⟨#[]⟩),(.string ⟨#[]⟩),(.slice none 0 0)]) 72 rfl Tryz.underlying22 qR rfl (by decide) (by omega) (.slice (some ⟨go,0,none⟩) (m+1) c2) outs (⟨xd,1,xn,xt,xa⟩:Rw) [.int .i64 xd,.int .i64 1,.string xn,.string xt,.slice A4 xa.length c4] (fun _=>True) (fun k=>k<w1.heap.size) rfl ?aX ?aP ?aK ?aF ?aO ?aB ?aS ?aL ?_;(case aX=>exact congrArg (fun n=>Value.slice (some ⟨n,0,none⟩) 1 1) hsz1.symm);(case aP=>exact Kd.qA hMp (by first|with_reducible exact bW hBA|with_reducible exact hBA));(case aK=>exact fun k hk=>⟨trivial,fun e=>by have:=hown.out k e.symm;omega⟩);(case aF=>exact fun _ _=>trivial);(case aO=>first|with_reducible exact Kd.fG hOA|with_reducible exact hOA);(case aB=>exact Below.mono (by first|with_reducible exact bW hBA|with_reducible exact hBA) hbw);(case aS=>exact hsA);(case aL=>omega);intro v1 w2 hO2 hb2 hg2 wX;obtain⟨A3,c3,rfl⟩:=Kd.dH hO2;have hB2:=Below.grown (bW hBA) hg2 hsB (fun k hk=>hown.out k hk);have hown2:=Lib.hid (rH hown.out wX hsB)))
          |skip
         rw[List.length_append,hm1,List.length_singleton]at hO2 hown2;exact⟨⟨i+1,outs++[(⟨xd,1,xn,xt,xa⟩:Rw)],rfl,by omega,hrest3,hO2,hB2,hown2⟩,by simp[intOf];omega⟩
        ·rw[if_neg hlen]at hst
         cases hst
       ·have hy2:(yk==1)=false:=beq_eq_false_iff_ne.2 hy1
        by_cases hlen:outs.length<1000000000000
        ·rw[if_pos hlen]at hst
         obtain rfl:=Option.some.inj hst;clear hst;rw[hm1];rw[hm1]at hOA hown
         go_wp2_with(at_builtin;(try rw[l9]);refine Kd.lu k34 (w0:=w1) w.heap.size rfl (.tmp 16) (.tmp 18) 22 34 (.agg #[(.int .i64 0),(.int .i64 0),(.string ⟨#[]⟩),(.string ⟨#[]⟩),(.slice none 0 0)]) 72 rfl Tryz.underlying22 qR rfl (by decide) (by omega) (.slice (some ⟨go,0,none⟩) (m+1) c2) outs (⟨xd,1,xn,xt,xa⟩:Rw) [.int .i64 xd,.int .i64 1,.string xn,.string xt,.slice A4 xa.length c4] (fun _=>True) (fun k=>k<w1.heap.size) rfl ?aX ?aP ?aK ?aF ?aO ?aB ?aS ?aL ?_;(case aX=>exact congrArg (fun n=>Value.slice (some ⟨n,0,none⟩) 1 1) hsz1.symm);(case aP=>exact Kd.qA hMp (by first|with_reducible exact bW hBA|with_reducible exact hBA));(case aK=>exact fun k hk=>⟨trivial,fun e=>by have:=hown.out k e.symm;omega⟩);(case aF=>exact fun _ _=>trivial);(case aO=>first|with_reducible exact Kd.fG hOA|with_reducible exact hOA);(case aB=>exact Below.mono (by first|with_reducible exact bW hBA|with_reducible exact hBA) hbw);(case aS=>exact hsA);(case aL=>omega);intro v1 w2 hO2 hb2 hg2 wX;obtain⟨A3,c3,rfl⟩:=Kd.dH hO2;have hB2:=Below.grown (bW hBA) hg2 hsB (fun k hk=>hown.out k hk);have hown2:=Lib.hid (rH hown.out wX hsB))
         first
          |(go_region;go_wp2_with(at_builtin;(try rw[l9]);refine Kd.lu k34 (w0:=w1) w.heap.size rfl (.tmp 16) (.tmp 18) 22 34 (.agg #[(.int .i64 0),(.int .i64 0),(.string ⟨#[]⟩),(.string ⟨#[]⟩),(.slice none 0 0)]) 72 rfl Tryz.underlying22 qR rfl (by decide) (by omega) (.slice (some ⟨go,0,none⟩) (m+1) c2) outs (⟨xd,1,xn,xt,xa⟩:Rw) [.int .i64 xd,.int .i64 1,.string xn,.string xt,.slice A4 xa.length c4] (fun _=>True) (fun k=>k<w1.heap.size) rfl ?aX ?aP ?aK ?aF ?aO ?aB ?aS ?aL ?_;(case aX=>exact congrArg (fun n=>Value.slice (some ⟨n,0,none⟩) 1 1) hsz1.symm);(case aP=>exact Kd.qA hMp (by first|with_reducible exact bW hBA|with_reducible exact hBA));(case aK=>exact fun k hk=>⟨trivial,fun e=>by have:=hown.out k e.symm;omega⟩);(case aF=>exact fun _ _=>trivial);(case aO=>first|with_reducible exact Kd.fG hOA|with_reducible exact hOA);(case aB=>exact Below.mono (by first|with_reducible exact bW hBA|with_reducible exact hBA) hbw);(case aS=>exact hsA);(case aL=>omega);intro v1 w2 hO2 hb2 hg2 wX;obtain⟨A3,c3,rfl⟩:=Kd.dH hO2;have hB2:=Below.grown (bW hBA) hg2 hsB (fun k hk=>hown.out k hk);have hown2:=Lib.hid (rH hown.out wX hsB)))
          |skip
         rw[List.length_append,hm1,List.length_singleton]at hO2 hown2;exact⟨⟨i+1,outs++[(⟨xd,1,xn,xt,xa⟩:Rw)],rfl,by omega,hrest3,hO2,hB2,hown2⟩,by simp[intOf];omega⟩
        ·rw[if_neg hlen]at hst
         cases hst
     ·rw[if_neg (fun e=>hn0 e.2.1)]at hst
      have hcx:¬xt=⟨#[]⟩:=fun e=>hx2 (by rw[Lib.toList_data,e])
      have hl0:outs.length=0:=by omega
      clear hne hne1
      by_cases hlen:outs.length<1000000000000
      ·rw[if_pos hlen]at hst
       obtain rfl:=Option.some.inj hst;clear hst;rw[hl0];rw[hl0]at hOA hown
       go_wp2_with(at_builtin;(try rw[l9]);refine Kd.lu k34 (w0:=w1) w.heap.size rfl (.tmp 16) (.tmp 18) 22 34 (.agg #[(.int .i64 0),(.int .i64 0),(.string ⟨#[]⟩),(.string ⟨#[]⟩),(.slice none 0 0)]) 72 rfl Tryz.underlying22 qR rfl (by decide) (by omega) (.slice A2 0 c2) outs (⟨xd,1,xn,xt,xa⟩:Rw) [.int .i64 xd,.int .i64 1,.string xn,.string xt,.slice A4 xa.length c4] (fun _=>True) (fun k=>k<w1.heap.size) rfl ?aX ?aP ?aK ?aF ?aO ?aB ?aS ?aL ?_;(case aX=>exact congrArg (fun n=>Value.slice (some ⟨n,0,none⟩) 1 1) hsz1.symm);(case aP=>exact Kd.qA hMp (by first|with_reducible exact bW hBA|with_reducible exact hBA));(case aK=>exact fun k hk=>⟨trivial,fun e=>by have:=hown.out k e.symm;omega⟩);(case aF=>exact fun _ _=>trivial);(case aO=>first|with_reducible exact Kd.fG hOA|with_reducible exact hOA);(case aB=>exact Below.mono (by first|with_reducible exact bW hBA|with_reducible exact hBA) hbw);(case aS=>exact hsA);(case aL=>omega);intro v1 w2 hO2 hb2 hg2 wX;obtain⟨A3,c3,rfl⟩:=Kd.dH hO2;have hB2:=Below.grown (bW hBA) hg2 hsB (fun k hk=>hown.out k hk);have hown2:=Lib.hid (rH hown.out wX hsB))
       first
        |(go_region;go_wp2_with(at_builtin;(try rw[l9]);refine Kd.lu k34 (w0:=w1) w.heap.size rfl (.tmp 16) (.tmp 18) 22 34 (.agg #[(.int .i64 0),(.int .i64 0),(.string ⟨#[]⟩),(.string ⟨#[]⟩),(.slice none 0 0)]) 72 rfl Tryz.underlying22 qR rfl (by decide) (by omega) (.slice A2 0 c2) outs (⟨xd,1,xn,xt,xa⟩:Rw) [.int .i64 xd,.int .i64 1,.string xn,.string xt,.slice A4 xa.length c4] (fun _=>True) (fun k=>k<w1.heap.size) rfl ?aX ?aP ?aK ?aF ?aO ?aB ?aS ?aL ?_;(case aX=>exact congrArg (fun n=>Value.slice (some ⟨n,0,none⟩) 1 1) hsz1.symm);(case aP=>exact Kd.qA hMp (by first|with_reducible exact bW hBA|with_reducible exact hBA));(case aK=>exact fun k hk=>⟨trivial,fun e=>by have:=hown.out k e.symm;omega⟩);(case aF=>exact fun _ _=>trivial);(case aO=>first|with_reducible exact Kd.fG hOA|with_reducible exact hOA);(case aB=>exact Below.mono (by first|with_reducible exact bW hBA|with_reducible exact hBA) hbw);(case aS=>exact hsA);(case aL=>omega);intro v1 w2 hO2 hb2 hg2 wX;obtain⟨A3,c3,rfl⟩:=Kd.dH hO2;have hB2:=Below.grown (bW hBA) hg2 hsB (fun k hk=>hown.out k hk);have hown2:=Lib.hid (rH hown.out wX hsB)))
        |skip
       rw[List.length_append,hl0,List.length_singleton,Nat.zero_add]at hO2 hown2;exact⟨⟨i+1,outs++[(⟨xd,1,xn,xt,xa⟩:Rw)],rfl,by omega,hrest3,hO2,hB2,hown2⟩,by simp[intOf];omega⟩
      ·rw[if_neg hlen]at hst
       cases hst
    ·rw[if_neg (fun e=>hk1 e.1)]at hst
     have hq1:(xk==1)=false:=beq_eq_false_iff_ne.2 hk1;clear hne hne1
     by_cases hlen:outs.length<1000000000000
     ·rw[if_pos hlen]at hst
      obtain rfl:=Option.some.inj hst;clear hst
      go_wp2_with(at_builtin;(try rw[l9]);refine Kd.lu k34 (w0:=w1) w.heap.size rfl (.tmp 16) (.tmp 18) 22 34 (.agg #[(.int .i64 0),(.int .i64 0),(.string ⟨#[]⟩),(.string ⟨#[]⟩),(.slice none 0 0)]) 72 rfl Tryz.underlying22 qR rfl (by decide) (by omega) (.slice A2 outs.length c2) outs (⟨xd,xk,xn,xt,xa⟩:Rw) [.int .i64 xd,.int .i64 xk,.string xn,.string xt,.slice A4 xa.length c4] (fun _=>True) (fun k=>k<w1.heap.size) rfl ?aX ?aP ?aK ?aF ?aO ?aB ?aS ?aL ?_;(case aX=>exact congrArg (fun n=>Value.slice (some ⟨n,0,none⟩) 1 1) hsz1.symm);(case aP=>exact Kd.qA hMp (by first|with_reducible exact bW hBA|with_reducible exact hBA));(case aK=>exact fun k hk=>⟨trivial,fun e=>by have:=hown.out k e.symm;omega⟩);(case aF=>exact fun _ _=>trivial);(case aO=>first|with_reducible exact Kd.fG hOA|with_reducible exact hOA);(case aB=>exact Below.mono (by first|with_reducible exact bW hBA|with_reducible exact hBA) hbw);(case aS=>exact hsA);(case aL=>omega);intro v1 w2 hO2 hb2 hg2 wX;obtain⟨A3,c3,rfl⟩:=Kd.dH hO2;have hB2:=Below.grown (bW hBA) hg2 hsB (fun k hk=>hown.out k hk);have hown2:=Lib.hid (rH hown.out wX hsB))
      first
       |(go_region;go_wp2_with(at_builtin;(try rw[l9]);refine Kd.lu k34 (w0:=w1) w.heap.size rfl (.tmp 16) (.tmp 18) 22 34 (.agg #[(.int .i64 0),(.int .i64 0),(.string ⟨#[]⟩),(.string ⟨#[]⟩),(.slice none 0 0)]) 72 rfl Tryz.underlying22 qR rfl (by decide) (by omega) (.slice A2 outs.length c2) outs (⟨xd,xk,xn,xt,xa⟩:Rw) [.int .i64 xd,.int .i64 xk,.string xn,.string xt,.slice A4 xa.length c4] (fun _=>True) (fun k=>k<w1.heap.size) rfl ?aX ?aP ?aK ?aF ?aO ?aB ?aS ?aL ?_;(case aX=>exact congrArg (fun n=>Value.slice (some ⟨n,0,none⟩) 1 1) hsz1.symm);(case aP=>exact Kd.qA hMp (by first|with_reducible exact bW hBA|with_reducible exact hBA));(case aK=>exact fun k hk=>⟨trivial,fun e=>by have:=hown.out k e.symm;omega⟩);(case aF=>exact fun _ _=>trivial);(case aO=>first|with_reducible exact Kd.fG hOA|with_reducible exact hOA);(case aB=>exact Below.mono (by first|with_reducible exact bW hBA|with_reducible exact hBA) hbw);(case aS=>exact hsA);(case aL=>omega);intro v1 w2 hO2 hb2 hg2 wX;obtain⟨A3,c3,rfl⟩:=Kd.dH hO2;have hB2:=Below.grown (bW hBA) hg2 hsB (fun k hk=>hown.out k hk);have hown2:=Lib.hid (rH hown.out wX hsB)))
       |skip
      rw[List.length_append,List.length_singleton]at hO2 hown2;exact⟨⟨i+1,outs++[(⟨xd,xk,xn,xt,xa⟩:Rw)],rfl,by omega,hrest3,hO2,hB2,hown2⟩,by simp[intOf];omega⟩
     ·rw[if_neg hlen]at hst
      cases hst
  ·have hr0:outs=res:=by
    have h1:=hrest.out;rw[List.drop_of_length_le (by omega)]at h1;exact Option.some.inj h1
   subst hr0;clear hrest h;go_wp2;go_ret;exact⟨_,rfl,hO,Go.Proofs.YtkcmghlhpbepcaaGreatDoor.bD hb1 hbw hB⟩
end Go.Proofs.aj.W7
namespace Go.Proofs.aj.W7
open Go.RowKit Go.Proofs Go.Proofs.aj Go.Proofs.YtkcmghlhpbepcaaGreatDoor Go.Proofs.ah.aD
def xO(p:Option Rw)(x:Rw):Bool:=decide (x.f1=1)&&(decide (x.f3.data.toList=[])||match p with|none=>false|some y=>decide (y.f1=1)&&decide (y.f0=x.f0))
def zA:Option Rw→List Rw→Bool
 |_,[]=>true
 |p,x::r=>!xO p x&&zA (some x) r
theorem qH(xs:List Rw)(i:Nat)(h:i<xs.length):au xs i=xs[i]:=by simp[au,h]
theorem Px(outs:List Rw)(h:0<outs.length):outs.getLast? =some (au outs ((outs.length:Int) - 1)):=by
 have e:(((outs.length:Int) - 1))=((outs.length - 1:Nat):Int):=by omega
 rw[e,qH outs (outs.length - 1) (by omega),List.getLast?_eq_getElem?,List.getElem?_eq_getElem (by omega)]
theorem step_app(outs:List Rw)(x:Rw)(h:xO outs.getLast? x=false)(hl:outs.length<1000000000000):zU outs x=some (outs++[x]):=by
 unfold zU;rw[if_neg,if_neg,if_pos hl]
 ·rintro⟨h1,h2,h3,h4⟩
  rw[Px outs h2]at h;simp[xO,h1,h3,h4]at h
 ·rintro⟨h1,h2⟩
  simp[xO,h1,h2]at h
theorem last_app(outs:List Rw)(x:Rw):(outs++[x]).getLast? =some x:=by simp
theorem Py:∀(xs outs:List Rw),outs.length+xs.length≤1000000→zA outs.getLast? xs=true→uT outs xs=some (outs++xs)
 | [],outs,_,_=>by simp[uT]
 |x::xs,outs,h1,h2=>by
  simp only[List.length_cons]at h1;simp only[zA,Bool.and_eq_true,Bool.not_eq_true']at h2;simp only[uT];rw[step_app outs x h2.1 (by omega),Option.bind_some,Py xs (outs++[x]) (by simp;omega) (by rw[last_app];exact h2.2)];simp
theorem wM{x:Int}(h0:0≤x)(h1:x≤1000000000):wrap64 x=x:=by unfold wrap64;omega
theorem moved_l1(xs:List Rw)(hl:xs.length<1000000)(hd:∀x∈xs,0≤x.f0∧x.f0≤1000000)(ha:∀x∈xs,x.f4.length≤1000000):∀(d i k:Nat) (acc:List Rw),i+d=xs.length→acc.length=i→d<k→gX.l0 k 0 acc xs (xs.length:Int) i=some (acc++xs.drop i):=by
 intro d
 induction d with
 |zero=>
  intro i k acc hi hacc hk;obtain⟨k,rfl⟩:∃m,k=m+1:=⟨k - 1,by omega⟩
  simp only[gX.l0];rw[if_neg (by omega),List.drop_of_length_le (by omega),List.append_nil]
 |succ d ih=>
  intro i k acc hi hacc hk;obtain⟨k,rfl⟩:∃m,k=m+1:=⟨k - 1,by omega⟩
  have hlt:i<xs.length:=by omega
  have h0:=hd xs[i] (List.getElem_mem hlt);have h4:=ha xs[i] (List.getElem_mem hlt);simp only[gX.l0];rw[if_pos (by omega),if_pos (by omega),if_pos (by omega),qH xs i hlt];unfold tN.f;rw[if_pos (by omega),Option.bind_some,if_pos (by omega),wM (by omega) (by omega),wM (by omega) (by omega),Int.add_zero];rw[show((i:Int)+1)=((i+1:Nat):Int)from by omega,ih (i+1) k _ (by omega) (by simp[hacc]) (by omega),List.append_assoc,List.drop_eq_getElem_cons hlt];rfl
theorem QB(xs:List Rw)(hl:xs.length<1000000)(hd:∀x∈xs,0≤x.f0∧x.f0≤1000000)(ha:∀x∈xs,x.f4.length≤1000000)(hn:zA none xs=true):jw.f xs=some xs:=by
 unfold jw.f gX.f;have:=moved_l1 xs hl hd ha xs.length 0 (xs.length+1) [] (by omega) rfl (by omega);simp only[Int.ofNat_zero,Int.natCast_zero,List.drop_zero,List.nil_append]at this;rw[this,Option.bind_some];exact Py xs [] (by simp;omega) hn
theorem EP:∀(xs ys:List Rw) (p:Option Rw),zA p (xs++ys)=(zA p xs&&zA (xs.getLast?.or p) ys)
 | [],ys,p=>by simp[zA]
 |x::xs,ys,p=>by
  simp only[List.cons_append,zA];rw[EP xs ys (some x)]
  have:(x::xs).getLast?.or p=xs.getLast?.or (some x):=by
   cases xs with
   |nil=>rfl
   |cons y r=>simp[List.getLast?_cons_cons,List.getLast?_cons]
  rw[this,Bool.and_assoc]
end Go.Proofs.aj.W7
namespace Go.Proofs.aj.W7
open Go.RowKit Go.Proofs Go.Proofs.YtkcmghlhpbepcaaGreatDoor Go.Proofs.ah.bH
def bitsL:Nat→Nat→List Bool
 |0,_=>[]
 |n+1,m=>(m % 2==1)::bitsL n (m / 2)
def bits(n m:Nat):Array Bool:=(bitsL n m).toArray
section
variable {P : Program} {ops : Array Oper} {Q : Exit → Act → World → Prop} {md : Region.Mode} {S : World → Prop} {ds : List Nat}
theorem sw(i T:Nat){n m:Nat}{oi:Oper}{v:Value}{fuel:Nat}{a:Act}{w:World}{a':Act}(h:cu P md ops Q S ds fuel (bits n (m+2^i)) a' w)
 (hi:ops[i]?=some oi:=by rfl) (hN:oi.dst=some T:=by rfl) (hc:anyB md ops (bits n m) (bits n (m+2^i)) i=true:=by kernel_rfl) (hQ:∀c a w,Q (.panic c) (a.put oi.dst v) w→Q (.panic c) a w:=by exact fun _ _ _ h=>h)
 (hy:Yields P ops oi v a:=by(refine Or.inl ⟨by rfl,?_⟩);intro w';go_simp;with_reducible rfl)
 (ha:a.put (some T) v=a':=by simp only[Act.put,List.setIfInBounds_toArray,List.set_cons_zero,List.set_cons_succ,oD,oF];rfl):cu P md ops Q S ds (fuel+1) (bits n m) a w:=pure_ _ hi hN hc hQ hy ha h
theorem su(i T:Nat){n m:Nat}{oi:Oper}{fuel:Nat}{a:Act}{w:World}{a':Act}(h:cu P md ops Q S ds fuel (bits n (m+2^i)) a' w)
 (hi:ops[i]?=some oi:=by rfl) (hN:oi.dst=some T:=by rfl) (hc:anyB md ops (bits n m) (bits n (m+2^i)) i=true:=by kernel_rfl) (hQ:∀c a w,Q (.panic c) (a.put oi.dst undef) w→Q (.panic c) a w:=by exact fun _ _ _ h=>h)
 (hy:Yields P ops oi undef a:=by exact Or.inr ⟨by rfl,rfl⟩)
 (ha:a.put (some T) undef=a':=by simp only[Act.put,List.setIfInBounds_toArray,List.set_cons_zero,List.set_cons_succ,oD,oF];rfl):cu P md ops Q S ds (fuel+1) (bits n m) a w:=pure_ _ hi hN hc hQ hy ha h
theorem st(i T:Nat){n m:Nat}{oi:Oper}{v:Value}{fuel:Nat}{a:Act}{w:World}{a':Act}(h:cu P md ops Q S ds fuel (bits n (m+2^i)) a' w)
 (hi:ops[i]?=some oi:=by rfl) (hN:oi.dst=some T:=by rfl) (hc:takeB md ops ds (bits n m) (bits n (m+2^i)) i=true:=by kernel_rfl) (hQ:∀c a w,Q (.panic c) (a.put oi.dst v) w→Q (.panic c) a w:=by exact fun _ _ _ h=>h)
 (hy:YieldsIf P ops S oi v a:=by(refine Or.inl ⟨by rfl,?_⟩);intro w' hs_;(repeat(have s_:=hs_.1;replace hs_:=hs_.2));go_simp;with_reducible rfl)
 (hS:S w:=by exact hHeld)
 (ha:a.put (some T) v=a':=by simp only[Act.put,List.setIfInBounds_toArray,List.set_cons_zero,List.set_cons_succ,oD,oF];rfl):cu P md ops Q S ds (fuel+1) (bits n m) a w:=take_ _ hi hN hc hQ hy hS ha h
theorem so(i:Nat){n m:Nat}{N:Option Tmp}{oi:Oper}{fuel:Nat}{a:Act}{w:World}
 (h:∀K:Act→World→Prop,Shut (∀a' w',S w'→(S w'→cu P md ops Q S ds fuel (bits n (m+2^i)) a' w')→K a' w')→if Region.wanted oi (yielded ops a.tmps)=true then Oper.wp P oi a w K Q else K (a.put N undef) w)
 (hi:ops[i]?=some oi:=by rfl) (hN:oi.dst=N:=by rfl) (hc:sV md ops (bits n m) (bits n (m+2^i)) i=true:=by kernel_rfl) (hd:i∉ds:=by decide):cu P md ops Q S ds (fuel+1) (bits n m) a w:=one_ _ hi hN hc hd h
theorem sl(i:Nat){n m:Nat}{N:Option Tmp}{oi:Oper}{fuel:Nat}{a:Act}{w:World}
 (h:∀K:Act→World→Prop,Shut (∀a' w',cu P md ops Q S ds fuel (bits n (m+2^i)) a' w'→K a' w')→if Region.wanted oi (yielded ops a.tmps)=true then Oper.wp P oi a w K Q else K (a.put N undef) w)
 (hi:ops[i]?=some oi:=by rfl) (hN:oi.dst=N:=by rfl) (hc:sV md ops (bits n m) (bits n (m+2^i)) i=true:=by kernel_rfl) (hd:i∈ds:=by decide):cu P md ops Q S ds (fuel+1) (bits n m) a w:=last_ _ hi hN hc hd h
theorem sc(i T:Nat){n m:Nat}{oi:Oper}{fuel:Nat}{a:Act}{w:World}
 (h:∀K:Act→World→Prop,Shut (∀a' w',S w'→(S w'→cu P md ops Q S ds fuel (bits n (m+2^i)) a' w')→K a' w')→if Region.wanted oi (yielded ops a.tmps)=true then Oper.wp P oi a w K Q else K (a.put (some T) undef) w)
 (hi:ops[i]?=some oi:=by rfl) (hN:oi.dst=some T:=by rfl) (hc:sV md ops (bits n m) (bits n (m+2^i)) i=true:=by kernel_rfl) (hd:i∉ds:=by decide):cu P md ops Q S ds (fuel+1) (bits n m) a w:=one_ _ hi hN hc hd h
theorem sd(i T:Nat){n m:Nat}{oi:Oper}{fuel:Nat}{a:Act}{w:World}
 (h:∀K:Act→World→Prop,Shut (∀a' w',cu P md ops Q S ds fuel (bits n (m+2^i)) a' w'→K a' w')→if Region.wanted oi (yielded ops a.tmps)=true then Oper.wp P oi a w K Q else K (a.put (some T) undef) w)
 (hi:ops[i]?=some oi:=by rfl) (hN:oi.dst=some T:=by rfl) (hc:sV md ops (bits n m) (bits n (m+2^i)) i=true:=by kernel_rfl) (hd:i∈ds:=by decide):cu P md ops Q S ds (fuel+1) (bits n m) a w:=last_ _ hi hN hc hd h
theorem sn{fuel:Nat}{l:Array Bool}{a a':Act}{w:World}(h:cu P md ops Q S ds fuel l a' w)(ha:a=a':=by(show Act.put _ _ _=_);simp only[Act.put,List.setIfInBounds_toArray,List.set_cons_zero,List.set_cons_succ,oD,oF];rfl):cu P md ops Q S ds fuel l a w:=norm_ ha h
end
end Go.Proofs.aj.W7
