/- Lemmas and walks, part 18. -/
import Derived.Test.YtkcmghlhpbepcaaGreatDoorNB17
set_option linter.unusedVariables false
set_option linter.unusedSimpArgs false
set_option maxHeartbeats 8000000
set_option maxRecDepth 100000
namespace Go.Proofs.aj.W7
open Go.RowKit Go.Proofs.ah.aD Go.Proofs.ah.bJ Go.Proofs.ah.bW
attribute [local go_sem] dB dD dR dS bZ cu dF dG
def fQ.l0:Nat→Int→List (S34)→List (S34)→Int→Int→Option ((List (S34)))
 |0,_,_,_,_,_=>none
 |k+1,x1,x5,x8,x9,x10=>if x10<x9 then(if 0≤x10 then(if x10<(x8.length:Int)then((rA.f ((au x8 x10).f4)).bind fun xC=>(if x5.length<1954687338268 then(fQ.l0 k x1 (x5++[(⟨wrap64 (((au x8 x10).f0)+x1),(au x8 x10).f1,(au x8 x10).f2,(au x8 x10).f3,xC⟩:S34)]) x8 x9 (wrap64 (x10+1)))else(none)))else(none))else(none))else(some x5)
def fQ.f(k:Nat)(l0:List (S34))(a1:Int):Option ((List (S34))):=fQ.l0 k a1 ([] :List (S34)) l0 (l0.length:Int) 0
theorem fQ.calls(k:Nat)(A0:Option Addr)(c0:Nat)(l0:List (S34))(a1:Int)(r:List (S34))(w:World)(hr0:Kd.C k34 w A0 l0.length l0)(hc0:l0.length≤c0)(h:fQ.f k l0 a1=some r):
 Calls Tryz.prog 89 #[.slice A0 l0.length c0,.int .i64 a1] w fun e w'=>∃v0_:Value,e=.returned (v0_)∧Kd.R k34 34 w' w.heap.size (fun _=>True) v0_ r∧Below w.heap.size w w':=by
 have hu34:=Tryz.underlying34;have HR0:=ak.mk hr0;have HC0:=ak.mk hc0;clear hr0 hc0;have HB:=ak.mk (Below.refl w.heap.size w);have H:(fQ.l0 k a1 ([] :List (S34)) l0 (l0.length:Int) 0)=some r:=h;clear h;have H':=ak.mk H;clear H;go_enter Tryz.func89,Tryz.ntmps89;go_wp2
 go_loopg [5,10] k (fun kq v5 v10 w'=>∃(iP:List (S34)) (dV:Int),v10=.int .i64 dV∧ak (fQ.l0 kq a1 iP l0 (l0.length:Int) dV=some r)∧ak (kq≤k)∧ak (Kd.R k34 34 w' w.heap.size (fun _=>True) v5 iP)∧ak (Below w.heap.size w w'))
 case atStart=>exact⟨(([] :List (S34))),(0),q'c,H',⟨Nat.le_refl _⟩,⟨by first|exact Kd.nI _ _ _ _ _|exact Kd.N_nil _ _ _ _ _|exact Kd.V_nil _ _ _ _ _|exact Kd.Q_nil _ _ _ _ _|exact Kd.S_nil _ _ _ _ _⟩,⟨bz⟩⟩
 case round=>
  clear H'
  try clear p2
  obtain⟨iP,dV,rfl,HA,HK1,Bc,HB⟩:=hrel;cases gk with
  |zero=>exact absurd HA.out (by simp[fQ.l0])
  |succ k1=>
   have H:=HA.out;clear HA;simp only[fQ.l0]at H
   by_cases c3:dV<(l0.length:Int)
   ·rw[if_pos c3]at H
    have nN:decide (dV<(l0.length:Int))=true:=decide_eq_true c3;clear c3
    by_cases c4:0≤dV
    ·rw[if_pos c4]at H
     have mZ:decide (0≤dV)=true:=decide_eq_true c4;clear c4
     by_cases c5:dV<(l0.length:Int)
     ·rw[if_pos c5]at H
      have uJ:decide (dV<(l0.length:Int))=true:=decide_eq_true c5;clear c5;replace H:=Option.bind_eq_some_iff.mp H;obtain⟨xC,A60,H⟩:=H;replace H:(if iP.length<1954687338268 then(fQ.l0 k1 a1 (iP++[(⟨wrap64 (((au l0 dV).f0)+a1),(au l0 dV).f1,(au l0 dV).f2,(au l0 dV).f3,xC⟩:S34)]) l0 (l0.length:Int) (wrap64 (dV+1)))else(none))=some r:=H;have A6:=ak.mk A60;clear A60
      by_cases c7:iP.length<1954687338268
      ·rw[if_pos c7]at H
       have LMc7:=ak.mk c7;clear c7;obtain⟨y118,Ls⟩:∃y_:List (S34),y_=(iP++[(⟨wrap64 (((au l0 dV).f0)+a1),(au l0 dV).f1,(au l0 dV).f2,(au l0 dV).f3,xC⟩:S34)]):=⟨_,rfl⟩
       replace H:(fQ.l0 k1 a1 y118 l0 (l0.length:Int) (wrap64 (dV+1)))=some r:=by first|(rw[Ls];with_reducible exact H)|(have H2_:=(Option.bind_some _ _).symm.trans H;rw[Ls];with_reducible exact H2_)|(have H2_:=(Option.bind_some _ _).symm.trans H;with_reducible exact H2_)|with_reducible exact H|(rw[Ls];exact H)|exact H
       have Ny118:=ak.mk Ls;clear Ls;have H':=ak.mk H;clear H;have p113:0≤(dV:Int):=q'b;have q113:dV<(l0.length:Int):=q'b;obtain⟨ad113,Ci,Cj,e113,Jt,Ju,Jv,Jw,Jy,Qd,Qe⟩:=kQ HR0.out dV p113 q113;cases e113;replace Jt:=(HB.out.cell (World.block_lt_of_cell? w _ Jt)).trans Jt;replace Ju:=(HB.out.cell (World.block_lt_of_cell? w _ Ju)).trans Ju;replace Jv:=(HB.out.cell (World.block_lt_of_cell? w _ Jv)).trans Jv;replace Jw:=(HB.out.cell (World.block_lt_of_cell? w _ Jw)).trans Jw;replace Jy:=(HB.out.cell (World.block_lt_of_cell? w _ Jy)).trans Jy;have HR113_4:=ak.mk Qe;have HC113_4:=ak.mk Qd;clear Qe Qd;replace p113:=eq_true p113;replace q113:=eq_true q113
       go_wp2_with(first|((with_reducible refine cO (N:=7) rfl ?_);refine eH ?hg (N:=7) ?hd (cs:=#[.int .i64 0,.int .i64 0,.string (⟨#[]⟩:Bt),.string (⟨#[]⟩:Bt),.slice none 0 0]) (t:=34) ?hr ?_;(case hd=>rfl);(case hg=>rfl);(case hr=>first|(go_simp;done)|(go_simp;rfl));intro jw hg w8 fP hb;have iT:=ak.mk (fP);have GW114:=ak.mk ((by rw[hg];exact(aR bz):w.heap.size≤jw));have EP:=ak.mk ((by rw[hg];exact(aR bz):w.heap.size≤jw));replace Bc:=ak.mk (Kd.dX (Kd.R_elderB (rz Bc.out) jw (Nat.le_of_eq hg.symm)) hb);replace HB:=ak.mk (aG bz hb);clear hb fP hg;have wh:w8.cell? ⟨jw,0,none⟩=some (.int .i64 0):=(aC iT.out 0).trans rfl;have wm:w8.cell? ⟨jw,1,none⟩=some (.int .i64 0):=(aC iT.out 1).trans rfl;have wo:w8.cell? ⟨jw,2,none⟩=some (.string (⟨#[]⟩:Bt)):=(aC iT.out 2).trans rfl;have wu:w8.cell? ⟨jw,3,none⟩=some (.string (⟨#[]⟩:Bt)):=(aC iT.out 3).trans rfl;have wz:w8.cell? ⟨jw,4,none⟩=some (.slice none 0 0):=(aC iT.out 4).trans rfl;have wB:=ay iT.out 0;have wC:=ay iT.out 1;have wD:=ay iT.out 2;have wE:=ay iT.out 3;have wF:=ay iT.out 4)|((with_reducible refine aZ (f:=132) rfl ?_);refine dJ (some 21) rfl rfl Tryz.func132 (by kernel_rfl) rfl #[.slice Ci ((au l0 dV).f4).length Cj] rfl q'a ?_;(with_reducible refine(rA.calls _ _ ((au l0 dV).f4) xC _ ?cZ ?dH A6.out).mono ?_);(case cZ=>exact Kd.eF HR113_4.out (bs EP.out));(case dH=>exact HC113_4.out);rintro e w10 ⟨v116,rfl,ho0,hb⟩;refine⟨_,rfl,?_⟩;have GD:=ak.mk (Kd.eB ho0 (aR (bs EP.out)));replace Bc:=ak.mk (Kd.jh (by(with_reducible repeat(first|apply Kd.fu|apply Kd.fV|apply Kd.fH));exact(Kd.iJ (Kd.gX (p:=⟨jw,0,none⟩) (Kd.gX (p:=⟨jw,4,none⟩) (Kd.gX (p:=⟨jw,3,none⟩) (Kd.gX (p:=⟨jw,2,none⟩) (Kd.gX (p:=⟨jw,1,none⟩) (Kd.gX (p:=⟨jw,0,none⟩) (Kd.iJ Bc.out (fun k_ hk=>(⟨hk,hk.2⟩:_∧k_≠jw))) (fun _ hk=>hk.2) (.int .i64 ((au l0 dV).f0))) (fun _ hk=>hk.2) (.int .i64 ((au l0 dV).f1))) (fun _ hk=>hk.2) (.string ((au l0 dV).f2))) (fun _ hk=>hk.2) (.string ((au l0 dV).f3))) (fun _ hk=>hk.2) (.slice Ci ((au l0 dV).f4).length Cj)) (fun _ hk=>hk.2) (.int .i64 (wrap64 (((au l0 dV).f0)+a1)))) (fun _ h_=>h_.1))) (Kd.jL ho0) hb);replace iT:=ak.mk (dK (g:=jw) (o:=.cells #[.int .i64 (wrap64 (((au l0 dV).f0)+a1)),.int .i64 ((au l0 dV).f1),.string ((au l0 dV).f2),.string ((au l0 dV).f3),.slice Ci ((au l0 dV).f4).length Cj] 34 (0,0)) (by(with_reducible repeat(first|refine aT ?_ _|refine aY ?_ |refine aU ?_ _));refine bU (cs:=#[.int .i64 ((au l0 dV).f0),.int .i64 ((au l0 dV).f1),.string ((au l0 dV).f2),.string ((au l0 dV).f3),.slice Ci ((au l0 dV).f4).length Cj]) ?_ 0 _ rfl;(with_reducible repeat(first|refine aT ?_ _|refine aY ?_ |refine aU ?_ _));refine bU (cs:=#[.int .i64 ((au l0 dV).f0),.int .i64 ((au l0 dV).f1),.string ((au l0 dV).f2),.string ((au l0 dV).f3),.slice none 0 0]) ?_ 4 _ rfl;(with_reducible repeat(first|refine aT ?_ _|refine aY ?_ |refine aU ?_ _));refine bU (cs:=#[.int .i64 ((au l0 dV).f0),.int .i64 ((au l0 dV).f1),.string ((au l0 dV).f2),.string (⟨#[]⟩:Bt),.slice none 0 0]) ?_ 3 _ rfl;(with_reducible repeat(first|refine aT ?_ _|refine aY ?_ |refine aU ?_ _));refine bU (cs:=#[.int .i64 ((au l0 dV).f0),.int .i64 ((au l0 dV).f1),.string (⟨#[]⟩:Bt),.string (⟨#[]⟩:Bt),.slice none 0 0]) ?_ 2 _ rfl;(with_reducible repeat(first|refine aT ?_ _|refine aY ?_ |refine aU ?_ _));refine bU (cs:=#[.int .i64 ((au l0 dV).f0),.int .i64 0,.string (⟨#[]⟩:Bt),.string (⟨#[]⟩:Bt),.slice none 0 0]) ?_ 1 _ rfl;(with_reducible repeat(first|refine aT ?_ _|refine aY ?_ |refine aU ?_ _));refine bU (cs:=#[.int .i64 0,.int .i64 0,.string (⟨#[]⟩:Bt),.string (⟨#[]⟩:Bt),.slice none 0 0]) ?_ 0 _ rfl;(with_reducible repeat(first|refine aT ?_ _|refine aY ?_ |refine aU ?_ _));exact iT.out) hb);replace HB:=ak.mk (aG (bs EP.out) hb);(try clear hb);(try clear hb2);(try clear hk);(try clear hi);(try clear ho0);obtain⟨ED,EF,eo11⟩:=Kd.dI GD.out;subst eo11;have Ov:w10.cell? ⟨jw,0,none⟩=some (.int .i64 (wrap64 (((au l0 dV).f0)+a1))):=(aC iT.out 0).trans rfl;have Ow:w10.cell? ⟨jw,1,none⟩=some (.int .i64 ((au l0 dV).f1)):=(aC iT.out 1).trans rfl;have Ox:w10.cell? ⟨jw,2,none⟩=some (.string ((au l0 dV).f2)):=(aC iT.out 2).trans rfl;have Oy:w10.cell? ⟨jw,3,none⟩=some (.string ((au l0 dV).f3)):=(aC iT.out 3).trans rfl;have Oz:w10.cell? ⟨jw,4,none⟩=some (.slice Ci ((au l0 dV).f4).length Cj):=(aC iT.out 4).trans rfl;have OA:=ay iT.out 0;have OB:=ay iT.out 1;have OC:=ay iT.out 2;have OD:=ay iT.out 3;have OE:=ay iT.out 4)|((with_reducible refine j6 (t:=32) (p:=22) rfl ?_);refine jE (t:=32) (p:=22) (v:=?vo_w13) (w1:=(w10.setCell ⟨jw,4,none⟩ (.slice ED xC.length EF))) ?hg ?ho ?hn ?hr ?_;(case ho=>rfl);(case hg=>rfl);(case hn=>rfl);(case hr=>first|(go_simp;done)|(go_simp;rfl));intro w13 hw;have n0_:ak (Kd.R k34 34 w13 w.heap.size (fun k_=>some k_≠(.slice ED xC.length EF:Value).ownBlock∧k_≠jw) u5 iP):=⟨(by rw[hw];exact(by(with_reducible repeat(first|apply Kd.fu|apply Kd.fV|apply Kd.fH));exact Kd.iJ (Kd.gX (p:=⟨jw,4,none⟩) (Kd.iJ Bc.out (fun k_ hk=>(⟨hk,hk.1.2⟩:_∧k_≠jw))) (fun _ hk=>hk.2) (.slice ED xC.length EF)) (fun _ hk=>⟨hk.1.2,hk.1.1.2⟩)))⟩;have n1_:ak (Kd.R k36 36 w13 w.heap.size (fun _=>True) (.slice ED xC.length EF) xC):=⟨(by rw[hw];exact(by(with_reducible repeat(first|apply Kd.fu|apply Kd.fV|apply Kd.fH));exact Kd.iJ (Kd.gX (p:=⟨jw,4,none⟩) (Kd.oK GD.out iT.out (by decide)) (fun _ hk=>hk.2) (.slice ED xC.length EF)) (fun _ hk=>trivial)))⟩;have n2_:ak (w13.heap[jw]?=some (.cells #[.int .i64 (wrap64 (((au l0 dV).f0)+a1)),.int .i64 ((au l0 dV).f1),.string ((au l0 dV).f2),.string ((au l0 dV).f3),.slice ED xC.length EF] 34 (0,0))):=⟨(by rw[hw];exact(by(with_reducible repeat(first|refine aT ?_ _|refine aY ?_ |refine aU ?_ _));refine bU (cs:=#[.int .i64 (wrap64 (((au l0 dV).f0)+a1)),.int .i64 ((au l0 dV).f1),.string ((au l0 dV).f2),.string ((au l0 dV).f3),.slice Ci ((au l0 dV).f4).length Cj]) ?_ 4 _ rfl;(with_reducible repeat(first|refine aT ?_ _|refine aY ?_ |refine aU ?_ _));exact iT.out))⟩;have n3_:ak (Below w.heap.size w w13):=⟨(by rw[hw];exact(bs EP.out))⟩;clear hw;clear Bc;clear GD;clear iT;clear HB;have Bc:=n0_;have GD:=n1_;have iT:=n2_;have HB:=n3_;clear n0_ n1_ n2_ n3_;have sF:w13.cell? ⟨jw,0,none⟩=some (.int .i64 (wrap64 (((au l0 dV).f0)+a1))):=(aC iT.out 0).trans rfl;have sG:w13.cell? ⟨jw,1,none⟩=some (.int .i64 ((au l0 dV).f1)):=(aC iT.out 1).trans rfl;have sH:w13.cell? ⟨jw,2,none⟩=some (.string ((au l0 dV).f2)):=(aC iT.out 2).trans rfl;have sI:w13.cell? ⟨jw,3,none⟩=some (.string ((au l0 dV).f3)):=(aC iT.out 3).trans rfl;have sJ:w13.cell? ⟨jw,4,none⟩=some (.slice ED xC.length EF):=(aC iT.out 4).trans rfl;have sK:=ay iT.out 0;have sM:=ay iT.out 1;have sN:=ay iT.out 2;have sO:=ay iT.out 3;have sP:=ay iT.out 4)|((with_reducible refine qJ (b:=.append) (xs:=#[.tmp 23,.tmp 25]) rfl ?_);at_builtin;refine Kd.lQ k34 (w0:=w) w.heap.size rfl (.tmp 23) (.tmp 25) 22 34 (.agg #[(.int .i64 0),(.int .i64 0),(.string ⟨#[]⟩),(.string ⟨#[]⟩),(.slice none 0 0)]) 72 rfl Tryz.underlying22 ru rfl (by decide) (by omega) u5 iP (⟨wrap64 (((au l0 dV).f0)+a1),(au l0 dV).f1,(au l0 dV).f2,(au l0 dV).f3,xC⟩:S34) [.int .i64 (wrap64 (((au l0 dV).f0)+a1)),.int .i64 ((au l0 dV).f1),.string ((au l0 dV).f2),.string ((au l0 dV).f3),.slice ED xC.length EF] (fun k_=>k_≠jw) (fun k_=>((fun k_=>k_≠jw)) k_∧some k_≠(u5:Value).ownBlock) rfl rfl ?aP (fun _ hk=>hk) ?aF ?aO ?aB ?aS ?aL ?_;(case aP=>exact yE _ _ _ (⟨wrap64 (((au l0 dV).f0)+a1),(au l0 dV).f1,(au l0 dV).f2,(au l0 dV).f3,xC⟩:S34) (Kd.iJ (Kd.oK (Kd.R_apart' (GD.out) (Kd.Hw Bc.out) (by decide)) iT.out (by decide)) (fun k_ hk=>⟨hk.2,hk.1.2⟩)));(case aB=>exact(bs EP.out));(case aF=>exact(fun k_ hk=>Kd.freshB (g:=jw) (o:=.cells #[.int .i64 (wrap64 (((au l0 dV).f0)+a1)),.int .i64 ((au l0 dV).f1),.string ((au l0 dV).f2),.string ((au l0 dV).f3),.slice ED xC.length EF] 34 (0,0)) (kz iT.out) k_ hk));(case aO=>exact(by(with_reducible repeat(first|apply Kd.fu|apply Kd.fV|apply Kd.fH));exact Kd.iJ Bc.out (fun _ hk=>hk.2)));(case aS=>exact(aR (bs EP.out)));(case aL=>have:=LMc7.out;omega);intro v119 w15 ho hb hg hat;rw[←Ny118.out]at ho;have HO120:=ak.mk (ho);replace iT:=ak.mk (qU (g:=jw) (o:=.cells #[.int .i64 (wrap64 (((au l0 dV).f0)+a1)),.int .i64 ((au l0 dV).f1),.string ((au l0 dV).f2),.string ((au l0 dV).f3),.slice ED xC.length EF] 34 (0,0)) (kz iT.out) hg (Kd.R_away Bc.out (fun _ hk=>hk.2)));replace HB:=ak.mk (hb);clear Bc GD;clear ho hb hg hat))
       go_roundg k1
       case measure=>have:=HK1.out;omega
       case rel=>exact⟨(y118),(wrap64 (dV+1)),q'c,H',⟨by have:=HK1.out;omega⟩,⟨by(with_reducible repeat(first|apply Kd.fu|apply Kd.fV|apply Kd.fH));exact Kd.iJ HO120.out (fun _ hk=>trivial)⟩,⟨bs EP.out⟩⟩
      ·rw[if_neg c7]at H
       exact absurd H (by simp)
     ·rw[if_neg c5]at H
      exact absurd H (by simp)
    ·rw[if_neg c4]at H
     exact absurd H (by simp)
   ·rw[if_neg c3]at H
    have nN:decide (dV<(l0.length:Int))=false:=decide_eq_false c3;clear c3;obtain rfl:=Option.some.inj H;go_wp2;go_ret;exact⟨_,by first|rfl|(simp[aJ,aM]<;>rfl)|(simp[*,aJ,aM]<;>rfl),by(with_reducible repeat(first|apply Kd.fu|apply Kd.fV|apply Kd.fH));exact Bc.out,bz⟩
end Go.Proofs.aj.W7
namespace Go.Proofs.aj.W7
open Go.RowKit Go.Proofs Go.Proofs.YtkcmghlhpbepcaaGreatDoor Go.Proofs.ah.aD
def uz(outs:List Rw)(x:Rw):Option (List Rw):=
 if x.f1=1∧x.f3.data.toList=[]then some outs
 else if x.f1=1∧0<outs.length∧(au outs ((outs.length:Int) - 1)).f1=1∧(au outs ((outs.length:Int) - 1)).f0=x.f0 then
  if(au outs ((outs.length:Int) - 1)).f3.size+x.f3.size≤9223372036854775807 then
   some (outs.set (outs.length - 1) ⟨(au outs ((outs.length:Int) - 1)).f0,(au outs ((outs.length:Int) - 1)).f1,(au outs ((outs.length:Int) - 1)).f2,(au outs ((outs.length:Int) - 1)).f3++x.f3,(au outs ((outs.length:Int) - 1)).f4⟩)
  else none
 else if outs.length<1000000000000 then some (outs++[x])else none
def qK:List Rw→List Rw→Option (List Rw)
 |outs,[]=>some outs
 |outs,x::xs=>(uz outs x).bind fun o=>qK o xs
def iX.f(l0:List Rw):Option (List Rw):=(fQ.f (l0.length+1) l0 0).bind fun ms=>qK [] ms
theorem mM(w:World)(o:Obj):(w.alloc o).drew=w.drew.alloc o:=rfl
theorem rZ{v v1:Value}{n m:Nat}(h:∀k,v.ownBlock=some k→n≤k)(hat:v1.ownBlock=v.ownBlock∨∃b,v1.ownBlock=some b∧m≤b)(hm:n≤m):∀k,v1.ownBlock=some k→n≤k:=by
 intro k hk
 rcases hat with e|⟨b,e,hb⟩
 ·exact h k (e▸hk)
 ·rw[e]at hk
  cases hk;omega
theorem iX.calls(A:Option Addr)(c:Nat)(xs res:List Rw)(w:World)(hr:k34.C w A xs.length xs)(hcap:xs.length≤c)(h:iX.f xs=some res):
 Calls Tryz.prog 41 #[.slice A xs.length c] w fun e w'=>∃v0_:Value,e=.returned (v0_)∧Kd.R k34 34 w' w.heap.size (fun _=>True) v0_ res∧Below w.heap.size w w':=by
 unfold iX.f at h;obtain⟨ms,hms,h⟩:=Option.bind_eq_some_iff.1 h;have hmv:=Lib.hid (fQ.calls (xs.length+1) A c xs 0 ms w hr hcap hms);clear hms;replace h:=Lib.hid h;go_enter Tryz.func41,Tryz.ntmps41
 go_wp2_with(go_at_call 89;((with_reducible refine hmv.out.mono ?_);rintro e w1 ⟨vm,rfl,hm,hb1⟩;obtain⟨A1,c1,rfl⟩:=Kd.dI hm))
 have hml:=(Kd.bK hm).2.2.2.1
 go_loopw [3,10] (fun vo vi wr=>∃(i:Nat) (outs:List Rw),vi=.int .i64 i∧i≤ms.length∧Hid (qK outs (ms.drop i)=some res)∧Kd.R k34 34 wr w.heap.size (fun _=>True) vo outs∧Below w1.heap.size w1 wr∧Hid (∀k,vo.ownBlock=some k→w1.heap.size≤k)) (fun _ vi _=>ms.length - (intOf vi).toNat)
 case atStart=>exact⟨0,[],rfl,Nat.zero_le _,h.out,Kd.nI _ _ _ _ _,Below.refl _ _,fun k hk=>by simp[Value.ownBlock]at hk⟩
 case round=>
  obtain⟨i,outs,rfl,hi,hrest,hO,hB,hown⟩:=hrel;obtain⟨A2,c2,rfl⟩:=Kd.dI hO;have hol:=(Kd.bK hO).2.2.2.1;have hbw:=hb1.size;have hbz:=hB.size
  by_cases hlt:i<ms.length
  ·obtain⟨gm,capm,hv,-,-,-⟩:=Kd.Ef hm (by omega)
   simp only[Value.slice.injEq,true_and]at hv;obtain⟨rfl,rfl⟩:=hv;obtain⟨cs,hcl,hM,hcell,hfz⟩:=Kd.MR hm (⟨0,0,⟨#[]⟩,⟨#[]⟩,[]⟩:Rw) i (by omega) (by omega);have hgd:ms.getD (i:Int).toNat (⟨0,0,⟨#[]⟩,⟨#[]⟩,[]⟩:Rw)=ms[i]:=by simp[hlt]
   rw[hgd]at hM;have HY:=hrest.out;rw[List.drop_eq_getElem_cons hlt]at HY;simp only[qK]at HY;obtain⟨o2,hst,hre⟩:=Option.bind_eq_some_iff.1 HY;clear hrest hgd hfz HY;generalize ms[i]=x at *;obtain⟨v4,rfl,hv4⟩:=BM hM;obtain⟨A4,c4,rfl⟩:=Kd.dI hv4;have z0:=aV (hcell 0 _ rfl) hB;have z1:=aV (hcell 1 _ rfl) hB;have z2:=aV (hcell 2 _ rfl) hB;have z3:=aV (hcell 3 _ rfl) hB;have z4:=aV (hcell 4 _ rfl) hB;change wr.cell? ⟨gm,i * 5,none⟩=_ at z0;change wr.cell? ⟨gm,i * 5+1,none⟩=_ at z1;change wr.cell? ⟨gm,i * 5+2,none⟩=_ at z2;change wr.cell? ⟨gm,i * 5+3,none⟩=_ at z3;change wr.cell? ⟨gm,i * 5+4,none⟩=_ at z4;have hrest3:=Lib.hid hre;clear hcell hcl hre;obtain⟨xd,xk,xn,xt,xa⟩:=x;simp only at z0 z1 z2 z3 z4;have hnt:=bR wr #[.int .i64 xd,.int .i64 xk,.string xn,.string xt,.slice A4 xa.length c4] 34;obtain⟨⟨p0,p1,p2,p3,p4⟩,p5⟩:=aW hnt;have hBA:=hB.alloc hbz (.cells #[.int .i64 xd,.int .i64 xk,.string xn,.string xt,.slice A4 xa.length c4] 34);have hOA:=Kd.fu hO (.cells #[.int .i64 xd,.int .i64 xk,.string xn,.string xt,.slice A4 xa.length c4] 34)
   have hsA:w.heap.size≤(wr.alloc (.cells #[.int .i64 xd,.int .i64 xk,.string xn,.string xt,.slice A4 xa.length c4] 34)).heap.size:=by rw[World.size_alloc];omega
   have hsB:w1.heap.size≤(wr.alloc (.cells #[.int .i64 xd,.int .i64 xk,.string xn,.string xt,.slice A4 xa.length c4] 34)).heap.size:=by rw[World.size_alloc];omega
   have hMp:=Kd.gu k34 (ok':=fun k=>k<w1.heap.size) (fun k hk=>hk.2.2.1) (Kd.gJ k34 hM);have hsz1:(wr.alloc (.cells #[.int .i64 xd,.int .i64 xk,.string xn,.string xt,.slice A4 xa.length c4] 34)).heap.size=wr.heap.size+1:=World.size_alloc _ _;unfold uz at hst
   by_cases hA:xk=1∧xt.data.toList=[]
   ·rw[if_pos hA]at hst
    obtain rfl:=Option.some.inj hst;obtain⟨rfl,hxt⟩:=hA
    obtain rfl:xt=⟨#[]⟩:=by
     obtain⟨d⟩:=xt;simpa using hxt
    clear hst;go_wp2;exact⟨⟨i+1,outs,rfl,by omega,hrest3,hOA,hBA,hown⟩,by simp[intOf];omega⟩
   ·rw[if_neg hA]at hst
    have hne:xk=1→¬xt.data.toList=[]:=fun e1 e2=>hA ⟨e1,e2⟩
    clear hA;have hne1:xk=1→(xt.toList==[])=false:=fun e1=>by rw[beq_eq_false_iff_ne,Lib.toList_data];exact hne e1
    by_cases hk1:xk=1
    ·have hx1:=hne1 hk1
     have hx2:¬xt.toList=[]:=by rw[Lib.toList_data];exact hne hk1
     subst hk1
     by_cases hn0:0<outs.length
     ·obtain⟨go,capo,hv,-,-,-⟩:=Kd.Ef hO hn0
      simp only[Value.slice.injEq,true_and]at hv;obtain⟨rfl,rfl⟩:=hv;obtain⟨m,hm1⟩:∃m,outs.length=m+1:=⟨outs.length - 1,by omega⟩
      obtain⟨cs,hcl,hMo,vH,hfzo⟩:=Kd.MR hOA (⟨0,0,⟨#[]⟩,⟨#[]⟩,[]⟩:Rw) (m:Int) (by omega) (by omega);have hgd:outs.getD (m:Int).toNat (⟨0,0,⟨#[]⟩,⟨#[]⟩,[]⟩:Rw)=outs[m]:=by simp[show m<outs.length by omega]
      have hrd:au outs ((outs.length:Int) - 1)=outs[m]:=by
       rw[show(outs.length:Int) - 1=(m:Int)from by omega];simp[au,show m<outs.length by omega]
      rw[hgd]at hMo;rw[hrd,show outs.length - 1=m from by omega]at hst;generalize outs[m]=y at *;obtain⟨w4,rfl,hw4⟩:=BM hMo;have y0:=vH 0 _ rfl;have y1:=vH 1 _ rfl;have y3:=vH 3 _ rfl;have f3:=hfzo 3;change World.cell? _ ⟨go,m * 5,none⟩=_ at y0;change World.cell? _ ⟨go,m * 5+1,none⟩=_ at y1;change World.cell? _ ⟨go,m * 5+3,none⟩=_ at y3;change World.frozen? _ ⟨go,m * 5+3,none⟩=_ at f3;obtain⟨yd,yk,yn,yt,ya⟩:=y;simp only at y0 y1 y3
      by_cases hB1:yk=1∧yd=xd
      ·rw[if_pos ⟨rfl,hn0,hB1⟩]at hst
       obtain⟨rfl,rfl⟩:=hB1;have hcx:¬xt=⟨#[]⟩:=fun e=>hx2 (by rw[Lib.toList_data,e])
       clear hne hne1;rw[hm1];go_wp2
       first
        |go_region
        |skip
       by_cases hsz:yt.size+xt.size≤9223372036854775807
       ·rw[if_pos hsz]at hst
        obtain rfl:=Option.some.inj hst;have a1:decide (yt.size+xt.size≤9223372036854775807)=true:=decide_eq_true hsz;have a2:(9223372036854775807<yt.size+xt.size)=False:=eq_false (by omega);clear hst;go_wp2
        first
         |go_region
         |skip
        go_wp2;have hge:=hown.out go (by simp[Value.ownBlock]);have hS:=(Kd.R_seg hOA (m:Int) (by omega) (by omega) (c:=[.int .i64 yd,.int .i64 1,.string yn,.string yt,w4]) (seg:=[.string (yt++xt)]) (j:=3) hcl vH (by show 3+1≤5;omega) (x':=(⟨yd,1,yn,yt++xt,ya⟩:Rw)) (okp:=fun k=>True∧k≠go) (yE _ _ _ (⟨yd,1,yn,yt++xt,ya⟩:Rw) hw4) (fun _ h=>h)).1;rw[hm1]at hS;have hBS:Below w1.heap.size w1 _:=hBA.setCell (p:=⟨go,m * 5+3,none⟩) hge (.string (yt++xt));exact⟨⟨i+1,outs.set m (⟨yd,1,yn,yt++xt,ya⟩:Rw),rfl,by omega,hrest3,Kd.fH (Kd.fH hS),bX (bX hBS),Lib.hid (fun k hk=>hown.out k (by simpa [Value.ownBlock]using hk))⟩,by simp[intOf];omega⟩
       ·rw[if_neg hsz]at hst
        cases hst
      ·rw[if_neg (fun e=>hB1 e.2.2)]at hst
       have hcx:¬xt=⟨#[]⟩:=fun e=>hx2 (by rw[Lib.toList_data,e])
       clear hne hne1
       by_cases hy1:yk=1
       ·subst hy1
        have hy2:(yd==xd)=false:=beq_eq_false_iff_ne.2 (fun e=>hB1 ⟨rfl,e⟩)
        by_cases hlen:outs.length<1000000000000
        ·rw[if_pos hlen]at hst
         obtain rfl:=Option.some.inj hst;clear hst;rw[hm1];rw[hm1]at hOA hown
         go_wp2_with(at_builtin;(try rw[mM]);refine Kd.lQ k34 (w0:=w1) w.heap.size rfl (.tmp 16) (.tmp 18) 22 34 (.agg #[(.int .i64 0),(.int .i64 0),(.string ⟨#[]⟩),(.string ⟨#[]⟩),(.slice none 0 0)]) 72 rfl Tryz.underlying22 ru rfl (by decide) (by omega) (.slice (some ⟨go,0,none⟩) (m+1) c2) outs (⟨xd,1,xn,xt,xa⟩:Rw) [.int .i64 xd,.int .i64 1,.string xn,.string xt,.slice A4 xa.length c4] (fun _=>True) (fun k=>k<w1.heap.size) rfl ?aX ?aP ?aK ?aF ?aO ?aB ?aS ?aL ?_;(case aX=>exact congrArg (fun n=>Value.slice (some ⟨n,0,none⟩) 1 1) hsz1.symm);(case aP=>exact Kd.qL hMp (by first|with_reducible exact bX hBA|with_reducible exact hBA));(case aK=>exact fun k hk=>⟨trivial,fun e=>by have:=hown.out k e.symm;omega⟩);(case aF=>exact fun _ _=>trivial);(case aO=>first|with_reducible exact Kd.fH hOA|with_reducible exact hOA);(case aB=>exact Below.mono (by first|with_reducible exact bX hBA|with_reducible exact hBA) hbw);(case aS=>exact hsA);(case aL=>omega);intro v1 w2 hO2 hb2 hg2 xJ;obtain⟨A3,c3,rfl⟩:=Kd.dI hO2;have hB2:=Below.grown (bX hBA) hg2 hsB (fun k hk=>hown.out k hk);have hown2:=Lib.hid (rZ hown.out xJ hsB))
         first
          |(go_region;go_wp2_with(at_builtin;(try rw[mM]);refine Kd.lQ k34 (w0:=w1) w.heap.size rfl (.tmp 16) (.tmp 18) 22 34 (.agg #[(.int .i64 0),(.int .i64 0),(.string ⟨#[]⟩),(.string ⟨#[]⟩),(.slice none 0 0)]) 72 rfl Tryz.underlying22 ru rfl (by decide) (by omega) (.slice (some ⟨go,0,none⟩) (m+1) c2) outs (⟨xd,1,xn,xt,xa⟩:Rw) [.int .i64 xd,.int .i64 1,.string xn,.string xt,.slice A4 xa.length c4] (fun _=>True) (fun k=>k<w1.heap.size) rfl ?aX ?aP ?aK ?aF ?aO ?aB ?aS ?aL ?_;(case aX=>exact congrArg (fun n=>Value.slice (some ⟨n,0,none⟩) 1 1) hsz1.symm);(case aP=>exact Kd.qL hMp (by first|with_reducible exact bX hBA|with_reducible exact hBA));(case aK=>exact fun k hk=>⟨trivial,fun e=>by have:=hown.out k e.symm;omega⟩);(case aF=>exact fun _ _=>trivial);(case aO=>first|with_reducible exact Kd.fH hOA|with_reducible exact hOA);(case aB=>exact Below.mono (by first|with_reducible exact bX hBA|with_reducible exact hBA) hbw);(case aS=>exact hsA);(case aL=>omega);intro v1 w2 hO2 hb2 hg2 xJ;obtain⟨A3,c3,rfl⟩:=Kd.dI hO2;have hB2:=Below.grown (bX hBA) hg2 hsB (fun k hk=>hown.out k hk);have hown2:=Lib.hid (rZ hown.out xJ hsB)))
          |skip
         rw[List.length_append,hm1,List.length_singleton]at hO2 hown2;exact⟨⟨i+1,outs++[(⟨xd,1,xn,xt,xa⟩:Rw)],rfl,by omega,hrest3,hO2,hB2,hown2⟩,by simp[intOf];omega⟩
        ·rw[if_neg hlen]at hst
         cases hst
       ·have hy2:(yk==1)=false:=beq_eq_false_iff_ne.2 hy1
        by_cases hlen:outs.length<1000000000000
        ·rw[if_pos hlen]at hst
         obtain rfl:=Option.some.inj hst;clear hst;rw[hm1];rw[hm1]at hOA hown
         go_wp2_with(at_builtin;(try rw[mM]);refine Kd.lQ k34 (w0:=w1) w.heap.size rfl (.tmp 16) (.tmp 18) 22 34 (.agg #[(.int .i64 0),(.int .i64 0),(.string ⟨#[]⟩),(.string ⟨#[]⟩),(.slice none 0 0)]) 72 rfl Tryz.underlying22 ru rfl (by decide) (by omega) (.slice (some ⟨go,0,none⟩) (m+1) c2) outs (⟨xd,1,xn,xt,xa⟩:Rw) [.int .i64 xd,.int .i64 1,.string xn,.string xt,.slice A4 xa.length c4] (fun _=>True) (fun k=>k<w1.heap.size) rfl ?aX ?aP ?aK ?aF ?aO ?aB ?aS ?aL ?_;(case aX=>exact congrArg (fun n=>Value.slice (some ⟨n,0,none⟩) 1 1) hsz1.symm);(case aP=>exact Kd.qL hMp (by first|with_reducible exact bX hBA|with_reducible exact hBA));(case aK=>exact fun k hk=>⟨trivial,fun e=>by have:=hown.out k e.symm;omega⟩);(case aF=>exact fun _ _=>trivial);(case aO=>first|with_reducible exact Kd.fH hOA|with_reducible exact hOA);(case aB=>exact Below.mono (by first|with_reducible exact bX hBA|with_reducible exact hBA) hbw);(case aS=>exact hsA);(case aL=>omega);intro v1 w2 hO2 hb2 hg2 xJ;obtain⟨A3,c3,rfl⟩:=Kd.dI hO2;have hB2:=Below.grown (bX hBA) hg2 hsB (fun k hk=>hown.out k hk);have hown2:=Lib.hid (rZ hown.out xJ hsB))
         first
          |(go_region;go_wp2_with(at_builtin;(try rw[mM]);refine Kd.lQ k34 (w0:=w1) w.heap.size rfl (.tmp 16) (.tmp 18) 22 34 (.agg #[(.int .i64 0),(.int .i64 0),(.string ⟨#[]⟩),(.string ⟨#[]⟩),(.slice none 0 0)]) 72 rfl Tryz.underlying22 ru rfl (by decide) (by omega) (.slice (some ⟨go,0,none⟩) (m+1) c2) outs (⟨xd,1,xn,xt,xa⟩:Rw) [.int .i64 xd,.int .i64 1,.string xn,.string xt,.slice A4 xa.length c4] (fun _=>True) (fun k=>k<w1.heap.size) rfl ?aX ?aP ?aK ?aF ?aO ?aB ?aS ?aL ?_;(case aX=>exact congrArg (fun n=>Value.slice (some ⟨n,0,none⟩) 1 1) hsz1.symm);(case aP=>exact Kd.qL hMp (by first|with_reducible exact bX hBA|with_reducible exact hBA));(case aK=>exact fun k hk=>⟨trivial,fun e=>by have:=hown.out k e.symm;omega⟩);(case aF=>exact fun _ _=>trivial);(case aO=>first|with_reducible exact Kd.fH hOA|with_reducible exact hOA);(case aB=>exact Below.mono (by first|with_reducible exact bX hBA|with_reducible exact hBA) hbw);(case aS=>exact hsA);(case aL=>omega);intro v1 w2 hO2 hb2 hg2 xJ;obtain⟨A3,c3,rfl⟩:=Kd.dI hO2;have hB2:=Below.grown (bX hBA) hg2 hsB (fun k hk=>hown.out k hk);have hown2:=Lib.hid (rZ hown.out xJ hsB)))
          |skip
         rw[List.length_append,hm1,List.length_singleton]at hO2 hown2;exact⟨⟨i+1,outs++[(⟨xd,1,xn,xt,xa⟩:Rw)],rfl,by omega,hrest3,hO2,hB2,hown2⟩,by simp[intOf];omega⟩
        ·rw[if_neg hlen]at hst
         cases hst
     ·rw[if_neg (fun e=>hn0 e.2.1)]at hst
      have hcx:¬xt=⟨#[]⟩:=fun e=>hx2 (by rw[Lib.toList_data,e])
      have hl0:outs.length=0:=by omega
      clear hne hne1
      by_cases hlen:outs.length<1000000000000
      ·rw[if_pos hlen]at hst
       obtain rfl:=Option.some.inj hst;clear hst;rw[hl0];rw[hl0]at hOA hown
       go_wp2_with(at_builtin;(try rw[mM]);refine Kd.lQ k34 (w0:=w1) w.heap.size rfl (.tmp 16) (.tmp 18) 22 34 (.agg #[(.int .i64 0),(.int .i64 0),(.string ⟨#[]⟩),(.string ⟨#[]⟩),(.slice none 0 0)]) 72 rfl Tryz.underlying22 ru rfl (by decide) (by omega) (.slice A2 0 c2) outs (⟨xd,1,xn,xt,xa⟩:Rw) [.int .i64 xd,.int .i64 1,.string xn,.string xt,.slice A4 xa.length c4] (fun _=>True) (fun k=>k<w1.heap.size) rfl ?aX ?aP ?aK ?aF ?aO ?aB ?aS ?aL ?_;(case aX=>exact congrArg (fun n=>Value.slice (some ⟨n,0,none⟩) 1 1) hsz1.symm);(case aP=>exact Kd.qL hMp (by first|with_reducible exact bX hBA|with_reducible exact hBA));(case aK=>exact fun k hk=>⟨trivial,fun e=>by have:=hown.out k e.symm;omega⟩);(case aF=>exact fun _ _=>trivial);(case aO=>first|with_reducible exact Kd.fH hOA|with_reducible exact hOA);(case aB=>exact Below.mono (by first|with_reducible exact bX hBA|with_reducible exact hBA) hbw);(case aS=>exact hsA);(case aL=>omega);intro v1 w2 hO2 hb2 hg2 xJ;obtain⟨A3,c3,rfl⟩:=Kd.dI hO2;have hB2:=Below.grown (bX hBA) hg2 hsB (fun k hk=>hown.out k hk);have hown2:=Lib.hid (rZ hown.out xJ hsB))
       first
        |(go_region;go_wp2_with(at_builtin;(try rw[mM]);refine Kd.lQ k34 (w0:=w1) w.heap.size rfl (.tmp 16) (.tmp 18) 22 34 (.agg #[(.int .i64 0),(.int .i64 0),(.string ⟨#[]⟩),(.string ⟨#[]⟩),(.slice none 0 0)]) 72 rfl Tryz.underlying22 ru rfl (by decide) (by omega) (.slice A2 0 c2) outs (⟨xd,1,xn,xt,xa⟩:Rw) [.int .i64 xd,.int .i64 1,.string xn,.string xt,.slice A4 xa.length c4] (fun _=>True) (fun k=>k<w1.heap.size) rfl ?aX ?aP ?aK ?aF ?aO ?aB ?aS ?aL ?_;(case aX=>exact congrArg (fun n=>Value.slice (some ⟨n,0,none⟩) 1 1) hsz1.symm);(case aP=>exact Kd.qL hMp (by first|with_reducible exact bX hBA|with_reducible exact hBA));(case aK=>exact fun k hk=>⟨trivial,fun e=>by have:=hown.out k e.symm;omega⟩);(case aF=>exact fun _ _=>trivial);(case aO=>first|with_reducible exact Kd.fH hOA|with_reducible exact hOA);(case aB=>exact Below.mono (by first|with_reducible exact bX hBA|with_reducible exact hBA) hbw);(case aS=>exact hsA);(case aL=>omega);intro v1 w2 hO2 hb2 hg2 xJ;obtain⟨A3,c3,rfl⟩:=Kd.dI hO2;have hB2:=Below.grown (bX hBA) hg2 hsB (fun k hk=>hown.out k hk);have hown2:=Lib.hid (rZ hown.out xJ hsB)))
        |skip
       rw[List.length_append,hl0,List.length_singleton,Nat.zero_add]at hO2 hown2;exact⟨⟨i+1,outs++[(⟨xd,1,xn,xt,xa⟩:Rw)],rfl,by omega,hrest3,hO2,hB2,hown2⟩,by simp[intOf];omega⟩
      ·rw[if_neg hlen]at hst
       cases hst
    ·rw[if_neg (fun e=>hk1 e.1)]at hst
     have hq1:(xk==1)=false:=beq_eq_false_iff_ne.2 hk1;clear hne hne1
     by_cases hlen:outs.length<1000000000000
     ·rw[if_pos hlen]at hst
      obtain rfl:=Option.some.inj hst;clear hst
      go_wp2_with(at_builtin;(try rw[mM]);refine Kd.lQ k34 (w0:=w1) w.heap.size rfl (.tmp 16) (.tmp 18) 22 34 (.agg #[(.int .i64 0),(.int .i64 0),(.string ⟨#[]⟩),(.string ⟨#[]⟩),(.slice none 0 0)]) 72 rfl Tryz.underlying22 ru rfl (by decide) (by omega) (.slice A2 outs.length c2) outs (⟨xd,xk,xn,xt,xa⟩:Rw) [.int .i64 xd,.int .i64 xk,.string xn,.string xt,.slice A4 xa.length c4] (fun _=>True) (fun k=>k<w1.heap.size) rfl ?aX ?aP ?aK ?aF ?aO ?aB ?aS ?aL ?_;(case aX=>exact congrArg (fun n=>Value.slice (some ⟨n,0,none⟩) 1 1) hsz1.symm);(case aP=>exact Kd.qL hMp (by first|with_reducible exact bX hBA|with_reducible exact hBA));(case aK=>exact fun k hk=>⟨trivial,fun e=>by have:=hown.out k e.symm;omega⟩);(case aF=>exact fun _ _=>trivial);(case aO=>first|with_reducible exact Kd.fH hOA|with_reducible exact hOA);(case aB=>exact Below.mono (by first|with_reducible exact bX hBA|with_reducible exact hBA) hbw);(case aS=>exact hsA);(case aL=>omega);intro v1 w2 hO2 hb2 hg2 xJ;obtain⟨A3,c3,rfl⟩:=Kd.dI hO2;have hB2:=Below.grown (bX hBA) hg2 hsB (fun k hk=>hown.out k hk);have hown2:=Lib.hid (rZ hown.out xJ hsB))
      first
       |(go_region;go_wp2_with(at_builtin;(try rw[mM]);refine Kd.lQ k34 (w0:=w1) w.heap.size rfl (.tmp 16) (.tmp 18) 22 34 (.agg #[(.int .i64 0),(.int .i64 0),(.string ⟨#[]⟩),(.string ⟨#[]⟩),(.slice none 0 0)]) 72 rfl Tryz.underlying22 ru rfl (by decide) (by omega) (.slice A2 outs.length c2) outs (⟨xd,xk,xn,xt,xa⟩:Rw) [.int .i64 xd,.int .i64 xk,.string xn,.string xt,.slice A4 xa.length c4] (fun _=>True) (fun k=>k<w1.heap.size) rfl ?aX ?aP ?aK ?aF ?aO ?aB ?aS ?aL ?_;(case aX=>exact congrArg (fun n=>Value.slice (some ⟨n,0,none⟩) 1 1) hsz1.symm);(case aP=>exact Kd.qL hMp (by first|with_reducible exact bX hBA|with_reducible exact hBA));(case aK=>exact fun k hk=>⟨trivial,fun e=>by have:=hown.out k e.symm;omega⟩);(case aF=>exact fun _ _=>trivial);(case aO=>first|with_reducible exact Kd.fH hOA|with_reducible exact hOA);(case aB=>exact Below.mono (by first|with_reducible exact bX hBA|with_reducible exact hBA) hbw);(case aS=>exact hsA);(case aL=>omega);intro v1 w2 hO2 hb2 hg2 xJ;obtain⟨A3,c3,rfl⟩:=Kd.dI hO2;have hB2:=Below.grown (bX hBA) hg2 hsB (fun k hk=>hown.out k hk);have hown2:=Lib.hid (rZ hown.out xJ hsB)))
       |skip
      rw[List.length_append,List.length_singleton]at hO2 hown2;exact⟨⟨i+1,outs++[(⟨xd,xk,xn,xt,xa⟩:Rw)],rfl,by omega,hrest3,hO2,hB2,hown2⟩,by simp[intOf];omega⟩
     ·rw[if_neg hlen]at hst
      cases hst
  ·have hr0:outs=res:=by
    have h1:=hrest.out;rw[List.drop_of_length_le (by omega)]at h1;exact Option.some.inj h1
   subst hr0;clear hrest h;go_wp2;go_ret;exact⟨_,rfl,hO,Go.Proofs.YtkcmghlhpbepcaaGreatDoor.bD hb1 hbw hB⟩
end Go.Proofs.aj.W7
