/- Lemmas and walks, part 30. -/
import Derived.Test.YtkcmghlhpbepcaaGreatDoorWI29
set_option linter.unusedVariables false
set_option linter.unusedSimpArgs false
set_option maxHeartbeats 8000000
set_option maxRecDepth 100000
namespace Go.Proofs.aj.W7
open Go.RowKit ah.aD ah.bH ah.bU
attribute [local go_sem] dB dD dW dX bZ cu dF dG
def aQ.j0:Nat→Int→List (S34)→Bool→Option (Bool)
 |0,_,_,_=>none
 |k+1,x1,x5,x25=>if x25=true then((eX.f).bind fun t681=>(some t681))else(if(x5.length:Int)=0 then(none)else(if 0≤(Int.tmod (Go.bits .and .i64 x1 65535) (x5.length:Int))then(if(Int.tmod (Go.bits .and .i64 x1 65535) (x5.length:Int))<(x5.length:Int)then(if((au x5 (Int.tmod (Go.bits .and .i64 x1 65535) (x5.length:Int))).f1)=0 then((gF.f k x5 (Int.tmod (Go.bits .and .i64 x1 65535) (x5.length:Int))).bind fun AY=>((ko.f AY ((au x5 (Int.tmod (Go.bits .and .i64 x1 65535) (x5.length:Int))).f2)).bind fun Ey=>(if Ey.2=0 then((bW.f k x5 (Int.tmod (Go.bits .and .i64 x1 65535) (x5.length:Int))).bind fun nN=>(if 0≤(wrap64 ((Int.tmod (Go.bits .and .i64 x1 65535) (x5.length:Int))+1))then(if(wrap64 ((Int.tmod (Go.bits .and .i64 x1 65535) (x5.length:Int))+1))≤nN then(if nN≤(x5.length:Int)then((bV.f k ((x5.take (nN:Int).toNat).drop ((wrap64 ((Int.tmod (Go.bits .and .i64 x1 65535) (x5.length:Int))+1)):Int).toNat) (wrap64 ((-1) - ((au x5 (Int.tmod (Go.bits .and .i64 x1 65535) (x5.length:Int))).f0)))).bind fun Ad=>((gY.f Ey.1 Ad).bind fun G8=>(if G8=true then((eX.f).bind fun G9=>(some G9))else(some false))))else(none))else(none))else(none)))else(some false))))else((gF.f k x5 (Int.tmod (Go.bits .and .i64 x1 65535) (x5.length:Int))).bind fun t683=>(if t683.toList=([] :List UInt8)then((eX.f).bind fun t684=>(some t684))else(some false))))else(none))else(none)))
def aQ.f(k:Nat)(a0:Bt)(a1:Int):Option (Bool):=if 0≤(mn (a0.size:Int) 300)then(if(mn (a0.size:Int) 300)≤(a0.size:Int)then((mD.f (a0.extract 0 ((mn (a0.size:Int) 300):Int).toNat)).bind fun uN=>(if uN.2=0 then(aQ.j0 k a1 uN.1 ((uN.1.length:Int)==0))else(aQ.j0 k a1 uN.1 true)))else(none))else(none)
def aQ.T7:Bool×List (List Nat×List Nat):=(true,[([],[]),([],[]),([0,1],[0,1]),([],[]),([],[]),([3,4],[3,4]),([5],[5]),([6],[6]),([2,7,2],[2,7]),([8],[8]),([9],[9]),([9],[9]),([10,8,0,1,2,3,4,5,6,7,8,9,10],[10]),([11,12,0,1,2,3,4,5,6,7,8,9,10,11,12],[11])])
def aQ.B7:List Nat:=[0,0,3,0,0,24,56,120,255,511,1023,1023,2047,8191]
theorem aQ.tab7:tH .any (opsOf Tryz.f14 7)=aQ.T7:=by kernel_rfl
theorem aQ.bits7:yc aQ.T7.2 aQ.B7=true:=by kernel_rfl
def aQ.T8:Bool×List (List Nat×List Nat):=(true,[([],[]),([0],[0]),([1],[1]),([2],[2]),([2],[2]),([2],[2]),([5,2],[2,5]),([2],[2]),([2],[2]),([7,8,2,2],[2,7,8]),([4,6,9,2],[2,4,6,9]),([2],[2]),([2],[2]),([11,12,2],[2,11,12]),([13,2],[2,13]),([14,2],[2,14]),([15,2],[2,15]),([10,16,9,2],[2,10,16]),([3,17,17,2],[2,3,17]),([2,18],[2,18]),([19,18],[19]),([20,20],[20]),([20,21],[20,21]),([22,21,0,1,2,3,4,5,6,7,8,9,10,11,12,13,14,15,16,17,18,19,20,21,22],[22])])
def aQ.B8:List Nat:=[0,1,3,7,7,7,39,7,7,391,1015,7,7,6151,14343,30727,63495,131063,262143,524287,1048575,2097151,4194303,8388607]
theorem aQ.tab8:tH .any (opsOf Tryz.f14 8)=aQ.T8:=by kernel_rfl
theorem aQ.bits8:yc aQ.T8.2 aQ.B8=true:=by kernel_rfl
theorem aQ.calls(k:Nat)(a0:Bt)(a1:Int)(r:Bool)(w:World)(h:aQ.f k a0 a1=some r)(hS_:YtkcmghlhpbepcaaGreatDoor.Std w):
 Calls Tryz.prog 14 #[.string a0,.int .i64 a1] w fun e w'=>e=.returned (.bool r)∧Below w.heap.size w w':=by
 have HS_:=ak.mk hS_;clear hS_;have HB:=ak.mk (Below.refl w.heap.size w);have H:(if 0≤(mn (a0.size:Int) 300)then(if(mn (a0.size:Int) 300)≤(a0.size:Int)then((mD.f (a0.extract 0 ((mn (a0.size:Int) 300):Int).toNat)).bind fun uN=>(if uN.2=0 then(aQ.j0 k a1 uN.1 ((uN.1.length:Int)==0))else(aQ.j0 k a1 uN.1 true)))else(none))else(none))=some r:=h;clear h;obtain⟨ji3,wV⟩:∃j_:Int,(mn (a0.size:Int) 300)=j_:=⟨_,rfl⟩
 replace H:(if 0≤(ji3)then(if(ji3)≤(a0.size:Int)then((mD.f (a0.extract 0 ((ji3):Int).toNat)).bind fun uN=>(if uN.2=0 then(aQ.j0 k a1 uN.1 ((uN.1.length:Int)==0))else(aQ.j0 k a1 uN.1 true)))else(none))else(none))=some r:=by first|(rw[wV]at H;exact H)|(simp only[wV]at H⊢;exact H)
 (try(have hji3h:ji3≤300:=by(rw[←wV];unfold mn;(repeat' split)<;>omega)))
 (try(have hji3g:ji3≤64:=by omega))
 (try(have hji3l:0≤ji3:=by(rw[←wV];unfold mn;(repeat' split)<;>omega)))
 (try(have hji3m:0≤ji3:=by omega))
 have hji3_:(if 300<(a0.size:Int)then 300 else(a0.size:Int))=ji3:=wV
 by_cases c4:0≤(ji3)
 ·rw[if_pos c4]at H
  have lY:=eq_true c4;have Ab:=decide_eq_true c4;clear c4
  by_cases c5:(ji3)≤(a0.size:Int)
  ·rw[if_pos c5]at H
   have tX:=eq_true c5;have c5b1:=decide_eq_true c5;clear c5;replace H:=Option.bind_eq_some_iff.mp H;obtain⟨⟨eU,t678⟩,A60,H⟩:=H
   try dsimp only at H
   have A6:=ak.mk A60;clear A60;have HC7:=ak.mk H;clear H;go_enter Tryz.func14,Tryz.ntmps14
   go_upto_region 2 with(first|((with_reducible refine bC (f:=26) rfl ?_);refine eG (some 16) rfl rfl Tryz.func26 (by kernel_rfl) rfl #[.string (a0.extract 0 ((ji3):Int).toNat)] rfl (by(try simp only[List.map_toArray,List.map_cons,List.map_nil]);first|done|(simp only[wV];rfl)|rfl|(simp only[List.length_drop,List.length_take];rfl)) ?_;(with_reducible refine(mD.calls (a0.extract 0 ((ji3):Int).toNat) eU t678 _ A6.out (YtkcmghlhpbepcaaGreatDoor.Std.below HS_.out bz)).mono ?_);rintro e w8 ⟨v679,rfl,ho0,hb⟩;refine⟨_,rfl,?_⟩;have HO680:=ak.mk (Kd.dU ho0 (aU bz));replace HB:=ak.mk (aG bz hb);(try clear hb);(try clear hb2);(try clear hk);(try clear hi);(try clear ho0)))
   (try simp only[Act.put,List.setIfInBounds_toArray,List.set_cons_zero,List.set_cons_succ])
   go_cut [25] (fun v25 wc=>∃(kq:Nat) (x25_6:Bool),v25=.bool x25_6∧ak (aQ.j0 kq a1 eU x25_6=some r)∧ak (kq≤k)∧ak (Kd.R k34 34 wc w.heap.size (fun _=>True) v679 eU)∧ak (Below w.heap.size w wc))
   case first=>
    have H:=HC7.out;clear HC7
    by_cases c9:t678=0
    ·rw[if_pos c9]at H
     have GY:=beq_iff_eq.mpr c9;have c9b1:=bne_eq_false_iff_eq.mpr c9;clear c9
     (first|rw[GY] |(simp only[mq,nA];rw[GY])|skip)
     have H':=ak.mk H;clear H;obtain⟨Ao10,co10,eo10⟩:=Kd.cK HO680.out;subst eo10;go_wp2
     go_meet
     case rel=>exact⟨_,(((eU.length:Int)==0)),q'c,H',⟨by first|omega|exact Nat.le_refl _⟩,⟨by(with_reducible repeat(first|apply Kd.eZ|apply Kd.fG|apply Kd.dR));exact HO680.out⟩,⟨bz⟩⟩
    ·rw[if_neg c9]at H
     have GY:=beq_eq_false_iff_ne.mpr c9;have c9b1:=bne_iff_ne.mpr c9
     (first|rw[GY] |(simp only[mq,nA];rw[GY])|skip)
     have H':=ak.mk H;clear H;go_wp2
     go_meet
     case rel=>exact⟨_,(true),q'c,H',⟨by first|omega|exact Nat.le_refl _⟩,⟨by(with_reducible repeat(first|apply Kd.eZ|apply Kd.fG|apply Kd.dR));exact HO680.out⟩,⟨bz⟩⟩
   case rest=>
    clear HC7
    try clear c1
    try clear c2
    try clear p2
    try clear c4
    try clear lY
    try clear Ab
    try clear c5
    try clear tX
    try clear c5b1
    try clear c9
    try clear GY
    try clear c9b1
    obtain⟨kq,x25_6,rfl,HA,HJ6,dN,HB⟩:=hcut;cases kq with
    |zero=>exact absurd HA.out (by simp[aQ.j0])
    |succ kj6=>
     have H:=HA.out;clear HA;simp only[aQ.j0]at H
     by_cases c11:x25_6=true
     ·subst c11
      rw[if_pos rfl]at H
      try dsimp only at H
      replace H:=Option.bind_eq_some_iff.mp H;obtain⟨t681,A120,H⟩:=H
      try dsimp only at H
      have A12:=ak.mk A120;clear A120;obtain rfl:=Option.some.inj H
      go_wp2_with(first|((with_reducible refine bC (f:=16) rfl ?_);refine eG (some 26) rfl rfl Tryz.func16 (by kernel_rfl) rfl #[] rfl q'a ?_;(with_reducible refine(eX.calls t681 _ A12.out (YtkcmghlhpbepcaaGreatDoor.Std.below HS_.out bz)).mono ?_);rintro e w13 ⟨rfl,hb⟩;refine⟨_,rfl,?_⟩;replace dN:=ak.mk (Kd.bK (rz dN.out) hb);replace HB:=ak.mk (aG bz hb);(try clear hb);(try clear hb2);(try clear hk);(try clear hi)))
      go_ret;exact⟨by first|rfl|(simp[aI,aJ]<;>rfl)|(simp only[←wV];first|rfl|(simp[aI,aJ]<;>rfl))|(simp[*,aI,aJ]<;>rfl),bz⟩
     ·replace c11:=Bool.eq_false_iff.mpr c11
      subst c11
      have H1:(if(eU.length:Int)=0 then(none)else(if 0≤(Int.tmod (Go.bits .and .i64 a1 65535) (eU.length:Int))then(if(Int.tmod (Go.bits .and .i64 a1 65535) (eU.length:Int))<(eU.length:Int)then(if((au eU (Int.tmod (Go.bits .and .i64 a1 65535) (eU.length:Int))).f1)=0 then((gF.f kj6 eU (Int.tmod (Go.bits .and .i64 a1 65535) (eU.length:Int))).bind fun AY=>((ko.f AY ((au eU (Int.tmod (Go.bits .and .i64 a1 65535) (eU.length:Int))).f2)).bind fun Ey=>(if Ey.2=0 then((bW.f kj6 eU (Int.tmod (Go.bits .and .i64 a1 65535) (eU.length:Int))).bind fun nN=>(if 0≤(wrap64 ((Int.tmod (Go.bits .and .i64 a1 65535) (eU.length:Int))+1))then(if(wrap64 ((Int.tmod (Go.bits .and .i64 a1 65535) (eU.length:Int))+1))≤nN then(if nN≤(eU.length:Int)then((bV.f kj6 ((eU.take (nN:Int).toNat).drop ((wrap64 ((Int.tmod (Go.bits .and .i64 a1 65535) (eU.length:Int))+1)):Int).toNat) (wrap64 ((-1) - ((au eU (Int.tmod (Go.bits .and .i64 a1 65535) (eU.length:Int))).f0)))).bind fun Ad=>((gY.f Ey.1 Ad).bind fun G8=>(if G8=true then((eX.f).bind fun G9=>(some G9))else(some false))))else(none))else(none))else(none)))else(some false))))else((gF.f kj6 eU (Int.tmod (Go.bits .and .i64 a1 65535) (eU.length:Int))).bind fun t683=>(if t683.toList=([] :List UInt8)then((eX.f).bind fun t684=>(some t684))else(some false))))else(none))else(none)))=some r:=by rw[if_neg (show¬(false=true) by decide)]at H;first|exact H|(simp only[eq_self]at H⊢;exact H)|(simp only[eq_self,if_true]at H⊢;exact H)
      clear H;have H:=H1;clear H1
      by_cases c14:(eU.length:Int)=0
      ·rw[if_pos c14]at H
       exact absurd H (by simp)
      ·rw[if_neg c14]at H
       have c14b0:=beq_eq_false_iff_ne.mpr c14;have c14b1:=bne_iff_ne.mpr c14;have c14b2:¬(eU=[]):=fun h_=>c14 (by rw[h_];rfl)
       obtain⟨dM,ql⟩:∃j_:Int,(Int.tmod (Go.bits .and .i64 a1 65535) (eU.length:Int))=j_:=⟨_,rfl⟩
       replace H:(if 0≤(dM)then(if(dM)<(eU.length:Int)then(if((au eU (dM)).f1)=0 then((gF.f kj6 eU (dM)).bind fun AY=>((ko.f AY ((au eU (dM)).f2)).bind fun Ey=>(if Ey.2=0 then((bW.f kj6 eU (dM)).bind fun nN=>(if 0≤(wrap64 ((dM)+1))then(if(wrap64 ((dM)+1))≤nN then(if nN≤(eU.length:Int)then((bV.f kj6 ((eU.take (nN:Int).toNat).drop ((wrap64 ((dM)+1)):Int).toNat) (wrap64 ((-1) - ((au eU (dM)).f0)))).bind fun Ad=>((gY.f Ey.1 Ad).bind fun G8=>(if G8=true then((eX.f).bind fun G9=>(some G9))else(some false))))else(none))else(none))else(none)))else(some false))))else((gF.f kj6 eU (dM)).bind fun t683=>(if t683.toList=([] :List UInt8)then((eX.f).bind fun t684=>(some t684))else(some false))))else(none))else(none))=some r:=by first|(rw[ql]at H;exact H)|(simp only[ql]at H⊢;exact H)
       by_cases c16:0≤(dM)
       ·rw[if_pos c16]at H
        have c16b0:=decide_eq_true c16;clear c16
        by_cases c17:(dM)<(eU.length:Int)
        ·rw[if_pos c17]at H
         have c17b0:=decide_eq_true c17;clear c17
         by_cases c18:((au eU (dM)).f1)=0
         ·rw[if_pos c18]at H
          have c18b0:=beq_iff_eq.mpr c18;have c18b1:=bne_eq_false_iff_eq.mpr c18;clear c18;replace H:=Option.bind_eq_some_iff.mp H;obtain⟨AY,A190,H⟩:=H
          try dsimp only at H
          have A19:=ak.mk A190;clear A190;replace H:=Option.bind_eq_some_iff.mp H;obtain⟨⟨t687,t688⟩,A200,H⟩:=H
          try dsimp only at H
          have A20:=ak.mk A200;clear A200
          by_cases c21:t688=0
          ·rw[if_pos c21]at H
           have c21b0:=beq_iff_eq.mpr c21;have c21b1:=bne_eq_false_iff_eq.mpr c21;clear c21;replace H:=Option.bind_eq_some_iff.mp H;obtain⟨nN,A220,H⟩:=H
           try dsimp only at H
           have A22:=ak.mk A220;clear A220;obtain⟨qQ,zo⟩:∃j_:Int,(wrap64 ((dM)+1))=j_:=⟨_,rfl⟩
           replace H:(if 0≤(qQ)then(if(qQ)≤nN then(if nN≤(eU.length:Int)then((bV.f kj6 ((eU.take (nN:Int).toNat).drop ((qQ):Int).toNat) (wrap64 ((-1) - ((au eU (dM)).f0)))).bind fun Ad=>((gY.f t687 Ad).bind fun G8=>(if G8=true then((eX.f).bind fun G9=>(some G9))else(some false))))else(none))else(none))else(none))=some r:=by first|(rw[zo]at H;exact H)|(simp only[zo]at H⊢;exact H)
           (try rw[zo]at A19)
           (try rw[zo]at A20)
           (try rw[zo]at A22)
           have hji23w:(IntKind.i64.wrap ((dM)+1))=qQ:=(mq _).trans zo
           (try rw[zo]at A19)
           (try rw[zo]at A20)
           (try rw[zo]at A22)
           by_cases c24:0≤(qQ)
           ·rw[if_pos c24]at H
            have c24b0:=eq_true c24;have c24b1:=decide_eq_true c24;clear c24
            by_cases c25:(qQ)≤nN
            ·rw[if_pos c25]at H
             have c25b0:=eq_true c25;have c25b1:=decide_eq_true c25;clear c25
             by_cases c26:nN≤(eU.length:Int)
             ·rw[if_pos c26]at H
              have c26b0:=eq_true c26;have c26b1:=decide_eq_true c26;clear c26;obtain⟨AZ,N7⟩:∃y_:List (S34),y_=((eU.take (nN:Int).toNat).drop ((qQ):Int).toNat):=⟨_,rfl⟩
              replace H:((bV.f kj6 AZ (wrap64 ((-1) - ((au eU (dM)).f0)))).bind fun Ad=>((gY.f t687 Ad).bind fun G8=>(if G8=true then((eX.f).bind fun G9=>(some G9))else(some false))))=some r:=by first|(rw[N7];with_reducible exact H)|(have H2_:=(Option.bind_some _ _).symm.trans H;rw[N7];with_reducible exact H2_)|(have H2_:=(Option.bind_some _ _).symm.trans H;with_reducible exact H2_)|with_reducible exact H|(rw[N7];exact H)|exact H
              have Ny692:=ak.mk N7;clear N7;replace H:=Option.bind_eq_some_iff.mp H;obtain⟨Ad,A270,H⟩:=H
              try dsimp only at H
              have A27:=ak.mk A270;clear A270;replace H:=Option.bind_eq_some_iff.mp H;obtain⟨G8,A280,H⟩:=H
              try dsimp only at H
              have A28:=ak.mk A280;clear A280
              by_cases c29:G8=true
              ·subst c29
               rw[if_pos rfl]at H
               try dsimp only at H
               replace H:=Option.bind_eq_some_iff.mp H;obtain⟨G9,GN,H⟩:=H
               try dsimp only at H
               have A30:=ak.mk GN;clear GN;obtain rfl:=Option.some.inj H;obtain⟨Ao31,co31,eo31⟩:=Kd.cK dN.out;subst eo31;have rY:0≤((dM):Int):=q'b;have rZ:(dM)<(eU.length:Int):=q'b;obtain⟨fQ,LD,LG,e682,FN,FP,FQ,FR,r9,nH,nI⟩:=iM (Kd.bg dN.out).2.2 (dM) rY rZ;cases e682;obtain⟨ce682,yh,yj,qm⟩:=Kd.Am dN.out z34 (dM) rY (by first|exact rZ|exact q'b|(have e_:=(Kd.bg dN.out).1;omega));obtain⟨FT,rfl,kr⟩:=kI yj;have iJ:=qm 4 _ rfl;rw[iR _ _ 4 (by omega)]at iJ;replace iJ:=Option.some.inj (iJ.symm.trans r9);rw[iJ]at kr;have dh:=ak.mk (show Kd.R k36 36 _ _ _ _ ((au eU (dM)).f4)from kr);clear iJ kr;clear qm yh;have bS:=ak.mk nI;have FU:=ak.mk nH;clear nI nH;replace rY:=eq_true rY;replace rZ:=eq_true rZ
               try go_wp2
               replace dN:=ak.mk (Kd.dR dN.out);replace dh:=ak.mk (Kd.dR dh.out);replace bS:=ak.mk (Kd.fA bS.out);replace HB:=ak.mk (bX HB.out);have Ci:0≤((dM):Int):=q'b;have Cj:(dM)<(eU.length:Int):=q'b;obtain⟨N8,He,Hf,e686,uO,uP,uQ,uR,qo,uS,uT⟩:=iM (Kd.bg dN.out).2.2 (dM) Ci Cj;obtain rfl:fQ=N8:=(by injection e686);obtain⟨ce686,Hg,Hl,zq⟩:=Kd.Am dN.out z34 (dM) Ci (by first|exact Cj|exact q'b|(have e_:=(Kd.bg dN.out).1;omega));obtain⟨SH,rfl,qp⟩:=kI Hl;have lG:=zq 4 _ rfl;rw[iR _ _ 4 (by omega)]at lG;replace lG:=Option.some.inj (lG.symm.trans qo);rw[lG]at qp;have d9:=ak.mk (show Kd.R k36 36 _ _ _ _ ((au eU (dM)).f4)from qp);clear lG qp;clear zq Hg;have dQ:=ak.mk uT;have SI:=ak.mk uS;clear uT uS;replace Ci:=eq_true Ci;replace Cj:=eq_true Cj
               refine oV (n:=14) (S:=fun w'=>w'.cell? (fQ.add (((dM)).toNat * 5))=some (.int .i64 ((au eU (dM)).f0))∧w'.cell? ⟨(fQ.add (((dM)).toNat * 5)).block,(fQ.add (((dM)).toNat * 5)).off+1,none⟩=some (.int .i64 ((au eU (dM)).f1))∧w'.cell? ⟨(fQ.add (((dM)).toNat * 5)).block,(fQ.add (((dM)).toNat * 5)).off+2,none⟩=some (.string ((au eU (dM)).f2))∧w'.cell? ⟨(fQ.add (((dM)).toNat * 5)).block,(fQ.add (((dM)).toNat * 5)).off+3,none⟩=some (.string ((au eU (dM)).f3))∧w'.cell? ⟨(fQ.add (((dM)).toNat * 5)).block,(fQ.add (((dM)).toNat * 5)).off+4,none⟩=some (.slice He ((au eU (dM)).f4).length Hf)) (ds:=[]) (fl 14 0) (by kernel_rfl) rfl rfl ⟨uO,uP,uQ,uR,qo⟩ (fun hHeld=>?_);refine qM aQ.tab7 aQ.bits7 (fun HT_ HW_=>?_)
               generalize wc.drew=w32 at dN dh bS HB d9 dQ uO uP uQ uR qo hHeld⊢;refine pw 0 46 (fl 14 1) ?_;refine pw 1 47 (fl 14 2) ?_;refine pw 3 49 (fb 14 11) ?_;refine pw 4 50 (fb 14 27) ?_;refine pw 5 51 (fb 14 59) ?_;refine pw 6 52 (fb 14 123) ?_;refine pt 7 53 (fb 14 251) ?_;refine Ac (i:=2) (N:=some 48) (fl 14 8) rfl rfl (qj HT_.out (by kernel_rfl)) (by decide) (fun K hK=>?_);refine pX Tryz.func43 (by kernel_rfl) rfl #[.slice (some fQ) eU.length co31,.int .i64 dM] (by rfl) rfl rfl (by(try simp only[List.map_toArray,List.map_cons,List.map_nil]);first|done|(simp only[ql];rfl)|rfl|(simp only[List.length_drop,List.length_take];rfl)) ?_
               with_reducible refine(gF.calls kj6 _ _ eU dM AY _ ?dI ?dJ A19.out (YtkcmghlhpbepcaaGreatDoor.Std.below HS_.out bz)).mono ?_
               (case dI=>exact cz (Kd.bg dN.out).2.2)
               (case dJ=>exact(Kd.bg dN.out).2.1)
               rintro e w33 ⟨rfl,hb⟩;have vB:=(hb.cell (World.block_lt_of_cell? _ _ (hHeld.1))).trans (hHeld.1);have vC:=(hb.cell (World.block_lt_of_cell? _ _ (hHeld.2.1))).trans (hHeld.2.1);have vD:=(hb.cell (World.block_lt_of_cell? _ _ (hHeld.2.2.1))).trans (hHeld.2.2.1);have vE:=(hb.cell (World.block_lt_of_cell? _ _ (hHeld.2.2.2.1))).trans (hHeld.2.2.2.1);have vF:=(hb.cell (World.block_lt_of_cell? _ _ (hHeld.2.2.2.2))).trans (hHeld.2.2.2.2);refine⟨_,rfl,?_⟩;have n0_:=ak.mk (Kd.bK (rz dN.out) hb);have n1_:=ak.mk (Kd.bK (rz dh.out) hb);have n2_:=ak.mk (Kd.bK (rz d9.out) hb);have n3_:=ak.mk (Kd.bT (by repeat(first|(with_reducible exact bS.out)|(with_reducible refine Kd.eH ?_ _)|(with_reducible refine Kd.eP ?_ _)|(with_reducible refine Kd.fA ?_)|exact bS.out)) hb);have n4_:=ak.mk (Kd.bT (by repeat(first|(with_reducible exact dQ.out)|(with_reducible refine Kd.eH ?_ _)|(with_reducible refine Kd.eP ?_ _)|(with_reducible refine Kd.fA ?_)|exact dQ.out)) hb);have n5_:=ak.mk (aG bz hb);clear dN;clear dh;clear d9;clear bS;clear dQ;clear HB;have dN:=n0_;have dh:=n1_;have d9:=n2_;have bS:=n3_;have dQ:=n4_
               have HB:=n5_;clear n0_ n1_ n2_ n3_ n4_ n5_
               (try clear hb)
               (try clear hb2)
               (try clear hk)
               (try clear hi)
               refine hK.out _ _ ⟨vB,vC,vD,vE,vF⟩ (fun hHeld=>?_);clear hK K;refine pn ?_;refine Ac (i:=8) (N:=some 54) (fl 14 9) rfl rfl (qj HT_.out (by kernel_rfl)) (by decide) (fun K hK=>?_);refine pX Tryz.func24 (by kernel_rfl) rfl #[.string AY,.string ((au eU (dM)).f2)] (by rfl) rfl rfl (by(try simp only[List.map_toArray,List.map_cons,List.map_nil]);first|done|(simp only[ql];rfl)|rfl|(simp only[List.length_drop,List.length_take];rfl)) ?_
               with_reducible refine(ko.calls AY ((au eU (dM)).f2) t687 t688 _ A20.out (YtkcmghlhpbepcaaGreatDoor.Std.below HS_.out bz)).mono ?_
               rintro e w34 ⟨v689,rfl,ho0,hb⟩;have vB:=(hb.cell (World.block_lt_of_cell? _ _ (hHeld.1))).trans (hHeld.1);have vC:=(hb.cell (World.block_lt_of_cell? _ _ (hHeld.2.1))).trans (hHeld.2.1);have vD:=(hb.cell (World.block_lt_of_cell? _ _ (hHeld.2.2.1))).trans (hHeld.2.2.1);have vE:=(hb.cell (World.block_lt_of_cell? _ _ (hHeld.2.2.2.1))).trans (hHeld.2.2.2.1);have vF:=(hb.cell (World.block_lt_of_cell? _ _ (hHeld.2.2.2.2))).trans (hHeld.2.2.2.2);refine⟨_,rfl,?_⟩;have n0_:=ak.mk (Kd.gV (rz dN.out) (Kd.jH ho0) hb);have n1_:=ak.mk (Kd.bK (rz dh.out) hb);have n2_:=ak.mk (Kd.bK (rz d9.out) hb);have n3_:=ak.mk (Kd.dU (Kd.iD (Kd.iD (Kd.iD ho0 (Kd.nk (rz dN.out))) (Kd.nk (rz dh.out))) (Kd.nk (rz d9.out))) (aU bz));have n4_:=ak.mk (Kd.bT (by repeat(first|(with_reducible exact bS.out)|(with_reducible refine Kd.eH ?_ _)|(with_reducible refine Kd.eP ?_ _)|(with_reducible refine Kd.fA ?_)|exact bS.out)) hb);have n5_:=ak.mk (Kd.bT (by repeat(first|(with_reducible exact dQ.out)|(with_reducible refine Kd.eH ?_ _)|(with_reducible refine Kd.eP ?_ _)|(with_reducible refine Kd.fA ?_)|exact dQ.out)) hb);have n6_:=ak.mk (aG bz hb)
               clear dN;clear dh;clear d9;clear bS;clear dQ;clear HB;have dN:=n0_;have dh:=n1_;have d9:=n2_;have jK:=n3_;have bS:=n4_;have dQ:=n5_;have HB:=n6_;clear n0_ n1_ n2_ n3_ n4_ n5_ n6_
               (try clear hb)
               (try clear hb2)
               (try clear hk)
               (try clear hi)
               (try clear ho0)
               refine hK.out _ _ ⟨vB,vC,vD,vE,vF⟩ (fun hHeld=>?_);clear hK K;refine pn ?_;refine pw 9 45 (fl 14 10) ?_;refine pw 10 55 (fl 14 11) ?_;refine pw 11 56 (fl 14 12) ?_;refine pw 12 8 (fl 14 13) ?_;refine pw 13 9 (fl 14 14) ?_;refine sW (yg HT_.out (by kernel_rfl)) ?_
               try go_wp2
               replace dN:=ak.mk (Kd.dR dN.out);replace dh:=ak.mk (Kd.dR dh.out);replace d9:=ak.mk (Kd.dR d9.out);replace jK:=ak.mk (Kd.dR jK.out);replace bS:=ak.mk (Kd.fA bS.out);replace dQ:=ak.mk (Kd.fA dQ.out);replace HB:=ak.mk (bX HB.out);have p696:0≤((dM):Int):=q'b;have q696:(dM)<(eU.length:Int):=q'b;obtain⟨ad696,PX,PY,e696,Ck,Cm,Cn,Co,yu,Cq,Cr⟩:=iM (Kd.bg dN.out).2.2 (dM) p696 q696;obtain rfl:fQ=ad696:=(by injection e696);obtain⟨ce696,PZ,P5,Ho⟩:=Kd.Am dN.out z34 (dM) p696 (by first|exact q696|exact q'b|(have e_:=(Kd.bg dN.out).1;omega));obtain⟨ve696_4,rfl,yw⟩:=kI P5;have qw:=Ho 4 _ rfl;rw[iR _ _ 4 (by omega)]at qw;replace qw:=Option.some.inj (qw.symm.trans yu);rw[qw]at yw;have j4:=ak.mk (show Kd.R k36 36 _ _ _ _ ((au eU (dM)).f4)from yw);clear qw yw;clear Ho PZ;have jC:=ak.mk Cr;have HC696_4:=ak.mk Cq;clear Cr Cq;replace p696:=eq_true p696;replace q696:=eq_true q696
               refine oV (n:=24) (S:=fun w'=>w'.cell? (fQ.add (((dM)).toNat * 5))=some (.int .i64 ((au eU (dM)).f0))∧w'.cell? ⟨(fQ.add (((dM)).toNat * 5)).block,(fQ.add (((dM)).toNat * 5)).off+1,none⟩=some (.int .i64 ((au eU (dM)).f1))∧w'.cell? ⟨(fQ.add (((dM)).toNat * 5)).block,(fQ.add (((dM)).toNat * 5)).off+2,none⟩=some (.string ((au eU (dM)).f2))∧w'.cell? ⟨(fQ.add (((dM)).toNat * 5)).block,(fQ.add (((dM)).toNat * 5)).off+3,none⟩=some (.string ((au eU (dM)).f3))∧w'.cell? ⟨(fQ.add (((dM)).toNat * 5)).block,(fQ.add (((dM)).toNat * 5)).off+4,none⟩=some (.slice PX ((au eU (dM)).f4).length PY)) (ds:=[]) (fl 24 0) (by kernel_rfl) rfl rfl ⟨Ck,Cm,Cn,Co,yu⟩ (fun hHeld=>?_);refine qM aQ.tab8 aQ.bits8 (fun HT_ HW_=>?_)
               generalize w34.drew=w35 at dN dh d9 jK bS dQ HB j4 jC Ck Cm Cn Co yu hHeld⊢;refine pw 0 57 (fl 24 1) ?_;refine pw 1 58 (fl 24 2) ?_;refine pw 2 59 (fl 24 3) ?_;refine pw 3 60 (fl 24 4) ?_;refine pw 4 61 (fl 24 5) ?_;refine pw 5 62 (fl 24 6) ?_;refine pw 6 63 (fl 24 7) ?_;refine pw 7 64 (fl 24 8) ?_;refine pw 8 65 (fl 24 9) ?_;refine pw 11 68 (fb 24 2559) ?_;refine pw 12 69 (fb 24 6655) ?_;refine pw 13 70 (fb 24 14847) ?_;refine pw 14 71 (fb 24 31231) ?_;refine pt 15 72 (fb 24 63999) ?_;refine pw 16 73 (fb 24 129535) ?_;refine Ac (i:=9) (N:=some 66) (fb 24 130047) rfl rfl (qj HT_.out (by kernel_rfl)) (by decide) (fun K hK=>?_);refine pX Tryz.func45 (by kernel_rfl) rfl #[.slice (some fQ) eU.length co31,.int .i64 dM] (by rfl) rfl rfl (by(try simp only[List.map_toArray,List.map_cons,List.map_nil]);first|done|(simp only[ql];rfl)|rfl|(simp only[List.length_drop,List.length_take];rfl)) ?_
               with_reducible refine(bW.calls kj6 _ _ eU dM nN _ ?dI ?dJ A22.out).mono ?_
               (case dI=>exact cz (Kd.bg dN.out).2.2)
               (case dJ=>exact(Kd.bg dN.out).2.1)
               rintro e w' ⟨rfl,⟨nd,rfl⟩⟩;refine⟨_,rfl,?_⟩;have q36:(nN:Int)≤((eU.length:Int):Int):=q'b;obtain⟨i036,hi036,_,hsz36,_⟩:=info_parts qI;have FV:eU.length≤co31:=(Kd.bg dN.out).2.1;have hC36:Kd.C k34 _ (some fQ) eU.length eU:=(Kd.bg dN.out).2.2;have ql36:((qQ):Int)≤(nN:Int):=q'b;have q036:(0:Int)≤((qQ):Int):=q'b;have hcut36:=SK (P:=Tryz.prog) 22 34 .i64 .i64 Tryz.underlying22 hi036 5 hsz36 (some fQ) eU.length co31 (qQ) nN q036 ql36 q36 FV;have hr36:=Kd.C_mid (lo:=((qQ):Int).toNat) (hi:=(nN:Int).toNat) (c:=co31) hC36 (by omega) (by omega) FV;obtain⟨A36,hA36⟩:∃A1,A1=(if co31=((qQ):Int).toNat then(some fQ)else((some fQ):Option Addr).map (·.add (((qQ):Int).toNat * 5))):=⟨_,rfl⟩
               obtain⟨c36,hc36⟩:∃c1,c1=co31 - ((qQ):Int).toNat:=⟨_,rfl⟩
               have hy36:AZ.length=(nN:Int).toNat - ((qQ):Int).toNat:=(by rw[Ny692.out,List.length_drop,List.length_take]<;>omega);rw[show((eU).take (nN:Int).toNat).drop ((qQ):Int).toNat=AZ from Ny692.out.symm]at hr36;replace hr36:Kd.C k34 _ A36 AZ.length AZ:=(by rw[hA36];exact hr36);rw[←hy36,←hA36,←hc36]at hcut36;have mX:=ak.mk hr36;have HC695:=ak.mk (show AZ.length≤c36 from by rw[hy36,hc36];exact Nat.sub_le_sub_right (Nat.le_trans (by omega) FV) _);clear hr36 hC36 FV hi036 hsz36 hc36;have KY36:=ak.mk hy36;have KA36:=ak.mk hA36;clear hy36 hA36;have KL36:=ak.mk (show(nN:Int).toNat≤eU.length from by omega);have KM36:=ak.mk (show((qQ):Int).toNat≤(nN:Int).toNat from by omega);replace q36:=eq_true q36;refine hK.out _ _ ⟨hHeld.1,hHeld.2.1,hHeld.2.2.1,hHeld.2.2.2.1,hHeld.2.2.2.2⟩ (fun hHeld=>?_);clear hK K;refine pn ?_;refine pw 10 67 (fl 24 17) ?_;refine Ac (i:=17) (N:=some 74) (fl 24 18) rfl rfl (qj HT_.out (by kernel_rfl)) (by decide) (fun K hK=>?_)
               refine pX Tryz.func44 (by kernel_rfl) rfl #[.slice A36 AZ.length c36,.int .i64 (wrap64 ((-1) - ((au eU (dM)).f0)))] (by rfl) rfl rfl (by(try simp only[List.map_toArray,List.map_cons,List.map_nil]);first|done|(simp only[ql];rfl)|rfl|(simp only[List.length_drop,List.length_take];rfl)) ?_
               with_reducible refine(bV.calls kj6 _ _ AZ (wrap64 ((-1) - ((au eU (dM)).f0))) Ad _ ?dI ?dJ A27.out).mono ?_
               (case dI=>repeat(first|exact(by repeat(first|(with_reducible exact mX.out)|(with_reducible refine Kd.eH ?_ _)|(with_reducible refine Kd.eP ?_ _)|(with_reducible refine Kd.fA ?_)|exact mX.out))|(with_reducible refine Kd.eH ?_ _)|(with_reducible refine Kd.eP ?_ _)|(with_reducible refine Kd.fA ?_)))
               (case dJ=>exact HC695.out)
               rintro e w37 ⟨v698,rfl,ho0,hb⟩;have vB:=(hb.cell (World.block_lt_of_cell? _ _ (hHeld.1))).trans (hHeld.1);have vC:=(hb.cell (World.block_lt_of_cell? _ _ (hHeld.2.1))).trans (hHeld.2.1);have vD:=(hb.cell (World.block_lt_of_cell? _ _ (hHeld.2.2.1))).trans (hHeld.2.2.1);have vE:=(hb.cell (World.block_lt_of_cell? _ _ (hHeld.2.2.2.1))).trans (hHeld.2.2.2.1);have vF:=(hb.cell (World.block_lt_of_cell? _ _ (hHeld.2.2.2.2))).trans (hHeld.2.2.2.2);refine⟨_,rfl,?_⟩;have n0_:=ak.mk (Kd.gV (rz dN.out) (Kd.jH ho0) hb);have n1_:=ak.mk (Kd.bK (rz dh.out) hb);have n2_:=ak.mk (Kd.bK (rz d9.out) hb);have n3_:=ak.mk (Kd.gV (rz jK.out) (Kd.jH ho0) hb);have n4_:=ak.mk (Kd.bK (rz j4.out) hb);have n5_:=ak.mk (Kd.dU (Kd.iD (Kd.iD (Kd.iD (Kd.iD (Kd.iD ho0 (Kd.nk (rz dN.out))) (Kd.nk (rz dh.out))) (Kd.nk (rz d9.out))) (Kd.nk (rz jK.out))) (Kd.nk (rz j4.out))) (aU bz));have n6_:=ak.mk (Kd.bT (by repeat(first|(with_reducible exact bS.out)|(with_reducible refine Kd.eH ?_ _)|(with_reducible refine Kd.eP ?_ _)|(with_reducible refine Kd.fA ?_)|exact bS.out)) hb)
               have n7_:=ak.mk (Kd.bT (by repeat(first|(with_reducible exact dQ.out)|(with_reducible refine Kd.eH ?_ _)|(with_reducible refine Kd.eP ?_ _)|(with_reducible refine Kd.fA ?_)|exact dQ.out)) hb);have n8_:=ak.mk (Kd.bT (by repeat(first|(with_reducible exact jC.out)|(with_reducible refine Kd.eH ?_ _)|(with_reducible refine Kd.eP ?_ _)|(with_reducible refine Kd.fA ?_)|exact jC.out)) hb);have n9_:=ak.mk (Kd.bT (by repeat(first|(with_reducible exact mX.out)|(with_reducible refine Kd.eH ?_ _)|(with_reducible refine Kd.eP ?_ _)|(with_reducible refine Kd.fA ?_)|exact mX.out)) hb);have Ct:=ak.mk (aG bz hb);clear dN;clear dh;clear d9;clear jK;clear j4;clear bS;clear dQ;clear jC;clear mX;clear HB;have dN:=n0_;have dh:=n1_;have d9:=n2_;have jK:=n3_;have j4:=n4_;have rR:=n5_;have bS:=n6_;have dQ:=n7_;have jC:=n8_;have mX:=n9_;have HB:=Ct;clear n0_ n1_ n2_ n3_ n4_ n5_ n6_ n7_ n8_ n9_ Ct
               (try clear hb)
               (try clear hb2)
               (try clear hk)
               (try clear hi)
               (try clear ho0)
               obtain⟨Ao38,co38,eo38⟩:=Kd.cK jK.out
               (first|subst eo38|(injection eo38 with f1_ f2_ f3_;have f4_:=f1_.symm;have f5_:=f3_.symm;clear f1_ f2_ f3_;subst f4_;subst f5_))
               obtain⟨Ao39,co39,eo39⟩:=Kd.cK rR.out
               (first|subst eo39|(injection eo39 with f1_ f2_ f3_;have f4_:=f1_.symm;have f5_:=f3_.symm;clear f1_ f2_ f3_;subst f4_;subst f5_))
               refine hK.out _ _ ⟨vB,vC,vD,vE,vF⟩ (fun hHeld=>?_);clear hK K;refine pn ?_;refine Ac (i:=18) (N:=some 75) (fl 24 19) rfl rfl (qj HT_.out (by kernel_rfl)) (by decide) (fun K hK=>?_);refine pX Tryz.func22 (by kernel_rfl) rfl #[.slice Ao38 t687.length co38,.slice Ao39 Ad.length co39] (by rfl) rfl rfl q'a ?_
               with_reducible refine(gY.calls _ _ t687 _ _ Ad true _ ?dI ?dJ ?oI ?oJ A28.out).mono ?_
               (case dI=>exact cz (Kd.bg jK.out).2.2)
               (case dJ=>exact(Kd.bg jK.out).2.1)
               (case oI=>exact cz (Kd.bg rR.out).2.2)
               (case oJ=>exact(Kd.bg rR.out).2.1)
               rintro e w40 ⟨rfl,hb⟩;have vB:=(hb.cell (World.block_lt_of_cell? _ _ (hHeld.1))).trans (hHeld.1);have vC:=(hb.cell (World.block_lt_of_cell? _ _ (hHeld.2.1))).trans (hHeld.2.1);have vD:=(hb.cell (World.block_lt_of_cell? _ _ (hHeld.2.2.1))).trans (hHeld.2.2.1);have vE:=(hb.cell (World.block_lt_of_cell? _ _ (hHeld.2.2.2.1))).trans (hHeld.2.2.2.1);have vF:=(hb.cell (World.block_lt_of_cell? _ _ (hHeld.2.2.2.2))).trans (hHeld.2.2.2.2);refine⟨_,rfl,?_⟩;have n0_:=ak.mk (Kd.bK (rz dN.out) hb);have n1_:=ak.mk (Kd.bK (rz dh.out) hb);have n2_:=ak.mk (Kd.bK (rz d9.out) hb);have n3_:=ak.mk (Kd.bK (rz jK.out) hb);have n4_:=ak.mk (Kd.bK (rz j4.out) hb);have n5_:=ak.mk (Kd.bK (rz rR.out) hb);have n6_:=ak.mk (Kd.bT (by repeat(first|(with_reducible exact bS.out)|(with_reducible refine Kd.eH ?_ _)|(with_reducible refine Kd.eP ?_ _)|(with_reducible refine Kd.fA ?_)|exact bS.out)) hb);have n7_:=ak.mk (Kd.bT (by repeat(first|(with_reducible exact dQ.out)|(with_reducible refine Kd.eH ?_ _)|(with_reducible refine Kd.eP ?_ _)|(with_reducible refine Kd.fA ?_)|exact dQ.out)) hb)
               have n8_:=ak.mk (Kd.bT (by repeat(first|(with_reducible exact jC.out)|(with_reducible refine Kd.eH ?_ _)|(with_reducible refine Kd.eP ?_ _)|(with_reducible refine Kd.fA ?_)|exact jC.out)) hb);have n9_:=ak.mk (Kd.bT (by repeat(first|(with_reducible exact mX.out)|(with_reducible refine Kd.eH ?_ _)|(with_reducible refine Kd.eP ?_ _)|(with_reducible refine Kd.fA ?_)|exact mX.out)) hb);have Ct:=ak.mk (aG bz hb);clear dN;clear dh;clear d9;clear jK;clear j4;clear rR;clear bS;clear dQ;clear jC;clear mX;clear HB;have dN:=n0_;have dh:=n1_;have d9:=n2_;have jK:=n3_;have j4:=n4_;have rR:=n5_;have bS:=n6_;have dQ:=n7_;have jC:=n8_;have mX:=n9_;have HB:=Ct;clear n0_ n1_ n2_ n3_ n4_ n5_ n6_ n7_ n8_ n9_ Ct
               (try clear hb)
               (try clear hb2)
               (try clear hk)
               (try clear hi)
               refine hK.out _ _ ⟨vB,vC,vD,vE,vF⟩ (fun hHeld=>?_);clear hK K;refine pn ?_;refine pw 19 76 (fl 24 20) ?_;refine pw 20 77 (fl 24 21) ?_;refine Ac (i:=21) (N:=some 78) (fl 24 22) rfl rfl (qj HT_.out (by kernel_rfl)) (by decide) (fun K hK=>?_);refine pX Tryz.func16 (by kernel_rfl) rfl #[] (by rfl) rfl rfl q'a ?_
               with_reducible refine(eX.calls G9 _ A30.out (YtkcmghlhpbepcaaGreatDoor.Std.below HS_.out bz)).mono ?_
               rintro e w41 ⟨rfl,hb⟩;have vB:=(hb.cell (World.block_lt_of_cell? _ _ (hHeld.1))).trans (hHeld.1);have vC:=(hb.cell (World.block_lt_of_cell? _ _ (hHeld.2.1))).trans (hHeld.2.1);have vD:=(hb.cell (World.block_lt_of_cell? _ _ (hHeld.2.2.1))).trans (hHeld.2.2.1);have vE:=(hb.cell (World.block_lt_of_cell? _ _ (hHeld.2.2.2.1))).trans (hHeld.2.2.2.1);have vF:=(hb.cell (World.block_lt_of_cell? _ _ (hHeld.2.2.2.2))).trans (hHeld.2.2.2.2);refine⟨_,rfl,?_⟩;have n0_:=ak.mk (Kd.bK (rz dN.out) hb);have n1_:=ak.mk (Kd.bK (rz dh.out) hb);have n2_:=ak.mk (Kd.bK (rz d9.out) hb);have n3_:=ak.mk (Kd.bK (rz jK.out) hb);have n4_:=ak.mk (Kd.bK (rz j4.out) hb);have n5_:=ak.mk (Kd.bK (rz rR.out) hb);have n6_:=ak.mk (Kd.bT (by repeat(first|(with_reducible exact bS.out)|(with_reducible refine Kd.eH ?_ _)|(with_reducible refine Kd.eP ?_ _)|(with_reducible refine Kd.fA ?_)|exact bS.out)) hb);have n7_:=ak.mk (Kd.bT (by repeat(first|(with_reducible exact dQ.out)|(with_reducible refine Kd.eH ?_ _)|(with_reducible refine Kd.eP ?_ _)|(with_reducible refine Kd.fA ?_)|exact dQ.out)) hb)
               have n8_:=ak.mk (Kd.bT (by repeat(first|(with_reducible exact jC.out)|(with_reducible refine Kd.eH ?_ _)|(with_reducible refine Kd.eP ?_ _)|(with_reducible refine Kd.fA ?_)|exact jC.out)) hb);have n9_:=ak.mk (Kd.bT (by repeat(first|(with_reducible exact mX.out)|(with_reducible refine Kd.eH ?_ _)|(with_reducible refine Kd.eP ?_ _)|(with_reducible refine Kd.fA ?_)|exact mX.out)) hb);have Ct:=ak.mk (aG bz hb);clear dN;clear dh;clear d9;clear jK;clear j4;clear rR;clear bS;clear dQ;clear jC;clear mX;clear HB;have dN:=n0_;have dh:=n1_;have d9:=n2_;have jK:=n3_;have j4:=n4_;have rR:=n5_;have bS:=n6_;have dQ:=n7_;have jC:=n8_;have mX:=n9_;have HB:=Ct;clear n0_ n1_ n2_ n3_ n4_ n5_ n6_ n7_ n8_ n9_ Ct
               (try clear hb)
               (try clear hb2)
               (try clear hk)
               (try clear hi)
               refine hK.out _ _ ⟨vB,vC,vD,vE,vF⟩ (fun hHeld=>?_);clear hK K;refine pn ?_;refine pw 22 79 (fl 24 23) ?_;refine pw 23 4 (fl 24 24) ?_;refine sW (yg HT_.out (by kernel_rfl)) ?_
               try go_wp2
               go_ret;exact⟨by first|rfl|(simp[aI,aJ]<;>rfl)|(simp only[←wV,←ql,←zo];first|rfl|(simp[aI,aJ]<;>rfl))|(simp[*,aI,aJ]<;>rfl),bz⟩
              ·replace c29:=Bool.eq_false_iff.mpr c29
               subst c29;have H1:(some false)=some r:=by rw[if_neg (show¬(false=true) by decide)]at H;first|exact H|(simp only[eq_self]at H⊢;exact H)|(simp only[eq_self,if_true]at H⊢;exact H)
               clear H;have H:=H1;clear H1;obtain rfl:=Option.some.inj H;obtain⟨Ao42,co42,eo42⟩:=Kd.cK dN.out;subst eo42;have rY:0≤((dM):Int):=q'b;have rZ:(dM)<(eU.length:Int):=q'b;obtain⟨fQ,LD,LG,e682,FN,FP,FQ,FR,r9,nH,nI⟩:=iM (Kd.bg dN.out).2.2 (dM) rY rZ;cases e682;obtain⟨ce682,yh,yj,qm⟩:=Kd.Am dN.out z34 (dM) rY (by first|exact rZ|exact q'b|(have e_:=(Kd.bg dN.out).1;omega));obtain⟨FT,rfl,kr⟩:=kI yj;have iJ:=qm 4 _ rfl;rw[iR _ _ 4 (by omega)]at iJ;replace iJ:=Option.some.inj (iJ.symm.trans r9);rw[iJ]at kr;have dh:=ak.mk (show Kd.R k36 36 _ _ _ _ ((au eU (dM)).f4)from kr);clear iJ kr;clear qm yh;have bS:=ak.mk nI;have FU:=ak.mk nH;clear nI nH;replace rY:=eq_true rY;replace rZ:=eq_true rZ
               try go_wp2
               replace dN:=ak.mk (Kd.dR dN.out);replace dh:=ak.mk (Kd.dR dh.out);replace bS:=ak.mk (Kd.fA bS.out);replace HB:=ak.mk (bX HB.out);have Ci:0≤((dM):Int):=q'b;have Cj:(dM)<(eU.length:Int):=q'b;obtain⟨N8,He,Hf,e686,uO,uP,uQ,uR,qo,uS,uT⟩:=iM (Kd.bg dN.out).2.2 (dM) Ci Cj;obtain rfl:fQ=N8:=(by injection e686);obtain⟨ce686,Hg,Hl,zq⟩:=Kd.Am dN.out z34 (dM) Ci (by first|exact Cj|exact q'b|(have e_:=(Kd.bg dN.out).1;omega));obtain⟨SH,rfl,qp⟩:=kI Hl;have lG:=zq 4 _ rfl;rw[iR _ _ 4 (by omega)]at lG;replace lG:=Option.some.inj (lG.symm.trans qo);rw[lG]at qp;have d9:=ak.mk (show Kd.R k36 36 _ _ _ _ ((au eU (dM)).f4)from qp);clear lG qp;clear zq Hg;have dQ:=ak.mk uT;have SI:=ak.mk uS;clear uT uS;replace Ci:=eq_true Ci;replace Cj:=eq_true Cj
               refine oV (n:=14) (S:=fun w'=>w'.cell? (fQ.add (((dM)).toNat * 5))=some (.int .i64 ((au eU (dM)).f0))∧w'.cell? ⟨(fQ.add (((dM)).toNat * 5)).block,(fQ.add (((dM)).toNat * 5)).off+1,none⟩=some (.int .i64 ((au eU (dM)).f1))∧w'.cell? ⟨(fQ.add (((dM)).toNat * 5)).block,(fQ.add (((dM)).toNat * 5)).off+2,none⟩=some (.string ((au eU (dM)).f2))∧w'.cell? ⟨(fQ.add (((dM)).toNat * 5)).block,(fQ.add (((dM)).toNat * 5)).off+3,none⟩=some (.string ((au eU (dM)).f3))∧w'.cell? ⟨(fQ.add (((dM)).toNat * 5)).block,(fQ.add (((dM)).toNat * 5)).off+4,none⟩=some (.slice He ((au eU (dM)).f4).length Hf)) (ds:=[]) (fl 14 0) (by kernel_rfl) rfl rfl ⟨uO,uP,uQ,uR,qo⟩ (fun hHeld=>?_);refine qM aQ.tab7 aQ.bits7 (fun HT_ HW_=>?_)
               generalize wc.drew=w43 at dN dh bS HB d9 dQ uO uP uQ uR qo hHeld⊢;refine pw 0 46 (fl 14 1) ?_;refine pw 1 47 (fl 14 2) ?_;refine pw 3 49 (fb 14 11) ?_;refine pw 4 50 (fb 14 27) ?_;refine pw 5 51 (fb 14 59) ?_;refine pw 6 52 (fb 14 123) ?_;refine pt 7 53 (fb 14 251) ?_;refine Ac (i:=2) (N:=some 48) (fl 14 8) rfl rfl (qj HT_.out (by kernel_rfl)) (by decide) (fun K hK=>?_);refine pX Tryz.func43 (by kernel_rfl) rfl #[.slice (some fQ) eU.length co42,.int .i64 dM] (by rfl) rfl rfl (by(try simp only[List.map_toArray,List.map_cons,List.map_nil]);first|done|(simp only[ql];rfl)|rfl|(simp only[List.length_drop,List.length_take];rfl)) ?_
               with_reducible refine(gF.calls kj6 _ _ eU dM AY _ ?dI ?dJ A19.out (YtkcmghlhpbepcaaGreatDoor.Std.below HS_.out bz)).mono ?_
               (case dI=>exact cz (Kd.bg dN.out).2.2)
               (case dJ=>exact(Kd.bg dN.out).2.1)
               rintro e w44 ⟨rfl,hb⟩;have vB:=(hb.cell (World.block_lt_of_cell? _ _ (hHeld.1))).trans (hHeld.1);have vC:=(hb.cell (World.block_lt_of_cell? _ _ (hHeld.2.1))).trans (hHeld.2.1);have vD:=(hb.cell (World.block_lt_of_cell? _ _ (hHeld.2.2.1))).trans (hHeld.2.2.1);have vE:=(hb.cell (World.block_lt_of_cell? _ _ (hHeld.2.2.2.1))).trans (hHeld.2.2.2.1);have vF:=(hb.cell (World.block_lt_of_cell? _ _ (hHeld.2.2.2.2))).trans (hHeld.2.2.2.2);refine⟨_,rfl,?_⟩;have n0_:=ak.mk (Kd.bK (rz dN.out) hb);have n1_:=ak.mk (Kd.bK (rz dh.out) hb);have n2_:=ak.mk (Kd.bK (rz d9.out) hb);have n3_:=ak.mk (Kd.bT (by repeat(first|(with_reducible exact bS.out)|(with_reducible refine Kd.eH ?_ _)|(with_reducible refine Kd.eP ?_ _)|(with_reducible refine Kd.fA ?_)|exact bS.out)) hb);have n4_:=ak.mk (Kd.bT (by repeat(first|(with_reducible exact dQ.out)|(with_reducible refine Kd.eH ?_ _)|(with_reducible refine Kd.eP ?_ _)|(with_reducible refine Kd.fA ?_)|exact dQ.out)) hb);have n5_:=ak.mk (aG bz hb);clear dN;clear dh;clear d9;clear bS;clear dQ;clear HB;have dN:=n0_;have dh:=n1_;have d9:=n2_;have bS:=n3_;have dQ:=n4_
               have HB:=n5_;clear n0_ n1_ n2_ n3_ n4_ n5_
               (try clear hb)
               (try clear hb2)
               (try clear hk)
               (try clear hi)
               refine hK.out _ _ ⟨vB,vC,vD,vE,vF⟩ (fun hHeld=>?_);clear hK K;refine pn ?_;refine Ac (i:=8) (N:=some 54) (fl 14 9) rfl rfl (qj HT_.out (by kernel_rfl)) (by decide) (fun K hK=>?_);refine pX Tryz.func24 (by kernel_rfl) rfl #[.string AY,.string ((au eU (dM)).f2)] (by rfl) rfl rfl (by(try simp only[List.map_toArray,List.map_cons,List.map_nil]);first|done|(simp only[ql];rfl)|rfl|(simp only[List.length_drop,List.length_take];rfl)) ?_
               with_reducible refine(ko.calls AY ((au eU (dM)).f2) t687 t688 _ A20.out (YtkcmghlhpbepcaaGreatDoor.Std.below HS_.out bz)).mono ?_
               rintro e w45 ⟨v689,rfl,ho0,hb⟩;have vB:=(hb.cell (World.block_lt_of_cell? _ _ (hHeld.1))).trans (hHeld.1);have vC:=(hb.cell (World.block_lt_of_cell? _ _ (hHeld.2.1))).trans (hHeld.2.1);have vD:=(hb.cell (World.block_lt_of_cell? _ _ (hHeld.2.2.1))).trans (hHeld.2.2.1);have vE:=(hb.cell (World.block_lt_of_cell? _ _ (hHeld.2.2.2.1))).trans (hHeld.2.2.2.1);have vF:=(hb.cell (World.block_lt_of_cell? _ _ (hHeld.2.2.2.2))).trans (hHeld.2.2.2.2);refine⟨_,rfl,?_⟩;have n0_:=ak.mk (Kd.gV (rz dN.out) (Kd.jH ho0) hb);have n1_:=ak.mk (Kd.bK (rz dh.out) hb);have n2_:=ak.mk (Kd.bK (rz d9.out) hb);have n3_:=ak.mk (Kd.dU (Kd.iD (Kd.iD (Kd.iD ho0 (Kd.nk (rz dN.out))) (Kd.nk (rz dh.out))) (Kd.nk (rz d9.out))) (aU bz));have n4_:=ak.mk (Kd.bT (by repeat(first|(with_reducible exact bS.out)|(with_reducible refine Kd.eH ?_ _)|(with_reducible refine Kd.eP ?_ _)|(with_reducible refine Kd.fA ?_)|exact bS.out)) hb);have n5_:=ak.mk (Kd.bT (by repeat(first|(with_reducible exact dQ.out)|(with_reducible refine Kd.eH ?_ _)|(with_reducible refine Kd.eP ?_ _)|(with_reducible refine Kd.fA ?_)|exact dQ.out)) hb);have n6_:=ak.mk (aG bz hb)
               clear dN;clear dh;clear d9;clear bS;clear dQ;clear HB;have dN:=n0_;have dh:=n1_;have d9:=n2_;have jK:=n3_;have bS:=n4_;have dQ:=n5_;have HB:=n6_;clear n0_ n1_ n2_ n3_ n4_ n5_ n6_
               (try clear hb)
               (try clear hb2)
               (try clear hk)
               (try clear hi)
               (try clear ho0)
               refine hK.out _ _ ⟨vB,vC,vD,vE,vF⟩ (fun hHeld=>?_);clear hK K;refine pn ?_;refine pw 9 45 (fl 14 10) ?_;refine pw 10 55 (fl 14 11) ?_;refine pw 11 56 (fl 14 12) ?_;refine pw 12 8 (fl 14 13) ?_;refine pw 13 9 (fl 14 14) ?_;refine sW (yg HT_.out (by kernel_rfl)) ?_
               try go_wp2
               replace dN:=ak.mk (Kd.dR dN.out);replace dh:=ak.mk (Kd.dR dh.out);replace d9:=ak.mk (Kd.dR d9.out);replace jK:=ak.mk (Kd.dR jK.out);replace bS:=ak.mk (Kd.fA bS.out);replace dQ:=ak.mk (Kd.fA dQ.out);replace HB:=ak.mk (bX HB.out);have p696:0≤((dM):Int):=q'b;have q696:(dM)<(eU.length:Int):=q'b;obtain⟨ad696,PX,PY,e696,Ck,Cm,Cn,Co,yu,Cq,Cr⟩:=iM (Kd.bg dN.out).2.2 (dM) p696 q696;obtain rfl:fQ=ad696:=(by injection e696);obtain⟨ce696,PZ,P5,Ho⟩:=Kd.Am dN.out z34 (dM) p696 (by first|exact q696|exact q'b|(have e_:=(Kd.bg dN.out).1;omega));obtain⟨ve696_4,rfl,yw⟩:=kI P5;have qw:=Ho 4 _ rfl;rw[iR _ _ 4 (by omega)]at qw;replace qw:=Option.some.inj (qw.symm.trans yu);rw[qw]at yw;have j4:=ak.mk (show Kd.R k36 36 _ _ _ _ ((au eU (dM)).f4)from yw);clear qw yw;clear Ho PZ;have jC:=ak.mk Cr;have HC696_4:=ak.mk Cq;clear Cr Cq;replace p696:=eq_true p696;replace q696:=eq_true q696
               refine oV (n:=24) (S:=fun w'=>w'.cell? (fQ.add (((dM)).toNat * 5))=some (.int .i64 ((au eU (dM)).f0))∧w'.cell? ⟨(fQ.add (((dM)).toNat * 5)).block,(fQ.add (((dM)).toNat * 5)).off+1,none⟩=some (.int .i64 ((au eU (dM)).f1))∧w'.cell? ⟨(fQ.add (((dM)).toNat * 5)).block,(fQ.add (((dM)).toNat * 5)).off+2,none⟩=some (.string ((au eU (dM)).f2))∧w'.cell? ⟨(fQ.add (((dM)).toNat * 5)).block,(fQ.add (((dM)).toNat * 5)).off+3,none⟩=some (.string ((au eU (dM)).f3))∧w'.cell? ⟨(fQ.add (((dM)).toNat * 5)).block,(fQ.add (((dM)).toNat * 5)).off+4,none⟩=some (.slice PX ((au eU (dM)).f4).length PY)) (ds:=[]) (fl 24 0) (by kernel_rfl) rfl rfl ⟨Ck,Cm,Cn,Co,yu⟩ (fun hHeld=>?_);refine qM aQ.tab8 aQ.bits8 (fun HT_ HW_=>?_)
               generalize w45.drew=w46 at dN dh d9 jK bS dQ HB j4 jC Ck Cm Cn Co yu hHeld⊢;refine pw 0 57 (fl 24 1) ?_;refine pw 1 58 (fl 24 2) ?_;refine pw 2 59 (fl 24 3) ?_;refine pw 3 60 (fl 24 4) ?_;refine pw 4 61 (fl 24 5) ?_;refine pw 5 62 (fl 24 6) ?_;refine pw 6 63 (fl 24 7) ?_;refine pw 7 64 (fl 24 8) ?_;refine pw 8 65 (fl 24 9) ?_;refine pw 11 68 (fb 24 2559) ?_;refine pw 12 69 (fb 24 6655) ?_;refine pw 13 70 (fb 24 14847) ?_;refine pw 14 71 (fb 24 31231) ?_;refine pt 15 72 (fb 24 63999) ?_;refine pw 16 73 (fb 24 129535) ?_;refine Ac (i:=9) (N:=some 66) (fb 24 130047) rfl rfl (qj HT_.out (by kernel_rfl)) (by decide) (fun K hK=>?_);refine pX Tryz.func45 (by kernel_rfl) rfl #[.slice (some fQ) eU.length co42,.int .i64 dM] (by rfl) rfl rfl (by(try simp only[List.map_toArray,List.map_cons,List.map_nil]);first|done|(simp only[ql];rfl)|rfl|(simp only[List.length_drop,List.length_take];rfl)) ?_
               with_reducible refine(bW.calls kj6 _ _ eU dM nN _ ?dI ?dJ A22.out).mono ?_
               (case dI=>exact cz (Kd.bg dN.out).2.2)
               (case dJ=>exact(Kd.bg dN.out).2.1)
               rintro e w' ⟨rfl,⟨nd,rfl⟩⟩;refine⟨_,rfl,?_⟩;have q47:(nN:Int)≤((eU.length:Int):Int):=q'b;obtain⟨i047,hi047,_,hsz47,_⟩:=info_parts qI;have FW:eU.length≤co42:=(Kd.bg dN.out).2.1;have hC47:Kd.C k34 _ (some fQ) eU.length eU:=(Kd.bg dN.out).2.2;have ql47:((qQ):Int)≤(nN:Int):=q'b;have q047:(0:Int)≤((qQ):Int):=q'b;have hcut47:=SK (P:=Tryz.prog) 22 34 .i64 .i64 Tryz.underlying22 hi047 5 hsz47 (some fQ) eU.length co42 (qQ) nN q047 ql47 q47 FW;have hr47:=Kd.C_mid (lo:=((qQ):Int).toNat) (hi:=(nN:Int).toNat) (c:=co42) hC47 (by omega) (by omega) FW;obtain⟨A47,hA47⟩:∃A1,A1=(if co42=((qQ):Int).toNat then(some fQ)else((some fQ):Option Addr).map (·.add (((qQ):Int).toNat * 5))):=⟨_,rfl⟩
               obtain⟨c47,hc47⟩:∃c1,c1=co42 - ((qQ):Int).toNat:=⟨_,rfl⟩
               have hy47:AZ.length=(nN:Int).toNat - ((qQ):Int).toNat:=(by rw[Ny692.out,List.length_drop,List.length_take]<;>omega);rw[show((eU).take (nN:Int).toNat).drop ((qQ):Int).toNat=AZ from Ny692.out.symm]at hr47;replace hr47:Kd.C k34 _ A47 AZ.length AZ:=(by rw[hA47];exact hr47);rw[←hy47,←hA47,←hc47]at hcut47;have mX:=ak.mk hr47;have HC695:=ak.mk (show AZ.length≤c47 from by rw[hy47,hc47];exact Nat.sub_le_sub_right (Nat.le_trans (by omega) FW) _);clear hr47 hC47 FW hi047 hsz47 hc47;have KY47:=ak.mk hy47;have KA47:=ak.mk hA47;clear hy47 hA47;have KL47:=ak.mk (show(nN:Int).toNat≤eU.length from by omega);have KM47:=ak.mk (show((qQ):Int).toNat≤(nN:Int).toNat from by omega);replace q47:=eq_true q47;refine hK.out _ _ ⟨hHeld.1,hHeld.2.1,hHeld.2.2.1,hHeld.2.2.2.1,hHeld.2.2.2.2⟩ (fun hHeld=>?_);clear hK K;refine pn ?_;refine pw 10 67 (fl 24 17) ?_;refine Ac (i:=17) (N:=some 74) (fl 24 18) rfl rfl (qj HT_.out (by kernel_rfl)) (by decide) (fun K hK=>?_)
               refine pX Tryz.func44 (by kernel_rfl) rfl #[.slice A47 AZ.length c47,.int .i64 (wrap64 ((-1) - ((au eU (dM)).f0)))] (by rfl) rfl rfl (by(try simp only[List.map_toArray,List.map_cons,List.map_nil]);first|done|(simp only[ql];rfl)|rfl|(simp only[List.length_drop,List.length_take];rfl)) ?_
               with_reducible refine(bV.calls kj6 _ _ AZ (wrap64 ((-1) - ((au eU (dM)).f0))) Ad _ ?dI ?dJ A27.out).mono ?_
               (case dI=>repeat(first|exact(by repeat(first|(with_reducible exact mX.out)|(with_reducible refine Kd.eH ?_ _)|(with_reducible refine Kd.eP ?_ _)|(with_reducible refine Kd.fA ?_)|exact mX.out))|(with_reducible refine Kd.eH ?_ _)|(with_reducible refine Kd.eP ?_ _)|(with_reducible refine Kd.fA ?_)))
               (case dJ=>exact HC695.out)
               rintro e w48 ⟨v698,rfl,ho0,hb⟩;have vB:=(hb.cell (World.block_lt_of_cell? _ _ (hHeld.1))).trans (hHeld.1);have vC:=(hb.cell (World.block_lt_of_cell? _ _ (hHeld.2.1))).trans (hHeld.2.1);have vD:=(hb.cell (World.block_lt_of_cell? _ _ (hHeld.2.2.1))).trans (hHeld.2.2.1);have vE:=(hb.cell (World.block_lt_of_cell? _ _ (hHeld.2.2.2.1))).trans (hHeld.2.2.2.1);have vF:=(hb.cell (World.block_lt_of_cell? _ _ (hHeld.2.2.2.2))).trans (hHeld.2.2.2.2);refine⟨_,rfl,?_⟩;have n0_:=ak.mk (Kd.gV (rz dN.out) (Kd.jH ho0) hb);have n1_:=ak.mk (Kd.bK (rz dh.out) hb);have n2_:=ak.mk (Kd.bK (rz d9.out) hb);have n3_:=ak.mk (Kd.gV (rz jK.out) (Kd.jH ho0) hb);have n4_:=ak.mk (Kd.bK (rz j4.out) hb);have n5_:=ak.mk (Kd.dU (Kd.iD (Kd.iD (Kd.iD (Kd.iD (Kd.iD ho0 (Kd.nk (rz dN.out))) (Kd.nk (rz dh.out))) (Kd.nk (rz d9.out))) (Kd.nk (rz jK.out))) (Kd.nk (rz j4.out))) (aU bz));have n6_:=ak.mk (Kd.bT (by repeat(first|(with_reducible exact bS.out)|(with_reducible refine Kd.eH ?_ _)|(with_reducible refine Kd.eP ?_ _)|(with_reducible refine Kd.fA ?_)|exact bS.out)) hb)
               have n7_:=ak.mk (Kd.bT (by repeat(first|(with_reducible exact dQ.out)|(with_reducible refine Kd.eH ?_ _)|(with_reducible refine Kd.eP ?_ _)|(with_reducible refine Kd.fA ?_)|exact dQ.out)) hb);have n8_:=ak.mk (Kd.bT (by repeat(first|(with_reducible exact jC.out)|(with_reducible refine Kd.eH ?_ _)|(with_reducible refine Kd.eP ?_ _)|(with_reducible refine Kd.fA ?_)|exact jC.out)) hb);have n9_:=ak.mk (Kd.bT (by repeat(first|(with_reducible exact mX.out)|(with_reducible refine Kd.eH ?_ _)|(with_reducible refine Kd.eP ?_ _)|(with_reducible refine Kd.fA ?_)|exact mX.out)) hb);have Ct:=ak.mk (aG bz hb);clear dN;clear dh;clear d9;clear jK;clear j4;clear bS;clear dQ;clear jC;clear mX;clear HB;have dN:=n0_;have dh:=n1_;have d9:=n2_;have jK:=n3_;have j4:=n4_;have rR:=n5_;have bS:=n6_;have dQ:=n7_;have jC:=n8_;have mX:=n9_;have HB:=Ct;clear n0_ n1_ n2_ n3_ n4_ n5_ n6_ n7_ n8_ n9_ Ct
               (try clear hb)
               (try clear hb2)
               (try clear hk)
               (try clear hi)
               (try clear ho0)
               obtain⟨Ao49,co49,eo49⟩:=Kd.cK jK.out
               (first|subst eo49|(injection eo49 with f1_ f2_ f3_;have f4_:=f1_.symm;have f5_:=f3_.symm;clear f1_ f2_ f3_;subst f4_;subst f5_))
               obtain⟨Ao50,co50,eo50⟩:=Kd.cK rR.out
               (first|subst eo50|(injection eo50 with f1_ f2_ f3_;have f4_:=f1_.symm;have f5_:=f3_.symm;clear f1_ f2_ f3_;subst f4_;subst f5_))
               refine hK.out _ _ ⟨vB,vC,vD,vE,vF⟩ (fun hHeld=>?_);clear hK K;refine pn ?_;refine Ac (i:=18) (N:=some 75) (fl 24 19) rfl rfl (qj HT_.out (by kernel_rfl)) (by decide) (fun K hK=>?_);refine pX Tryz.func22 (by kernel_rfl) rfl #[.slice Ao49 t687.length co49,.slice Ao50 Ad.length co50] (by rfl) rfl rfl q'a ?_
               with_reducible refine(gY.calls _ _ t687 _ _ Ad false _ ?dI ?dJ ?oI ?oJ A28.out).mono ?_
               (case dI=>exact cz (Kd.bg jK.out).2.2)
               (case dJ=>exact(Kd.bg jK.out).2.1)
               (case oI=>exact cz (Kd.bg rR.out).2.2)
               (case oJ=>exact(Kd.bg rR.out).2.1)
               rintro e w51 ⟨rfl,hb⟩;have vB:=(hb.cell (World.block_lt_of_cell? _ _ (hHeld.1))).trans (hHeld.1);have vC:=(hb.cell (World.block_lt_of_cell? _ _ (hHeld.2.1))).trans (hHeld.2.1);have vD:=(hb.cell (World.block_lt_of_cell? _ _ (hHeld.2.2.1))).trans (hHeld.2.2.1);have vE:=(hb.cell (World.block_lt_of_cell? _ _ (hHeld.2.2.2.1))).trans (hHeld.2.2.2.1);have vF:=(hb.cell (World.block_lt_of_cell? _ _ (hHeld.2.2.2.2))).trans (hHeld.2.2.2.2);refine⟨_,rfl,?_⟩;have n0_:=ak.mk (Kd.bK (rz dN.out) hb);have n1_:=ak.mk (Kd.bK (rz dh.out) hb);have n2_:=ak.mk (Kd.bK (rz d9.out) hb);have n3_:=ak.mk (Kd.bK (rz jK.out) hb);have n4_:=ak.mk (Kd.bK (rz j4.out) hb);have n5_:=ak.mk (Kd.bK (rz rR.out) hb);have n6_:=ak.mk (Kd.bT (by repeat(first|(with_reducible exact bS.out)|(with_reducible refine Kd.eH ?_ _)|(with_reducible refine Kd.eP ?_ _)|(with_reducible refine Kd.fA ?_)|exact bS.out)) hb);have n7_:=ak.mk (Kd.bT (by repeat(first|(with_reducible exact dQ.out)|(with_reducible refine Kd.eH ?_ _)|(with_reducible refine Kd.eP ?_ _)|(with_reducible refine Kd.fA ?_)|exact dQ.out)) hb)
               have n8_:=ak.mk (Kd.bT (by repeat(first|(with_reducible exact jC.out)|(with_reducible refine Kd.eH ?_ _)|(with_reducible refine Kd.eP ?_ _)|(with_reducible refine Kd.fA ?_)|exact jC.out)) hb);have n9_:=ak.mk (Kd.bT (by repeat(first|(with_reducible exact mX.out)|(with_reducible refine Kd.eH ?_ _)|(with_reducible refine Kd.eP ?_ _)|(with_reducible refine Kd.fA ?_)|exact mX.out)) hb);have Ct:=ak.mk (aG bz hb);clear dN;clear dh;clear d9;clear jK;clear j4;clear rR;clear bS;clear dQ;clear jC;clear mX;clear HB;have dN:=n0_;have dh:=n1_;have d9:=n2_;have jK:=n3_;have j4:=n4_;have rR:=n5_;have bS:=n6_;have dQ:=n7_;have jC:=n8_;have mX:=n9_;have HB:=Ct;clear n0_ n1_ n2_ n3_ n4_ n5_ n6_ n7_ n8_ n9_ Ct
               (try clear hb)
               (try clear hb2)
               (try clear hk)
               (try clear hi)
               refine hK.out _ _ ⟨vB,vC,vD,vE,vF⟩ (fun hHeld=>?_);clear hK K;refine pn ?_;refine pw 19 76 (fl 24 20) ?_;refine pw 20 77 (fl 24 21) ?_;refine pu 21 78 (fl 24 22) ?_;refine pw 22 79 (fl 24 23) ?_;refine pw 23 4 (fl 24 24) ?_;refine sW (yg HT_.out (by kernel_rfl)) ?_
               try go_wp2
               go_ret;exact⟨by first|rfl|(simp[aI,aJ]<;>rfl)|(simp only[←wV,←ql,←zo];first|rfl|(simp[aI,aJ]<;>rfl))|(simp[*,aI,aJ]<;>rfl),bz⟩
             ·rw[if_neg c26]at H
              exact absurd H (by simp)
            ·rw[if_neg c25]at H
             exact absurd H (by simp)
           ·rw[if_neg c24]at H
            exact absurd H (by simp)
          ·rw[if_neg c21]at H
           have c21b0:=beq_eq_false_iff_ne.mpr c21;have c21b1:=bne_iff_ne.mpr c21;obtain rfl:=Option.some.inj H;obtain⟨Ao52,co52,eo52⟩:=Kd.cK dN.out;subst eo52;have rY:0≤((dM):Int):=q'b;have rZ:(dM)<(eU.length:Int):=q'b;obtain⟨fQ,LD,LG,e682,FN,FP,FQ,FR,r9,nH,nI⟩:=iM (Kd.bg dN.out).2.2 (dM) rY rZ;cases e682;obtain⟨ce682,yh,yj,qm⟩:=Kd.Am dN.out z34 (dM) rY (by first|exact rZ|exact q'b|(have e_:=(Kd.bg dN.out).1;omega));obtain⟨FT,rfl,kr⟩:=kI yj;have iJ:=qm 4 _ rfl;rw[iR _ _ 4 (by omega)]at iJ;replace iJ:=Option.some.inj (iJ.symm.trans r9);rw[iJ]at kr;have dh:=ak.mk (show Kd.R k36 36 _ _ _ _ ((au eU (dM)).f4)from kr);clear iJ kr;clear qm yh;have bS:=ak.mk nI;have FU:=ak.mk nH;clear nI nH;replace rY:=eq_true rY;replace rZ:=eq_true rZ
           try go_wp2
           replace dN:=ak.mk (Kd.dR dN.out);replace dh:=ak.mk (Kd.dR dh.out);replace bS:=ak.mk (Kd.fA bS.out);replace HB:=ak.mk (bX HB.out);have Ci:0≤((dM):Int):=q'b;have Cj:(dM)<(eU.length:Int):=q'b;obtain⟨N8,He,Hf,e686,uO,uP,uQ,uR,qo,uS,uT⟩:=iM (Kd.bg dN.out).2.2 (dM) Ci Cj;obtain rfl:fQ=N8:=(by injection e686);obtain⟨ce686,Hg,Hl,zq⟩:=Kd.Am dN.out z34 (dM) Ci (by first|exact Cj|exact q'b|(have e_:=(Kd.bg dN.out).1;omega));obtain⟨SH,rfl,qp⟩:=kI Hl;have lG:=zq 4 _ rfl;rw[iR _ _ 4 (by omega)]at lG;replace lG:=Option.some.inj (lG.symm.trans qo);rw[lG]at qp;have d9:=ak.mk (show Kd.R k36 36 _ _ _ _ ((au eU (dM)).f4)from qp);clear lG qp;clear zq Hg;have dQ:=ak.mk uT;have SI:=ak.mk uS;clear uT uS;replace Ci:=eq_true Ci;replace Cj:=eq_true Cj
           refine oV (n:=14) (S:=fun w'=>w'.cell? (fQ.add (((dM)).toNat * 5))=some (.int .i64 ((au eU (dM)).f0))∧w'.cell? ⟨(fQ.add (((dM)).toNat * 5)).block,(fQ.add (((dM)).toNat * 5)).off+1,none⟩=some (.int .i64 ((au eU (dM)).f1))∧w'.cell? ⟨(fQ.add (((dM)).toNat * 5)).block,(fQ.add (((dM)).toNat * 5)).off+2,none⟩=some (.string ((au eU (dM)).f2))∧w'.cell? ⟨(fQ.add (((dM)).toNat * 5)).block,(fQ.add (((dM)).toNat * 5)).off+3,none⟩=some (.string ((au eU (dM)).f3))∧w'.cell? ⟨(fQ.add (((dM)).toNat * 5)).block,(fQ.add (((dM)).toNat * 5)).off+4,none⟩=some (.slice He ((au eU (dM)).f4).length Hf)) (ds:=[]) (fl 14 0) (by kernel_rfl) rfl rfl ⟨uO,uP,uQ,uR,qo⟩ (fun hHeld=>?_);refine qM aQ.tab7 aQ.bits7 (fun HT_ HW_=>?_)
           generalize wc.drew=w53 at dN dh bS HB d9 dQ uO uP uQ uR qo hHeld⊢;refine pw 0 46 (fl 14 1) ?_;refine pw 1 47 (fl 14 2) ?_;refine pw 3 49 (fb 14 11) ?_;refine pw 4 50 (fb 14 27) ?_;refine pw 5 51 (fb 14 59) ?_;refine pw 6 52 (fb 14 123) ?_;refine pt 7 53 (fb 14 251) ?_;refine Ac (i:=2) (N:=some 48) (fl 14 8) rfl rfl (qj HT_.out (by kernel_rfl)) (by decide) (fun K hK=>?_);refine pX Tryz.func43 (by kernel_rfl) rfl #[.slice (some fQ) eU.length co52,.int .i64 dM] (by rfl) rfl rfl (by(try simp only[List.map_toArray,List.map_cons,List.map_nil]);first|done|(simp only[ql];rfl)|rfl|(simp only[List.length_drop,List.length_take];rfl)) ?_
           with_reducible refine(gF.calls kj6 _ _ eU dM AY _ ?dI ?dJ A19.out (YtkcmghlhpbepcaaGreatDoor.Std.below HS_.out bz)).mono ?_
           (case dI=>exact cz (Kd.bg dN.out).2.2)
           (case dJ=>exact(Kd.bg dN.out).2.1)
           rintro e w54 ⟨rfl,hb⟩;have vB:=(hb.cell (World.block_lt_of_cell? _ _ (hHeld.1))).trans (hHeld.1);have vC:=(hb.cell (World.block_lt_of_cell? _ _ (hHeld.2.1))).trans (hHeld.2.1);have vD:=(hb.cell (World.block_lt_of_cell? _ _ (hHeld.2.2.1))).trans (hHeld.2.2.1);have vE:=(hb.cell (World.block_lt_of_cell? _ _ (hHeld.2.2.2.1))).trans (hHeld.2.2.2.1);have vF:=(hb.cell (World.block_lt_of_cell? _ _ (hHeld.2.2.2.2))).trans (hHeld.2.2.2.2);refine⟨_,rfl,?_⟩;have n0_:=ak.mk (Kd.bK (rz dN.out) hb);have n1_:=ak.mk (Kd.bK (rz dh.out) hb);have n2_:=ak.mk (Kd.bK (rz d9.out) hb);have n3_:=ak.mk (Kd.bT (by repeat(first|(with_reducible exact bS.out)|(with_reducible refine Kd.eH ?_ _)|(with_reducible refine Kd.eP ?_ _)|(with_reducible refine Kd.fA ?_)|exact bS.out)) hb);have n4_:=ak.mk (Kd.bT (by repeat(first|(with_reducible exact dQ.out)|(with_reducible refine Kd.eH ?_ _)|(with_reducible refine Kd.eP ?_ _)|(with_reducible refine Kd.fA ?_)|exact dQ.out)) hb);have n5_:=ak.mk (aG bz hb);clear dN;clear dh;clear d9;clear bS;clear dQ;clear HB;have dN:=n0_;have dh:=n1_;have d9:=n2_;have bS:=n3_;have dQ:=n4_
           have HB:=n5_;clear n0_ n1_ n2_ n3_ n4_ n5_
           (try clear hb)
           (try clear hb2)
           (try clear hk)
           (try clear hi)
           refine hK.out _ _ ⟨vB,vC,vD,vE,vF⟩ (fun hHeld=>?_);clear hK K;refine pn ?_;refine Ac (i:=8) (N:=some 54) (fl 14 9) rfl rfl (qj HT_.out (by kernel_rfl)) (by decide) (fun K hK=>?_);refine pX Tryz.func24 (by kernel_rfl) rfl #[.string AY,.string ((au eU (dM)).f2)] (by rfl) rfl rfl (by(try simp only[List.map_toArray,List.map_cons,List.map_nil]);first|done|(simp only[ql];rfl)|rfl|(simp only[List.length_drop,List.length_take];rfl)) ?_
           with_reducible refine(ko.calls AY ((au eU (dM)).f2) t687 t688 _ A20.out (YtkcmghlhpbepcaaGreatDoor.Std.below HS_.out bz)).mono ?_
           rintro e w55 ⟨v689,rfl,ho0,hb⟩;have vB:=(hb.cell (World.block_lt_of_cell? _ _ (hHeld.1))).trans (hHeld.1);have vC:=(hb.cell (World.block_lt_of_cell? _ _ (hHeld.2.1))).trans (hHeld.2.1);have vD:=(hb.cell (World.block_lt_of_cell? _ _ (hHeld.2.2.1))).trans (hHeld.2.2.1);have vE:=(hb.cell (World.block_lt_of_cell? _ _ (hHeld.2.2.2.1))).trans (hHeld.2.2.2.1);have vF:=(hb.cell (World.block_lt_of_cell? _ _ (hHeld.2.2.2.2))).trans (hHeld.2.2.2.2);refine⟨_,rfl,?_⟩;have n0_:=ak.mk (Kd.gV (rz dN.out) (Kd.jH ho0) hb);have n1_:=ak.mk (Kd.bK (rz dh.out) hb);have n2_:=ak.mk (Kd.bK (rz d9.out) hb);have n3_:=ak.mk (Kd.dU (Kd.iD (Kd.iD (Kd.iD ho0 (Kd.nk (rz dN.out))) (Kd.nk (rz dh.out))) (Kd.nk (rz d9.out))) (aU bz));have n4_:=ak.mk (Kd.bT (by repeat(first|(with_reducible exact bS.out)|(with_reducible refine Kd.eH ?_ _)|(with_reducible refine Kd.eP ?_ _)|(with_reducible refine Kd.fA ?_)|exact bS.out)) hb);have n5_:=ak.mk (Kd.bT (by repeat(first|(with_reducible exact dQ.out)|(with_reducible refine Kd.eH ?_ _)|(with_reducible refine Kd.eP ?_ _)|(with_reducible refine Kd.fA ?_)|exact dQ.out)) hb);have n6_:=ak.mk (aG bz hb)
           clear dN;clear dh;clear d9;clear bS;clear dQ;clear HB;have dN:=n0_;have dh:=n1_;have d9:=n2_;have jK:=n3_;have bS:=n4_;have dQ:=n5_;have HB:=n6_;clear n0_ n1_ n2_ n3_ n4_ n5_ n6_
           (try clear hb)
           (try clear hb2)
           (try clear hk)
           (try clear hi)
           (try clear ho0)
           refine hK.out _ _ ⟨vB,vC,vD,vE,vF⟩ (fun hHeld=>?_);clear hK K;refine pn ?_;refine pw 9 45 (fl 14 10) ?_;refine pw 10 55 (fl 14 11) ?_;refine pw 11 56 (fl 14 12) ?_;refine pw 12 8 (fl 14 13) ?_;refine pw 13 9 (fl 14 14) ?_;refine sW (yg HT_.out (by kernel_rfl)) ?_
           try go_wp2
           replace dN:=ak.mk (Kd.dR dN.out);replace dh:=ak.mk (Kd.dR dh.out);replace d9:=ak.mk (Kd.dR d9.out);replace jK:=ak.mk (Kd.dR jK.out);replace bS:=ak.mk (Kd.fA bS.out);replace dQ:=ak.mk (Kd.fA dQ.out);replace HB:=ak.mk (bX HB.out);refine oV (n:=24) (S:=fun w'=>True) (ds:=[]) (fl 24 0) (by kernel_rfl) rfl rfl trivial (fun hHeld=>?_);refine qM aQ.tab8 aQ.bits8 (fun HT_ HW_=>?_)
           generalize w55.drew=w56 at dN dh d9 jK bS dQ HB hHeld⊢;refine pw 0 57 (fl 24 1) ?_;refine pw 1 58 (fl 24 2) ?_;refine pw 2 59 (fl 24 3) ?_;refine pu 3 60 (fl 24 4) ?_;refine pu 4 61 (fl 24 5) ?_;refine pu 5 62 (fl 24 6) ?_;refine pu 6 63 (fl 24 7) ?_;refine pu 7 64 (fl 24 8) ?_;refine pu 8 65 (fl 24 9) ?_;refine pu 9 66 (fl 24 10) ?_;refine pu 10 67 (fl 24 11) ?_;refine pu 11 68 (fl 24 12) ?_;refine pu 12 69 (fl 24 13) ?_;refine pu 13 70 (fl 24 14) ?_;refine pu 14 71 (fl 24 15) ?_;refine pu 15 72 (fl 24 16) ?_;refine pu 16 73 (fl 24 17) ?_;refine pu 17 74 (fl 24 18) ?_;refine pu 18 75 (fl 24 19) ?_;refine pw 19 76 (fl 24 20) ?_;refine pw 20 77 (fl 24 21) ?_;refine pu 21 78 (fl 24 22) ?_;refine pw 22 79 (fl 24 23) ?_;refine pw 23 4 (fl 24 24) ?_;refine sW (yg HT_.out (by kernel_rfl)) ?_
           try go_wp2
           go_ret;exact⟨by first|rfl|(simp[aI,aJ]<;>rfl)|(simp only[←wV,←ql];first|rfl|(simp[aI,aJ]<;>rfl))|(simp[*,aI,aJ]<;>rfl),bz⟩
         ·rw[if_neg c18]at H
          have c18b0:=beq_eq_false_iff_ne.mpr c18;have c18b1:=bne_iff_ne.mpr c18;replace H:=Option.bind_eq_some_iff.mp H;obtain⟨t683,A570,H⟩:=H
          try dsimp only at H
          have A57:=ak.mk A570;clear A570
          by_cases c58:t683.toList=([] :List UInt8)
          ·rw[if_pos c58]at H
           have c58b0:=beq_iff_eq.mpr c58;have c58b1:=bne_eq_false_iff_eq.mpr c58;clear c58;replace H:=Option.bind_eq_some_iff.mp H;obtain⟨t684,A590,H⟩:=H
           try dsimp only at H
           have A59:=ak.mk A590;clear A590;obtain rfl:=Option.some.inj H;obtain⟨Ao60,co60,eo60⟩:=Kd.cK dN.out;subst eo60;have rY:0≤((dM):Int):=q'b;have rZ:(dM)<(eU.length:Int):=q'b;obtain⟨fQ,LD,LG,e682,FN,FP,FQ,FR,r9,nH,nI⟩:=iM (Kd.bg dN.out).2.2 (dM) rY rZ;cases e682;obtain⟨ce682,yh,yj,qm⟩:=Kd.Am dN.out z34 (dM) rY (by first|exact rZ|exact q'b|(have e_:=(Kd.bg dN.out).1;omega));obtain⟨FT,rfl,kr⟩:=kI yj;have iJ:=qm 4 _ rfl;rw[iR _ _ 4 (by omega)]at iJ;replace iJ:=Option.some.inj (iJ.symm.trans r9);rw[iJ]at kr;have dh:=ak.mk (show Kd.R k36 36 _ _ _ _ ((au eU (dM)).f4)from kr);clear iJ kr;clear qm yh;have bS:=ak.mk nI;have FU:=ak.mk nH;clear nI nH;replace rY:=eq_true rY;replace rZ:=eq_true rZ
           go_wp2_with(first|((with_reducible refine bC (f:=43) rfl ?_);refine eG (some 40) rfl rfl Tryz.func43 (by kernel_rfl) rfl #[.slice (some fQ) eU.length co60,.int .i64 dM] rfl (by(try simp only[List.map_toArray,List.map_cons,List.map_nil]);first|done|(simp only[ql];rfl)|rfl|(simp only[List.length_drop,List.length_take];rfl)) ?_;(with_reducible refine(gF.calls kj6 _ _ eU dM t683 _ ?dI ?dJ A57.out (YtkcmghlhpbepcaaGreatDoor.Std.below HS_.out bz)).mono ?_);(case dI=>exact cz (Kd.bg dN.out).2.2);(case dJ=>exact(Kd.bg dN.out).2.1);rintro e w61 ⟨rfl,hb⟩;refine⟨_,rfl,?_⟩;replace dN:=ak.mk (Kd.bK (rz dN.out) hb);replace dh:=ak.mk (Kd.bK (rz dh.out) hb);replace bS:=ak.mk (Kd.bT (by repeat(first|(with_reducible exact bS.out)|(with_reducible refine Kd.eH ?_ _)|(with_reducible refine Kd.eP ?_ _)|(with_reducible refine Kd.fA ?_)|exact bS.out)) hb);replace HB:=ak.mk (aG bz hb);(try clear hb);(try clear hb2);(try clear hk);(try clear hi))|(go_at_call 16;(with_reducible refine(eX.calls t684 _ A59.out (YtkcmghlhpbepcaaGreatDoor.Std.below HS_.out bz)).mono ?_);rintro e w62 ⟨rfl,hb⟩;replace dN:=ak.mk (Kd.bK (rz dN.out) hb);replace dh:=ak.mk (Kd.bK (rz dh.out) hb);replace bS:=ak.mk (Kd.bT (by repeat(first|(with_reducible exact bS.out)|(with_reducible refine Kd.eH ?_ _)|(with_reducible refine Kd.eP ?_ _)|(with_reducible refine Kd.fA ?_)|exact bS.out)) hb);replace HB:=ak.mk (aG bz hb);(try clear hb);(try clear hb2);(try clear hk);(try clear hi)))
           go_ret;exact⟨by first|rfl|(simp[aI,aJ]<;>rfl)|(simp only[←wV,←ql];first|rfl|(simp[aI,aJ]<;>rfl))|(simp[*,aI,aJ]<;>rfl),bz⟩
          ·rw[if_neg c58]at H
           have c58b0:=beq_eq_false_iff_ne.mpr c58;have c58b1:=bne_iff_ne.mpr c58;obtain rfl:=Option.some.inj H;obtain⟨Ao63,co63,eo63⟩:=Kd.cK dN.out;subst eo63;have rY:0≤((dM):Int):=q'b;have rZ:(dM)<(eU.length:Int):=q'b;obtain⟨fQ,LD,LG,e682,FN,FP,FQ,FR,r9,nH,nI⟩:=iM (Kd.bg dN.out).2.2 (dM) rY rZ;cases e682;obtain⟨ce682,yh,yj,qm⟩:=Kd.Am dN.out z34 (dM) rY (by first|exact rZ|exact q'b|(have e_:=(Kd.bg dN.out).1;omega));obtain⟨FT,rfl,kr⟩:=kI yj;have iJ:=qm 4 _ rfl;rw[iR _ _ 4 (by omega)]at iJ;replace iJ:=Option.some.inj (iJ.symm.trans r9);rw[iJ]at kr;have dh:=ak.mk (show Kd.R k36 36 _ _ _ _ ((au eU (dM)).f4)from kr);clear iJ kr;clear qm yh;have bS:=ak.mk nI;have FU:=ak.mk nH;clear nI nH;replace rY:=eq_true rY;replace rZ:=eq_true rZ
           go_wp2_with(first|((with_reducible refine bC (f:=43) rfl ?_);refine eG (some 40) rfl rfl Tryz.func43 (by kernel_rfl) rfl #[.slice (some fQ) eU.length co63,.int .i64 dM] rfl (by(try simp only[List.map_toArray,List.map_cons,List.map_nil]);first|done|(simp only[ql];rfl)|rfl|(simp only[List.length_drop,List.length_take];rfl)) ?_;(with_reducible refine(gF.calls kj6 _ _ eU dM t683 _ ?dI ?dJ A57.out (YtkcmghlhpbepcaaGreatDoor.Std.below HS_.out bz)).mono ?_);(case dI=>exact cz (Kd.bg dN.out).2.2);(case dJ=>exact(Kd.bg dN.out).2.1);rintro e w64 ⟨rfl,hb⟩;refine⟨_,rfl,?_⟩;replace dN:=ak.mk (Kd.bK (rz dN.out) hb);replace dh:=ak.mk (Kd.bK (rz dh.out) hb);replace bS:=ak.mk (Kd.bT (by repeat(first|(with_reducible exact bS.out)|(with_reducible refine Kd.eH ?_ _)|(with_reducible refine Kd.eP ?_ _)|(with_reducible refine Kd.fA ?_)|exact bS.out)) hb);replace HB:=ak.mk (aG bz hb);(try clear hb);(try clear hb2);(try clear hk);(try clear hi)))
           go_ret;exact⟨by first|rfl|(simp[aI,aJ]<;>rfl)|(simp only[←wV,←ql];first|rfl|(simp[aI,aJ]<;>rfl))|(simp[*,aI,aJ]<;>rfl),bz⟩
        ·rw[if_neg c17]at H
         exact absurd H (by simp)
       ·rw[if_neg c16]at H
        exact absurd H (by simp)
  ·rw[if_neg c5]at H
   exact absurd H (by simp)
 ·rw[if_neg c4]at H
  exact absurd H (by simp)
end Go.Proofs.aj.W7
