/- Lemmas and walks, part 32. -/
import Derived.Test.YtkcmghlhpbepcaaGreatDoorNB31
set_option linter.unusedVariables false
set_option linter.unusedSimpArgs false
set_option maxHeartbeats 8000000
set_option maxRecDepth 100000
namespace Go.Proofs.aj.W7
open Go.RowKit Go.Proofs.ah.aD Go.Proofs.ah.bH Go.Proofs.ah.bV
attribute [local go_sem] dA dB dP dQ bY bZ dD dF
mutual
def bC.j0:Nat→Bool→Int→Int→ByteArray→ByteArray→List (S36)→Option (Bool)
 |0,_,_,_,_,_,_=>none
 |k+1,x28,x610000,x610001,x610002,x610003,Ov=>if x28=true then(some false)else(bC.l0 k Ov (Ov.length:Int) 0)
def bC.l0:Nat→List (S36)→Int→Int→Option (Bool)
 |0,_,_,_=>none
 |k+1,x30,x31,x32=>if x32<x31 then(if 0≤x32 then(if x32<(x30.length:Int)then((nT.f k ((bg x30 x32).f0)).bind fun t616=>(if t616=true then((dK.f ((bg x30 x32).f0)).bind fun t617=>(if t617=true then((dK.f ((bg x30 x32).f1)).bind fun CK=>(if CK=true then(bC.l0 k x30 x31 (wrap64 (x32+1)))else(some false)))else(some false)))else(some false)))else(none))else(none))else(some true)
end
def bC.f(k:Nat)(dN dz:Int)(bU dL:ByteArray)(bq:List (S36))(l1:List ByteArray):Option (Bool):=(kT.f k bU).bind fun t610=>(if t610=true then((iF.f k bU).bind fun t611=>(if t611=true then(bC.j0 k true dN dz bU dL bq)else((dK.f bU).bind fun Aj=>(if Aj=true then((ig.f k bU l1).bind fun wo=>(bC.j0 k (!wo) dN dz bU dL bq))else(bC.j0 k true dN dz bU dL bq)))))else(bC.j0 k true dN dz bU dL bq))
theorem bC.calls(k:Nat)(dN dz:Int)(bU dL:ByteArray)(iy:Option Addr)(eP:Nat)(bq:List (S36))(A1:Option Addr)(c1:Nat)(l1:List ByteArray)(r:Bool)(w:World)(xD:Kd.C k36 w iy bq.length bq)(xE:bq.length≤eP)(hr1:Kd.C Kd.string w A1 l1.length l1)(hc1:l1.length≤c1)(h:bC.f k dN dz bU dL bq l1=some r)(hS_:Go.Proofs.YtkcmghlhpbepcaaGreatDoor.Std w):
 Calls Tryz.prog 49 #[.agg #[.int .i64 dN,.int .i64 dz,.string bU,.string dL,.slice iy bq.length eP],.slice A1 l1.length c1] w fun e w'=>e=.returned (.bool r)∧Below w.heap.size w w':=by
 have HS_:=ak.mk hS_;clear hS_;have hu34:=Tryz.underlying34;have hu36:=Tryz.underlying36;have xF:=ak.mk xD;have Kt:=ak.mk xE;clear xD xE;have HR1:=ak.mk hr1;have HC1:=ak.mk hc1;clear hr1 hc1;have HB:=ak.mk (Below.refl w.heap.size w);have H:((kT.f k bU).bind fun t610=>(if t610=true then((iF.f k bU).bind fun t611=>(if t611=true then(bC.j0 k true dN dz bU dL bq)else((dK.f bU).bind fun Aj=>(if Aj=true then((ig.f k bU l1).bind fun wo=>(bC.j0 k (!wo) dN dz bU dL bq))else(bC.j0 k true dN dz bU dL bq)))))else(bC.j0 k true dN dz bU dL bq)))=some r:=h;clear h;have HC3:=ak.mk H;clear H;go_enter Tryz.func49,Tryz.ntmps49
 go_upto_region 1 with(first|((with_reducible refine cB (N:=2) rfl ?_);refine eG ?hg (N:=2) ?hd (cs:=#[.int .i64 dN,.int .i64 dz,.string bU,.string dL,.slice iy bq.length eP]) (t:=34) ?hr ?_;(case hd=>rfl);(case hg=>rfl);(case hr=>first|(go_simp;done)|(go_simp;rfl));intro eF hg w4 fK hb;have n0_:=ak.mk (aG bz hb);have n1_:=ak.mk (fK);have n2_:=ak.mk ((by rw[hg];exact(aR bz):w.heap.size≤eF));have n3_:=ak.mk ((by rw[hg];exact(aR bz):w.heap.size≤eF));clear HB;have HB:=n0_;have bS:=n1_;have GW609:=n2_;have iW:=n3_;clear n0_ n1_ n2_ n3_;clear hb fK hg))
 (try simp only[Act.put,List.setIfInBounds_toArray,List.set_cons_zero,List.set_cons_succ])
 go_cut [28] (fun v28 wc=>∃(kq:Nat) (x28_2:Bool),v28=.bool x28_2∧ak (bC.j0 kq x28_2 dN dz bU dL bq=some r)∧ak (kq≤k)∧ak (wc.heap[eF]?=some (.cells #[.int .i64 dN,.int .i64 dz,.string bU,.string dL,(.slice iy bq.length eP)] 34 (0,0)))∧ak (Below w.heap.size w wc))
 case first=>
  have H:=HC3.out;clear HC3;replace H:=Option.bind_eq_some_iff.mp H;obtain⟨t610,A50,H⟩:=H;replace H:(if t610=true then((iF.f k bU).bind fun t611=>(if t611=true then(bC.j0 k true dN dz bU dL bq)else((dK.f bU).bind fun Aj=>(if Aj=true then((ig.f k bU l1).bind fun wo=>(bC.j0 k (!wo) dN dz bU dL bq))else(bC.j0 k true dN dz bU dL bq)))))else(bC.j0 k true dN dz bU dL bq))=some r:=H;have A5:=ak.mk A50;clear A50
  by_cases c6:t610=true
  ·subst c6
   have H1:((iF.f k bU).bind fun t611=>(if t611=true then(bC.j0 k true dN dz bU dL bq)else((dK.f bU).bind fun Aj=>(if Aj=true then((ig.f k bU l1).bind fun wo=>(bC.j0 k (!wo) dN dz bU dL bq))else(bC.j0 k true dN dz bU dL bq)))))=some r:=by rw[if_pos rfl]at H;exact H
   clear H;have H:=H1;clear H1;replace H:=Option.bind_eq_some_iff.mp H;obtain⟨t611,A70,H⟩:=H;replace H:(if t611=true then(bC.j0 k true dN dz bU dL bq)else((dK.f bU).bind fun Aj=>(if Aj=true then((ig.f k bU l1).bind fun wo=>(bC.j0 k (!wo) dN dz bU dL bq))else(bC.j0 k true dN dz bU dL bq))))=some r:=H;have A7:=ak.mk A70;clear A70
   by_cases c8:t611=true
   ·subst c8
    have H1:(bC.j0 k true dN dz bU dL bq)=some r:=by rw[if_pos rfl]at H;exact H
    clear H;have H:=H1;clear H1;have H':=ak.mk H;clear H;have vL:w4.cell? ⟨eF,0,none⟩=some (.int .i64 dN):=(aC bS.out 0).trans rfl;have vM:w4.cell? ⟨eF,1,none⟩=some (.int .i64 dz):=(aC bS.out 1).trans rfl;have vN:w4.cell? ⟨eF,2,none⟩=some (.string bU):=(aC bS.out 2).trans rfl;have vO:w4.cell? ⟨eF,3,none⟩=some (.string dL):=(aC bS.out 3).trans rfl;have vP:w4.cell? ⟨eF,4,none⟩=some (.slice iy bq.length eP):=(aC bS.out 4).trans rfl;have vQ:=ay bS.out 0;have vR:=ay bS.out 1;have vS:=ay bS.out 2;have vT:=ay bS.out 3;have vU:=ay bS.out 4
    go_wp2_with(first|((with_reducible refine aZ (f:=30) rfl ?_);refine dI (some 9) rfl rfl Tryz.func30 (by kernel_rfl) rfl #[.string bU] rfl q'a ?_;(with_reducible refine(kT.calls k bU true _ A5.out).mono ?_);rintro e w' ⟨rfl,⟨nd,rfl⟩⟩;refine⟨_,rfl,?_⟩)|(go_at_call 34;(with_reducible refine(iF.calls k bU true _ A7.out).mono ?_);rintro e w10 ⟨rfl,hb⟩;have n0_:=ak.mk (dJ (g:=eF) (o:=.cells #[.int .i64 dN,.int .i64 dz,.string bU,.string dL,.slice iy bq.length eP] 34 (0,0)) (kz bS.out) hb);have n1_:=ak.mk (aG (bs iW.out) hb);clear bS;clear HB;have bS:=n0_;have HB:=n1_;clear n0_ n1_;(try clear hb);(try clear hb2);(try clear hk);(try clear hi)))
    go_meet
    case rel=>exact⟨_,(true),q'c,H',⟨by first|omega|exact Nat.le_refl _⟩,⟨by(with_reducible repeat(first|refine aT ?_ _|refine aY ?_ |refine aU ?_ _));exact bS.out⟩,⟨bs iW.out⟩⟩
   ·replace c8:=Bool.eq_false_iff.mpr c8
    subst c8;have H1:((dK.f bU).bind fun Aj=>(if Aj=true then((ig.f k bU l1).bind fun wo=>(bC.j0 k (!wo) dN dz bU dL bq))else(bC.j0 k true dN dz bU dL bq)))=some r:=by rw[if_neg (show¬(false=true) by decide)]at H;first|exact H|(simp only[eq_self]at H⊢;exact H)|(simp only[eq_self,if_true]at H⊢;exact H)
    clear H;have H:=H1;clear H1;replace H:=Option.bind_eq_some_iff.mp H;obtain⟨Aj,A110,H⟩:=H;replace H:(if Aj=true then((ig.f k bU l1).bind fun wo=>(bC.j0 k (!wo) dN dz bU dL bq))else(bC.j0 k true dN dz bU dL bq))=some r:=H;have A11:=ak.mk A110;clear A110
    by_cases c12:Aj=true
    ·subst c12
     have H1:((ig.f k bU l1).bind fun wo=>(bC.j0 k (!wo) dN dz bU dL bq))=some r:=by rw[if_pos rfl]at H;exact H
     clear H;have H:=H1;clear H1;replace H:=Option.bind_eq_some_iff.mp H;obtain⟨wo,A130,H⟩:=H;replace H:(bC.j0 k (!wo) dN dz bU dL bq)=some r:=H;have A13:=ak.mk A130;clear A130;have H':=ak.mk H;clear H;have rP:w4.cell? ⟨eF,0,none⟩=some (.int .i64 dN):=(aC bS.out 0).trans rfl;have rQ:w4.cell? ⟨eF,1,none⟩=some (.int .i64 dz):=(aC bS.out 1).trans rfl;have rR:w4.cell? ⟨eF,2,none⟩=some (.string bU):=(aC bS.out 2).trans rfl;have rT:w4.cell? ⟨eF,3,none⟩=some (.string dL):=(aC bS.out 3).trans rfl;have rU:w4.cell? ⟨eF,4,none⟩=some (.slice iy bq.length eP):=(aC bS.out 4).trans rfl;have rV:=ay bS.out 0;have rW:=ay bS.out 1;have rX:=ay bS.out 2;have rY:=ay bS.out 3;have rZ:=ay bS.out 4
     go_wp2_with(first|((with_reducible refine aZ (f:=30) rfl ?_);refine dI (some 9) rfl rfl Tryz.func30 (by kernel_rfl) rfl #[.string bU] rfl q'a ?_;(with_reducible refine(kT.calls k bU true _ A5.out).mono ?_);rintro e w' ⟨rfl,⟨nd,rfl⟩⟩;refine⟨_,rfl,?_⟩)|(go_at_call 34;(with_reducible refine(iF.calls k bU false _ A7.out).mono ?_);rintro e w15 ⟨rfl,hb⟩;have n0_:=ak.mk (dJ (g:=eF) (o:=.cells #[.int .i64 dN,.int .i64 dz,.string bU,.string dL,.slice iy bq.length eP] 34 (0,0)) (kz bS.out) hb);have n1_:=ak.mk (aG (bs iW.out) hb);clear bS;clear HB;have bS:=n0_;have HB:=n1_;clear n0_ n1_;(try clear hb);(try clear hb2);(try clear hk);(try clear hi);have vV:w15.cell? ⟨eF,0,none⟩=some (.int .i64 dN):=(aC bS.out 0).trans rfl;have vW:w15.cell? ⟨eF,1,none⟩=some (.int .i64 dz):=(aC bS.out 1).trans rfl;have yc:w15.cell? ⟨eF,2,none⟩=some (.string bU):=(aC bS.out 2).trans rfl;have yg:w15.cell? ⟨eF,3,none⟩=some (.string dL):=(aC bS.out 3).trans rfl;have yh:w15.cell? ⟨eF,4,none⟩=some (.slice iy bq.length eP):=(aC bS.out 4).trans rfl;have vX:=ay bS.out 0;have vY:=ay bS.out 1;have yj:=ay bS.out 2;have yu:=ay bS.out 3;have yw:=ay bS.out 4)|(go_at_call 47;(with_reducible refine(dK.calls bU true _ A11.out (Go.Proofs.YtkcmghlhpbepcaaGreatDoor.Std.below HS_.out (bs iW.out))).mono ?_);rintro e w17 ⟨rfl,hb⟩;have n0_:=ak.mk (dJ (g:=eF) (o:=.cells #[.int .i64 dN,.int .i64 dz,.string bU,.string dL,.slice iy bq.length eP] 34 (0,0)) (kz bS.out) hb);have n1_:=ak.mk (aG (bs iW.out) hb);clear bS;clear HB;have bS:=n0_;have HB:=n1_;clear n0_ n1_;(try clear hb);(try clear hb2);(try clear hk);(try clear hi);have vB:w17.cell? ⟨eF,0,none⟩=some (.int .i64 dN):=(aC bS.out 0).trans rfl;have vC:w17.cell? ⟨eF,1,none⟩=some (.int .i64 dz):=(aC bS.out 1).trans rfl;have vD:w17.cell? ⟨eF,2,none⟩=some (.string bU):=(aC bS.out 2).trans rfl;have vE:w17.cell? ⟨eF,3,none⟩=some (.string dL):=(aC bS.out 3).trans rfl;have vF:w17.cell? ⟨eF,4,none⟩=some (.slice iy bq.length eP):=(aC bS.out 4).trans rfl;have vG:=ay bS.out 0;have vH:=ay bS.out 1;have vI:=ay bS.out 2;have vJ:=ay bS.out 3;have vK:=ay bS.out 4)|(go_at_call 27;(with_reducible refine(ig.calls k bU _ _ l1 wo _ ?cO ?dG A13.out).mono ?_);(case cO=>exact cz (Kd.eD HR1.out HB.out));(case dG=>exact HC1.out);rintro e w19 ⟨rfl,hb⟩;have n0_:=ak.mk (dJ (g:=eF) (o:=.cells #[.int .i64 dN,.int .i64 dz,.string bU,.string dL,.slice iy bq.length eP] 34 (0,0)) (kz bS.out) hb);have n1_:=ak.mk (aG (bs iW.out) hb);clear bS;clear HB;have bS:=n0_;have HB:=n1_;clear n0_ n1_;(try clear hb);(try clear hb2);(try clear hk);(try clear hi)))
     go_meet
     case rel=>exact⟨_,(!wo),q'c,H',⟨by first|omega|exact Nat.le_refl _⟩,⟨by(with_reducible repeat(first|refine aT ?_ _|refine aY ?_ |refine aU ?_ _));exact bS.out⟩,⟨bs iW.out⟩⟩
    ·replace c12:=Bool.eq_false_iff.mpr c12
     subst c12;have H1:(bC.j0 k true dN dz bU dL bq)=some r:=by rw[if_neg (show¬(false=true) by decide)]at H;first|exact H|(simp only[eq_self]at H⊢;exact H)|(simp only[eq_self,if_true]at H⊢;exact H)
     clear H;have H:=H1;clear H1;have H':=ak.mk H;clear H;have Ow:w4.cell? ⟨eF,0,none⟩=some (.int .i64 dN):=(aC bS.out 0).trans rfl;have Ox:w4.cell? ⟨eF,1,none⟩=some (.int .i64 dz):=(aC bS.out 1).trans rfl;have Oy:w4.cell? ⟨eF,2,none⟩=some (.string bU):=(aC bS.out 2).trans rfl;have Oz:w4.cell? ⟨eF,3,none⟩=some (.string dL):=(aC bS.out 3).trans rfl;have OA:w4.cell? ⟨eF,4,none⟩=some (.slice iy bq.length eP):=(aC bS.out 4).trans rfl;have OB:=ay bS.out 0;have OC:=ay bS.out 1;have OD:=ay bS.out 2;have OE:=ay bS.out 3;have OG:=ay bS.out 4
     go_wp2_with(first|((with_reducible refine aZ (f:=30) rfl ?_);refine dI (some 9) rfl rfl Tryz.func30 (by kernel_rfl) rfl #[.string bU] rfl q'a ?_;(with_reducible refine(kT.calls k bU true _ A5.out).mono ?_);rintro e w' ⟨rfl,⟨nd,rfl⟩⟩;refine⟨_,rfl,?_⟩)|(go_at_call 34;(with_reducible refine(iF.calls k bU false _ A7.out).mono ?_);rintro e w21 ⟨rfl,hb⟩;have n0_:=ak.mk (dJ (g:=eF) (o:=.cells #[.int .i64 dN,.int .i64 dz,.string bU,.string dL,.slice iy bq.length eP] 34 (0,0)) (kz bS.out) hb);have n1_:=ak.mk (aG (bs iW.out) hb);clear bS;clear HB;have bS:=n0_;have HB:=n1_;clear n0_ n1_;(try clear hb);(try clear hb2);(try clear hk);(try clear hi);have GK:w21.cell? ⟨eF,0,none⟩=some (.int .i64 dN):=(aC bS.out 0).trans rfl;have GL:w21.cell? ⟨eF,1,none⟩=some (.int .i64 dz):=(aC bS.out 1).trans rfl;have GN:w21.cell? ⟨eF,2,none⟩=some (.string bU):=(aC bS.out 2).trans rfl;have GQ:w21.cell? ⟨eF,3,none⟩=some (.string dL):=(aC bS.out 3).trans rfl;have GR:w21.cell? ⟨eF,4,none⟩=some (.slice iy bq.length eP):=(aC bS.out 4).trans rfl;have GU:=ay bS.out 0;have GV:=ay bS.out 1;have GX:=ay bS.out 2;have GY:=ay bS.out 3;have GZ:=ay bS.out 4)|(go_at_call 47;(with_reducible refine(dK.calls bU false _ A11.out (Go.Proofs.YtkcmghlhpbepcaaGreatDoor.Std.below HS_.out (bs iW.out))).mono ?_);rintro e w23 ⟨rfl,hb⟩;have n0_:=ak.mk (dJ (g:=eF) (o:=.cells #[.int .i64 dN,.int .i64 dz,.string bU,.string dL,.slice iy bq.length eP] 34 (0,0)) (kz bS.out) hb);have n1_:=ak.mk (aG (bs iW.out) hb);clear bS;clear HB;have bS:=n0_;have HB:=n1_;clear n0_ n1_;(try clear hb);(try clear hb2);(try clear hk);(try clear hi)))
     go_meet
     case rel=>exact⟨_,(true),q'c,H',⟨by first|omega|exact Nat.le_refl _⟩,⟨by(with_reducible repeat(first|refine aT ?_ _|refine aY ?_ |refine aU ?_ _));exact bS.out⟩,⟨bs iW.out⟩⟩
  ·replace c6:=Bool.eq_false_iff.mpr c6
   subst c6;have H1:(bC.j0 k true dN dz bU dL bq)=some r:=by rw[if_neg (show¬(false=true) by decide)]at H;first|exact H|(simp only[eq_self]at H⊢;exact H)|(simp only[eq_self,if_true]at H⊢;exact H)
   clear H;have H:=H1;clear H1;have H':=ak.mk H;clear H;have OH:w4.cell? ⟨eF,0,none⟩=some (.int .i64 dN):=(aC bS.out 0).trans rfl;have OI:w4.cell? ⟨eF,1,none⟩=some (.int .i64 dz):=(aC bS.out 1).trans rfl;have OJ:w4.cell? ⟨eF,2,none⟩=some (.string bU):=(aC bS.out 2).trans rfl;have OL:w4.cell? ⟨eF,3,none⟩=some (.string dL):=(aC bS.out 3).trans rfl;have OM:w4.cell? ⟨eF,4,none⟩=some (.slice iy bq.length eP):=(aC bS.out 4).trans rfl;have OO:=ay bS.out 0;have OP:=ay bS.out 1;have OQ:=ay bS.out 2;have OT:=ay bS.out 3;have OU:=ay bS.out 4
   go_wp2_with(first|((with_reducible refine aZ (f:=30) rfl ?_);refine dI (some 9) rfl rfl Tryz.func30 (by kernel_rfl) rfl #[.string bU] rfl q'a ?_;(with_reducible refine(kT.calls k bU false _ A5.out).mono ?_);rintro e w' ⟨rfl,⟨nd,rfl⟩⟩;refine⟨_,rfl,?_⟩))
   go_meet
   case rel=>exact⟨_,(true),q'c,H',⟨by first|omega|exact Nat.le_refl _⟩,⟨by(with_reducible repeat(first|refine aT ?_ _|refine aY ?_ |refine aU ?_ _));exact bS.out⟩,⟨bs iW.out⟩⟩
 case rest=>
  clear HC3
  try clear c1
  try clear p2
  try clear c3
  try clear c4
  try clear c6
  try clear c8
  try clear c12
  try clear rP
  try clear rQ
  try clear rR
  try clear rT
  try clear rU
  try clear vV
  try clear vW
  try clear yc
  try clear yg
  try clear yh
  try clear vB
  try clear vC
  try clear vD
  try clear vE
  try clear vF
  try clear Ow
  try clear Ox
  try clear Oy
  try clear Oz
  try clear OA
  try clear GK
  try clear GL
  try clear GN
  try clear GQ
  try clear GR
  try clear OH
  try clear OI
  try clear OJ
  try clear OL
  try clear OM
  try clear vL
  try clear vM
  try clear vN
  try clear vO
  try clear vP
  try clear rV
  try clear rW
  try clear rX
  try clear rY
  try clear rZ
  try clear vX
  try clear vY
  try clear yj
  try clear yu
  try clear yw
  try clear vG
  try clear vH
  try clear vI
  try clear vJ
  try clear vK
  try clear OB
  try clear OC
  try clear OD
  try clear OE
  try clear OG
  try clear GU
  try clear GV
  try clear GX
  try clear GY
  try clear GZ
  try clear OO
  try clear OP
  try clear OQ
  try clear OT
  try clear OU
  try clear vQ
  try clear vR
  try clear vS
  try clear vT
  try clear vU
  obtain⟨kq,x28_2,rfl,HA,HJ2,bS,HB⟩:=hcut;cases kq with
  |zero=>exact absurd HA.out (by simp[bC.j0])
  |succ kj2=>
   have H:=HA.out;clear HA;simp only[bC.j0]at H
   by_cases c25:x28_2=true
   ·subst c25
    have H1:(some false)=some r:=by rw[if_pos rfl]at H;exact H
    clear H;have H:=H1;clear H1;obtain rfl:=Option.some.inj H;go_wp2;go_ret;exact⟨by first|rfl|(simp[aJ,aM]<;>rfl)|(simp[*,aJ,aM]<;>rfl),bs iW.out⟩
   ·replace c25:=Bool.eq_false_iff.mpr c25
    subst c25;have H1:(bC.l0 kj2 bq (bq.length:Int) 0)=some r:=by rw[if_neg (show¬(false=true) by decide)]at H;first|exact H|(simp only[eq_self]at H⊢;exact H)|(simp only[eq_self,if_true]at H⊢;exact H)
    clear H;have H:=H1;clear H1;have H':=ak.mk H;clear H;have C8:wc.cell? ⟨eF,0,none⟩=some (.int .i64 dN):=(aC bS.out 0).trans rfl;have C9:wc.cell? ⟨eF,1,none⟩=some (.int .i64 dz):=(aC bS.out 1).trans rfl;have OV:wc.cell? ⟨eF,2,none⟩=some (.string bU):=(aC bS.out 2).trans rfl;have OW:wc.cell? ⟨eF,3,none⟩=some (.string dL):=(aC bS.out 3).trans rfl;have OX:wc.cell? ⟨eF,4,none⟩=some (.slice iy bq.length eP):=(aC bS.out 4).trans rfl;have Da:=ay bS.out 0;have Db:=ay bS.out 1;have OY:=ay bS.out 2;have OZ:=ay bS.out 3;have O1:=ay bS.out 4;go_wp2
    go_loopg [32] kj2 (fun kq v32 w'=>∃(fB:Int),v32=.int .i64 fB∧ak (bC.l0 kq bq (bq.length:Int) fB=some r)∧ak (kq≤kj2)∧ak (w'.heap[eF]?=some (.cells #[.int .i64 dN,.int .i64 dz,.string bU,.string dL,(.slice iy bq.length eP)] 34 (0,0)))∧ak (Below w.heap.size w w'))
    case atStart=>exact⟨(0),q'c,H',⟨Nat.le_refl _⟩,⟨by(with_reducible repeat(first|refine aT ?_ _|refine aY ?_ |refine aU ?_ _));exact bS.out⟩,⟨bs iW.out⟩⟩
    case round=>
     clear H'
     try clear c1
     try clear c2
     try clear p2
     try clear c3
     try clear c4
     try clear c6
     try clear c8
     try clear c12
     try clear c25
     try clear rP
     try clear rQ
     try clear rR
     try clear rT
     try clear rU
     try clear vV
     try clear vW
     try clear yc
     try clear yg
     try clear yh
     try clear vB
     try clear vC
     try clear vD
     try clear vE
     try clear vF
     try clear Ow
     try clear Ox
     try clear Oy
     try clear Oz
     try clear OA
     try clear GK
     try clear GL
     try clear GN
     try clear GQ
     try clear GR
     try clear OH
     try clear OI
     try clear OJ
     try clear OL
     try clear OM
     try clear C8
     try clear C9
     try clear OV
     try clear OW
     try clear OX
     try clear vL
     try clear vM
     try clear vN
     try clear vO
     try clear vP
     try clear rV
     try clear rW
     try clear rX
     try clear rY
     try clear rZ
     try clear vX
     try clear vY
     try clear yj
     try clear yu
     try clear yw
     try clear vG
     try clear vH
     try clear vI
     try clear vJ
     try clear vK
     try clear OB
     try clear OC
     try clear OD
     try clear OE
     try clear OG
     try clear GU
     try clear GV
     try clear GX
     try clear GY
     try clear GZ
     try clear OO
     try clear OP
     try clear OQ
     try clear OT
     try clear OU
     try clear Da
     try clear Db
     try clear OY
     try clear OZ
     try clear O1
     try clear vQ
     try clear vR
     try clear vS
     try clear vT
     try clear vU
     try clear p2
     obtain⟨fB,rfl,HA,HK2,bS,HB⟩:=hrel;cases gk with
     |zero=>exact absurd HA.out (by simp[bC.l0])
     |succ k2=>
      have H:=HA.out;clear HA;simp only[bC.l0]at H
      by_cases c27:fB<(bq.length:Int)
      ·rw[if_pos c27]at H
       have c27b0:decide (fB<(bq.length:Int))=true:=decide_eq_true c27;clear c27
       by_cases c28:0≤fB
       ·rw[if_pos c28]at H
        have c28b0:decide (0≤fB)=true:=decide_eq_true c28;clear c28
        by_cases c29:fB<(bq.length:Int)
        ·rw[if_pos c29]at H
         have c29b0:decide (fB<(bq.length:Int))=true:=decide_eq_true c29;clear c29;replace H:=Option.bind_eq_some_iff.mp H;obtain⟨t616,A300,H⟩:=H;replace H:(if t616=true then((dK.f ((bg bq fB).f0)).bind fun t617=>(if t617=true then((dK.f ((bg bq fB).f1)).bind fun CK=>(if CK=true then(bC.l0 k2 bq (bq.length:Int) (wrap64 (fB+1)))else(some false)))else(some false)))else(some false))=some r:=H;have A30:=ak.mk A300;clear A300
         by_cases c31:t616=true
         ·subst c31
          have H1:((dK.f ((bg bq fB).f0)).bind fun t617=>(if t617=true then((dK.f ((bg bq fB).f1)).bind fun CK=>(if CK=true then(bC.l0 k2 bq (bq.length:Int) (wrap64 (fB+1)))else(some false)))else(some false)))=some r:=by rw[if_pos rfl]at H;exact H
          clear H;have H:=H1;clear H1;replace H:=Option.bind_eq_some_iff.mp H;obtain⟨t617,A320,H⟩:=H;replace H:(if t617=true then((dK.f ((bg bq fB).f1)).bind fun CK=>(if CK=true then(bC.l0 k2 bq (bq.length:Int) (wrap64 (fB+1)))else(some false)))else(some false))=some r:=H;have A32:=ak.mk A320;clear A320
          by_cases c33:t617=true
          ·subst c33
           have H1:((dK.f ((bg bq fB).f1)).bind fun CK=>(if CK=true then(bC.l0 k2 bq (bq.length:Int) (wrap64 (fB+1)))else(some false)))=some r:=by rw[if_pos rfl]at H;exact H
           clear H;have H:=H1;clear H1;replace H:=Option.bind_eq_some_iff.mp H;obtain⟨CK,A340,H⟩:=H;replace H:(if CK=true then(bC.l0 k2 bq (bq.length:Int) (wrap64 (fB+1)))else(some false))=some r:=H;have A34:=ak.mk A340;clear A340
           by_cases c35:CK=true
           ·subst c35
            have H1:(bC.l0 k2 bq (bq.length:Int) (wrap64 (fB+1)))=some r:=by rw[if_pos rfl]at H;exact H
            clear H;have H:=H1;clear H1;have H':=ak.mk H;clear H;have zn:0≤(fB:Int):=q'b;have zo:fB<(bq.length:Int):=q'b;obtain⟨nW,e614,kX,kY⟩:=lI xF.out fB zn zo;cases e614;replace kX:=(HB.out.cell (World.block_lt_of_cell? w _ kX)).trans kX;replace kY:=(HB.out.cell (World.block_lt_of_cell? w _ kY)).trans kY;replace zn:=eq_true zn;replace zo:=eq_true zo
            go_wp2_with(first|((with_reducible refine cB (N:=6) rfl ?_);refine eG ?hg (N:=6) ?hd (cs:=#[.string (⟨#[]⟩:ByteArray),.string (⟨#[]⟩:ByteArray)]) (t:=36) ?hr ?_;(case hd=>rfl);(case hg=>rfl);(case hr=>first|(go_simp;done)|(go_simp;rfl));intro jo hg w36 fK hb;have n0_:=ak.mk (dJ (g:=eF) (o:=.cells #[.int .i64 dN,.int .i64 dz,.string bU,.string dL,.slice (some nW) bq.length eP] 34 (0,0)) (kz bS.out) hb);have n1_:=ak.mk (aG (bs iW.out) hb);have n2_:=ak.mk (fK);have n3_:=ak.mk ((by rw[hg];exact(aR (bs iW.out)):w.heap.size≤jo));have n4_:=ak.mk ((by rw[hg];exact(aR (bs iW.out)):w.heap.size≤jo));have n5_:=ak.mk ((by rw[hg];exact Nat.ne_of_lt (gU (g:=eF) (o:=.cells #[.int .i64 dN,.int .i64 dz,.string bU,.string dL,.slice (some nW) bq.length eP] 34 (0,0)) (kz bS.out)):eF≠jo));have n6_:=ak.mk ((by rw[hg];exact Nat.ne_of_gt (gU (g:=eF) (o:=.cells #[.int .i64 dN,.int .i64 dz,.string bU,.string dL,.slice (some nW) bq.length eP] 34 (0,0)) (kz bS.out)):jo≠eF));clear bS;clear HB;have bS:=n0_;have HB:=n1_;have iO:=n2_;have GW615:=n3_;have qd:=n4_;have jR:=n5_;have o8:=n6_;clear n0_ n1_ n2_ n3_ n4_ n5_ n6_;clear hb fK hg;have hnb37:=o8.out;have hnc37:=jR.out;have hcz38_0:w36.cell? ⟨jo,0,none⟩=some (.string (⟨#[]⟩:ByteArray)):=(aC iO.out 0).trans rfl;have hcz38_1:w36.cell? ⟨jo,1,none⟩=some (.string (⟨#[]⟩:ByteArray)):=(aC iO.out 1).trans rfl;have hfz38_0:=ay iO.out 0;have hfz38_1:=ay iO.out 1)|((with_reducible refine aZ (f:=95) rfl ?_);refine dI (some 38) rfl rfl Tryz.func95 (by kernel_rfl) rfl #[.string ((bg bq fB).f0)] rfl q'a ?_;(with_reducible refine(nT.calls k2 ((bg bq fB).f0) true _ A30.out).mono ?_);rintro e w' ⟨rfl,⟨nd,rfl⟩⟩;refine⟨_,rfl,?_⟩)|(go_at_call 47;(with_reducible refine(dK.calls ((bg bq fB).f0) true _ A32.out (Go.Proofs.YtkcmghlhpbepcaaGreatDoor.Std.below HS_.out (by repeat(first|(with_reducible first|exact HB.out|apply bX|apply bE|apply dn|refine aH ?_ iW.out|refine aH ?_ qd.out)|exact HB.out)))).mono ?_);rintro e w39 ⟨rfl,hb⟩;have n0_:=ak.mk (dJ (g:=eF) (o:=.cells #[.int .i64 dN,.int .i64 dz,.string bU,.string dL,.slice (some nW) bq.length eP] 34 (0,0)) (by(with_reducible repeat(first|refine aT ?_ _|refine aY ?_ |refine aU ?_ _));refine lV ?_ jR.out _;(with_reducible repeat(first|refine aT ?_ _|refine aY ?_ |refine aU ?_ _));refine lV ?_ jR.out _;(with_reducible repeat(first|refine aT ?_ _|refine aY ?_ |refine aU ?_ _));exact bS.out) hb);have n1_:=ak.mk (dJ (g:=jo) (o:=.cells #[.string ((bg bq fB).f0),.string ((bg bq fB).f1)] 36 (0,0)) (by(with_reducible repeat(first|refine aT ?_ _|refine aY ?_ |refine aU ?_ _));refine bT (cs:=#[.string ((bg bq fB).f0),.string (⟨#[]⟩:ByteArray)]) ?_ 1 _ rfl;(with_reducible repeat(first|refine aT ?_ _|refine aY ?_ |refine aU ?_ _));refine bT (cs:=#[.string (⟨#[]⟩:ByteArray),.string (⟨#[]⟩:ByteArray)]) ?_ 0 _ rfl;(with_reducible repeat(first|refine aT ?_ _|refine aY ?_ |refine aU ?_ _));exact iO.out) hb);have n2_:=ak.mk (aG (by repeat(first|(with_reducible first|exact HB.out|apply bX|apply bE|apply dn|refine aH ?_ iW.out|refine aH ?_ qd.out)|exact HB.out)) hb);clear bS;clear iO;clear HB;have bS:=n0_;have iO:=n1_;have HB:=n2_;clear n0_ n1_ n2_;(try clear hb);(try clear hb2);(try clear hk);(try clear hi);have hcz40_0:w39.cell? ⟨jo,0,none⟩=some (.string ((bg bq fB).f0)):=(aC iO.out 0).trans rfl;have hcz40_1:w39.cell? ⟨jo,1,none⟩=some (.string ((bg bq fB).f1)):=(aC iO.out 1).trans rfl;have hfz40_0:=ay iO.out 0;have hfz40_1:=ay iO.out 1)|(go_at_call 47;(with_reducible refine(dK.calls ((bg bq fB).f1) true _ A34.out (Go.Proofs.YtkcmghlhpbepcaaGreatDoor.Std.below HS_.out (by repeat(first|(with_reducible first|exact HB.out|apply bX|apply bE|apply dn|refine aH ?_ iW.out|refine aH ?_ qd.out)|exact HB.out)))).mono ?_);rintro e w41 ⟨rfl,hb⟩;have n0_:=ak.mk (dJ (g:=eF) (o:=.cells #[.int .i64 dN,.int .i64 dz,.string bU,.string dL,.slice (some nW) bq.length eP] 34 (0,0)) (kz bS.out) hb);have n1_:=ak.mk (dJ (g:=jo) (o:=.cells #[.string ((bg bq fB).f0),.string ((bg bq fB).f1)] 36 (0,0)) (kz iO.out) hb);have n2_:=ak.mk (aG (by repeat(first|(with_reducible first|exact HB.out|apply bX|apply bE|apply dn|refine aH ?_ iW.out|refine aH ?_ qd.out)|exact HB.out)) hb);clear bS;clear iO;clear HB;have bS:=n0_;have iO:=n1_;have HB:=n2_;clear n0_ n1_ n2_;(try clear hb);(try clear hb2);(try clear hk);(try clear hi)))
            go_roundg k2
            case measure=>have:=HJ2.out;have:=HK2.out;omega
            case rel=>exact⟨(wrap64 (fB+1)),q'c,H',⟨by have:=HJ2.out;have:=HK2.out;omega⟩,⟨by(with_reducible repeat(first|refine aT ?_ _|refine aY ?_ |refine aU ?_ _));exact bS.out⟩,⟨by repeat(first|(with_reducible first|exact HB.out|apply bX|apply bE|apply dn|refine aH ?_ iW.out|refine aH ?_ qd.out)|exact HB.out)⟩⟩
           ·replace c35:=Bool.eq_false_iff.mpr c35
            subst c35;have H1:(some false)=some r:=by rw[if_neg (show¬(false=true) by decide)]at H;first|exact H|(simp only[eq_self]at H⊢;exact H)|(simp only[eq_self,if_true]at H⊢;exact H)
            clear H;have H:=H1;clear H1;obtain rfl:=Option.some.inj H;have zn:0≤(fB:Int):=q'b;have zo:fB<(bq.length:Int):=q'b;obtain⟨nW,e614,kX,kY⟩:=lI xF.out fB zn zo;cases e614;replace kX:=(HB.out.cell (World.block_lt_of_cell? w _ kX)).trans kX;replace kY:=(HB.out.cell (World.block_lt_of_cell? w _ kY)).trans kY;replace zn:=eq_true zn;replace zo:=eq_true zo
            go_wp2_with(first|((with_reducible refine cB (N:=6) rfl ?_);refine eG ?hg (N:=6) ?hd (cs:=#[.string (⟨#[]⟩:ByteArray),.string (⟨#[]⟩:ByteArray)]) (t:=36) ?hr ?_;(case hd=>rfl);(case hg=>rfl);(case hr=>first|(go_simp;done)|(go_simp;rfl));intro jo hg w42 fK hb;have n0_:=ak.mk (dJ (g:=eF) (o:=.cells #[.int .i64 dN,.int .i64 dz,.string bU,.string dL,.slice (some nW) bq.length eP] 34 (0,0)) (kz bS.out) hb);have n1_:=ak.mk (aG (bs iW.out) hb);have n2_:=ak.mk (fK);have n3_:=ak.mk ((by rw[hg];exact(aR (bs iW.out)):w.heap.size≤jo));have n4_:=ak.mk ((by rw[hg];exact(aR (bs iW.out)):w.heap.size≤jo));have n5_:=ak.mk ((by rw[hg];exact Nat.ne_of_lt (gU (g:=eF) (o:=.cells #[.int .i64 dN,.int .i64 dz,.string bU,.string dL,.slice (some nW) bq.length eP] 34 (0,0)) (kz bS.out)):eF≠jo));have n6_:=ak.mk ((by rw[hg];exact Nat.ne_of_gt (gU (g:=eF) (o:=.cells #[.int .i64 dN,.int .i64 dz,.string bU,.string dL,.slice (some nW) bq.length eP] 34 (0,0)) (kz bS.out)):jo≠eF));clear bS;clear HB;have bS:=n0_;have HB:=n1_;have iO:=n2_;have GW615:=n3_;have qd:=n4_;have jR:=n5_;have o8:=n6_;clear n0_ n1_ n2_ n3_ n4_ n5_ n6_;clear hb fK hg;have hnb43:=o8.out;have hnc43:=jR.out;have hcz44_0:w42.cell? ⟨jo,0,none⟩=some (.string (⟨#[]⟩:ByteArray)):=(aC iO.out 0).trans rfl;have hcz44_1:w42.cell? ⟨jo,1,none⟩=some (.string (⟨#[]⟩:ByteArray)):=(aC iO.out 1).trans rfl;have hfz44_0:=ay iO.out 0;have hfz44_1:=ay iO.out 1)|((with_reducible refine aZ (f:=95) rfl ?_);refine dI (some 38) rfl rfl Tryz.func95 (by kernel_rfl) rfl #[.string ((bg bq fB).f0)] rfl q'a ?_;(with_reducible refine(nT.calls k2 ((bg bq fB).f0) true _ A30.out).mono ?_);rintro e w' ⟨rfl,⟨nd,rfl⟩⟩;refine⟨_,rfl,?_⟩)|(go_at_call 47;(with_reducible refine(dK.calls ((bg bq fB).f0) true _ A32.out (Go.Proofs.YtkcmghlhpbepcaaGreatDoor.Std.below HS_.out (by repeat(first|(with_reducible first|exact HB.out|apply bX|apply bE|apply dn|refine aH ?_ iW.out|refine aH ?_ qd.out)|exact HB.out)))).mono ?_);rintro e w45 ⟨rfl,hb⟩;have n0_:=ak.mk (dJ (g:=eF) (o:=.cells #[.int .i64 dN,.int .i64 dz,.string bU,.string dL,.slice (some nW) bq.length eP] 34 (0,0)) (by(with_reducible repeat(first|refine aT ?_ _|refine aY ?_ |refine aU ?_ _));refine lV ?_ jR.out _;(with_reducible repeat(first|refine aT ?_ _|refine aY ?_ |refine aU ?_ _));refine lV ?_ jR.out _;(with_reducible repeat(first|refine aT ?_ _|refine aY ?_ |refine aU ?_ _));exact bS.out) hb);have n1_:=ak.mk (dJ (g:=jo) (o:=.cells #[.string ((bg bq fB).f0),.string ((bg bq fB).f1)] 36 (0,0)) (by(with_reducible repeat(first|refine aT ?_ _|refine aY ?_ |refine aU ?_ _));refine bT (cs:=#[.string ((bg bq fB).f0),.string (⟨#[]⟩:ByteArray)]) ?_ 1 _ rfl;(with_reducible repeat(first|refine aT ?_ _|refine aY ?_ |refine aU ?_ _));refine bT (cs:=#[.string (⟨#[]⟩:ByteArray),.string (⟨#[]⟩:ByteArray)]) ?_ 0 _ rfl;(with_reducible repeat(first|refine aT ?_ _|refine aY ?_ |refine aU ?_ _));exact iO.out) hb);have n2_:=ak.mk (aG (by repeat(first|(with_reducible first|exact HB.out|apply bX|apply bE|apply dn|refine aH ?_ iW.out|refine aH ?_ qd.out)|exact HB.out)) hb);clear bS;clear iO;clear HB;have bS:=n0_;have iO:=n1_;have HB:=n2_;clear n0_ n1_ n2_;(try clear hb);(try clear hb2);(try clear hk);(try clear hi);have hcz46_0:w45.cell? ⟨jo,0,none⟩=some (.string ((bg bq fB).f0)):=(aC iO.out 0).trans rfl;have hcz46_1:w45.cell? ⟨jo,1,none⟩=some (.string ((bg bq fB).f1)):=(aC iO.out 1).trans rfl;have hfz46_0:=ay iO.out 0;have hfz46_1:=ay iO.out 1)|(go_at_call 47;(with_reducible refine(dK.calls ((bg bq fB).f1) false _ A34.out (Go.Proofs.YtkcmghlhpbepcaaGreatDoor.Std.below HS_.out (by repeat(first|(with_reducible first|exact HB.out|apply bX|apply bE|apply dn|refine aH ?_ iW.out|refine aH ?_ qd.out)|exact HB.out)))).mono ?_);rintro e w47 ⟨rfl,hb⟩;have n0_:=ak.mk (dJ (g:=eF) (o:=.cells #[.int .i64 dN,.int .i64 dz,.string bU,.string dL,.slice (some nW) bq.length eP] 34 (0,0)) (kz bS.out) hb);have n1_:=ak.mk (dJ (g:=jo) (o:=.cells #[.string ((bg bq fB).f0),.string ((bg bq fB).f1)] 36 (0,0)) (kz iO.out) hb);have n2_:=ak.mk (aG (by repeat(first|(with_reducible first|exact HB.out|apply bX|apply bE|apply dn|refine aH ?_ iW.out|refine aH ?_ qd.out)|exact HB.out)) hb);clear bS;clear iO;clear HB;have bS:=n0_;have iO:=n1_;have HB:=n2_;clear n0_ n1_ n2_;(try clear hb);(try clear hb2);(try clear hk);(try clear hi)))
            go_ret;exact⟨by first|rfl|(simp[aJ,aM]<;>rfl)|(simp[*,aJ,aM]<;>rfl),by repeat(first|(with_reducible first|exact HB.out|apply bX|apply bE|apply dn|refine aH ?_ iW.out|refine aH ?_ qd.out)|exact HB.out)⟩
          ·replace c33:=Bool.eq_false_iff.mpr c33
           subst c33;have H1:(some false)=some r:=by rw[if_neg (show¬(false=true) by decide)]at H;first|exact H|(simp only[eq_self]at H⊢;exact H)|(simp only[eq_self,if_true]at H⊢;exact H)
           clear H;have H:=H1;clear H1;obtain rfl:=Option.some.inj H;have zn:0≤(fB:Int):=q'b;have zo:fB<(bq.length:Int):=q'b;obtain⟨nW,e614,kX,kY⟩:=lI xF.out fB zn zo;cases e614;replace kX:=(HB.out.cell (World.block_lt_of_cell? w _ kX)).trans kX;replace kY:=(HB.out.cell (World.block_lt_of_cell? w _ kY)).trans kY;replace zn:=eq_true zn;replace zo:=eq_true zo
           go_wp2_with(first|((with_reducible refine cB (N:=6) rfl ?_);refine eG ?hg (N:=6) ?hd (cs:=#[.string (⟨#[]⟩:ByteArray),.string (⟨#[]⟩:ByteArray)]) (t:=36) ?hr ?_;(case hd=>rfl);(case hg=>rfl);(case hr=>first|(go_simp;done)|(go_simp;rfl));intro jo hg w48 fK hb;have n0_:=ak.mk (dJ (g:=eF) (o:=.cells #[.int .i64 dN,.int .i64 dz,.string bU,.string dL,.slice (some nW) bq.length eP] 34 (0,0)) (kz bS.out) hb);have n1_:=ak.mk (aG (bs iW.out) hb);have n2_:=ak.mk (fK);have n3_:=ak.mk ((by rw[hg];exact(aR (bs iW.out)):w.heap.size≤jo));have n4_:=ak.mk ((by rw[hg];exact(aR (bs iW.out)):w.heap.size≤jo));have n5_:=ak.mk ((by rw[hg];exact Nat.ne_of_lt (gU (g:=eF) (o:=.cells #[.int .i64 dN,.int .i64 dz,.string bU,.string dL,.slice (some nW) bq.length eP] 34 (0,0)) (kz bS.out)):eF≠jo));have n6_:=ak.mk ((by rw[hg];exact Nat.ne_of_gt (gU (g:=eF) (o:=.cells #[.int .i64 dN,.int .i64 dz,.string bU,.string dL,.slice (some nW) bq.length eP] 34 (0,0)) (kz bS.out)):jo≠eF));clear bS;clear HB;have bS:=n0_;have HB:=n1_;have iO:=n2_;have GW615:=n3_;have qd:=n4_;have jR:=n5_;have o8:=n6_;clear n0_ n1_ n2_ n3_ n4_ n5_ n6_;clear hb fK hg;have hnb49:=o8.out;have hnc49:=jR.out;have hcz50_0:w48.cell? ⟨jo,0,none⟩=some (.string (⟨#[]⟩:ByteArray)):=(aC iO.out 0).trans rfl;have hcz50_1:w48.cell? ⟨jo,1,none⟩=some (.string (⟨#[]⟩:ByteArray)):=(aC iO.out 1).trans rfl;have hfz50_0:=ay iO.out 0;have hfz50_1:=ay iO.out 1)|((with_reducible refine aZ (f:=95) rfl ?_);refine dI (some 38) rfl rfl Tryz.func95 (by kernel_rfl) rfl #[.string ((bg bq fB).f0)] rfl q'a ?_;(with_reducible refine(nT.calls k2 ((bg bq fB).f0) true _ A30.out).mono ?_);rintro e w' ⟨rfl,⟨nd,rfl⟩⟩;refine⟨_,rfl,?_⟩)|(go_at_call 47;(with_reducible refine(dK.calls ((bg bq fB).f0) false _ A32.out (Go.Proofs.YtkcmghlhpbepcaaGreatDoor.Std.below HS_.out (by repeat(first|(with_reducible first|exact HB.out|apply bX|apply bE|apply dn|refine aH ?_ iW.out|refine aH ?_ qd.out)|exact HB.out)))).mono ?_);rintro e w51 ⟨rfl,hb⟩;have n0_:=ak.mk (dJ (g:=eF) (o:=.cells #[.int .i64 dN,.int .i64 dz,.string bU,.string dL,.slice (some nW) bq.length eP] 34 (0,0)) (by(with_reducible repeat(first|refine aT ?_ _|refine aY ?_ |refine aU ?_ _));refine lV ?_ jR.out _;(with_reducible repeat(first|refine aT ?_ _|refine aY ?_ |refine aU ?_ _));refine lV ?_ jR.out _;(with_reducible repeat(first|refine aT ?_ _|refine aY ?_ |refine aU ?_ _));exact bS.out) hb);have n1_:=ak.mk (dJ (g:=jo) (o:=.cells #[.string ((bg bq fB).f0),.string ((bg bq fB).f1)] 36 (0,0)) (by(with_reducible repeat(first|refine aT ?_ _|refine aY ?_ |refine aU ?_ _));refine bT (cs:=#[.string ((bg bq fB).f0),.string (⟨#[]⟩:ByteArray)]) ?_ 1 _ rfl;(with_reducible repeat(first|refine aT ?_ _|refine aY ?_ |refine aU ?_ _));refine bT (cs:=#[.string (⟨#[]⟩:ByteArray),.string (⟨#[]⟩:ByteArray)]) ?_ 0 _ rfl;(with_reducible repeat(first|refine aT ?_ _|refine aY ?_ |refine aU ?_ _));exact iO.out) hb);have n2_:=ak.mk (aG (by repeat(first|(with_reducible first|exact HB.out|apply bX|apply bE|apply dn|refine aH ?_ iW.out|refine aH ?_ qd.out)|exact HB.out)) hb);clear bS;clear iO;clear HB;have bS:=n0_;have iO:=n1_;have HB:=n2_;clear n0_ n1_ n2_;(try clear hb);(try clear hb2);(try clear hk);(try clear hi)))
           go_ret;exact⟨by first|rfl|(simp[aJ,aM]<;>rfl)|(simp[*,aJ,aM]<;>rfl),by repeat(first|(with_reducible first|exact HB.out|apply bX|apply bE|apply dn|refine aH ?_ iW.out|refine aH ?_ qd.out)|exact HB.out)⟩
         ·replace c31:=Bool.eq_false_iff.mpr c31
          subst c31;have H1:(some false)=some r:=by rw[if_neg (show¬(false=true) by decide)]at H;first|exact H|(simp only[eq_self]at H⊢;exact H)|(simp only[eq_self,if_true]at H⊢;exact H)
          clear H;have H:=H1;clear H1;obtain rfl:=Option.some.inj H;have zn:0≤(fB:Int):=q'b;have zo:fB<(bq.length:Int):=q'b;obtain⟨nW,e614,kX,kY⟩:=lI xF.out fB zn zo;cases e614;replace kX:=(HB.out.cell (World.block_lt_of_cell? w _ kX)).trans kX;replace kY:=(HB.out.cell (World.block_lt_of_cell? w _ kY)).trans kY;replace zn:=eq_true zn;replace zo:=eq_true zo
          go_wp2_with(first|((with_reducible refine cB (N:=6) rfl ?_);refine eG ?hg (N:=6) ?hd (cs:=#[.string (⟨#[]⟩:ByteArray),.string (⟨#[]⟩:ByteArray)]) (t:=36) ?hr ?_;(case hd=>rfl);(case hg=>rfl);(case hr=>first|(go_simp;done)|(go_simp;rfl));intro jo hg w52 fK hb;have n0_:=ak.mk (dJ (g:=eF) (o:=.cells #[.int .i64 dN,.int .i64 dz,.string bU,.string dL,.slice (some nW) bq.length eP] 34 (0,0)) (kz bS.out) hb);have n1_:=ak.mk (aG (bs iW.out) hb);have n2_:=ak.mk (fK);have n3_:=ak.mk ((by rw[hg];exact(aR (bs iW.out)):w.heap.size≤jo));have n4_:=ak.mk ((by rw[hg];exact(aR (bs iW.out)):w.heap.size≤jo));have n5_:=ak.mk ((by rw[hg];exact Nat.ne_of_lt (gU (g:=eF) (o:=.cells #[.int .i64 dN,.int .i64 dz,.string bU,.string dL,.slice (some nW) bq.length eP] 34 (0,0)) (kz bS.out)):eF≠jo));have n6_:=ak.mk ((by rw[hg];exact Nat.ne_of_gt (gU (g:=eF) (o:=.cells #[.int .i64 dN,.int .i64 dz,.string bU,.string dL,.slice (some nW) bq.length eP] 34 (0,0)) (kz bS.out)):jo≠eF));clear bS;clear HB;have bS:=n0_;have HB:=n1_;have iO:=n2_;have GW615:=n3_;have qd:=n4_;have jR:=n5_;have o8:=n6_;clear n0_ n1_ n2_ n3_ n4_ n5_ n6_;clear hb fK hg;have hnb53:=o8.out;have hnc53:=jR.out;have hcz54_0:w52.cell? ⟨jo,0,none⟩=some (.string (⟨#[]⟩:ByteArray)):=(aC iO.out 0).trans rfl;have hcz54_1:w52.cell? ⟨jo,1,none⟩=some (.string (⟨#[]⟩:ByteArray)):=(aC iO.out 1).trans rfl;have hfz54_0:=ay iO.out 0;have hfz54_1:=ay iO.out 1)|((with_reducible refine aZ (f:=95) rfl ?_);refine dI (some 38) rfl rfl Tryz.func95 (by kernel_rfl) rfl #[.string ((bg bq fB).f0)] rfl q'a ?_;(with_reducible refine(nT.calls k2 ((bg bq fB).f0) false _ A30.out).mono ?_);rintro e w' ⟨rfl,⟨nd,rfl⟩⟩;refine⟨_,rfl,?_⟩))
          go_ret;exact⟨by first|rfl|(simp[aJ,aM]<;>rfl)|(simp[*,aJ,aM]<;>rfl),by repeat(first|(with_reducible first|exact HB.out|apply bX|apply bE|apply dn|refine aH ?_ iW.out|refine aH ?_ qd.out)|exact HB.out)⟩
        ·rw[if_neg c29]at H
         exact absurd H (by simp)
       ·rw[if_neg c28]at H
        exact absurd H (by simp)
      ·rw[if_neg c27]at H
       have c27b0:decide (fB<(bq.length:Int))=false:=decide_eq_false c27;clear c27;obtain rfl:=Option.some.inj H;go_wp2;go_ret;exact⟨by first|rfl|(simp[aJ,aM]<;>rfl)|(simp[*,aJ,aM]<;>rfl),bs iW.out⟩
theorem eqA36(d:Nat)(w:World)(x0 y0 x1 y1:ByteArray):
 (Op.equalIn (d+2) 36 (.agg #[.string x0,.string x1]) (.agg #[.string y0,.string y1])).run Tryz.prog w=.ok (x0.toList==y0.toList&&(x1.toList==y1.toList)) w:=by
 refine eqA_of Tryz.underlying36 (by kernel_rfl) ?_;refine eqf_cons (by rfl) (by go_simp;rfl) (by go_simp;rfl) (by go_simp) ?_;exact eqf_last (by rfl) (by go_simp;rfl) (by go_simp;rfl) (by go_simp)
end Go.Proofs.aj.W7
