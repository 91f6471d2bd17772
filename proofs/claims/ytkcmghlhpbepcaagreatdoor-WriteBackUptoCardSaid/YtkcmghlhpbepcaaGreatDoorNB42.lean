/- Lemmas and walks, part 42. -/
import Derived.Test.YtkcmghlhpbepcaaGreatDoorNB41
set_option linter.unusedVariables false
set_option linter.unusedSimpArgs false
set_option maxHeartbeats 8000000
set_option maxRecDepth 100000
namespace Go.Proofs.aj.W7
open Go.RowKit Go.Proofs.ah.aD Go.Proofs.ah.bJ Go.Proofs.ah.bW
attribute [local go_sem] dB dD dR dS bZ cu dF dG
mutual
def bg.j0:Nat→Bool→Int→Int→Bt→Bt→List (S36)→Option (Bool)
 |0,_,_,_,_,_,_=>none
 |k+1,x28,x610000,x610001,x610002,x610003,Pp=>if x28=true then(some false)else(bg.l0 k Pp (Pp.length:Int) 0)
def bg.l0:Nat→List (S36)→Int→Int→Option (Bool)
 |0,_,_,_=>none
 |k+1,x30,x31,x32=>if x32<x31 then(if 0≤x32 then(if x32<(x30.length:Int)then((lG.f k ((bq x30 x32).f0)).bind fun t616=>(if t616=true then((dA.f ((bq x30 x32).f0)).bind fun t617=>(if t617=true then((dA.f ((bq x30 x32).f1)).bind fun Dj=>(if Dj=true then(bg.l0 k x30 x31 (wrap64 (x32+1)))else(some false)))else(some false)))else(some false)))else(none))else(none))else(some true)
end
def bg.f(k:Nat)(dO dz:Int)(bV dL:Bt)(bA:List (S36))(l1:List Bt):Option (Bool):=(jV.f k bV).bind fun t610=>(if t610=true then((gT.f k bV).bind fun t611=>(if t611=true then(bg.j0 k true dO dz bV dL bA)else((dA.f bV).bind fun AV=>(if AV=true then((gG.f k bV l1).bind fun wP=>(bg.j0 k (!wP) dO dz bV dL bA))else(bg.j0 k true dO dz bV dL bA)))))else(bg.j0 k true dO dz bV dL bA))
theorem bg.calls(k:Nat)(dO dz:Int)(bV dL:Bt)(iC:Option Addr)(eP:Nat)(bA:List (S36))(A1:Option Addr)(c1:Nat)(l1:List Bt)(r:Bool)(w:World)(xW:Kd.C k36 w iC bA.length bA)(xX:bA.length≤eP)(hr1:Kd.C Kd.string w A1 l1.length l1)(hc1:l1.length≤c1)(h:bg.f k dO dz bV dL bA l1=some r)(hS_:Go.Proofs.YtkcmghlhpbepcaaGreatDoor.Std w):
 Calls Tryz.prog 49 #[.agg #[.int .i64 dO,.int .i64 dz,.string bV,.string dL,.slice iC bA.length eP],.slice A1 l1.length c1] w fun e w'=>e=.returned (.bool r)∧Below w.heap.size w w':=by
 have HS_:=ak.mk hS_;clear hS_;have hu34:=Tryz.underlying34;have hu36:=Tryz.underlying36;have xY:=ak.mk xW;have K9:=ak.mk xX;clear xW xX;have HR1:=ak.mk hr1;have HC1:=ak.mk hc1;clear hr1 hc1;have HB:=ak.mk (Below.refl w.heap.size w);have H:((jV.f k bV).bind fun t610=>(if t610=true then((gT.f k bV).bind fun t611=>(if t611=true then(bg.j0 k true dO dz bV dL bA)else((dA.f bV).bind fun AV=>(if AV=true then((gG.f k bV l1).bind fun wP=>(bg.j0 k (!wP) dO dz bV dL bA))else(bg.j0 k true dO dz bV dL bA)))))else(bg.j0 k true dO dz bV dL bA)))=some r:=h;clear h;have HC3:=ak.mk H;clear H;go_enter Tryz.func49,Tryz.ntmps49
 go_upto_region 1 with(first|((with_reducible refine cO (N:=2) rfl ?_);refine eH ?hg (N:=2) ?hd (cs:=#[.int .i64 dO,.int .i64 dz,.string bV,.string dL,.slice iC bA.length eP]) (t:=34) ?hr ?_;(case hd=>rfl);(case hg=>rfl);(case hr=>first|(go_simp;done)|(go_simp;rfl));intro eG hg w4 fP hb;have bT:=ak.mk (fP);have GW609:=ak.mk ((by rw[hg];exact(aR bz):w.heap.size≤eG));have iZ:=ak.mk ((by rw[hg];exact(aR bz):w.heap.size≤eG));replace HB:=ak.mk (aG bz hb);clear hb fP hg))
 (try simp only[Act.put,List.setIfInBounds_toArray,List.set_cons_zero,List.set_cons_succ])
 go_cut [28] (fun v28 wc=>∃(kq:Nat) (x28_2:Bool),v28=.bool x28_2∧ak (bg.j0 kq x28_2 dO dz bV dL bA=some r)∧ak (kq≤k)∧ak (wc.heap[eG]?=some (.cells #[.int .i64 dO,.int .i64 dz,.string bV,.string dL,(.slice iC bA.length eP)] 34 (0,0)))∧ak (Below w.heap.size w wc))
 case first=>
  have H:=HC3.out;clear HC3;replace H:=Option.bind_eq_some_iff.mp H;obtain⟨t610,A50,H⟩:=H;replace H:(if t610=true then((gT.f k bV).bind fun t611=>(if t611=true then(bg.j0 k true dO dz bV dL bA)else((dA.f bV).bind fun AV=>(if AV=true then((gG.f k bV l1).bind fun wP=>(bg.j0 k (!wP) dO dz bV dL bA))else(bg.j0 k true dO dz bV dL bA)))))else(bg.j0 k true dO dz bV dL bA))=some r:=H;have A5:=ak.mk A50;clear A50
  by_cases c6:t610=true
  ·subst c6
   have H1:((gT.f k bV).bind fun t611=>(if t611=true then(bg.j0 k true dO dz bV dL bA)else((dA.f bV).bind fun AV=>(if AV=true then((gG.f k bV l1).bind fun wP=>(bg.j0 k (!wP) dO dz bV dL bA))else(bg.j0 k true dO dz bV dL bA)))))=some r:=by rw[if_pos rfl]at H;exact H
   clear H;have H:=H1;clear H1;replace H:=Option.bind_eq_some_iff.mp H;obtain⟨t611,A70,H⟩:=H;replace H:(if t611=true then(bg.j0 k true dO dz bV dL bA)else((dA.f bV).bind fun AV=>(if AV=true then((gG.f k bV l1).bind fun wP=>(bg.j0 k (!wP) dO dz bV dL bA))else(bg.j0 k true dO dz bV dL bA))))=some r:=H;have A7:=ak.mk A70;clear A70
   by_cases c8:t611=true
   ·subst c8
    have H1:(bg.j0 k true dO dz bV dL bA)=some r:=by rw[if_pos rfl]at H;exact H
    clear H;have H:=H1;clear H1;have H':=ak.mk H;clear H;have wh:w4.cell? ⟨eG,0,none⟩=some (.int .i64 dO):=(aC bT.out 0).trans rfl;have wm:w4.cell? ⟨eG,1,none⟩=some (.int .i64 dz):=(aC bT.out 1).trans rfl;have wo:w4.cell? ⟨eG,2,none⟩=some (.string bV):=(aC bT.out 2).trans rfl;have wu:w4.cell? ⟨eG,3,none⟩=some (.string dL):=(aC bT.out 3).trans rfl;have wz:w4.cell? ⟨eG,4,none⟩=some (.slice iC bA.length eP):=(aC bT.out 4).trans rfl;have wB:=ay bT.out 0;have wC:=ay bT.out 1;have wD:=ay bT.out 2;have wE:=ay bT.out 3;have wF:=ay bT.out 4
    go_wp2_with(first|((with_reducible refine aZ (f:=30) rfl ?_);refine dJ (some 9) rfl rfl Tryz.func30 (by kernel_rfl) rfl #[.string bV] rfl q'a ?_;(with_reducible refine(jV.calls k bV true _ A5.out).mono ?_);rintro e w' ⟨rfl,⟨nd,rfl⟩⟩;refine⟨_,rfl,?_⟩)|(go_at_call 34;(with_reducible refine(gT.calls k bV true _ A7.out).mono ?_);rintro e w10 ⟨rfl,hb⟩;replace bT:=ak.mk (dK (g:=eG) (o:=.cells #[.int .i64 dO,.int .i64 dz,.string bV,.string dL,.slice iC bA.length eP] 34 (0,0)) (kz bT.out) hb);replace HB:=ak.mk (aG (bs iZ.out) hb);(try clear hb);(try clear hb2);(try clear hk);(try clear hi)))
    go_meet
    case rel=>exact⟨_,(true),q'c,H',⟨by first|omega|exact Nat.le_refl _⟩,⟨by(with_reducible repeat(first|refine aT ?_ _|refine aY ?_ |refine aU ?_ _));exact bT.out⟩,⟨bs iZ.out⟩⟩
   ·replace c8:=Bool.eq_false_iff.mpr c8
    subst c8;have H1:((dA.f bV).bind fun AV=>(if AV=true then((gG.f k bV l1).bind fun wP=>(bg.j0 k (!wP) dO dz bV dL bA))else(bg.j0 k true dO dz bV dL bA)))=some r:=by rw[if_neg (show¬(false=true) by decide)]at H;first|exact H|(simp only[eq_self]at H⊢;exact H)|(simp only[eq_self,if_true]at H⊢;exact H)
    clear H;have H:=H1;clear H1;replace H:=Option.bind_eq_some_iff.mp H;obtain⟨AV,A110,H⟩:=H;replace H:(if AV=true then((gG.f k bV l1).bind fun wP=>(bg.j0 k (!wP) dO dz bV dL bA))else(bg.j0 k true dO dz bV dL bA))=some r:=H;have A11:=ak.mk A110;clear A110
    by_cases c12:AV=true
    ·subst c12
     have H1:((gG.f k bV l1).bind fun wP=>(bg.j0 k (!wP) dO dz bV dL bA))=some r:=by rw[if_pos rfl]at H;exact H
     clear H;have H:=H1;clear H1;replace H:=Option.bind_eq_some_iff.mp H;obtain⟨wP,A130,H⟩:=H;replace H:(bg.j0 k (!wP) dO dz bV dL bA)=some r:=H;have A13:=ak.mk A130;clear A130;have H':=ak.mk H;clear H;have sF:w4.cell? ⟨eG,0,none⟩=some (.int .i64 dO):=(aC bT.out 0).trans rfl;have sG:w4.cell? ⟨eG,1,none⟩=some (.int .i64 dz):=(aC bT.out 1).trans rfl;have sH:w4.cell? ⟨eG,2,none⟩=some (.string bV):=(aC bT.out 2).trans rfl;have sI:w4.cell? ⟨eG,3,none⟩=some (.string dL):=(aC bT.out 3).trans rfl;have sJ:w4.cell? ⟨eG,4,none⟩=some (.slice iC bA.length eP):=(aC bT.out 4).trans rfl;have sK:=ay bT.out 0;have sM:=ay bT.out 1;have sN:=ay bT.out 2;have sO:=ay bT.out 3;have sP:=ay bT.out 4
     go_wp2_with(first|((with_reducible refine aZ (f:=30) rfl ?_);refine dJ (some 9) rfl rfl Tryz.func30 (by kernel_rfl) rfl #[.string bV] rfl q'a ?_;(with_reducible refine(jV.calls k bV true _ A5.out).mono ?_);rintro e w' ⟨rfl,⟨nd,rfl⟩⟩;refine⟨_,rfl,?_⟩)|(go_at_call 34;(with_reducible refine(gT.calls k bV false _ A7.out).mono ?_);rintro e w15 ⟨rfl,hb⟩;replace bT:=ak.mk (dK (g:=eG) (o:=.cells #[.int .i64 dO,.int .i64 dz,.string bV,.string dL,.slice iC bA.length eP] 34 (0,0)) (kz bT.out) hb);replace HB:=ak.mk (aG (bs iZ.out) hb);(try clear hb);(try clear hb2);(try clear hk);(try clear hi);have wG:w15.cell? ⟨eG,0,none⟩=some (.int .i64 dO):=(aC bT.out 0).trans rfl;have wH:w15.cell? ⟨eG,1,none⟩=some (.int .i64 dz):=(aC bT.out 1).trans rfl;have yK:w15.cell? ⟨eG,2,none⟩=some (.string bV):=(aC bT.out 2).trans rfl;have yL:w15.cell? ⟨eG,3,none⟩=some (.string dL):=(aC bT.out 3).trans rfl;have yM:w15.cell? ⟨eG,4,none⟩=some (.slice iC bA.length eP):=(aC bT.out 4).trans rfl;have wI:=ay bT.out 0;have wJ:=ay bT.out 1;have yN:=ay bT.out 2;have yO:=ay bT.out 3;have yP:=ay bT.out 4)|(go_at_call 47;(with_reducible refine(dA.calls bV true _ A11.out (Go.Proofs.YtkcmghlhpbepcaaGreatDoor.Std.below HS_.out (bs iZ.out))).mono ?_);rintro e w17 ⟨rfl,hb⟩;replace bT:=ak.mk (dK (g:=eG) (o:=.cells #[.int .i64 dO,.int .i64 dz,.string bV,.string dL,.slice iC bA.length eP] 34 (0,0)) (kz bT.out) hb);replace HB:=ak.mk (aG (bs iZ.out) hb);(try clear hb);(try clear hb2);(try clear hk);(try clear hi);have vQ:w17.cell? ⟨eG,0,none⟩=some (.int .i64 dO):=(aC bT.out 0).trans rfl;have vR:w17.cell? ⟨eG,1,none⟩=some (.int .i64 dz):=(aC bT.out 1).trans rfl;have vS:w17.cell? ⟨eG,2,none⟩=some (.string bV):=(aC bT.out 2).trans rfl;have vT:w17.cell? ⟨eG,3,none⟩=some (.string dL):=(aC bT.out 3).trans rfl;have vU:w17.cell? ⟨eG,4,none⟩=some (.slice iC bA.length eP):=(aC bT.out 4).trans rfl;have vV:=ay bT.out 0;have vW:=ay bT.out 1;have vX:=ay bT.out 2;have vY:=ay bT.out 3;have vZ:=ay bT.out 4)|(go_at_call 27;(with_reducible refine(gG.calls k bV _ _ l1 wP _ ?cZ ?dH A13.out).mono ?_);(case cZ=>exact cz (Kd.eF HR1.out HB.out));(case dH=>exact HC1.out);rintro e w19 ⟨rfl,hb⟩;replace bT:=ak.mk (dK (g:=eG) (o:=.cells #[.int .i64 dO,.int .i64 dz,.string bV,.string dL,.slice iC bA.length eP] 34 (0,0)) (kz bT.out) hb);replace HB:=ak.mk (aG (bs iZ.out) hb);(try clear hb);(try clear hb2);(try clear hk);(try clear hi)))
     go_meet
     case rel=>exact⟨_,(!wP),q'c,H',⟨by first|omega|exact Nat.le_refl _⟩,⟨by(with_reducible repeat(first|refine aT ?_ _|refine aY ?_ |refine aU ?_ _));exact bT.out⟩,⟨bs iZ.out⟩⟩
    ·replace c12:=Bool.eq_false_iff.mpr c12
     subst c12;have H1:(bg.j0 k true dO dz bV dL bA)=some r:=by rw[if_neg (show¬(false=true) by decide)]at H;first|exact H|(simp only[eq_self]at H⊢;exact H)|(simp only[eq_self,if_true]at H⊢;exact H)
     clear H;have H:=H1;clear H1;have H':=ak.mk H;clear H;have Pq:w4.cell? ⟨eG,0,none⟩=some (.int .i64 dO):=(aC bT.out 0).trans rfl;have Pt:w4.cell? ⟨eG,1,none⟩=some (.int .i64 dz):=(aC bT.out 1).trans rfl;have Pv:w4.cell? ⟨eG,2,none⟩=some (.string bV):=(aC bT.out 2).trans rfl;have Pw:w4.cell? ⟨eG,3,none⟩=some (.string dL):=(aC bT.out 3).trans rfl;have Px:w4.cell? ⟨eG,4,none⟩=some (.slice iC bA.length eP):=(aC bT.out 4).trans rfl;have Py:=ay bT.out 0;have Pz:=ay bT.out 1;have PD:=ay bT.out 2;have PE:=ay bT.out 3;have PG:=ay bT.out 4
     go_wp2_with(first|((with_reducible refine aZ (f:=30) rfl ?_);refine dJ (some 9) rfl rfl Tryz.func30 (by kernel_rfl) rfl #[.string bV] rfl q'a ?_;(with_reducible refine(jV.calls k bV true _ A5.out).mono ?_);rintro e w' ⟨rfl,⟨nd,rfl⟩⟩;refine⟨_,rfl,?_⟩)|(go_at_call 34;(with_reducible refine(gT.calls k bV false _ A7.out).mono ?_);rintro e w21 ⟨rfl,hb⟩;replace bT:=ak.mk (dK (g:=eG) (o:=.cells #[.int .i64 dO,.int .i64 dz,.string bV,.string dL,.slice iC bA.length eP] 34 (0,0)) (kz bT.out) hb);replace HB:=ak.mk (aG (bs iZ.out) hb);(try clear hb);(try clear hb2);(try clear hk);(try clear hi);have H9:w21.cell? ⟨eG,0,none⟩=some (.int .i64 dO):=(aC bT.out 0).trans rfl;have Ia:w21.cell? ⟨eG,1,none⟩=some (.int .i64 dz):=(aC bT.out 1).trans rfl;have Ib:w21.cell? ⟨eG,2,none⟩=some (.string bV):=(aC bT.out 2).trans rfl;have Ic:w21.cell? ⟨eG,3,none⟩=some (.string dL):=(aC bT.out 3).trans rfl;have Ie:w21.cell? ⟨eG,4,none⟩=some (.slice iC bA.length eP):=(aC bT.out 4).trans rfl;have Ig:=ay bT.out 0;have Ih:=ay bT.out 1;have Ii:=ay bT.out 2;have Ij:=ay bT.out 3;have Ik:=ay bT.out 4)|(go_at_call 47;(with_reducible refine(dA.calls bV false _ A11.out (Go.Proofs.YtkcmghlhpbepcaaGreatDoor.Std.below HS_.out (bs iZ.out))).mono ?_);rintro e w23 ⟨rfl,hb⟩;replace bT:=ak.mk (dK (g:=eG) (o:=.cells #[.int .i64 dO,.int .i64 dz,.string bV,.string dL,.slice iC bA.length eP] 34 (0,0)) (kz bT.out) hb);replace HB:=ak.mk (aG (bs iZ.out) hb);(try clear hb);(try clear hb2);(try clear hk);(try clear hi)))
     go_meet
     case rel=>exact⟨_,(true),q'c,H',⟨by first|omega|exact Nat.le_refl _⟩,⟨by(with_reducible repeat(first|refine aT ?_ _|refine aY ?_ |refine aU ?_ _));exact bT.out⟩,⟨bs iZ.out⟩⟩
  ·replace c6:=Bool.eq_false_iff.mpr c6
   subst c6;have H1:(bg.j0 k true dO dz bV dL bA)=some r:=by rw[if_neg (show¬(false=true) by decide)]at H;first|exact H|(simp only[eq_self]at H⊢;exact H)|(simp only[eq_self,if_true]at H⊢;exact H)
   clear H;have H:=H1;clear H1;have H':=ak.mk H;clear H;have PI:w4.cell? ⟨eG,0,none⟩=some (.int .i64 dO):=(aC bT.out 0).trans rfl;have PK:w4.cell? ⟨eG,1,none⟩=some (.int .i64 dz):=(aC bT.out 1).trans rfl;have PL:w4.cell? ⟨eG,2,none⟩=some (.string bV):=(aC bT.out 2).trans rfl;have PN:w4.cell? ⟨eG,3,none⟩=some (.string dL):=(aC bT.out 3).trans rfl;have PO:w4.cell? ⟨eG,4,none⟩=some (.slice iC bA.length eP):=(aC bT.out 4).trans rfl;have PS:=ay bT.out 0;have PU:=ay bT.out 1;have PV:=ay bT.out 2;have PW:=ay bT.out 3;have PX:=ay bT.out 4
   go_wp2_with(first|((with_reducible refine aZ (f:=30) rfl ?_);refine dJ (some 9) rfl rfl Tryz.func30 (by kernel_rfl) rfl #[.string bV] rfl q'a ?_;(with_reducible refine(jV.calls k bV false _ A5.out).mono ?_);rintro e w' ⟨rfl,⟨nd,rfl⟩⟩;refine⟨_,rfl,?_⟩))
   go_meet
   case rel=>exact⟨_,(true),q'c,H',⟨by first|omega|exact Nat.le_refl _⟩,⟨by(with_reducible repeat(first|refine aT ?_ _|refine aY ?_ |refine aU ?_ _));exact bT.out⟩,⟨bs iZ.out⟩⟩
 case rest=>
  clear HC3
  try clear c1
  try clear p2
  try clear c3
  try clear c4
  try clear c6
  try clear c8
  try clear c12
  try clear sF
  try clear sG
  try clear sH
  try clear sI
  try clear sJ
  try clear wG
  try clear wH
  try clear yK
  try clear yL
  try clear yM
  try clear vQ
  try clear vR
  try clear vS
  try clear vT
  try clear vU
  try clear Pq
  try clear Pt
  try clear Pv
  try clear Pw
  try clear Px
  try clear H9
  try clear Ia
  try clear Ib
  try clear Ic
  try clear Ie
  try clear PI
  try clear PK
  try clear PL
  try clear PN
  try clear PO
  try clear wh
  try clear wm
  try clear wo
  try clear wu
  try clear wz
  try clear sK
  try clear sM
  try clear sN
  try clear sO
  try clear sP
  try clear wI
  try clear wJ
  try clear yN
  try clear yO
  try clear yP
  try clear vV
  try clear vW
  try clear vX
  try clear vY
  try clear vZ
  try clear Py
  try clear Pz
  try clear PD
  try clear PE
  try clear PG
  try clear Ig
  try clear Ih
  try clear Ii
  try clear Ij
  try clear Ik
  try clear PS
  try clear PU
  try clear PV
  try clear PW
  try clear PX
  try clear wB
  try clear wC
  try clear wD
  try clear wE
  try clear wF
  obtain⟨kq,x28_2,rfl,HA,HJ2,bT,HB⟩:=hcut;cases kq with
  |zero=>exact absurd HA.out (by simp[bg.j0])
  |succ kj2=>
   have H:=HA.out;clear HA;simp only[bg.j0]at H
   by_cases c25:x28_2=true
   ·subst c25
    have H1:(some false)=some r:=by rw[if_pos rfl]at H;exact H
    clear H;have H:=H1;clear H1;obtain rfl:=Option.some.inj H;go_wp2;go_ret;exact⟨by first|rfl|(simp[aJ,aM]<;>rfl)|(simp[*,aJ,aM]<;>rfl),bs iZ.out⟩
   ·replace c25:=Bool.eq_false_iff.mpr c25
    subst c25;have H1:(bg.l0 kj2 bA (bA.length:Int) 0)=some r:=by rw[if_neg (show¬(false=true) by decide)]at H;first|exact H|(simp only[eq_self]at H⊢;exact H)|(simp only[eq_self,if_true]at H⊢;exact H)
    clear H;have H:=H1;clear H1;have H':=ak.mk H;clear H;have Dw:wc.cell? ⟨eG,0,none⟩=some (.int .i64 dO):=(aC bT.out 0).trans rfl;have Dx:wc.cell? ⟨eG,1,none⟩=some (.int .i64 dz):=(aC bT.out 1).trans rfl;have PY:wc.cell? ⟨eG,2,none⟩=some (.string bV):=(aC bT.out 2).trans rfl;have PZ:wc.cell? ⟨eG,3,none⟩=some (.string dL):=(aC bT.out 3).trans rfl;have P5:wc.cell? ⟨eG,4,none⟩=some (.slice iC bA.length eP):=(aC bT.out 4).trans rfl;have Dy:=ay bT.out 0;have Dz:=ay bT.out 1;have P6:=ay bT.out 2;have P7:=ay bT.out 3;have P8:=ay bT.out 4;go_wp2
    go_loopg [32] kj2 (fun kq v32 w'=>∃(fC:Int),v32=.int .i64 fC∧ak (bg.l0 kq bA (bA.length:Int) fC=some r)∧ak (kq≤kj2)∧ak (w'.heap[eG]?=some (.cells #[.int .i64 dO,.int .i64 dz,.string bV,.string dL,(.slice iC bA.length eP)] 34 (0,0)))∧ak (Below w.heap.size w w'))
    case atStart=>exact⟨(0),q'c,H',⟨Nat.le_refl _⟩,⟨by(with_reducible repeat(first|refine aT ?_ _|refine aY ?_ |refine aU ?_ _));exact bT.out⟩,⟨bs iZ.out⟩⟩
    case round=>
     clear H'
     try clear c1
     try clear c2
     try clear p2
     try clear c3
     try clear c4
     try clear c6
     try clear c8
     try clear c12
     try clear c25
     try clear sF
     try clear sG
     try clear sH
     try clear sI
     try clear sJ
     try clear wG
     try clear wH
     try clear yK
     try clear yL
     try clear yM
     try clear vQ
     try clear vR
     try clear vS
     try clear vT
     try clear vU
     try clear Pq
     try clear Pt
     try clear Pv
     try clear Pw
     try clear Px
     try clear H9
     try clear Ia
     try clear Ib
     try clear Ic
     try clear Ie
     try clear PI
     try clear PK
     try clear PL
     try clear PN
     try clear PO
     try clear Dw
     try clear Dx
     try clear PY
     try clear PZ
     try clear P5
     try clear wh
     try clear wm
     try clear wo
     try clear wu
     try clear wz
     try clear sK
     try clear sM
     try clear sN
     try clear sO
     try clear sP
     try clear wI
     try clear wJ
     try clear yN
     try clear yO
     try clear yP
     try clear vV
     try clear vW
     try clear vX
     try clear vY
     try clear vZ
     try clear Py
     try clear Pz
     try clear PD
     try clear PE
     try clear PG
     try clear Ig
     try clear Ih
     try clear Ii
     try clear Ij
     try clear Ik
     try clear PS
     try clear PU
     try clear PV
     try clear PW
     try clear PX
     try clear Dy
     try clear Dz
     try clear P6
     try clear P7
     try clear P8
     try clear wB
     try clear wC
     try clear wD
     try clear wE
     try clear wF
     try clear p2
     obtain⟨fC,rfl,HA,HK2,bT,HB⟩:=hrel;cases gk with
     |zero=>exact absurd HA.out (by simp[bg.l0])
     |succ k2=>
      have H:=HA.out;clear HA;simp only[bg.l0]at H
      by_cases c27:fC<(bA.length:Int)
      ·rw[if_pos c27]at H
       have c27b0:decide (fC<(bA.length:Int))=true:=decide_eq_true c27;clear c27
       by_cases c28:0≤fC
       ·rw[if_pos c28]at H
        have c28b0:decide (0≤fC)=true:=decide_eq_true c28;clear c28
        by_cases c29:fC<(bA.length:Int)
        ·rw[if_pos c29]at H
         have c29b0:decide (fC<(bA.length:Int))=true:=decide_eq_true c29;clear c29;replace H:=Option.bind_eq_some_iff.mp H;obtain⟨t616,A300,H⟩:=H;replace H:(if t616=true then((dA.f ((bq bA fC).f0)).bind fun t617=>(if t617=true then((dA.f ((bq bA fC).f1)).bind fun Dj=>(if Dj=true then(bg.l0 k2 bA (bA.length:Int) (wrap64 (fC+1)))else(some false)))else(some false)))else(some false))=some r:=H;have A30:=ak.mk A300;clear A300
         by_cases c31:t616=true
         ·subst c31
          have H1:((dA.f ((bq bA fC).f0)).bind fun t617=>(if t617=true then((dA.f ((bq bA fC).f1)).bind fun Dj=>(if Dj=true then(bg.l0 k2 bA (bA.length:Int) (wrap64 (fC+1)))else(some false)))else(some false)))=some r:=by rw[if_pos rfl]at H;exact H
          clear H;have H:=H1;clear H1;replace H:=Option.bind_eq_some_iff.mp H;obtain⟨t617,A320,H⟩:=H;replace H:(if t617=true then((dA.f ((bq bA fC).f1)).bind fun Dj=>(if Dj=true then(bg.l0 k2 bA (bA.length:Int) (wrap64 (fC+1)))else(some false)))else(some false))=some r:=H;have A32:=ak.mk A320;clear A320
          by_cases c33:t617=true
          ·subst c33
           have H1:((dA.f ((bq bA fC).f1)).bind fun Dj=>(if Dj=true then(bg.l0 k2 bA (bA.length:Int) (wrap64 (fC+1)))else(some false)))=some r:=by rw[if_pos rfl]at H;exact H
           clear H;have H:=H1;clear H1;replace H:=Option.bind_eq_some_iff.mp H;obtain⟨Dj,A340,H⟩:=H;replace H:(if Dj=true then(bg.l0 k2 bA (bA.length:Int) (wrap64 (fC+1)))else(some false))=some r:=H;have A34:=ak.mk A340;clear A340
           by_cases c35:Dj=true
           ·subst c35
            have H1:(bg.l0 k2 bA (bA.length:Int) (wrap64 (fC+1)))=some r:=by rw[if_pos rfl]at H;exact H
            clear H;have H:=H1;clear H1;have H':=ak.mk H;clear H;have zM:0≤(fC:Int):=q'b;have zN:fC<(bA.length:Int):=q'b;obtain⟨oz,e614,lH,lI⟩:=lY xY.out fC zM zN;cases e614;replace lH:=(HB.out.cell (World.block_lt_of_cell? w _ lH)).trans lH;replace lI:=(HB.out.cell (World.block_lt_of_cell? w _ lI)).trans lI;replace zM:=eq_true zM;replace zN:=eq_true zN
            go_wp2_with(first|((with_reducible refine cO (N:=6) rfl ?_);refine eH ?hg (N:=6) ?hd (cs:=#[.string (⟨#[]⟩:Bt),.string (⟨#[]⟩:Bt)]) (t:=36) ?hr ?_;(case hd=>rfl);(case hg=>rfl);(case hr=>first|(go_simp;done)|(go_simp;rfl));intro jv hg w36 fP hb;have iR:=ak.mk (fP);have GW615:=ak.mk ((by rw[hg];exact(aR (bs iZ.out)):w.heap.size≤jv));have qx:=ak.mk ((by rw[hg];exact(aR (bs iZ.out)):w.heap.size≤jv));have jY:=ak.mk ((by rw[hg];exact Nat.ne_of_lt (gZ (g:=eG) (o:=.cells #[.int .i64 dO,.int .i64 dz,.string bV,.string dL,.slice (some oz) bA.length eP] 34 (0,0)) (kz bT.out)):eG≠jv));have pK:=ak.mk ((by rw[hg];exact Nat.ne_of_gt (gZ (g:=eG) (o:=.cells #[.int .i64 dO,.int .i64 dz,.string bV,.string dL,.slice (some oz) bA.length eP] 34 (0,0)) (kz bT.out)):jv≠eG));replace bT:=ak.mk (dK (g:=eG) (o:=.cells #[.int .i64 dO,.int .i64 dz,.string bV,.string dL,.slice (some oz) bA.length eP] 34 (0,0)) (kz bT.out) hb);replace HB:=ak.mk (aG (bs iZ.out) hb);clear hb fP hg;have hnb37:=pK.out;have hnc37:=jY.out;have hcz38_0:w36.cell? ⟨jv,0,none⟩=some (.string (⟨#[]⟩:Bt)):=(aC iR.out 0).trans rfl;have hcz38_1:w36.cell? ⟨jv,1,none⟩=some (.string (⟨#[]⟩:Bt)):=(aC iR.out 1).trans rfl;have hfz38_0:=ay iR.out 0;have hfz38_1:=ay iR.out 1)|((with_reducible refine aZ (f:=95) rfl ?_);refine dJ (some 38) rfl rfl Tryz.func95 (by kernel_rfl) rfl #[.string ((bq bA fC).f0)] rfl q'a ?_;(with_reducible refine(lG.calls k2 ((bq bA fC).f0) true _ A30.out).mono ?_);rintro e w' ⟨rfl,⟨nd,rfl⟩⟩;refine⟨_,rfl,?_⟩)|(go_at_call 47;(with_reducible refine(dA.calls ((bq bA fC).f0) true _ A32.out (Go.Proofs.YtkcmghlhpbepcaaGreatDoor.Std.below HS_.out (by repeat(first|(with_reducible first|exact HB.out|apply bY|apply bE|apply dn|refine aH ?_ iZ.out|refine aH ?_ qx.out)|exact HB.out)))).mono ?_);rintro e w39 ⟨rfl,hb⟩;replace bT:=ak.mk (dK (g:=eG) (o:=.cells #[.int .i64 dO,.int .i64 dz,.string bV,.string dL,.slice (some oz) bA.length eP] 34 (0,0)) (by(with_reducible repeat(first|refine aT ?_ _|refine aY ?_ |refine aU ?_ _));refine mE ?_ jY.out _;(with_reducible repeat(first|refine aT ?_ _|refine aY ?_ |refine aU ?_ _));refine mE ?_ jY.out _;(with_reducible repeat(first|refine aT ?_ _|refine aY ?_ |refine aU ?_ _));exact bT.out) hb);replace iR:=ak.mk (dK (g:=jv) (o:=.cells #[.string ((bq bA fC).f0),.string ((bq bA fC).f1)] 36 (0,0)) (by(with_reducible repeat(first|refine aT ?_ _|refine aY ?_ |refine aU ?_ _));refine bU (cs:=#[.string ((bq bA fC).f0),.string (⟨#[]⟩:Bt)]) ?_ 1 _ rfl;(with_reducible repeat(first|refine aT ?_ _|refine aY ?_ |refine aU ?_ _));refine bU (cs:=#[.string (⟨#[]⟩:Bt),.string (⟨#[]⟩:Bt)]) ?_ 0 _ rfl;(with_reducible repeat(first|refine aT ?_ _|refine aY ?_ |refine aU ?_ _));exact iR.out) hb);replace HB:=ak.mk (aG (by repeat(first|(with_reducible first|exact HB.out|apply bY|apply bE|apply dn|refine aH ?_ iZ.out|refine aH ?_ qx.out)|exact HB.out)) hb);(try clear hb);(try clear hb2);(try clear hk);(try clear hi);have hcz40_0:w39.cell? ⟨jv,0,none⟩=some (.string ((bq bA fC).f0)):=(aC iR.out 0).trans rfl;have hcz40_1:w39.cell? ⟨jv,1,none⟩=some (.string ((bq bA fC).f1)):=(aC iR.out 1).trans rfl;have hfz40_0:=ay iR.out 0;have hfz40_1:=ay iR.out 1)|(go_at_call 47;(with_reducible refine(dA.calls ((bq bA fC).f1) true _ A34.out (Go.Proofs.YtkcmghlhpbepcaaGreatDoor.Std.below HS_.out (by repeat(first|(with_reducible first|exact HB.out|apply bY|apply bE|apply dn|refine aH ?_ iZ.out|refine aH ?_ qx.out)|exact HB.out)))).mono ?_);rintro e w41 ⟨rfl,hb⟩;replace bT:=ak.mk (dK (g:=eG) (o:=.cells #[.int .i64 dO,.int .i64 dz,.string bV,.string dL,.slice (some oz) bA.length eP] 34 (0,0)) (kz bT.out) hb);replace iR:=ak.mk (dK (g:=jv) (o:=.cells #[.string ((bq bA fC).f0),.string ((bq bA fC).f1)] 36 (0,0)) (kz iR.out) hb);replace HB:=ak.mk (aG (by repeat(first|(with_reducible first|exact HB.out|apply bY|apply bE|apply dn|refine aH ?_ iZ.out|refine aH ?_ qx.out)|exact HB.out)) hb);(try clear hb);(try clear hb2);(try clear hk);(try clear hi)))
            go_roundg k2
            case measure=>have:=HJ2.out;have:=HK2.out;omega
            case rel=>exact⟨(wrap64 (fC+1)),q'c,H',⟨by have:=HJ2.out;have:=HK2.out;omega⟩,⟨by(with_reducible repeat(first|refine aT ?_ _|refine aY ?_ |refine aU ?_ _));exact bT.out⟩,⟨by repeat(first|(with_reducible first|exact HB.out|apply bY|apply bE|apply dn|refine aH ?_ iZ.out|refine aH ?_ qx.out)|exact HB.out)⟩⟩
           ·replace c35:=Bool.eq_false_iff.mpr c35
            subst c35;have H1:(some false)=some r:=by rw[if_neg (show¬(false=true) by decide)]at H;first|exact H|(simp only[eq_self]at H⊢;exact H)|(simp only[eq_self,if_true]at H⊢;exact H)
            clear H;have H:=H1;clear H1;obtain rfl:=Option.some.inj H;have zM:0≤(fC:Int):=q'b;have zN:fC<(bA.length:Int):=q'b;obtain⟨oz,e614,lH,lI⟩:=lY xY.out fC zM zN;cases e614;replace lH:=(HB.out.cell (World.block_lt_of_cell? w _ lH)).trans lH;replace lI:=(HB.out.cell (World.block_lt_of_cell? w _ lI)).trans lI;replace zM:=eq_true zM;replace zN:=eq_true zN
            go_wp2_with(first|((with_reducible refine cO (N:=6) rfl ?_);refine eH ?hg (N:=6) ?hd (cs:=#[.string (⟨#[]⟩:Bt),.string (⟨#[]⟩:Bt)]) (t:=36) ?hr ?_;(case hd=>rfl);(case hg=>rfl);(case hr=>first|(go_simp;done)|(go_simp;rfl));intro jv hg w42 fP hb;have iR:=ak.mk (fP);have GW615:=ak.mk ((by rw[hg];exact(aR (bs iZ.out)):w.heap.size≤jv));have qx:=ak.mk ((by rw[hg];exact(aR (bs iZ.out)):w.heap.size≤jv));have jY:=ak.mk ((by rw[hg];exact Nat.ne_of_lt (gZ (g:=eG) (o:=.cells #[.int .i64 dO,.int .i64 dz,.string bV,.string dL,.slice (some oz) bA.length eP] 34 (0,0)) (kz bT.out)):eG≠jv));have pK:=ak.mk ((by rw[hg];exact Nat.ne_of_gt (gZ (g:=eG) (o:=.cells #[.int .i64 dO,.int .i64 dz,.string bV,.string dL,.slice (some oz) bA.length eP] 34 (0,0)) (kz bT.out)):jv≠eG));replace bT:=ak.mk (dK (g:=eG) (o:=.cells #[.int .i64 dO,.int .i64 dz,.string bV,.string dL,.slice (some oz) bA.length eP] 34 (0,0)) (kz bT.out) hb);replace HB:=ak.mk (aG (bs iZ.out) hb);clear hb fP hg;have hnb43:=pK.out;have hnc43:=jY.out;have hcz44_0:w42.cell? ⟨jv,0,none⟩=some (.string (⟨#[]⟩:Bt)):=(aC iR.out 0).trans rfl;have hcz44_1:w42.cell? ⟨jv,1,none⟩=some (.string (⟨#[]⟩:Bt)):=(aC iR.out 1).trans rfl;have hfz44_0:=ay iR.out 0;have hfz44_1:=ay iR.out 1)|((with_reducible refine aZ (f:=95) rfl ?_);refine dJ (some 38) rfl rfl Tryz.func95 (by kernel_rfl) rfl #[.string ((bq bA fC).f0)] rfl q'a ?_;(with_reducible refine(lG.calls k2 ((bq bA fC).f0) true _ A30.out).mono ?_);rintro e w' ⟨rfl,⟨nd,rfl⟩⟩;refine⟨_,rfl,?_⟩)|(go_at_call 47;(with_reducible refine(dA.calls ((bq bA fC).f0) true _ A32.out (Go.Proofs.YtkcmghlhpbepcaaGreatDoor.Std.below HS_.out (by repeat(first|(with_reducible first|exact HB.out|apply bY|apply bE|apply dn|refine aH ?_ iZ.out|refine aH ?_ qx.out)|exact HB.out)))).mono ?_);rintro e w45 ⟨rfl,hb⟩;replace bT:=ak.mk (dK (g:=eG) (o:=.cells #[.int .i64 dO,.int .i64 dz,.string bV,.string dL,.slice (some oz) bA.length eP] 34 (0,0)) (by(with_reducible repeat(first|refine aT ?_ _|refine aY ?_ |refine aU ?_ _));refine mE ?_ jY.out _;(with_reducible repeat(first|refine aT ?_ _|refine aY ?_ |refine aU ?_ _));refine mE ?_ jY.out _;(with_reducible repeat(first|refine aT ?_ _|refine aY ?_ |refine aU ?_ _));exact bT.out) hb);replace iR:=ak.mk (dK (g:=jv) (o:=.cells #[.string ((bq bA fC).f0),.string ((bq bA fC).f1)] 36 (0,0)) (by(with_reducible repeat(first|refine aT ?_ _|refine aY ?_ |refine aU ?_ _));refine bU (cs:=#[.string ((bq bA fC).f0),.string (⟨#[]⟩:Bt)]) ?_ 1 _ rfl;(with_reducible repeat(first|refine aT ?_ _|refine aY ?_ |refine aU ?_ _));refine bU (cs:=#[.string (⟨#[]⟩:Bt),.string (⟨#[]⟩:Bt)]) ?_ 0 _ rfl;(with_reducible repeat(first|refine aT ?_ _|refine aY ?_ |refine aU ?_ _));exact iR.out) hb);replace HB:=ak.mk (aG (by repeat(first|(with_reducible first|exact HB.out|apply bY|apply bE|apply dn|refine aH ?_ iZ.out|refine aH ?_ qx.out)|exact HB.out)) hb);(try clear hb);(try clear hb2);(try clear hk);(try clear hi);have hcz46_0:w45.cell? ⟨jv,0,none⟩=some (.string ((bq bA fC).f0)):=(aC iR.out 0).trans rfl;have hcz46_1:w45.cell? ⟨jv,1,none⟩=some (.string ((bq bA fC).f1)):=(aC iR.out 1).trans rfl;have hfz46_0:=ay iR.out 0;have hfz46_1:=ay iR.out 1)|(go_at_call 47;(with_reducible refine(dA.calls ((bq bA fC).f1) false _ A34.out (Go.Proofs.YtkcmghlhpbepcaaGreatDoor.Std.below HS_.out (by repeat(first|(with_reducible first|exact HB.out|apply bY|apply bE|apply dn|refine aH ?_ iZ.out|refine aH ?_ qx.out)|exact HB.out)))).mono ?_);rintro e w47 ⟨rfl,hb⟩;replace bT:=ak.mk (dK (g:=eG) (o:=.cells #[.int .i64 dO,.int .i64 dz,.string bV,.string dL,.slice (some oz) bA.length eP] 34 (0,0)) (kz bT.out) hb);replace iR:=ak.mk (dK (g:=jv) (o:=.cells #[.string ((bq bA fC).f0),.string ((bq bA fC).f1)] 36 (0,0)) (kz iR.out) hb);replace HB:=ak.mk (aG (by repeat(first|(with_reducible first|exact HB.out|apply bY|apply bE|apply dn|refine aH ?_ iZ.out|refine aH ?_ qx.out)|exact HB.out)) hb);(try clear hb);(try clear hb2);(try clear hk);(try clear hi)))
            go_ret;exact⟨by first|rfl|(simp[aJ,aM]<;>rfl)|(simp[*,aJ,aM]<;>rfl),by repeat(first|(with_reducible first|exact HB.out|apply bY|apply bE|apply dn|refine aH ?_ iZ.out|refine aH ?_ qx.out)|exact HB.out)⟩
          ·replace c33:=Bool.eq_false_iff.mpr c33
           subst c33;have H1:(some false)=some r:=by rw[if_neg (show¬(false=true) by decide)]at H;first|exact H|(simp only[eq_self]at H⊢;exact H)|(simp only[eq_self,if_true]at H⊢;exact H)
           clear H;have H:=H1;clear H1;obtain rfl:=Option.some.inj H;have zM:0≤(fC:Int):=q'b;have zN:fC<(bA.length:Int):=q'b;obtain⟨oz,e614,lH,lI⟩:=lY xY.out fC zM zN;cases e614;replace lH:=(HB.out.cell (World.block_lt_of_cell? w _ lH)).trans lH;replace lI:=(HB.out.cell (World.block_lt_of_cell? w _ lI)).trans lI;replace zM:=eq_true zM;replace zN:=eq_true zN
           go_wp2_with(first|((with_reducible refine cO (N:=6) rfl ?_);refine eH ?hg (N:=6) ?hd (cs:=#[.string (⟨#[]⟩:Bt),.string (⟨#[]⟩:Bt)]) (t:=36) ?hr ?_;(case hd=>rfl);(case hg=>rfl);(case hr=>first|(go_simp;done)|(go_simp;rfl));intro jv hg w48 fP hb;have iR:=ak.mk (fP);have GW615:=ak.mk ((by rw[hg];exact(aR (bs iZ.out)):w.heap.size≤jv));have qx:=ak.mk ((by rw[hg];exact(aR (bs iZ.out)):w.heap.size≤jv));have jY:=ak.mk ((by rw[hg];exact Nat.ne_of_lt (gZ (g:=eG) (o:=.cells #[.int .i64 dO,.int .i64 dz,.string bV,.string dL,.slice (some oz) bA.length eP] 34 (0,0)) (kz bT.out)):eG≠jv));have pK:=ak.mk ((by rw[hg];exact Nat.ne_of_gt (gZ (g:=eG) (o:=.cells #[.int .i64 dO,.int .i64 dz,.string bV,.string dL,.slice (some oz) bA.length eP] 34 (0,0)) (kz bT.out)):jv≠eG));replace bT:=ak.mk (dK (g:=eG) (o:=.cells #[.int .i64 dO,.int .i64 dz,.string bV,.string dL,.slice (some oz) bA.length eP] 34 (0,0)) (kz bT.out) hb);replace HB:=ak.mk (aG (bs iZ.out) hb);clear hb fP hg;have hnb49:=pK.out;have hnc49:=jY.out;have hcz50_0:w48.cell? ⟨jv,0,none⟩=some (.string (⟨#[]⟩:Bt)):=(aC iR.out 0).trans rfl;have hcz50_1:w48.cell? ⟨jv,1,none⟩=some (.string (⟨#[]⟩:Bt)):=(aC iR.out 1).trans rfl;have hfz50_0:=ay iR.out 0;have hfz50_1:=ay iR.out 1)|((with_reducible refine aZ (f:=95) rfl ?_);refine dJ (some 38) rfl rfl Tryz.func95 (by kernel_rfl) rfl #[.string ((bq bA fC).f0)] rfl q'a ?_;(with_reducible refine(lG.calls k2 ((bq bA fC).f0) true _ A30.out).mono ?_);rintro e w' ⟨rfl,⟨nd,rfl⟩⟩;refine⟨_,rfl,?_⟩)|(go_at_call 47;(with_reducible refine(dA.calls ((bq bA fC).f0) false _ A32.out (Go.Proofs.YtkcmghlhpbepcaaGreatDoor.Std.below HS_.out (by repeat(first|(with_reducible first|exact HB.out|apply bY|apply bE|apply dn|refine aH ?_ iZ.out|refine aH ?_ qx.out)|exact HB.out)))).mono ?_);rintro e w51 ⟨rfl,hb⟩;replace bT:=ak.mk (dK (g:=eG) (o:=.cells #[.int .i64 dO,.int .i64 dz,.string bV,.string dL,.slice (some oz) bA.length eP] 34 (0,0)) (by(with_reducible repeat(first|refine aT ?_ _|refine aY ?_ |refine aU ?_ _));refine mE ?_ jY.out _;(with_reducible repeat(first|refine aT ?_ _|refine aY ?_ |refine aU ?_ _));refine mE ?_ jY.out _;(with_reducible repeat(first|refine aT ?_ _|refine aY ?_ |refine aU ?_ _));exact bT.out) hb);replace iR:=ak.mk (dK (g:=jv) (o:=.cells #[.string ((bq bA fC).f0),.string ((bq bA fC).f1)] 36 (0,0)) (by(with_reducible repeat(first|refine aT ?_ _|refine aY ?_ |refine aU ?_ _));refine bU (cs:=#[.string ((bq bA fC).f0),.string (⟨#[]⟩:Bt)]) ?_ 1 _ rfl;(with_reducible repeat(first|refine aT ?_ _|refine aY ?_ |refine aU ?_ _));refine bU (cs:=#[.string (⟨#[]⟩:Bt),.string (⟨#[]⟩:Bt)]) ?_ 0 _ rfl;(with_reducible repeat(first|refine aT ?_ _|refine aY ?_ |refine aU ?_ _));exact iR.out) hb);replace HB:=ak.mk (aG (by repeat(first|(with_reducible first|exact HB.out|apply bY|apply bE|apply dn|refine aH ?_ iZ.out|refine aH ?_ qx.out)|exact HB.out)) hb);(try clear hb);(try clear hb2);(try clear hk);(try clear hi)))
           go_ret;exact⟨by first|rfl|(simp[aJ,aM]<;>rfl)|(simp[*,aJ,aM]<;>rfl),by repeat(first|(with_reducible first|exact HB.out|apply bY|apply bE|apply dn|refine aH ?_ iZ.out|refine aH ?_ qx.out)|exact HB.out)⟩
         ·replace c31:=Bool.eq_false_iff.mpr c31
          subst c31;have H1:(some false)=some r:=by rw[if_neg (show¬(false=true) by decide)]at H;first|exact H|(simp only[eq_self]at H⊢;exact H)|(simp only[eq_self,if_true]at H⊢;exact H)
          clear H;have H:=H1;clear H1;obtain rfl:=Option.some.inj H;have zM:0≤(fC:Int):=q'b;have zN:fC<(bA.length:Int):=q'b;obtain⟨oz,e614,lH,lI⟩:=lY xY.out fC zM zN;cases e614;replace lH:=(HB.out.cell (World.block_lt_of_cell? w _ lH)).trans lH;replace lI:=(HB.out.cell (World.block_lt_of_cell? w _ lI)).trans lI;replace zM:=eq_true zM;replace zN:=eq_true zN
          go_wp2_with(first|((with_reducible refine cO (N:=6) rfl ?_);refine eH ?hg (N:=6) ?hd (cs:=#[.string (⟨#[]⟩:Bt),.string (⟨#[]⟩:Bt)]) (t:=36) ?hr ?_;(case hd=>rfl);(case hg=>rfl);(case hr=>first|(go_simp;done)|(go_simp;rfl));intro jv hg w52 fP hb;have iR:=ak.mk (fP);have GW615:=ak.mk ((by rw[hg];exact(aR (bs iZ.out)):w.heap.size≤jv));have qx:=ak.mk ((by rw[hg];exact(aR (bs iZ.out)):w.heap.size≤jv));have jY:=ak.mk ((by rw[hg];exact Nat.ne_of_lt (gZ (g:=eG) (o:=.cells #[.int .i64 dO,.int .i64 dz,.string bV,.string dL,.slice (some oz) bA.length eP] 34 (0,0)) (kz bT.out)):eG≠jv));have pK:=ak.mk ((by rw[hg];exact Nat.ne_of_gt (gZ (g:=eG) (o:=.cells #[.int .i64 dO,.int .i64 dz,.string bV,.string dL,.slice (some oz) bA.length eP] 34 (0,0)) (kz bT.out)):jv≠eG));replace bT:=ak.mk (dK (g:=eG) (o:=.cells #[.int .i64 dO,.int .i64 dz,.string bV,.string dL,.slice (some oz) bA.length eP] 34 (0,0)) (kz bT.out) hb);replace HB:=ak.mk (aG (bs iZ.out) hb);clear hb fP hg;have hnb53:=pK.out;have hnc53:=jY.out;have hcz54_0:w52.cell? ⟨jv,0,none⟩=some (.string (⟨#[]⟩:Bt)):=(aC iR.out 0).trans rfl;have hcz54_1:w52.cell? ⟨jv,1,none⟩=some (.string (⟨#[]⟩:Bt)):=(aC iR.out 1).trans rfl;have hfz54_0:=ay iR.out 0;have hfz54_1:=ay iR.out 1)|((with_reducible refine aZ (f:=95) rfl ?_);refine dJ (some 38) rfl rfl Tryz.func95 (by kernel_rfl) rfl #[.string ((bq bA fC).f0)] rfl q'a ?_;(with_reducible refine(lG.calls k2 ((bq bA fC).f0) false _ A30.out).mono ?_);rintro e w' ⟨rfl,⟨nd,rfl⟩⟩;refine⟨_,rfl,?_⟩))
          go_ret;exact⟨by first|rfl|(simp[aJ,aM]<;>rfl)|(simp[*,aJ,aM]<;>rfl),by repeat(first|(with_reducible first|exact HB.out|apply bY|apply bE|apply dn|refine aH ?_ iZ.out|refine aH ?_ qx.out)|exact HB.out)⟩
        ·rw[if_neg c29]at H
         exact absurd H (by simp)
       ·rw[if_neg c28]at H
        exact absurd H (by simp)
      ·rw[if_neg c27]at H
       have c27b0:decide (fC<(bA.length:Int))=false:=decide_eq_false c27;clear c27;obtain rfl:=Option.some.inj H;go_wp2;go_ret;exact⟨by first|rfl|(simp[aJ,aM]<;>rfl)|(simp[*,aJ,aM]<;>rfl),bs iZ.out⟩
end Go.Proofs.aj.W7
