/- Lemmas and walks, part 45. -/
import Derived.Test.YtkcmghlhpbepcaaGreatDoorWS44
set_option linter.unusedVariables false
set_option linter.unusedSimpArgs false
set_option maxHeartbeats 8000000
set_option maxRecDepth 100000
namespace Go.Proofs.aj.W7
open Go.RowKit Go.Proofs.ah.aD Go.Proofs.ah.bG Go.Proofs.ah.bR
attribute [local go_sem] dD dF dV dW bU bV dG dH
mutual
def bD.j0:Nat→Bool→Int→Int→Bt→Bt→List (S36)→Option (Bool)
 |0,_,_,_,_,_,_=>none
 |k+1,x28,x610000,x610001,x610002,x610003,PN=>if x28=true then(some false)else(bD.l0 k PN (PN.length:Int) 0)
def bD.l0:Nat→List (S36)→Int→Int→Option (Bool)
 |0,_,_,_=>none
 |k+1,x30,x31,x32=>if x32<x31 then(if 0≤x32 then(if x32<(x30.length:Int)then((oo.f k ((bg x30 x32).f0)).bind fun t616=>(if t616=true then((dK.f ((bg x30 x32).f0)).bind fun t617=>(if t617=true then((dK.f ((bg x30 x32).f1)).bind fun DC=>(if DC=true then(bD.l0 k x30 x31 (wrap64 (x32+1)))else(some false)))else(some false)))else(some false)))else(none))else(none))else(some true)
end
def bD.f(k:Nat)(dP dw:Int)(bQ dM:Bt)(bA:List (S36))(l1:List Bt):Option (Bool):=(lF.f k bQ).bind fun t610=>(if t610=true then((iN.f k bQ).bind fun t611=>(if t611=true then(bD.j0 k true dP dw bQ dM bA)else((dK.f bQ).bind fun AX=>(if AX=true then((jm.f k bQ l1).bind fun wO=>(bD.j0 k (!wO) dP dw bQ dM bA))else(bD.j0 k true dP dw bQ dM bA)))))else(bD.j0 k true dP dw bQ dM bA))
theorem bD.calls(k:Nat)(dP dw:Int)(bQ dM:Bt)(iD:Option Addr)(eX:Nat)(bA:List (S36))(A1:Option Addr)(c1:Nat)(l1:List Bt)(r:Bool)(w:World)(xS:Kd.C k36 w iD bA.length bA)(xU:bA.length≤eX)(hr1:Kd.C Kd.string w A1 l1.length l1)(hc1:l1.length≤c1)(h:bD.f k dP dw bQ dM bA l1=some r)(hS_:Go.Proofs.YtkcmghlhpbepcaaGreatDoor.Std w):
 Calls Tryz.prog 49 #[.agg #[.int .i64 dP,.int .i64 dw,.string bQ,.string dM,.slice iD bA.length eX],.slice A1 l1.length c1] w fun e w'=>e=.returned (.bool r)∧Below w.heap.size w w':=by
 have HS_:=ak.mk hS_;clear hS_;have hu34:=Tryz.underlying34;have hu36:=Tryz.underlying36;have xV:=ak.mk xS;have LG:=ak.mk xU;clear xS xU;have HR1:=ak.mk hr1;have HC1:=ak.mk hc1;clear hr1 hc1;have HB:=ak.mk (Below.refl w.heap.size w);have H:((lF.f k bQ).bind fun t610=>(if t610=true then((iN.f k bQ).bind fun t611=>(if t611=true then(bD.j0 k true dP dw bQ dM bA)else((dK.f bQ).bind fun AX=>(if AX=true then((jm.f k bQ l1).bind fun wO=>(bD.j0 k (!wO) dP dw bQ dM bA))else(bD.j0 k true dP dw bQ dM bA)))))else(bD.j0 k true dP dw bQ dM bA)))=some r:=h;clear h;have HC3:=ak.mk H;clear H;go_enter Tryz.func49,Tryz.ntmps49
 go_upto_region 1 with(first|((with_reducible refine cu (N:=2) rfl ?_);refine eT ?hg (N:=2) ?hd (cs:=#[.int .i64 dP,.int .i64 dw,.string bQ,.string dM,.slice iD bA.length eX]) (t:=34) ?hr ?_;(case hd=>rfl);(case hg=>rfl);(case hr=>first|(go_simp;done)|(go_simp;rfl));intro eH hg w4 fU hb;have bP:=ak.mk (fU);have GW609:=ak.mk ((by rw[hg];exact(aU bz):w.heap.size≤eH));have jg:=ak.mk ((by rw[hg];exact(aU bz):w.heap.size≤eH));replace HB:=ak.mk (aG bz hb);clear hb fU hg))
 (try simp only[Act.put,List.setIfInBounds_toArray,List.set_cons_zero,List.set_cons_succ])
 go_cut [28] (fun v28 wc=>∃(kq:Nat) (x28_2:Bool),v28=.bool x28_2∧ak (bD.j0 kq x28_2 dP dw bQ dM bA=some r)∧ak (kq≤k)∧ak (wc.heap[eH]?=some (.cells #[.int .i64 dP,.int .i64 dw,.string bQ,.string dM,(.slice iD bA.length eX)] 34 (0,0)))∧ak (Below w.heap.size w wc))
 case first=>
  have H:=HC3.out;clear HC3;replace H:=Option.bind_eq_some_iff.mp H;obtain⟨t610,A50,H⟩:=H;replace H:(if t610=true then((iN.f k bQ).bind fun t611=>(if t611=true then(bD.j0 k true dP dw bQ dM bA)else((dK.f bQ).bind fun AX=>(if AX=true then((jm.f k bQ l1).bind fun wO=>(bD.j0 k (!wO) dP dw bQ dM bA))else(bD.j0 k true dP dw bQ dM bA)))))else(bD.j0 k true dP dw bQ dM bA))=some r:=H;have A5:=ak.mk A50;clear A50
  by_cases c6:t610=true
  ·subst c6
   have H1:((iN.f k bQ).bind fun t611=>(if t611=true then(bD.j0 k true dP dw bQ dM bA)else((dK.f bQ).bind fun AX=>(if AX=true then((jm.f k bQ l1).bind fun wO=>(bD.j0 k (!wO) dP dw bQ dM bA))else(bD.j0 k true dP dw bQ dM bA)))))=some r:=by rw[if_pos rfl]at H;exact H
   clear H;have H:=H1;clear H1;replace H:=Option.bind_eq_some_iff.mp H;obtain⟨t611,A70,H⟩:=H;replace H:(if t611=true then(bD.j0 k true dP dw bQ dM bA)else((dK.f bQ).bind fun AX=>(if AX=true then((jm.f k bQ l1).bind fun wO=>(bD.j0 k (!wO) dP dw bQ dM bA))else(bD.j0 k true dP dw bQ dM bA))))=some r:=H;have A7:=ak.mk A70;clear A70
   by_cases c8:t611=true
   ·subst c8
    have H1:(bD.j0 k true dP dw bQ dM bA)=some r:=by rw[if_pos rfl]at H;exact H
    clear H;have H:=H1;clear H1;have H':=ak.mk H;clear H;have vP:w4.cell? ⟨eH,0,none⟩=some (.int .i64 dP):=(aC bP.out 0).trans rfl;have vQ:w4.cell? ⟨eH,1,none⟩=some (.int .i64 dw):=(aC bP.out 1).trans rfl;have vR:w4.cell? ⟨eH,2,none⟩=some (.string bQ):=(aC bP.out 2).trans rfl;have vS:w4.cell? ⟨eH,3,none⟩=some (.string dM):=(aC bP.out 3).trans rfl;have vT:w4.cell? ⟨eH,4,none⟩=some (.slice iD bA.length eX):=(aC bP.out 4).trans rfl;have vU:=ay bP.out 0;have vV:=ay bP.out 1;have vW:=ay bP.out 2;have vX:=ay bP.out 3;have vY:=ay bP.out 4
    go_wp2_with(first|((with_reducible refine aZ (f:=30) rfl ?_);refine dO (some 9) rfl rfl Tryz.func30 (by kernel_rfl) rfl #[.string bQ] rfl q'a ?_;(with_reducible refine(lF.calls k bQ true _ A5.out).mono ?_);rintro e w' ⟨rfl,⟨nd,rfl⟩⟩;refine⟨_,rfl,?_⟩)|(go_at_call 34;(with_reducible refine(iN.calls k bQ true _ A7.out).mono ?_);rintro e w10 ⟨rfl,hb⟩;replace bP:=ak.mk (dI (g:=eH) (o:=.cells #[.int .i64 dP,.int .i64 dw,.string bQ,.string dM,.slice iD bA.length eX] 34 (0,0)) (kz bP.out) hb);replace HB:=ak.mk (aG (bs jg.out) hb);(try clear hb);(try clear hb2);(try clear hk);(try clear hi)))
    go_meet
    case rel=>exact⟨_,(true),q'c,H',⟨by first|omega|exact Nat.le_refl _⟩,⟨by(with_reducible repeat(first|refine aV ?_ _|refine aY ?_ |refine aW ?_ _));exact bP.out⟩,⟨bs jg.out⟩⟩
   ·replace c8:=Bool.eq_false_iff.mpr c8
    subst c8;have H1:((dK.f bQ).bind fun AX=>(if AX=true then((jm.f k bQ l1).bind fun wO=>(bD.j0 k (!wO) dP dw bQ dM bA))else(bD.j0 k true dP dw bQ dM bA)))=some r:=by rw[if_neg (show¬(false=true) by decide)]at H;first|exact H|(simp only[eq_self]at H⊢;exact H)|(simp only[eq_self,if_true]at H⊢;exact H)
    clear H;have H:=H1;clear H1;replace H:=Option.bind_eq_some_iff.mp H;obtain⟨AX,A110,H⟩:=H;replace H:(if AX=true then((jm.f k bQ l1).bind fun wO=>(bD.j0 k (!wO) dP dw bQ dM bA))else(bD.j0 k true dP dw bQ dM bA))=some r:=H;have A11:=ak.mk A110;clear A110
    by_cases c12:AX=true
    ·subst c12
     have H1:((jm.f k bQ l1).bind fun wO=>(bD.j0 k (!wO) dP dw bQ dM bA))=some r:=by rw[if_pos rfl]at H;exact H
     clear H;have H:=H1;clear H1;replace H:=Option.bind_eq_some_iff.mp H;obtain⟨wO,A130,H⟩:=H;replace H:(bD.j0 k (!wO) dP dw bQ dM bA)=some r:=H;have A13:=ak.mk A130;clear A130;have H':=ak.mk H;clear H;have vZ:w4.cell? ⟨eH,0,none⟩=some (.int .i64 dP):=(aC bP.out 0).trans rfl;have wh:w4.cell? ⟨eH,1,none⟩=some (.int .i64 dw):=(aC bP.out 1).trans rfl;have wm:w4.cell? ⟨eH,2,none⟩=some (.string bQ):=(aC bP.out 2).trans rfl;have wo:w4.cell? ⟨eH,3,none⟩=some (.string dM):=(aC bP.out 3).trans rfl;have wu:w4.cell? ⟨eH,4,none⟩=some (.slice iD bA.length eX):=(aC bP.out 4).trans rfl;have wz:=ay bP.out 0;have wB:=ay bP.out 1;have wC:=ay bP.out 2;have wD:=ay bP.out 3;have wE:=ay bP.out 4
     go_wp2_with(first|((with_reducible refine aZ (f:=30) rfl ?_);refine dO (some 9) rfl rfl Tryz.func30 (by kernel_rfl) rfl #[.string bQ] rfl q'a ?_;(with_reducible refine(lF.calls k bQ true _ A5.out).mono ?_);rintro e w' ⟨rfl,⟨nd,rfl⟩⟩;refine⟨_,rfl,?_⟩)|(go_at_call 34;(with_reducible refine(iN.calls k bQ false _ A7.out).mono ?_);rintro e w15 ⟨rfl,hb⟩;replace bP:=ak.mk (dI (g:=eH) (o:=.cells #[.int .i64 dP,.int .i64 dw,.string bQ,.string dM,.slice iD bA.length eX] 34 (0,0)) (kz bP.out) hb);replace HB:=ak.mk (aG (bs jg.out) hb);(try clear hb);(try clear hb2);(try clear hk);(try clear hi);have wF:w15.cell? ⟨eH,0,none⟩=some (.int .i64 dP):=(aC bP.out 0).trans rfl;have wG:w15.cell? ⟨eH,1,none⟩=some (.int .i64 dw):=(aC bP.out 1).trans rfl;have yI:w15.cell? ⟨eH,2,none⟩=some (.string bQ):=(aC bP.out 2).trans rfl;have yJ:w15.cell? ⟨eH,3,none⟩=some (.string dM):=(aC bP.out 3).trans rfl;have yK:w15.cell? ⟨eH,4,none⟩=some (.slice iD bA.length eX):=(aC bP.out 4).trans rfl;have wH:=ay bP.out 0;have wI:=ay bP.out 1;have yL:=ay bP.out 2;have yM:=ay bP.out 3;have yN:=ay bP.out 4)|(go_at_call 47;(with_reducible refine(dK.calls bQ true _ A11.out (Go.Proofs.YtkcmghlhpbepcaaGreatDoor.Std.below HS_.out (bs jg.out))).mono ?_);rintro e w17 ⟨rfl,hb⟩;replace bP:=ak.mk (dI (g:=eH) (o:=.cells #[.int .i64 dP,.int .i64 dw,.string bQ,.string dM,.slice iD bA.length eX] 34 (0,0)) (kz bP.out) hb);replace HB:=ak.mk (aG (bs jg.out) hb);(try clear hb);(try clear hb2);(try clear hk);(try clear hi);have vF:w17.cell? ⟨eH,0,none⟩=some (.int .i64 dP):=(aC bP.out 0).trans rfl;have vG:w17.cell? ⟨eH,1,none⟩=some (.int .i64 dw):=(aC bP.out 1).trans rfl;have vH:w17.cell? ⟨eH,2,none⟩=some (.string bQ):=(aC bP.out 2).trans rfl;have vI:w17.cell? ⟨eH,3,none⟩=some (.string dM):=(aC bP.out 3).trans rfl;have vJ:w17.cell? ⟨eH,4,none⟩=some (.slice iD bA.length eX):=(aC bP.out 4).trans rfl;have vK:=ay bP.out 0;have vL:=ay bP.out 1;have vM:=ay bP.out 2;have vN:=ay bP.out 3;have vO:=ay bP.out 4)|(go_at_call 27;(with_reducible refine(jm.calls k bQ _ _ l1 wO _ ?dz ?dA A13.out).mono ?_);(case dz=>exact cz (Kd.eF HR1.out HB.out));(case dA=>exact HC1.out);rintro e w19 ⟨rfl,hb⟩;replace bP:=ak.mk (dI (g:=eH) (o:=.cells #[.int .i64 dP,.int .i64 dw,.string bQ,.string dM,.slice iD bA.length eX] 34 (0,0)) (kz bP.out) hb);replace HB:=ak.mk (aG (bs jg.out) hb);(try clear hb);(try clear hb2);(try clear hk);(try clear hi)))
     go_meet
     case rel=>exact⟨_,(!wO),q'c,H',⟨by first|omega|exact Nat.le_refl _⟩,⟨by(with_reducible repeat(first|refine aV ?_ _|refine aY ?_ |refine aW ?_ _));exact bP.out⟩,⟨bs jg.out⟩⟩
    ·replace c12:=Bool.eq_false_iff.mpr c12
     subst c12;have H1:(bD.j0 k true dP dw bQ dM bA)=some r:=by rw[if_neg (show¬(false=true) by decide)]at H;first|exact H|(simp only[eq_self]at H⊢;exact H)|(simp only[eq_self,if_true]at H⊢;exact H)
     clear H;have H:=H1;clear H1;have H':=ak.mk H;clear H;have PO:w4.cell? ⟨eH,0,none⟩=some (.int .i64 dP):=(aC bP.out 0).trans rfl;have PS:w4.cell? ⟨eH,1,none⟩=some (.int .i64 dw):=(aC bP.out 1).trans rfl;have PU:w4.cell? ⟨eH,2,none⟩=some (.string bQ):=(aC bP.out 2).trans rfl;have PV:w4.cell? ⟨eH,3,none⟩=some (.string dM):=(aC bP.out 3).trans rfl;have PW:w4.cell? ⟨eH,4,none⟩=some (.slice iD bA.length eX):=(aC bP.out 4).trans rfl;have PX:=ay bP.out 0;have PY:=ay bP.out 1;have PZ:=ay bP.out 2;have P5:=ay bP.out 3;have P6:=ay bP.out 4
     go_wp2_with(first|((with_reducible refine aZ (f:=30) rfl ?_);refine dO (some 9) rfl rfl Tryz.func30 (by kernel_rfl) rfl #[.string bQ] rfl q'a ?_;(with_reducible refine(lF.calls k bQ true _ A5.out).mono ?_);rintro e w' ⟨rfl,⟨nd,rfl⟩⟩;refine⟨_,rfl,?_⟩)|(go_at_call 34;(with_reducible refine(iN.calls k bQ false _ A7.out).mono ?_);rintro e w21 ⟨rfl,hb⟩;replace bP:=ak.mk (dI (g:=eH) (o:=.cells #[.int .i64 dP,.int .i64 dw,.string bQ,.string dM,.slice iD bA.length eX] 34 (0,0)) (kz bP.out) hb);replace HB:=ak.mk (aG (bs jg.out) hb);(try clear hb);(try clear hb2);(try clear hk);(try clear hi);have IQ:w21.cell? ⟨eH,0,none⟩=some (.int .i64 dP):=(aC bP.out 0).trans rfl;have IU:w21.cell? ⟨eH,1,none⟩=some (.int .i64 dw):=(aC bP.out 1).trans rfl;have IV:w21.cell? ⟨eH,2,none⟩=some (.string bQ):=(aC bP.out 2).trans rfl;have IW:w21.cell? ⟨eH,3,none⟩=some (.string dM):=(aC bP.out 3).trans rfl;have IX:w21.cell? ⟨eH,4,none⟩=some (.slice iD bA.length eX):=(aC bP.out 4).trans rfl;have IY:=ay bP.out 0;have IZ:=ay bP.out 1;have I4:=ay bP.out 2;have I5:=ay bP.out 3;have I6:=ay bP.out 4)|(go_at_call 47;(with_reducible refine(dK.calls bQ false _ A11.out (Go.Proofs.YtkcmghlhpbepcaaGreatDoor.Std.below HS_.out (bs jg.out))).mono ?_);rintro e w23 ⟨rfl,hb⟩;replace bP:=ak.mk (dI (g:=eH) (o:=.cells #[.int .i64 dP,.int .i64 dw,.string bQ,.string dM,.slice iD bA.length eX] 34 (0,0)) (kz bP.out) hb);replace HB:=ak.mk (aG (bs jg.out) hb);(try clear hb);(try clear hb2);(try clear hk);(try clear hi)))
     go_meet
     case rel=>exact⟨_,(true),q'c,H',⟨by first|omega|exact Nat.le_refl _⟩,⟨by(with_reducible repeat(first|refine aV ?_ _|refine aY ?_ |refine aW ?_ _));exact bP.out⟩,⟨bs jg.out⟩⟩
  ·replace c6:=Bool.eq_false_iff.mpr c6
   subst c6;have H1:(bD.j0 k true dP dw bQ dM bA)=some r:=by rw[if_neg (show¬(false=true) by decide)]at H;first|exact H|(simp only[eq_self]at H⊢;exact H)|(simp only[eq_self,if_true]at H⊢;exact H)
   clear H;have H:=H1;clear H1;have H':=ak.mk H;clear H;have P7:w4.cell? ⟨eH,0,none⟩=some (.int .i64 dP):=(aC bP.out 0).trans rfl;have P8:w4.cell? ⟨eH,1,none⟩=some (.int .i64 dw):=(aC bP.out 1).trans rfl;have P9:w4.cell? ⟨eH,2,none⟩=some (.string bQ):=(aC bP.out 2).trans rfl;have Qa:w4.cell? ⟨eH,3,none⟩=some (.string dM):=(aC bP.out 3).trans rfl;have Qb:w4.cell? ⟨eH,4,none⟩=some (.slice iD bA.length eX):=(aC bP.out 4).trans rfl;have Qc:=ay bP.out 0;have Qd:=ay bP.out 1;have Qe:=ay bP.out 2;have Qf:=ay bP.out 3;have Qg:=ay bP.out 4
   go_wp2_with(first|((with_reducible refine aZ (f:=30) rfl ?_);refine dO (some 9) rfl rfl Tryz.func30 (by kernel_rfl) rfl #[.string bQ] rfl q'a ?_;(with_reducible refine(lF.calls k bQ false _ A5.out).mono ?_);rintro e w' ⟨rfl,⟨nd,rfl⟩⟩;refine⟨_,rfl,?_⟩))
   go_meet
   case rel=>exact⟨_,(true),q'c,H',⟨by first|omega|exact Nat.le_refl _⟩,⟨by(with_reducible repeat(first|refine aV ?_ _|refine aY ?_ |refine aW ?_ _));exact bP.out⟩,⟨bs jg.out⟩⟩
 case rest=>
  clear HC3
  try clear c1
  try clear p2
  try clear c3
  try clear c4
  try clear c6
  try clear c8
  try clear c12
  try clear vZ
  try clear wh
  try clear wm
  try clear wo
  try clear wu
  try clear wF
  try clear wG
  try clear yI
  try clear yJ
  try clear yK
  try clear vF
  try clear vG
  try clear vH
  try clear vI
  try clear vJ
  try clear PO
  try clear PS
  try clear PU
  try clear PV
  try clear PW
  try clear IQ
  try clear IU
  try clear IV
  try clear IW
  try clear IX
  try clear P7
  try clear P8
  try clear P9
  try clear Qa
  try clear Qb
  try clear vP
  try clear vQ
  try clear vR
  try clear vS
  try clear vT
  try clear wz
  try clear wB
  try clear wC
  try clear wD
  try clear wE
  try clear wH
  try clear wI
  try clear yL
  try clear yM
  try clear yN
  try clear vK
  try clear vL
  try clear vM
  try clear vN
  try clear vO
  try clear PX
  try clear PY
  try clear PZ
  try clear P5
  try clear P6
  try clear IY
  try clear IZ
  try clear I4
  try clear I5
  try clear I6
  try clear Qc
  try clear Qd
  try clear Qe
  try clear Qf
  try clear Qg
  try clear vU
  try clear vV
  try clear vW
  try clear vX
  try clear vY
  obtain⟨kq,x28_2,rfl,HA,HJ2,bP,HB⟩:=hcut;cases kq with
  |zero=>exact absurd HA.out (by simp[bD.j0])
  |succ kj2=>
   have H:=HA.out;clear HA;simp only[bD.j0]at H
   by_cases c25:x28_2=true
   ·subst c25
    have H1:(some false)=some r:=by rw[if_pos rfl]at H;exact H
    clear H;have H:=H1;clear H1;obtain rfl:=Option.some.inj H;go_wp2;go_ret;exact⟨by first|rfl|(simp[aJ,aM]<;>rfl)|(simp[*,aJ,aM]<;>rfl),bs jg.out⟩
   ·replace c25:=Bool.eq_false_iff.mpr c25
    subst c25;have H1:(bD.l0 kj2 bA (bA.length:Int) 0)=some r:=by rw[if_neg (show¬(false=true) by decide)]at H;first|exact H|(simp only[eq_self]at H⊢;exact H)|(simp only[eq_self,if_true]at H⊢;exact H)
    clear H;have H:=H1;clear H1;have H':=ak.mk H;clear H;have DV:wc.cell? ⟨eH,0,none⟩=some (.int .i64 dP):=(aC bP.out 0).trans rfl;have DW:wc.cell? ⟨eH,1,none⟩=some (.int .i64 dw):=(aC bP.out 1).trans rfl;have Qh:wc.cell? ⟨eH,2,none⟩=some (.string bQ):=(aC bP.out 2).trans rfl;have Qi:wc.cell? ⟨eH,3,none⟩=some (.string dM):=(aC bP.out 3).trans rfl;have Qj:wc.cell? ⟨eH,4,none⟩=some (.slice iD bA.length eX):=(aC bP.out 4).trans rfl;have DX:=ay bP.out 0;have DY:=ay bP.out 1;have Qk:=ay bP.out 2;have Ql:=ay bP.out 3;have Qm:=ay bP.out 4;go_wp2
    go_loopg [32] kj2 (fun kq v32 w'=>∃(fD:Int),v32=.int .i64 fD∧ak (bD.l0 kq bA (bA.length:Int) fD=some r)∧ak (kq≤kj2)∧ak (w'.heap[eH]?=some (.cells #[.int .i64 dP,.int .i64 dw,.string bQ,.string dM,(.slice iD bA.length eX)] 34 (0,0)))∧ak (Below w.heap.size w w'))
    case atStart=>exact⟨(0),q'c,H',⟨Nat.le_refl _⟩,⟨by(with_reducible repeat(first|refine aV ?_ _|refine aY ?_ |refine aW ?_ _));exact bP.out⟩,⟨bs jg.out⟩⟩
    case round=>
     clear H'
     try clear c1
     try clear c2
     try clear p2
     try clear c3
     try clear c4
     try clear c6
     try clear c8
     try clear c12
     try clear c25
     try clear vZ
     try clear wh
     try clear wm
     try clear wo
     try clear wu
     try clear wF
     try clear wG
     try clear yI
     try clear yJ
     try clear yK
     try clear vF
     try clear vG
     try clear vH
     try clear vI
     try clear vJ
     try clear PO
     try clear PS
     try clear PU
     try clear PV
     try clear PW
     try clear IQ
     try clear IU
     try clear IV
     try clear IW
     try clear IX
     try clear P7
     try clear P8
     try clear P9
     try clear Qa
     try clear Qb
     try clear DV
     try clear DW
     try clear Qh
     try clear Qi
     try clear Qj
     try clear vP
     try clear vQ
     try clear vR
     try clear vS
     try clear vT
     try clear wz
     try clear wB
     try clear wC
     try clear wD
     try clear wE
     try clear wH
     try clear wI
     try clear yL
     try clear yM
     try clear yN
     try clear vK
     try clear vL
     try clear vM
     try clear vN
     try clear vO
     try clear PX
     try clear PY
     try clear PZ
     try clear P5
     try clear P6
     try clear IY
     try clear IZ
     try clear I4
     try clear I5
     try clear I6
     try clear Qc
     try clear Qd
     try clear Qe
     try clear Qf
     try clear Qg
     try clear DX
     try clear DY
     try clear Qk
     try clear Ql
     try clear Qm
     try clear vU
     try clear vV
     try clear vW
     try clear vX
     try clear vY
     try clear p2
     obtain⟨fD,rfl,HA,HK2,bP,HB⟩:=hrel;cases gk with
     |zero=>exact absurd HA.out (by simp[bD.l0])
     |succ k2=>
      have H:=HA.out;clear HA;simp only[bD.l0]at H
      by_cases c27:fD<(bA.length:Int)
      ·rw[if_pos c27]at H
       have c27b0:decide (fD<(bA.length:Int))=true:=decide_eq_true c27;clear c27
       by_cases c28:0≤fD
       ·rw[if_pos c28]at H
        have c28b0:decide (0≤fD)=true:=decide_eq_true c28;clear c28
        by_cases c29:fD<(bA.length:Int)
        ·rw[if_pos c29]at H
         have c29b0:decide (fD<(bA.length:Int))=true:=decide_eq_true c29;clear c29;replace H:=Option.bind_eq_some_iff.mp H;obtain⟨t616,A300,H⟩:=H;replace H:(if t616=true then((dK.f ((bg bA fD).f0)).bind fun t617=>(if t617=true then((dK.f ((bg bA fD).f1)).bind fun DC=>(if DC=true then(bD.l0 k2 bA (bA.length:Int) (wrap64 (fD+1)))else(some false)))else(some false)))else(some false))=some r:=H;have A30:=ak.mk A300;clear A300
         by_cases c31:t616=true
         ·subst c31
          have H1:((dK.f ((bg bA fD).f0)).bind fun t617=>(if t617=true then((dK.f ((bg bA fD).f1)).bind fun DC=>(if DC=true then(bD.l0 k2 bA (bA.length:Int) (wrap64 (fD+1)))else(some false)))else(some false)))=some r:=by rw[if_pos rfl]at H;exact H
          clear H;have H:=H1;clear H1;replace H:=Option.bind_eq_some_iff.mp H;obtain⟨t617,A320,H⟩:=H;replace H:(if t617=true then((dK.f ((bg bA fD).f1)).bind fun DC=>(if DC=true then(bD.l0 k2 bA (bA.length:Int) (wrap64 (fD+1)))else(some false)))else(some false))=some r:=H;have A32:=ak.mk A320;clear A320
          by_cases c33:t617=true
          ·subst c33
           have H1:((dK.f ((bg bA fD).f1)).bind fun DC=>(if DC=true then(bD.l0 k2 bA (bA.length:Int) (wrap64 (fD+1)))else(some false)))=some r:=by rw[if_pos rfl]at H;exact H
           clear H;have H:=H1;clear H1;replace H:=Option.bind_eq_some_iff.mp H;obtain⟨DC,A340,H⟩:=H;replace H:(if DC=true then(bD.l0 k2 bA (bA.length:Int) (wrap64 (fD+1)))else(some false))=some r:=H;have A34:=ak.mk A340;clear A340
           by_cases c35:DC=true
           ·subst c35
            have H1:(bD.l0 k2 bA (bA.length:Int) (wrap64 (fD+1)))=some r:=by rw[if_pos rfl]at H;exact H
            clear H;have H:=H1;clear H1;have H':=ak.mk H;clear H;have zK:0≤(fD:Int):=q'b;have zL:fD<(bA.length:Int):=q'b;obtain⟨oC,e614,lQ,lS⟩:=l7 xV.out fD zK zL;cases e614;replace lQ:=(HB.out.cell (World.block_lt_of_cell? w _ lQ)).trans lQ;replace lS:=(HB.out.cell (World.block_lt_of_cell? w _ lS)).trans lS;replace zK:=eq_true zK;replace zL:=eq_true zL
            go_wp2_with(first|((with_reducible refine cu (N:=6) rfl ?_);refine eT ?hg (N:=6) ?hd (cs:=#[.string (⟨#[]⟩:Bt),.string (⟨#[]⟩:Bt)]) (t:=36) ?hr ?_;(case hd=>rfl);(case hg=>rfl);(case hr=>first|(go_simp;done)|(go_simp;rfl));intro jD hg w36 fU hb;have iX:=ak.mk (fU);have GW615:=ak.mk ((by rw[hg];exact(aU (bs jg.out)):w.heap.size≤jD));have qw:=ak.mk ((by rw[hg];exact(aU (bs jg.out)):w.heap.size≤jD));have j3:=ak.mk ((by rw[hg];exact Nat.ne_of_lt (gW (g:=eH) (o:=.cells #[.int .i64 dP,.int .i64 dw,.string bQ,.string dM,.slice (some oC) bA.length eX] 34 (0,0)) (kz bP.out)):eH≠jD));have pO:=ak.mk ((by rw[hg];exact Nat.ne_of_gt (gW (g:=eH) (o:=.cells #[.int .i64 dP,.int .i64 dw,.string bQ,.string dM,.slice (some oC) bA.length eX] 34 (0,0)) (kz bP.out)):jD≠eH));replace bP:=ak.mk (dI (g:=eH) (o:=.cells #[.int .i64 dP,.int .i64 dw,.string bQ,.string dM,.slice (some oC) bA.length eX] 34 (0,0)) (kz bP.out) hb);replace HB:=ak.mk (aG (bs jg.out) hb);clear hb fU hg;have hnb37:=pO.out;have hnc37:=j3.out;have hcz38_0:w36.cell? ⟨jD,0,none⟩=some (.string (⟨#[]⟩:Bt)):=(aC iX.out 0).trans rfl;have hcz38_1:w36.cell? ⟨jD,1,none⟩=some (.string (⟨#[]⟩:Bt)):=(aC iX.out 1).trans rfl;have hfz38_0:=ay iX.out 0;have hfz38_1:=ay iX.out 1)|((with_reducible refine aZ (f:=95) rfl ?_);refine dO (some 38) rfl rfl Tryz.func95 (by kernel_rfl) rfl #[.string ((bg bA fD).f0)] rfl q'a ?_;(with_reducible refine(oo.calls k2 ((bg bA fD).f0) true _ A30.out).mono ?_);rintro e w' ⟨rfl,⟨nd,rfl⟩⟩;refine⟨_,rfl,?_⟩)|(go_at_call 47;(with_reducible refine(dK.calls ((bg bA fD).f0) true _ A32.out (Go.Proofs.YtkcmghlhpbepcaaGreatDoor.Std.below HS_.out (by repeat(first|(with_reducible first|exact HB.out|apply bY|apply bE|apply dh|refine aH ?_ jg.out|refine aH ?_ qw.out)|exact HB.out)))).mono ?_);rintro e w39 ⟨rfl,hb⟩;replace bP:=ak.mk (dI (g:=eH) (o:=.cells #[.int .i64 dP,.int .i64 dw,.string bQ,.string dM,.slice (some oC) bA.length eX] 34 (0,0)) (by(with_reducible repeat(first|refine aV ?_ _|refine aY ?_ |refine aW ?_ _));refine mG ?_ j3.out _;(with_reducible repeat(first|refine aV ?_ _|refine aY ?_ |refine aW ?_ _));refine mG ?_ j3.out _;(with_reducible repeat(first|refine aV ?_ _|refine aY ?_ |refine aW ?_ _));exact bP.out) hb);replace iX:=ak.mk (dI (g:=jD) (o:=.cells #[.string ((bg bA fD).f0),.string ((bg bA fD).f1)] 36 (0,0)) (by(with_reducible repeat(first|refine aV ?_ _|refine aY ?_ |refine aW ?_ _));refine bT (cs:=#[.string ((bg bA fD).f0),.string (⟨#[]⟩:Bt)]) ?_ 1 _ rfl;(with_reducible repeat(first|refine aV ?_ _|refine aY ?_ |refine aW ?_ _));refine bT (cs:=#[.string (⟨#[]⟩:Bt),.string (⟨#[]⟩:Bt)]) ?_ 0 _ rfl;(with_reducible repeat(first|refine aV ?_ _|refine aY ?_ |refine aW ?_ _));exact iX.out) hb);replace HB:=ak.mk (aG (by repeat(first|(with_reducible first|exact HB.out|apply bY|apply bE|apply dh|refine aH ?_ jg.out|refine aH ?_ qw.out)|exact HB.out)) hb);(try clear hb);(try clear hb2);(try clear hk);(try clear hi);have hcz40_0:w39.cell? ⟨jD,0,none⟩=some (.string ((bg bA fD).f0)):=(aC iX.out 0).trans rfl;have hcz40_1:w39.cell? ⟨jD,1,none⟩=some (.string ((bg bA fD).f1)):=(aC iX.out 1).trans rfl;have hfz40_0:=ay iX.out 0;have hfz40_1:=ay iX.out 1)|(go_at_call 47;(with_reducible refine(dK.calls ((bg bA fD).f1) true _ A34.out (Go.Proofs.YtkcmghlhpbepcaaGreatDoor.Std.below HS_.out (by repeat(first|(with_reducible first|exact HB.out|apply bY|apply bE|apply dh|refine aH ?_ jg.out|refine aH ?_ qw.out)|exact HB.out)))).mono ?_);rintro e w41 ⟨rfl,hb⟩;replace bP:=ak.mk (dI (g:=eH) (o:=.cells #[.int .i64 dP,.int .i64 dw,.string bQ,.string dM,.slice (some oC) bA.length eX] 34 (0,0)) (kz bP.out) hb);replace iX:=ak.mk (dI (g:=jD) (o:=.cells #[.string ((bg bA fD).f0),.string ((bg bA fD).f1)] 36 (0,0)) (kz iX.out) hb);replace HB:=ak.mk (aG (by repeat(first|(with_reducible first|exact HB.out|apply bY|apply bE|apply dh|refine aH ?_ jg.out|refine aH ?_ qw.out)|exact HB.out)) hb);(try clear hb);(try clear hb2);(try clear hk);(try clear hi)))
            go_roundg k2
            case measure=>have:=HJ2.out;have:=HK2.out;omega
            case rel=>exact⟨(wrap64 (fD+1)),q'c,H',⟨by have:=HJ2.out;have:=HK2.out;omega⟩,⟨by(with_reducible repeat(first|refine aV ?_ _|refine aY ?_ |refine aW ?_ _));exact bP.out⟩,⟨by repeat(first|(with_reducible first|exact HB.out|apply bY|apply bE|apply dh|refine aH ?_ jg.out|refine aH ?_ qw.out)|exact HB.out)⟩⟩
           ·replace c35:=Bool.eq_false_iff.mpr c35
            subst c35;have H1:(some false)=some r:=by rw[if_neg (show¬(false=true) by decide)]at H;first|exact H|(simp only[eq_self]at H⊢;exact H)|(simp only[eq_self,if_true]at H⊢;exact H)
            clear H;have H:=H1;clear H1;obtain rfl:=Option.some.inj H;have zK:0≤(fD:Int):=q'b;have zL:fD<(bA.length:Int):=q'b;obtain⟨oC,e614,lQ,lS⟩:=l7 xV.out fD zK zL;cases e614;replace lQ:=(HB.out.cell (World.block_lt_of_cell? w _ lQ)).trans lQ;replace lS:=(HB.out.cell (World.block_lt_of_cell? w _ lS)).trans lS;replace zK:=eq_true zK;replace zL:=eq_true zL
            go_wp2_with(first|((with_reducible refine cu (N:=6) rfl ?_);refine eT ?hg (N:=6) ?hd (cs:=#[.string (⟨#[]⟩:Bt),.string (⟨#[]⟩:Bt)]) (t:=36) ?hr ?_;(case hd=>rfl);(case hg=>rfl);(case hr=>first|(go_simp;done)|(go_simp;rfl));intro jD hg w42 fU hb;have iX:=ak.mk (fU);have GW615:=ak.mk ((by rw[hg];exact(aU (bs jg.out)):w.heap.size≤jD));have qw:=ak.mk ((by rw[hg];exact(aU (bs jg.out)):w.heap.size≤jD));have j3:=ak.mk ((by rw[hg];exact Nat.ne_of_lt (gW (g:=eH) (o:=.cells #[.int .i64 dP,.int .i64 dw,.string bQ,.string dM,.slice (some oC) bA.length eX] 34 (0,0)) (kz bP.out)):eH≠jD));have pO:=ak.mk ((by rw[hg];exact Nat.ne_of_gt (gW (g:=eH) (o:=.cells #[.int .i64 dP,.int .i64 dw,.string bQ,.string dM,.slice (some oC) bA.length eX] 34 (0,0)) (kz bP.out)):jD≠eH));replace bP:=ak.mk (dI (g:=eH) (o:=.cells #[.int .i64 dP,.int .i64 dw,.string bQ,.string dM,.slice (some oC) bA.length eX] 34 (0,0)) (kz bP.out) hb);replace HB:=ak.mk (aG (bs jg.out) hb);clear hb fU hg;have hnb43:=pO.out;have hnc43:=j3.out;have hcz44_0:w42.cell? ⟨jD,0,none⟩=some (.string (⟨#[]⟩:Bt)):=(aC iX.out 0).trans rfl;have hcz44_1:w42.cell? ⟨jD,1,none⟩=some (.string (⟨#[]⟩:Bt)):=(aC iX.out 1).trans rfl;have hfz44_0:=ay iX.out 0;have hfz44_1:=ay iX.out 1)|((with_reducible refine aZ (f:=95) rfl ?_);refine dO (some 38) rfl rfl Tryz.func95 (by kernel_rfl) rfl #[.string ((bg bA fD).f0)] rfl q'a ?_;(with_reducible refine(oo.calls k2 ((bg bA fD).f0) true _ A30.out).mono ?_);rintro e w' ⟨rfl,⟨nd,rfl⟩⟩;refine⟨_,rfl,?_⟩)|(go_at_call 47;(with_reducible refine(dK.calls ((bg bA fD).f0) true _ A32.out (Go.Proofs.YtkcmghlhpbepcaaGreatDoor.Std.below HS_.out (by repeat(first|(with_reducible first|exact HB.out|apply bY|apply bE|apply dh|refine aH ?_ jg.out|refine aH ?_ qw.out)|exact HB.out)))).mono ?_);rintro e w45 ⟨rfl,hb⟩;replace bP:=ak.mk (dI (g:=eH) (o:=.cells #[.int .i64 dP,.int .i64 dw,.string bQ,.string dM,.slice (some oC) bA.length eX] 34 (0,0)) (by(with_reducible repeat(first|refine aV ?_ _|refine aY ?_ |refine aW ?_ _));refine mG ?_ j3.out _;(with_reducible repeat(first|refine aV ?_ _|refine aY ?_ |refine aW ?_ _));refine mG ?_ j3.out _;(with_reducible repeat(first|refine aV ?_ _|refine aY ?_ |refine aW ?_ _));exact bP.out) hb);replace iX:=ak.mk (dI (g:=jD) (o:=.cells #[.string ((bg bA fD).f0),.string ((bg bA fD).f1)] 36 (0,0)) (by(with_reducible repeat(first|refine aV ?_ _|refine aY ?_ |refine aW ?_ _));refine bT (cs:=#[.string ((bg bA fD).f0),.string (⟨#[]⟩:Bt)]) ?_ 1 _ rfl;(with_reducible repeat(first|refine aV ?_ _|refine aY ?_ |refine aW ?_ _));refine bT (cs:=#[.string (⟨#[]⟩:Bt),.string (⟨#[]⟩:Bt)]) ?_ 0 _ rfl;(with_reducible repeat(first|refine aV ?_ _|refine aY ?_ |refine aW ?_ _));exact iX.out) hb);replace HB:=ak.mk (aG (by repeat(first|(with_reducible first|exact HB.out|apply bY|apply bE|apply dh|refine aH ?_ jg.out|refine aH ?_ qw.out)|exact HB.out)) hb);(try clear hb);(try clear hb2);(try clear hk);(try clear hi);have hcz46_0:w45.cell? ⟨jD,0,none⟩=some (.string ((bg bA fD).f0)):=(aC iX.out 0).trans rfl;have hcz46_1:w45.cell? ⟨jD,1,none⟩=some (.string ((bg bA fD).f1)):=(aC iX.out 1).trans rfl;have hfz46_0:=ay iX.out 0;have hfz46_1:=ay iX.out 1)|(go_at_call 47;(with_reducible refine(dK.calls ((bg bA fD).f1) false _ A34.out (Go.Proofs.YtkcmghlhpbepcaaGreatDoor.Std.below HS_.out (by repeat(first|(with_reducible first|exact HB.out|apply bY|apply bE|apply dh|refine aH ?_ jg.out|refine aH ?_ qw.out)|exact HB.out)))).mono ?_);rintro e w47 ⟨rfl,hb⟩;replace bP:=ak.mk (dI (g:=eH) (o:=.cells #[.int .i64 dP,.int .i64 dw,.string bQ,.string dM,.slice (some oC) bA.length eX] 34 (0,0)) (kz bP.out) hb);replace iX:=ak.mk (dI (g:=jD) (o:=.cells #[.string ((bg bA fD).f0),.string ((bg bA fD).f1)] 36 (0,0)) (kz iX.out) hb);replace HB:=ak.mk (aG (by repeat(first|(with_reducible first|exact HB.out|apply bY|apply bE|apply dh|refine aH ?_ jg.out|refine aH ?_ qw.out)|exact HB.out)) hb);(try clear hb);(try clear hb2);(try clear hk);(try clear hi)))
            go_ret;exact⟨by first|rfl|(simp[aJ,aM]<;>rfl)|(simp[*,aJ,aM]<;>rfl),by repeat(first|(with_reducible first|exact HB.out|apply bY|apply bE|apply dh|refine aH ?_ jg.out|refine aH ?_ qw.out)|exact HB.out)⟩
          ·replace c33:=Bool.eq_false_iff.mpr c33
           subst c33;have H1:(some false)=some r:=by rw[if_neg (show¬(false=true) by decide)]at H;first|exact H|(simp only[eq_self]at H⊢;exact H)|(simp only[eq_self,if_true]at H⊢;exact H)
           clear H;have H:=H1;clear H1;obtain rfl:=Option.some.inj H;have zK:0≤(fD:Int):=q'b;have zL:fD<(bA.length:Int):=q'b;obtain⟨oC,e614,lQ,lS⟩:=l7 xV.out fD zK zL;cases e614;replace lQ:=(HB.out.cell (World.block_lt_of_cell? w _ lQ)).trans lQ;replace lS:=(HB.out.cell (World.block_lt_of_cell? w _ lS)).trans lS;replace zK:=eq_true zK;replace zL:=eq_true zL
           go_wp2_with(first|((with_reducible refine cu (N:=6) rfl ?_);refine eT ?hg (N:=6) ?hd (cs:=#[.string (⟨#[]⟩:Bt),.string (⟨#[]⟩:Bt)]) (t:=36) ?hr ?_;(case hd=>rfl);(case hg=>rfl);(case hr=>first|(go_simp;done)|(go_simp;rfl));intro jD hg w48 fU hb;have iX:=ak.mk (fU);have GW615:=ak.mk ((by rw[hg];exact(aU (bs jg.out)):w.heap.size≤jD));have qw:=ak.mk ((by rw[hg];exact(aU (bs jg.out)):w.heap.size≤jD));have j3:=ak.mk ((by rw[hg];exact Nat.ne_of_lt (gW (g:=eH) (o:=.cells #[.int .i64 dP,.int .i64 dw,.string bQ,.string dM,.slice (some oC) bA.length eX] 34 (0,0)) (kz bP.out)):eH≠jD));have pO:=ak.mk ((by rw[hg];exact Nat.ne_of_gt (gW (g:=eH) (o:=.cells #[.int .i64 dP,.int .i64 dw,.string bQ,.string dM,.slice (some oC) bA.length eX] 34 (0,0)) (kz bP.out)):jD≠eH));replace bP:=ak.mk (dI (g:=eH) (o:=.cells #[.int .i64 dP,.int .i64 dw,.string bQ,.string dM,.slice (some oC) bA.length eX] 34 (0,0)) (kz bP.out) hb);replace HB:=ak.mk (aG (bs jg.out) hb);clear hb fU hg;have hnb49:=pO.out;have hnc49:=j3.out;have hcz50_0:w48.cell? ⟨jD,0,none⟩=some (.string (⟨#[]⟩:Bt)):=(aC iX.out 0).trans rfl;have hcz50_1:w48.cell? ⟨jD,1,none⟩=some (.string (⟨#[]⟩:Bt)):=(aC iX.out 1).trans rfl;have hfz50_0:=ay iX.out 0;have hfz50_1:=ay iX.out 1)|((with_reducible refine aZ (f:=95) rfl ?_);refine dO (some 38) rfl rfl Tryz.func95 (by kernel_rfl) rfl #[.string ((bg bA fD).f0)] rfl q'a ?_;(with_reducible refine(oo.calls k2 ((bg bA fD).f0) true _ A30.out).mono ?_);rintro e w' ⟨rfl,⟨nd,rfl⟩⟩;refine⟨_,rfl,?_⟩)|(go_at_call 47;(with_reducible refine(dK.calls ((bg bA fD).f0) false _ A32.out (Go.Proofs.YtkcmghlhpbepcaaGreatDoor.Std.below HS_.out (by repeat(first|(with_reducible first|exact HB.out|apply bY|apply bE|apply dh|refine aH ?_ jg.out|refine aH ?_ qw.out)|exact HB.out)))).mono ?_);rintro e w51 ⟨rfl,hb⟩;replace bP:=ak.mk (dI (g:=eH) (o:=.cells #[.int .i64 dP,.int .i64 dw,.string bQ,.string dM,.slice (some oC) bA.length eX] 34 (0,0)) (by(with_reducible repeat(first|refine aV ?_ _|refine aY ?_ |refine aW ?_ _));refine mG ?_ j3.out _;(with_reducible repeat(first|refine aV ?_ _|refine aY ?_ |refine aW ?_ _));refine mG ?_ j3.out _;(with_reducible repeat(first|refine aV ?_ _|refine aY ?_ |refine aW ?_ _));exact bP.out) hb);replace iX:=ak.mk (dI (g:=jD) (o:=.cells #[.string ((bg bA fD).f0),.string ((bg bA fD).f1)] 36 (0,0)) (by(with_reducible repeat(first|refine aV ?_ _|refine aY ?_ |refine aW ?_ _));refine bT (cs:=#[.string ((bg bA fD).f0),.string (⟨#[]⟩:Bt)]) ?_ 1 _ rfl;(with_reducible repeat(first|refine aV ?_ _|refine aY ?_ |refine aW ?_ _));refine bT (cs:=#[.string (⟨#[]⟩:Bt),.string (⟨#[]⟩:Bt)]) ?_ 0 _ rfl;(with_reducible repeat(first|refine aV ?_ _|refine aY ?_ |refine aW ?_ _));exact iX.out) hb);replace HB:=ak.mk (aG (by repeat(first|(with_reducible first|exact HB.out|apply bY|apply bE|apply dh|refine aH ?_ jg.out|refine aH ?_ qw.out)|exact HB.out)) hb);(try clear hb);(try clear hb2);(try clear hk);(try clear hi)))
           go_ret;exact⟨by first|rfl|(simp[aJ,aM]<;>rfl)|(simp[*,aJ,aM]<;>rfl),by repeat(first|(with_reducible first|exact HB.out|apply bY|apply bE|apply dh|refine aH ?_ jg.out|refine aH ?_ qw.out)|exact HB.out)⟩
         ·replace c31:=Bool.eq_false_iff.mpr c31
          subst c31;have H1:(some false)=some r:=by rw[if_neg (show¬(false=true) by decide)]at H;first|exact H|(simp only[eq_self]at H⊢;exact H)|(simp only[eq_self,if_true]at H⊢;exact H)
          clear H;have H:=H1;clear H1;obtain rfl:=Option.some.inj H;have zK:0≤(fD:Int):=q'b;have zL:fD<(bA.length:Int):=q'b;obtain⟨oC,e614,lQ,lS⟩:=l7 xV.out fD zK zL;cases e614;replace lQ:=(HB.out.cell (World.block_lt_of_cell? w _ lQ)).trans lQ;replace lS:=(HB.out.cell (World.block_lt_of_cell? w _ lS)).trans lS;replace zK:=eq_true zK;replace zL:=eq_true zL
          go_wp2_with(first|((with_reducible refine cu (N:=6) rfl ?_);refine eT ?hg (N:=6) ?hd (cs:=#[.string (⟨#[]⟩:Bt),.string (⟨#[]⟩:Bt)]) (t:=36) ?hr ?_;(case hd=>rfl);(case hg=>rfl);(case hr=>first|(go_simp;done)|(go_simp;rfl));intro jD hg w52 fU hb;have iX:=ak.mk (fU);have GW615:=ak.mk ((by rw[hg];exact(aU (bs jg.out)):w.heap.size≤jD));have qw:=ak.mk ((by rw[hg];exact(aU (bs jg.out)):w.heap.size≤jD));have j3:=ak.mk ((by rw[hg];exact Nat.ne_of_lt (gW (g:=eH) (o:=.cells #[.int .i64 dP,.int .i64 dw,.string bQ,.string dM,.slice (some oC) bA.length eX] 34 (0,0)) (kz bP.out)):eH≠jD));have pO:=ak.mk ((by rw[hg];exact Nat.ne_of_gt (gW (g:=eH) (o:=.cells #[.int .i64 dP,.int .i64 dw,.string bQ,.string dM,.slice (some oC) bA.length eX] 34 (0,0)) (kz bP.out)):jD≠eH));replace bP:=ak.mk (dI (g:=eH) (o:=.cells #[.int .i64 dP,.int .i64 dw,.string bQ,.string dM,.slice (some oC) bA.length eX] 34 (0,0)) (kz bP.out) hb);replace HB:=ak.mk (aG (bs jg.out) hb);clear hb fU hg;have hnb53:=pO.out;have hnc53:=j3.out;have hcz54_0:w52.cell? ⟨jD,0,none⟩=some (.string (⟨#[]⟩:Bt)):=(aC iX.out 0).trans rfl;have hcz54_1:w52.cell? ⟨jD,1,none⟩=some (.string (⟨#[]⟩:Bt)):=(aC iX.out 1).trans rfl;have hfz54_0:=ay iX.out 0;have hfz54_1:=ay iX.out 1)|((with_reducible refine aZ (f:=95) rfl ?_);refine dO (some 38) rfl rfl Tryz.func95 (by kernel_rfl) rfl #[.string ((bg bA fD).f0)] rfl q'a ?_;(with_reducible refine(oo.calls k2 ((bg bA fD).f0) false _ A30.out).mono ?_);rintro e w' ⟨rfl,⟨nd,rfl⟩⟩;refine⟨_,rfl,?_⟩))
          go_ret;exact⟨by first|rfl|(simp[aJ,aM]<;>rfl)|(simp[*,aJ,aM]<;>rfl),by repeat(first|(with_reducible first|exact HB.out|apply bY|apply bE|apply dh|refine aH ?_ jg.out|refine aH ?_ qw.out)|exact HB.out)⟩
        ·rw[if_neg c29]at H
         exact absurd H (by simp)
       ·rw[if_neg c28]at H
        exact absurd H (by simp)
      ·rw[if_neg c27]at H
       have c27b0:decide (fD<(bA.length:Int))=false:=decide_eq_false c27;clear c27;obtain rfl:=Option.some.inj H;go_wp2;go_ret;exact⟨by first|rfl|(simp[aJ,aM]<;>rfl)|(simp[*,aJ,aM]<;>rfl),bs jg.out⟩
end Go.Proofs.aj.W7
