/- Lemmas and walks, part 14. -/
import Derived.Test.YtkcmghlhpbepcaaGreatDoorWI13
set_option linter.unusedVariables false
set_option linter.unusedSimpArgs false
set_option maxHeartbeats 8000000
set_option maxRecDepth 100000
namespace Go.Proofs.aj.W7
open Go.RowKit ah.aD ah.bH ah.bU
attribute [local go_sem] dB dD dW dX bZ cu dF dG
mutual
def rows_row.j0:Nat→Bool→Int→Int→Bt→Bt→List (S36)→Option (Bool)
 |0,_,_,_,_,_,_=>none
 |k+1,x14,qZ,qg,oO,qh,mK=>if x14=true then(if oO.toList=([] :List UInt8)then(some ((mK.length:Int)==0))else(some false))else(if qg=0 then(if oO.toList=([] :List UInt8)then(rows_row.j1 k true qZ qg oO qh mK)else(rows_row.j1 k (qh.toList !=([] :List UInt8)) qZ qg oO qh mK))else(rows_row.j1 k true qZ qg oO qh mK))
def rows_row.j1:Nat→Bool→Int→Int→Bt→Bt→List (S36)→Option (Bool)
 |0,_,_,_,_,_,_=>none
 |k+1,x36,qZ,qg,oO,qh,mK=>if x36=true then(some false)else(rows_row.l0 k mK (mK.length:Int) 0 qZ qg oO qh mK)
def rows_row.l0:Nat→List (S36)→Int→Int→Int→Int→Bt→Bt→List (S36)→Option (Bool)
 |0,_,_,_,_,_,_,_,_=>none
 |k+1,x38,x39,x40,qZ,qg,oO,qh,mK=>if x40<x39 then(if 0≤x40 then(if x40<(x38.length:Int)then(if x40≤(mK.length:Int)then((some (mK.take (x40:Int).toNat:List (S36))).bind fun Ca=>(rows_row.l1 k x38 x39 x40 Ca (Ca.length:Int) 0 qZ qg oO qh mK ((bD x38 x40).f0) ((bD x38 x40).f1)))else(none))else(none))else(none))else(some true)
def rows_row.l1:Nat→List (S36)→Int→Int→List (S36)→Int→Int→Int→Int→Bt→Bt→List (S36)→Bt→Bt→Option (Bool)
 |0,_,_,_,_,_,_,_,_,_,_,_,_,_=>none
 |k+1,x38,x39,x40,x48,x49,x50,qZ,qg,oO,qh,mK,RN,x575001=>if x50<x49 then(if 0≤x50 then(if x50<(x48.length:Int)then(if RN.toList=((bD x48 x50).f0).toList then(some false)else(rows_row.l1 k x38 x39 x40 x48 x49 (wrap64 (x50+1)) qZ qg oO qh mK RN x575001))else(none))else(none))else(rows_row.l0 k x38 x39 (wrap64 (x40+1)) qZ qg oO qh mK)
end
def rows_row.f(k:Nat)(eD dV:Int)(dH eu:Bt)(bG:List (S36)):Option (Bool):=if dV=1 then(rows_row.j0 k true eD dV dH eu bG)else(rows_row.j0 k (dV==2) eD dV dH eu bG)
theorem rows_row.calls(k:Nat)(eD dV:Int)(dH eu:Bt)(iT:Option Addr)(fM:Nat)(bG:List (S36))(r:Bool)(w:World)(zh:Kd.C k36 w iT bG.length bG)(zi:bG.length≤fM)(h:rows_row.f k eD dV dH eu bG=some r):
 Calls Tryz.prog 131 #[.agg #[.int .i64 eD,.int .i64 dV,.string dH,.string eu,.slice iT bG.length fM]] w fun e w'=>e=.returned (.bool r)∧Below w.heap.size w w':=by
 have hu34:=Tryz.underlying34;have hu36:=Tryz.underlying36;have zl:=ak.mk zh;have ND:=ak.mk zi;clear zh zi;have HB:=ak.mk (Below.refl w.heap.size w);have H:(if dV=1 then(rows_row.j0 k true eD dV dH eu bG)else(rows_row.j0 k (dV==2) eD dV dH eu bG))=some r:=h;clear h;have HC2:=ak.mk H;clear H;go_enter Tryz.func131,Tryz.ntmps131
 go_upto_region 1 with(first|((with_reducible refine cB (N:=1) rfl ?_);(try(refine qK (by rfl) ?_;dsimp only));refine fH ?hg (N:=1) ?hd (cs:=#[.int .i64 eD,.int .i64 dV,.string dH,.string eu,.slice iT bG.length fM]) (t:=34) ?hr ?_;(case hd=>rfl);(case hg=>rfl);(case hr=>first|(go_simp;done)|(go_simp;rfl));intro fU hg w3 gG hb;have dw:=ak.mk (gG);have GW572:=ak.mk ((by rw[hg];exact(aU bz):w.heap.size≤fU));have nD:=ak.mk ((by rw[hg];exact(aU bz):w.heap.size≤fU));replace HB:=ak.mk (aG bz hb);clear hb gG hg))
 (try simp only[Act.put,List.setIfInBounds_toArray,List.set_cons_zero,List.set_cons_succ])
 go_cut [14] (fun v14 wc=>∃(kq:Nat) (x14_1:Bool),v14=.bool x14_1∧ak (rows_row.j0 kq x14_1 eD dV dH eu bG=some r)∧ak (kq≤k)∧ak (wc.heap[fU]?=some (.cells #[.int .i64 eD,.int .i64 dV,.string dH,.string eu,(.slice iT bG.length fM)] 34 (0,0)))∧ak (Below w.heap.size w wc))
 case first=>
  have H:=HC2.out;clear HC2
  by_cases c4:dV=1
  ·rw[if_pos c4]at H
   have lY:=beq_iff_eq.mpr c4;have Ab:=bne_eq_false_iff_eq.mpr c4;clear c4
   (first|rw[lY] |(simp only[mq,nA];rw[lY])|skip)
   have H':=ak.mk H;clear H;have KS:w3.cell? ⟨fU,0,none⟩=some (.int .i64 eD):=(aC dw.out 0).trans rfl;have KT:w3.cell? ⟨fU,1,none⟩=some (.int .i64 dV):=(aC dw.out 1).trans rfl;have KU:w3.cell? ⟨fU,2,none⟩=some (.string dH):=(aC dw.out 2).trans rfl;have KV:w3.cell? ⟨fU,3,none⟩=some (.string eu):=(aC dw.out 3).trans rfl;have KW:w3.cell? ⟨fU,4,none⟩=some (.slice iT bG.length fM):=(aC dw.out 4).trans rfl;have KX:=ay dw.out 0;have KY:=ay dw.out 1;have KZ:=ay dw.out 2;have K3:=ay dw.out 3;have K4:=ay dw.out 4;go_wp2
   go_meet
   case rel=>exact⟨_,(true),q'c,H',⟨by first|omega|exact Nat.le_refl _⟩,⟨kz dw.out⟩,⟨bs nD.out⟩⟩
  ·rw[if_neg c4]at H
   have lY:=beq_eq_false_iff_ne.mpr c4;have Ab:=bne_iff_ne.mpr c4
   (first|rw[lY] |(simp only[mq,nA];rw[lY])|skip)
   have H':=ak.mk H;clear H;have K5:w3.cell? ⟨fU,0,none⟩=some (.int .i64 eD):=(aC dw.out 0).trans rfl;have K6:w3.cell? ⟨fU,1,none⟩=some (.int .i64 dV):=(aC dw.out 1).trans rfl;have K7:w3.cell? ⟨fU,2,none⟩=some (.string dH):=(aC dw.out 2).trans rfl;have K8:w3.cell? ⟨fU,3,none⟩=some (.string eu):=(aC dw.out 3).trans rfl;have K9:w3.cell? ⟨fU,4,none⟩=some (.slice iT bG.length fM):=(aC dw.out 4).trans rfl;have La:=ay dw.out 0;have Lb:=ay dw.out 1;have Lc:=ay dw.out 2;have Ld:=ay dw.out 3;have Le:=ay dw.out 4;go_wp2
   go_meet
   case rel=>exact⟨_,((dV==2)),q'c,H',⟨by first|omega|exact Nat.le_refl _⟩,⟨kz dw.out⟩,⟨bs nD.out⟩⟩
 case rest=>
  clear HC2
  try clear c1
  try clear p2
  try clear c4
  try clear lY
  try clear Ab
  try clear KS
  try clear KT
  try clear KU
  try clear KV
  try clear KW
  try clear K5
  try clear K6
  try clear K7
  try clear K8
  try clear K9
  try clear KX
  try clear KY
  try clear KZ
  try clear K3
  try clear K4
  try clear La
  try clear Lb
  try clear Lc
  try clear Ld
  try clear Le
  obtain⟨kq,x14_1,rfl,HA,HJ1,dw,HB⟩:=hcut;cases kq with
  |zero=>exact absurd HA.out (by simp[rows_row.j0])
  |succ kj1=>
   have H:=HA.out;clear HA;simp only[rows_row.j0]at H
   by_cases c7:x14_1=true
   ·subst c7
    rw[if_pos rfl]at H
    try dsimp only at H
    by_cases c8:dH.toList=([] :List UInt8)
    ·rw[if_pos c8]at H
     have yZ:=beq_iff_eq.mpr c8;have c8b1:=bne_eq_false_iff_eq.mpr c8;clear c8;obtain rfl:=Option.some.inj H;have xC:wc.cell? ⟨fU,0,none⟩=some (.int .i64 eD):=(aC dw.out 0).trans rfl;have xD:wc.cell? ⟨fU,1,none⟩=some (.int .i64 dV):=(aC dw.out 1).trans rfl;have xE:wc.cell? ⟨fU,2,none⟩=some (.string dH):=(aC dw.out 2).trans rfl;have xF:wc.cell? ⟨fU,3,none⟩=some (.string eu):=(aC dw.out 3).trans rfl;have xG:wc.cell? ⟨fU,4,none⟩=some (.slice iT bG.length fM):=(aC dw.out 4).trans rfl;have xH:=ay dw.out 0;have xI:=ay dw.out 1;have xJ:=ay dw.out 2;have xK:=ay dw.out 3;have xL:=ay dw.out 4;go_wp2;go_ret;exact⟨by first|rfl|(simp[aI,aJ]<;>rfl)|(simp[*,aI,aJ]<;>rfl),bs nD.out⟩
    ·rw[if_neg c8]at H
     have yZ:=beq_eq_false_iff_ne.mpr c8;have c8b1:=bne_iff_ne.mpr c8;obtain rfl:=Option.some.inj H;have Fb:wc.cell? ⟨fU,0,none⟩=some (.int .i64 eD):=(aC dw.out 0).trans rfl;have Fe:wc.cell? ⟨fU,1,none⟩=some (.int .i64 dV):=(aC dw.out 1).trans rfl;have Fg:wc.cell? ⟨fU,2,none⟩=some (.string dH):=(aC dw.out 2).trans rfl;have Fh:wc.cell? ⟨fU,3,none⟩=some (.string eu):=(aC dw.out 3).trans rfl;have Fj:wc.cell? ⟨fU,4,none⟩=some (.slice iT bG.length fM):=(aC dw.out 4).trans rfl;have Fp:=ay dw.out 0;have Fq:=ay dw.out 1;have Fu:=ay dw.out 2;have Fv:=ay dw.out 3;have Fw:=ay dw.out 4;go_wp2;go_ret;exact⟨by first|rfl|(simp[aI,aJ]<;>rfl)|(simp[*,aI,aJ]<;>rfl),bs nD.out⟩
   ·replace c7:=Bool.eq_false_iff.mpr c7
    subst c7;have H1:(if dV=0 then(if dH.toList=([] :List UInt8)then(rows_row.j1 kj1 true eD dV dH eu bG)else(rows_row.j1 kj1 (eu.toList !=([] :List UInt8)) eD dV dH eu bG))else(rows_row.j1 kj1 true eD dV dH eu bG))=some r:=by rw[if_neg (show¬(false=true) by decide)]at H;first|exact H|(simp only[eq_self]at H⊢;exact H)|(simp only[eq_self,if_true]at H⊢;exact H)
    clear H;have H:=H1;clear H1;have HC11:=ak.mk H;clear H
    go_upto_region 3 with(fail)
    go_cut [36] (fun v36 wc=>∃(kq:Nat) (Lf:Bool),v36=.bool Lf∧ak (rows_row.j1 kq Lf eD dV dH eu bG=some r)∧ak (kq≤kj1)∧ak (wc.heap[fU]?=some (.cells #[.int .i64 eD,.int .i64 dV,.string dH,.string eu,(.slice iT bG.length fM)] 34 (0,0)))∧ak (Below w.heap.size w wc))
    case first=>
     have H:=HC11.out;clear HC11
     by_cases c12:dV=0
     ·rw[if_pos c12]at H
      have Cb:=beq_iff_eq.mpr c12;have NS:=bne_eq_false_iff_eq.mpr c12;clear c12
      (first|rw[Cb] |(simp only[mq,nA];rw[Cb])|skip)
      by_cases c13:dH.toList=([] :List UInt8)
      ·rw[if_pos c13]at H
       have vX:=beq_iff_eq.mpr c13;have GJ:=bne_eq_false_iff_eq.mpr c13;clear c13;have H':=ak.mk H;clear H;have xM:wc.cell? ⟨fU,0,none⟩=some (.int .i64 eD):=(aC dw.out 0).trans rfl;have xO:wc.cell? ⟨fU,1,none⟩=some (.int .i64 dV):=(aC dw.out 1).trans rfl;have xP:wc.cell? ⟨fU,2,none⟩=some (.string dH):=(aC dw.out 2).trans rfl;have xQ:wc.cell? ⟨fU,3,none⟩=some (.string eu):=(aC dw.out 3).trans rfl;have xR:wc.cell? ⟨fU,4,none⟩=some (.slice iT bG.length fM):=(aC dw.out 4).trans rfl;have xS:=ay dw.out 0;have xU:=ay dw.out 1;have xV:=ay dw.out 2;have xW:=ay dw.out 3;have xX:=ay dw.out 4;go_wp2
       go_meet
       case rel=>exact⟨_,(true),q'c,H',⟨lz HJ1.out⟩,⟨kz dw.out⟩,⟨bs nD.out⟩⟩
      ·rw[if_neg c13]at H
       have vX:=beq_eq_false_iff_ne.mpr c13;have GJ:=bne_iff_ne.mpr c13;have H':=ak.mk H;clear H;have Lg:wc.cell? ⟨fU,0,none⟩=some (.int .i64 eD):=(aC dw.out 0).trans rfl;have Lh:wc.cell? ⟨fU,1,none⟩=some (.int .i64 dV):=(aC dw.out 1).trans rfl;have Li:wc.cell? ⟨fU,2,none⟩=some (.string dH):=(aC dw.out 2).trans rfl;have Lj:wc.cell? ⟨fU,3,none⟩=some (.string eu):=(aC dw.out 3).trans rfl;have Ll:wc.cell? ⟨fU,4,none⟩=some (.slice iT bG.length fM):=(aC dw.out 4).trans rfl;have Lm:=ay dw.out 0;have Lp:=ay dw.out 1;have Lr:=ay dw.out 2;have Ls:=ay dw.out 3;have Lu:=ay dw.out 4;go_wp2
       go_meet
       case rel=>exact⟨_,((eu.toList !=([] :List UInt8))),q'c,H',⟨lz HJ1.out⟩,⟨kz dw.out⟩,⟨bs nD.out⟩⟩
     ·rw[if_neg c12]at H
      have Cb:=beq_eq_false_iff_ne.mpr c12;have NS:=bne_iff_ne.mpr c12
      (first|rw[Cb] |(simp only[mq,nA];rw[Cb])|skip)
      have H':=ak.mk H;clear H;have uF:wc.cell? ⟨fU,0,none⟩=some (.int .i64 eD):=(aC dw.out 0).trans rfl;have uG:wc.cell? ⟨fU,1,none⟩=some (.int .i64 dV):=(aC dw.out 1).trans rfl;have xg:wc.cell? ⟨fU,2,none⟩=some (.string dH):=(aC dw.out 2).trans rfl;have xq:wc.cell? ⟨fU,3,none⟩=some (.string eu):=(aC dw.out 3).trans rfl;have xu:wc.cell? ⟨fU,4,none⟩=some (.slice iT bG.length fM):=(aC dw.out 4).trans rfl;have uH:=ay dw.out 0;have uI:=ay dw.out 1;have xw:=ay dw.out 2;have xA:=ay dw.out 3;have xB:=ay dw.out 4;go_wp2
      go_meet
      case rel=>exact⟨_,(true),q'c,H',⟨lz HJ1.out⟩,⟨kz dw.out⟩,⟨bs nD.out⟩⟩
    case rest=>
     clear HC11
     try clear c1
     try clear p2
     try clear c4
     try clear lY
     try clear Ab
     try clear c7
     try clear c8
     try clear yZ
     try clear c8b1
     try clear c12
     try clear Cb
     try clear NS
     try clear c13
     try clear vX
     try clear GJ
     try clear Fb
     try clear Fe
     try clear Fg
     try clear Fh
     try clear Fj
     try clear xM
     try clear xO
     try clear xP
     try clear xQ
     try clear xR
     try clear Lg
     try clear Lh
     try clear Li
     try clear Lj
     try clear Ll
     try clear uF
     try clear uG
     try clear xg
     try clear xq
     try clear xu
     try clear KS
     try clear KT
     try clear KU
     try clear KV
     try clear KW
     try clear K5
     try clear K6
     try clear K7
     try clear K8
     try clear K9
     try clear xC
     try clear xD
     try clear xE
     try clear xF
     try clear xG
     try clear Fp
     try clear Fq
     try clear Fu
     try clear Fv
     try clear Fw
     try clear xS
     try clear xU
     try clear xV
     try clear xW
     try clear xX
     try clear Lm
     try clear Lp
     try clear Lr
     try clear Ls
     try clear Lu
     try clear uH
     try clear uI
     try clear xw
     try clear xA
     try clear xB
     try clear KX
     try clear KY
     try clear KZ
     try clear K3
     try clear K4
     try clear La
     try clear Lb
     try clear Lc
     try clear Ld
     try clear Le
     try clear xH
     try clear xI
     try clear xJ
     try clear xK
     try clear xL
     try clear p2
     obtain⟨kq,Lf,rfl,HA,HJ10,dw,HB⟩:=hcut;cases kq with
     |zero=>exact absurd HA.out (by simp[rows_row.j1])
     |succ kj10=>
      have H:=HA.out;clear HA;simp only[rows_row.j1]at H
      by_cases c17:Lf=true
      ·subst c17
       rw[if_pos rfl]at H
       try dsimp only at H
       obtain rfl:=Option.some.inj H;go_wp2;go_ret;exact⟨by first|rfl|(simp[aI,aJ]<;>rfl)|(simp[*,aI,aJ]<;>rfl),bs nD.out⟩
      ·replace c17:=Bool.eq_false_iff.mpr c17
       subst c17;have H1:(rows_row.l0 kj10 bG (bG.length:Int) 0 eD dV dH eu bG)=some r:=by rw[if_neg (show¬(false=true) by decide)]at H;first|exact H|(simp only[eq_self]at H⊢;exact H)|(simp only[eq_self,if_true]at H⊢;exact H)
       clear H;have H:=H1;clear H1;have H':=ak.mk H;clear H;have ug:wc.cell? ⟨fU,0,none⟩=some (.int .i64 eD):=(aC dw.out 0).trans rfl;have uh:wc.cell? ⟨fU,1,none⟩=some (.int .i64 dV):=(aC dw.out 1).trans rfl;have uj:wc.cell? ⟨fU,2,none⟩=some (.string dH):=(aC dw.out 2).trans rfl;have um:wc.cell? ⟨fU,3,none⟩=some (.string eu):=(aC dw.out 3).trans rfl;have uo:wc.cell? ⟨fU,4,none⟩=some (.slice iT bG.length fM):=(aC dw.out 4).trans rfl;have uq:=ay dw.out 0;have uw:=ay dw.out 1;have uy:=ay dw.out 2;have uz:=ay dw.out 3;have uD:=ay dw.out 4;go_wp2
       go_loopg [40] kj10 (fun kq v40 w'=>∃(iO:Int),v40=.int .i64 iO∧ak (rows_row.l0 kq bG (bG.length:Int) iO eD dV dH eu bG=some r)∧ak (kq≤kj10)∧ak (w'.heap[fU]?=some (.cells #[.int .i64 eD,.int .i64 dV,.string dH,.string eu,(.slice iT bG.length fM)] 34 (0,0)))∧ak (Below w.heap.size w w'))
       case atStart=>exact⟨(0),q'c,H',⟨Nat.le_refl _⟩,⟨kz dw.out⟩,⟨bs nD.out⟩⟩
       case round=>
        clear H'
        try clear c1
        try clear p2
        try clear c4
        try clear lY
        try clear Ab
        try clear c7
        try clear c8
        try clear yZ
        try clear c8b1
        try clear c12
        try clear Cb
        try clear NS
        try clear c13
        try clear vX
        try clear GJ
        try clear c17
        try clear Fb
        try clear Fe
        try clear Fg
        try clear Fh
        try clear Fj
        try clear xM
        try clear xO
        try clear xP
        try clear xQ
        try clear xR
        try clear Lg
        try clear Lh
        try clear Li
        try clear Lj
        try clear Ll
        try clear uF
        try clear uG
        try clear xg
        try clear xq
        try clear xu
        try clear ug
        try clear uh
        try clear uj
        try clear um
        try clear uo
        try clear KS
        try clear KT
        try clear KU
        try clear KV
        try clear KW
        try clear K5
        try clear K6
        try clear K7
        try clear K8
        try clear K9
        try clear xC
        try clear xD
        try clear xE
        try clear xF
        try clear xG
        try clear Fp
        try clear Fq
        try clear Fu
        try clear Fv
        try clear Fw
        try clear xS
        try clear xU
        try clear xV
        try clear xW
        try clear xX
        try clear Lm
        try clear Lp
        try clear Lr
        try clear Ls
        try clear Lu
        try clear uH
        try clear uI
        try clear xw
        try clear xA
        try clear xB
        try clear uq
        try clear uw
        try clear uy
        try clear uz
        try clear uD
        try clear KX
        try clear KY
        try clear KZ
        try clear K3
        try clear K4
        try clear La
        try clear Lb
        try clear Lc
        try clear Ld
        try clear Le
        try clear xH
        try clear xI
        try clear xJ
        try clear xK
        try clear xL
        try clear p2
        obtain⟨iO,rfl,HA,HK3,dw,HB⟩:=hrel;cases gk with
        |zero=>exact absurd HA.out (by simp[rows_row.l0])
        |succ k3=>
         have H:=HA.out;clear HA;simp only[rows_row.l0]at H
         by_cases c19:iO<(bG.length:Int)
         ·rw[if_pos c19]at H
          have GL:=decide_eq_true c19;clear c19
          by_cases c20:0≤iO
          ·rw[if_pos c20]at H
           have c20b0:=decide_eq_true c20;clear c20
           by_cases c21:iO<(bG.length:Int)
           ·rw[if_pos c21]at H
            have c21b0:=decide_eq_true c21;clear c21;have c22b0:=eq_true (q'b:0≤iO)
            by_cases c23:iO≤(bG.length:Int)
            ·rw[if_pos c23]at H
             have c23b0:=eq_true c23;have c23b1:=decide_eq_true c23;clear c23;obtain⟨Ca,NT⟩:∃y_:List (S36),y_=(bG.take (iO:Int).toNat):=⟨_,rfl⟩
             replace H:(rows_row.l1 k3 bG (bG.length:Int) iO Ca (Ca.length:Int) 0 eD dV dH eu bG ((bD bG iO).f0) ((bD bG iO).f1))=some r:=by first|(rw[NT];with_reducible exact H)|(have H2_:=(Option.bind_some _ _).symm.trans H;rw[NT];with_reducible exact H2_)|(have H2_:=(Option.bind_some _ _).symm.trans H;with_reducible exact H2_)|with_reducible exact H|(rw[NT];exact H)|exact H
             have Ny575:=ak.mk NT;clear NT;have H':=ak.mk H;clear H;have p573:0≤(iO:Int):=q'b;have q573:iO<(bG.length:Int):=q'b;obtain⟨rQ,e573,Fx,Fy⟩:=ni zl.out iO p573 q573;cases e573;replace Fx:=(HB.out.cell (World.block_lt_of_cell? w _ Fx)).trans Fx;replace Fy:=(HB.out.cell (World.block_lt_of_cell? w _ Fy)).trans Fy;replace p573:=eq_true p573;replace q573:=eq_true q573
             go_wp2_with(first|((with_reducible refine cB (N:=4) rfl ?_);(try(refine qK (by rfl) ?_;dsimp only));refine fH ?hg (N:=4) ?hd (cs:=#[.string (⟨#[]⟩:Bt),.string (⟨#[]⟩:Bt)]) (t:=36) ?hr ?_;(case hd=>rfl);(case hg=>rfl);(case hr=>first|(go_simp;done)|(go_simp;rfl));intro nE hg w24 gG hb;have lW:=ak.mk (gG);have GW574:=ak.mk ((by rw[hg];exact(aU (bs nD.out)):w.heap.size≤nE));have zm:=ak.mk ((by rw[hg];exact(aU (bs nD.out)):w.heap.size≤nE));have vZ:=ak.mk ((by rw[hg];exact Nat.ne_of_lt (iK (g:=fU) (o:=.cells #[.int .i64 eD,.int .i64 dV,.string dH,.string eu,.slice (some rQ) bG.length fM] 34 (0,0)) (kz dw.out)):fU≠nE));have DI:=ak.mk ((by rw[hg];exact Nat.ne_of_gt (iK (g:=fU) (o:=.cells #[.int .i64 eD,.int .i64 dV,.string dH,.string eu,.slice (some rQ) bG.length fM] 34 (0,0)) (kz dw.out)):nE≠fU));replace dw:=ak.mk (dK (g:=fU) (o:=.cells #[.int .i64 eD,.int .i64 dV,.string dH,.string eu,.slice (some rQ) bG.length fM] 34 (0,0)) (kz dw.out) hb);replace HB:=ak.mk (aG (bs nD.out) hb);clear hb gG hg;have hnb25:=DI.out;have hnc25:=vZ.out;have Fz:w24.cell? ⟨nE,0,none⟩=some (.string (⟨#[]⟩:Bt)):=(aC lW.out 0).trans rfl;have FB:w24.cell? ⟨nE,1,none⟩=some (.string (⟨#[]⟩:Bt)):=(aC lW.out 1).trans rfl;have FC:=ay lW.out 0;have FD:=ay lW.out 1)|((with_reducible refine lN (t:=36) (p:=4) rfl ?_);refine kH (t:=36) (p:=4) (v:=?vo_w27) (w1:=((w24.setCell ⟨nE,0,none⟩ (.string ((bD bG iO).f0))).setCell ⟨nE,1,none⟩ (.string ((bD bG iO).f1)))) ?hg ?ho ?hn ?hr ?_;(case ho=>rfl);(case hg=>rfl);(case hn=>rfl);(case hr=>first|(go_simp;done)|(go_simp;rfl));intro w27 hw;have n0_:ak (w27.heap[fU]?=some (.cells #[.int .i64 eD,.int .i64 dV,.string dH,.string eu,.slice (some rQ) bG.length fM] 34 (0,0))):=⟨(by rw[hw];exact(by(with_reducible repeat(first|refine aY ?_ _|refine bq ?_ |refine aZ ?_ _));refine nG ?_ vZ.out _;(with_reducible repeat(first|refine aY ?_ _|refine bq ?_ |refine aZ ?_ _));refine nG ?_ vZ.out _;(with_reducible repeat(first|refine aY ?_ _|refine bq ?_ |refine aZ ?_ _));exact dw.out))⟩;have n1_:ak (w27.heap[nE]?=some (.cells #[.string ((bD bG iO).f0),.string ((bD bG iO).f1)] 36 (0,0))):=⟨(by rw[hw];exact(by(with_reducible repeat(first|refine aY ?_ _|refine bq ?_ |refine aZ ?_ _));refine bQ (cs:=#[.string ((bD bG iO).f0),.string (⟨#[]⟩:Bt)]) ?_ 1 _ rfl;(with_reducible repeat(first|refine aY ?_ _|refine bq ?_ |refine aZ ?_ _));refine bQ (cs:=#[.string (⟨#[]⟩:Bt),.string (⟨#[]⟩:Bt)]) ?_ 0 _ rfl;(with_reducible repeat(first|refine aY ?_ _|refine bq ?_ |refine aZ ?_ _));exact lW.out))⟩;have n2_:ak (Below w.heap.size w w27):=⟨(by rw[hw];exact(by repeat(first|(with_reducible first|exact HB.out|apply dn|apply bE|apply bX|refine aH ?_ nD.out|refine aH ?_ zm.out)|exact HB.out)))⟩;clear hw;clear dw;clear lW;clear HB;have dw:=n0_;have lW:=n1_;have HB:=n2_;clear n0_ n1_ n2_;have Rl:w27.cell? ⟨fU,0,none⟩=some (.int .i64 eD):=(aC dw.out 0).trans rfl;have Rm:w27.cell? ⟨fU,1,none⟩=some (.int .i64 dV):=(aC dw.out 1).trans rfl;have Rn:w27.cell? ⟨fU,2,none⟩=some (.string dH):=(aC dw.out 2).trans rfl;have Ro:w27.cell? ⟨fU,3,none⟩=some (.string eu):=(aC dw.out 3).trans rfl;have Rp:w27.cell? ⟨fU,4,none⟩=some (.slice (some rQ) bG.length fM):=(aC dw.out 4).trans rfl;have Rq:=ay dw.out 0;have Rs:=ay dw.out 1;have Rt:=ay dw.out 2;have Ru:=ay dw.out 3;have Rv:=ay dw.out 4;have q29:(iO:Int)≤((bG.length:Int):Int):=q'b;obtain⟨i029,hi029,_,hsz29,_⟩:=info_parts Ku;have RO:bG.length≤fM:=ND.out;have hC29:Kd.C k36 _ (some rQ) bG.length bG:=zl.out;have hcut29:=zn (P:=Tryz.prog) 32 36 .i64 Tryz.underlying32 hi029 (some rQ) bG.length fM iO (q'b) q29 RO;have hr29:=Kd.C_take (m:=(iO:Int).toNat) hC29 (by omega);have hy29:Ca.length=(iO:Int).toNat:=(by rw[Ny575.out,List.length_take];omega);rw[←Ny575.out]at hr29;rw[←hy29]at hcut29;have HR578:=ak.mk hr29;have HC578:=ak.mk (show Ca.length≤fM from by omega);clear hr29 hC29 RO hi029 hsz29;have KY29:=ak.mk hy29;clear hy29;replace q29:=eq_true q29))
             go_loopg [50] k3 (fun kq v50 w'=>∃(uJ:Int),v50=.int .i64 uJ∧ak (rows_row.l1 kq bG (bG.length:Int) iO Ca (Ca.length:Int) uJ eD dV dH eu bG ((bD bG iO).f0) ((bD bG iO).f1)=some r)∧ak (kq≤k3)∧ak (w'.heap[fU]?=some (.cells #[.int .i64 eD,.int .i64 dV,.string dH,.string eu,(.slice (some rQ) bG.length fM)] 34 (0,0)))∧ak (w'.heap[nE]?=some (.cells #[.string ((bD bG iO).f0),.string ((bD bG iO).f1)] 36 (0,0)))∧ak (Below w.heap.size w w'))
             case atStart=>exact⟨(0),q'c,H',⟨Nat.le_refl _⟩,⟨kz dw.out⟩,⟨kz lW.out⟩,⟨by repeat(first|(with_reducible first|exact HB.out|apply dn|apply bE|apply bX|refine aH ?_ nD.out|refine aH ?_ zm.out)|exact HB.out)⟩⟩
             case round=>
              clear H'
              try clear c1
              try clear c2
              try clear p2
              try clear q2
              try clear c4
              try clear lY
              try clear Ab
              try clear p5
              try clear q5
              try clear hx5
              try clear c7
              try clear c8
              try clear yZ
              try clear c8b1
              try clear c12
              try clear Cb
              try clear NS
              try clear c13
              try clear vX
              try clear GJ
              try clear c17
              try clear c19
              try clear GL
              try clear c20
              try clear c20b0
              try clear c21
              try clear c21b0
              try clear c22
              try clear c22b0
              try clear c23
              try clear c23b0
              try clear c23b1
              try clear c25
              try clear q29
              try clear Fb
              try clear Fe
              try clear Fg
              try clear Fh
              try clear Fj
              try clear xM
              try clear xO
              try clear xP
              try clear xQ
              try clear xR
              try clear Lg
              try clear Lh
              try clear Li
              try clear Lj
              try clear Ll
              try clear uF
              try clear uG
              try clear xg
              try clear xq
              try clear xu
              try clear ug
              try clear uh
              try clear uj
              try clear um
              try clear uo
              try clear Fz
              try clear FB
              try clear Rl
              try clear Rm
              try clear Rn
              try clear Ro
              try clear Rp
              try clear KS
              try clear KT
              try clear KU
              try clear KV
              try clear KW
              try clear K5
              try clear K6
              try clear K7
              try clear K8
              try clear K9
              try clear xC
              try clear xD
              try clear xE
              try clear xF
              try clear xG
              try clear Fp
              try clear Fq
              try clear Fu
              try clear Fv
              try clear Fw
              try clear xS
              try clear xU
              try clear xV
              try clear xW
              try clear xX
              try clear Lm
              try clear Lp
              try clear Lr
              try clear Ls
              try clear Lu
              try clear uH
              try clear uI
              try clear xw
              try clear xA
              try clear xB
              try clear uq
              try clear uw
              try clear uy
              try clear uz
              try clear uD
              try clear FC
              try clear FD
              try clear Rq
              try clear Rs
              try clear Rt
              try clear Ru
              try clear Rv
              try clear KX
              try clear KY
              try clear KZ
              try clear K3
              try clear K4
              try clear La
              try clear Lb
              try clear Lc
              try clear Ld
              try clear Le
              try clear xH
              try clear xI
              try clear xJ
              try clear xK
              try clear xL
              try clear Fx
              try clear Fy
              try clear p2
              try clear p573
              try clear q29
              try clear q573
              obtain⟨uJ,rfl,HA,HK4,dw,lW,HB⟩:=hrel;cases gk with
              |zero=>exact absurd HA.out (by simp[rows_row.l1])
              |succ k4=>
               have H:=HA.out;clear HA;simp only[rows_row.l1]at H
               by_cases c30:uJ<(Ca.length:Int)
               ·rw[if_pos c30]at H
                have c30b0:=decide_eq_true c30;clear c30
                by_cases c31:0≤uJ
                ·rw[if_pos c31]at H
                 have c31b0:=decide_eq_true c31;clear c31
                 by_cases c32:uJ<(Ca.length:Int)
                 ·rw[if_pos c32]at H
                  have c32b0:=decide_eq_true c32;clear c32
                  by_cases c33:((bD bG iO).f0).toList=((bD Ca uJ).f0).toList
                  ·rw[if_pos c33]at H
                   have c33b0:=beq_iff_eq.mpr c33;have c33b1:=bne_eq_false_iff_eq.mpr c33;clear c33;obtain rfl:=Option.some.inj H;have p579:0≤(uJ:Int):=q'b;have q579:uJ<(Ca.length:Int):=q'b;obtain⟨ad579,e579,xY,xZ⟩:=ni HR578.out uJ p579 q579;obtain rfl:rQ=ad579:=(by injection e579);replace xY:=(HB.out.cell (World.block_lt_of_cell? w _ xY)).trans xY;replace xZ:=(HB.out.cell (World.block_lt_of_cell? w _ xZ)).trans xZ;replace p579:=eq_true p579;replace q579:=eq_true q579
                   go_wp2_with(first|((with_reducible refine cB (N:=6) rfl ?_);(try(refine qK (by rfl) ?_;dsimp only));refine fH ?hg (N:=6) ?hd (cs:=#[.string (⟨#[]⟩:Bt),.string (⟨#[]⟩:Bt)]) (t:=36) ?hr ?_;(case hd=>rfl);(case hg=>rfl);(case hr=>first|(go_simp;done)|(go_simp;rfl));intro rF hg w34 gG hb;have Cc:=ak.mk (gG);have GW580:=ak.mk ((by rw[hg];exact(aU (by repeat(first|(with_reducible first|exact HB.out|apply dn|apply bE|apply bX|refine aH ?_ nD.out|refine aH ?_ zm.out)|exact HB.out))):w.heap.size≤rF));have GE580:=ak.mk ((by rw[hg];exact(aU (by repeat(first|(with_reducible first|exact HB.out|apply dn|apply bE|apply bX|refine aH ?_ nD.out|refine aH ?_ zm.out)|exact HB.out))):w.heap.size≤rF));have wh:=ak.mk ((by rw[hg];exact Nat.ne_of_lt (iK (g:=fU) (o:=.cells #[.int .i64 eD,.int .i64 dV,.string dH,.string eu,.slice (some rQ) bG.length fM] 34 (0,0)) (kz dw.out)):fU≠rF));have DJ:=ak.mk ((by rw[hg];exact Nat.ne_of_gt (iK (g:=fU) (o:=.cells #[.int .i64 eD,.int .i64 dV,.string dH,.string eu,.slice (some rQ) bG.length fM] 34 (0,0)) (kz dw.out)):rF≠fU));have wm:=ak.mk ((by rw[hg];exact Nat.ne_of_lt (iK (g:=nE) (o:=.cells #[.string ((bD bG iO).f0),.string ((bD bG iO).f1)] 36 (0,0)) (kz lW.out)):nE≠rF));have DK:=ak.mk ((by rw[hg];exact Nat.ne_of_gt (iK (g:=nE) (o:=.cells #[.string ((bD bG iO).f0),.string ((bD bG iO).f1)] 36 (0,0)) (kz lW.out)):rF≠nE));replace dw:=ak.mk (dK (g:=fU) (o:=.cells #[.int .i64 eD,.int .i64 dV,.string dH,.string eu,.slice (some rQ) bG.length fM] 34 (0,0)) (kz dw.out) hb);replace lW:=ak.mk (dK (g:=nE) (o:=.cells #[.string ((bD bG iO).f0),.string ((bD bG iO).f1)] 36 (0,0)) (kz lW.out) hb);replace HB:=ak.mk (aG (by repeat(first|(with_reducible first|exact HB.out|apply dn|apply bE|apply bX|refine aH ?_ nD.out|refine aH ?_ zm.out)|exact HB.out)) hb);clear hb gG hg;have hnb35:=DJ.out;have hnc35:=wh.out;have hnb36:=DK.out;have hnc36:=wm.out;have hcz37_0:w34.cell? ⟨rF,0,none⟩=some (.string (⟨#[]⟩:Bt)):=(aC Cc.out 0).trans rfl;have hcz37_1:w34.cell? ⟨rF,1,none⟩=some (.string (⟨#[]⟩:Bt)):=(aC Cc.out 1).trans rfl;have hfz37_0:=ay Cc.out 0;have hfz37_1:=ay Cc.out 1;have hnb38:=DI.out;have hnc38:=vZ.out;have hcz39_0:w34.cell? ⟨nE,0,none⟩=some (.string ((bD bG iO).f0)):=(aC lW.out 0).trans rfl;have hcz39_1:w34.cell? ⟨nE,1,none⟩=some (.string ((bD bG iO).f1)):=(aC lW.out 1).trans rfl;have hfz39_0:=ay lW.out 0;have hfz39_1:=ay lW.out 1))
                   go_ret;exact⟨by first|rfl|(simp[aI,aJ]<;>rfl)|(simp[*,aI,aJ]<;>rfl),by repeat(first|(with_reducible first|exact HB.out|apply dn|apply bE|apply bX|refine aH ?_ nD.out|refine aH ?_ zm.out|refine aH ?_ GE580.out)|exact HB.out)⟩
                  ·rw[if_neg c33]at H
                   have c33b0:=beq_eq_false_iff_ne.mpr c33;have c33b1:=bne_iff_ne.mpr c33;have H':=ak.mk H;clear H;have p579:0≤(uJ:Int):=q'b;have q579:uJ<(Ca.length:Int):=q'b;obtain⟨ad579,e579,xY,xZ⟩:=ni HR578.out uJ p579 q579;obtain rfl:rQ=ad579:=(by injection e579);replace xY:=(HB.out.cell (World.block_lt_of_cell? w _ xY)).trans xY;replace xZ:=(HB.out.cell (World.block_lt_of_cell? w _ xZ)).trans xZ;replace p579:=eq_true p579;replace q579:=eq_true q579
                   go_wp2_with(first|((with_reducible refine cB (N:=6) rfl ?_);(try(refine qK (by rfl) ?_;dsimp only));refine fH ?hg (N:=6) ?hd (cs:=#[.string (⟨#[]⟩:Bt),.string (⟨#[]⟩:Bt)]) (t:=36) ?hr ?_;(case hd=>rfl);(case hg=>rfl);(case hr=>first|(go_simp;done)|(go_simp;rfl));intro rF hg w40 gG hb;have Cc:=ak.mk (gG);have GW580:=ak.mk ((by rw[hg];exact(aU (by repeat(first|(with_reducible first|exact HB.out|apply dn|apply bE|apply bX|refine aH ?_ nD.out|refine aH ?_ zm.out)|exact HB.out))):w.heap.size≤rF));have GE580:=ak.mk ((by rw[hg];exact(aU (by repeat(first|(with_reducible first|exact HB.out|apply dn|apply bE|apply bX|refine aH ?_ nD.out|refine aH ?_ zm.out)|exact HB.out))):w.heap.size≤rF));have wh:=ak.mk ((by rw[hg];exact Nat.ne_of_lt (iK (g:=fU) (o:=.cells #[.int .i64 eD,.int .i64 dV,.string dH,.string eu,.slice (some rQ) bG.length fM] 34 (0,0)) (kz dw.out)):fU≠rF));have DJ:=ak.mk ((by rw[hg];exact Nat.ne_of_gt (iK (g:=fU) (o:=.cells #[.int .i64 eD,.int .i64 dV,.string dH,.string eu,.slice (some rQ) bG.length fM] 34 (0,0)) (kz dw.out)):rF≠fU));have wm:=ak.mk ((by rw[hg];exact Nat.ne_of_lt (iK (g:=nE) (o:=.cells #[.string ((bD bG iO).f0),.string ((bD bG iO).f1)] 36 (0,0)) (kz lW.out)):nE≠rF));have DK:=ak.mk ((by rw[hg];exact Nat.ne_of_gt (iK (g:=nE) (o:=.cells #[.string ((bD bG iO).f0),.string ((bD bG iO).f1)] 36 (0,0)) (kz lW.out)):rF≠nE));replace dw:=ak.mk (dK (g:=fU) (o:=.cells #[.int .i64 eD,.int .i64 dV,.string dH,.string eu,.slice (some rQ) bG.length fM] 34 (0,0)) (kz dw.out) hb);replace lW:=ak.mk (dK (g:=nE) (o:=.cells #[.string ((bD bG iO).f0),.string ((bD bG iO).f1)] 36 (0,0)) (kz lW.out) hb);replace HB:=ak.mk (aG (by repeat(first|(with_reducible first|exact HB.out|apply dn|apply bE|apply bX|refine aH ?_ nD.out|refine aH ?_ zm.out)|exact HB.out)) hb);clear hb gG hg;have hnb41:=DJ.out;have hnc41:=wh.out;have hnb42:=DK.out;have hnc42:=wm.out;have hcz43_0:w40.cell? ⟨rF,0,none⟩=some (.string (⟨#[]⟩:Bt)):=(aC Cc.out 0).trans rfl;have hcz43_1:w40.cell? ⟨rF,1,none⟩=some (.string (⟨#[]⟩:Bt)):=(aC Cc.out 1).trans rfl;have hfz43_0:=ay Cc.out 0;have hfz43_1:=ay Cc.out 1;have hnb44:=DI.out;have hnc44:=vZ.out;have hcz45_0:w40.cell? ⟨nE,0,none⟩=some (.string ((bD bG iO).f0)):=(aC lW.out 0).trans rfl;have hcz45_1:w40.cell? ⟨nE,1,none⟩=some (.string ((bD bG iO).f1)):=(aC lW.out 1).trans rfl;have hfz45_0:=ay lW.out 0;have hfz45_1:=ay lW.out 1))
                   go_roundg k4
                   case measure=>have:=HJ1.out;have:=HJ10.out;have:=HK3.out;have:=HK4.out;omega
                   case rel=>exact⟨(wrap64 (uJ+1)),q'c,H',⟨by have:=HJ1.out;have:=HJ10.out;have:=HK3.out;have:=HK4.out;omega⟩,⟨by(with_reducible repeat(first|refine aY ?_ _|refine bq ?_ |refine aZ ?_ _));refine nG ?_ wh.out _;(with_reducible repeat(first|refine aY ?_ _|refine bq ?_ |refine aZ ?_ _));refine nG ?_ wh.out _;(with_reducible repeat(first|refine aY ?_ _|refine bq ?_ |refine aZ ?_ _));exact dw.out⟩,⟨by(with_reducible repeat(first|refine aY ?_ _|refine bq ?_ |refine aZ ?_ _));refine nG ?_ wm.out _;(with_reducible repeat(first|refine aY ?_ _|refine bq ?_ |refine aZ ?_ _));refine nG ?_ wm.out _;(with_reducible repeat(first|refine aY ?_ _|refine bq ?_ |refine aZ ?_ _));exact lW.out⟩,⟨by repeat(first|(with_reducible first|exact HB.out|apply dn|apply bE|apply bX|refine aH ?_ nD.out|refine aH ?_ zm.out|refine aH ?_ GE580.out)|exact HB.out)⟩⟩
                 ·rw[if_neg c32]at H
                  exact absurd H (by simp)
                ·rw[if_neg c31]at H
                 exact absurd H (by simp)
               ·rw[if_neg c30]at H
                have c30b0:=decide_eq_false c30;clear c30;have H':=ak.mk H;clear H;go_wp2
                go_roundg k4
                case measure=>have:=HJ1.out;have:=HJ10.out;have:=HK3.out;have:=HK4.out;omega
                case rel=>exact⟨(wrap64 (iO+1)),q'c,H',⟨by have:=HJ1.out;have:=HJ10.out;have:=HK3.out;have:=HK4.out;omega⟩,⟨kz dw.out⟩,⟨by repeat(first|(with_reducible first|exact HB.out|apply dn|apply bE|apply bX|refine aH ?_ nD.out|refine aH ?_ zm.out)|exact HB.out)⟩⟩
            ·rw[if_neg c23]at H
             exact absurd H (by simp)
           ·rw[if_neg c21]at H
            exact absurd H (by simp)
          ·rw[if_neg c20]at H
           exact absurd H (by simp)
         ·rw[if_neg c19]at H
          have GL:=decide_eq_false c19;clear c19;obtain rfl:=Option.some.inj H;go_wp2;go_ret;exact⟨by first|rfl|(simp[aI,aJ]<;>rfl)|(simp[*,aI,aJ]<;>rfl),bs nD.out⟩
mutual
def fZ.l0:Nat→Int→List (S34)→Int→Int→Option (Bool)
 |0,_,_,_,_=>none
 |k+1,x3,x6,x7,x8=>if x8<x7 then(if 0≤x8 then(if x8<(x6.length:Int)then(if((au x6 x8).f0)<0 then(fZ.j1 k x6 x7 x8 true ((au x6 x8).f0) ((au x6 x8).f1) ((au x6 x8).f2) ((au x6 x8).f3) ((au x6 x8).f4))else(if((au x6 x8).f0)>x3 then(fZ.j1 k x6 x7 x8 true ((au x6 x8).f0) ((au x6 x8).f1) ((au x6 x8).f2) ((au x6 x8).f3) ((au x6 x8).f4))else((rows_row.f k ((au x6 x8).f0) ((au x6 x8).f1) ((au x6 x8).f2) ((au x6 x8).f3) ((au x6 x8).f4)).bind fun t583=>(fZ.j1 k x6 x7 x8 (!t583) ((au x6 x8).f0) ((au x6 x8).f1) ((au x6 x8).f2) ((au x6 x8).f3) ((au x6 x8).f4)))))else(none))else(none))else(some true)
def fZ.j1:Nat→List (S34)→Int→Int→Bool→Int→Int→Bt→Bt→List (S36)→Option (Bool)
 |0,_,_,_,_,_,_,_,_,_=>none
 |k+1,x6,x7,x8,x25,RP,x583001,x583002,x583003,x583004=>if x25=true then(some false)else(if x583001=0 then(fZ.l0 k (wrap64 (RP+1)) x6 x7 (wrap64 (x8+1)))else(fZ.l0 k RP x6 x7 (wrap64 (x8+1))))
end
def fZ.f(k:Nat)(l0:List (S34)):Option (Bool):=fZ.l0 k 0 l0 (l0.length:Int) 0
theorem fZ.calls(k:Nat)(A0:Option Addr)(c0:Nat)(l0:List (S34))(r:Bool)(w:World)(hr0:Kd.C k34 w A0 l0.length l0)(hc0:l0.length≤c0)(h:fZ.f k l0=some r):
 Calls Tryz.prog 85 #[.slice A0 l0.length c0] w fun e w'=>e=.returned (.bool r)∧Below w.heap.size w w':=by
 have hu34:=Tryz.underlying34;have HR0:=ak.mk hr0;have HC0:=ak.mk hc0;clear hr0 hc0;have HB:=ak.mk (Below.refl w.heap.size w);have H:(fZ.l0 k 0 l0 (l0.length:Int) 0)=some r:=h;clear h;have H':=ak.mk H;clear H;go_enter Tryz.func85,Tryz.ntmps85;go_wp2
 go_loopg [3,8] k (fun kq v3 v8 w'=>∃(DL gX:Int),v3=.int .i64 DL∧v8=.int .i64 gX∧ak (fZ.l0 kq DL l0 (l0.length:Int) gX=some r)∧ak (kq≤k)∧ak (Below w.heap.size w w'))
 case atStart=>exact⟨(0),(0),q'c,q'c,H',⟨Nat.le_refl _⟩,⟨bz⟩⟩
 case round=>
  clear H';obtain⟨DL,gX,rfl,rfl,HA,HK1,HB⟩:=hrel;cases gk with
  |zero=>exact absurd HA.out (by simp[fZ.l0])
  |succ k1=>
   have H:=HA.out;clear HA;simp only[fZ.l0]at H
   by_cases c2:gX<(l0.length:Int)
   ·rw[if_pos c2]at H
    have EU:=decide_eq_true c2;clear c2
    by_cases c3:0≤gX
    ·rw[if_pos c3]at H
     have oD:=decide_eq_true c3;clear c3
     by_cases c4:gX<(l0.length:Int)
     ·rw[if_pos c4]at H
      have lY:=decide_eq_true c4;clear c4;have HC5:=ak.mk H;clear H;have p581:0≤(gX:Int):=q'b;have q581:gX<(l0.length:Int):=q'b;obtain⟨ad581,Lv,Lx,e581,FE,FH,FI,FJ,FL,RQ,RS⟩:=iM HR0.out gX p581 q581;cases e581;replace FE:=(HB.out.cell (World.block_lt_of_cell? w _ FE)).trans FE;replace FH:=(HB.out.cell (World.block_lt_of_cell? w _ FH)).trans FH;replace FI:=(HB.out.cell (World.block_lt_of_cell? w _ FI)).trans FI;replace FJ:=(HB.out.cell (World.block_lt_of_cell? w _ FJ)).trans FJ;replace FL:=(HB.out.cell (World.block_lt_of_cell? w _ FL)).trans FL;have HR581_4:=ak.mk RS;have HC581_4:=ak.mk RQ;clear RS RQ;replace p581:=eq_true p581;replace q581:=eq_true q581
      go_upto_region 5 with(first|((with_reducible refine cB (N:=5) rfl ?_);refine fH ?hg (N:=5) ?hd (cs:=#[.int .i64 0,.int .i64 0,.string (⟨#[]⟩:Bt),.string (⟨#[]⟩:Bt),.slice none 0 0]) (t:=34) ?hr ?_;(case hd=>rfl);(case hg=>rfl);(case hr=>first|(go_simp;done)|(go_simp;rfl));intro jY hg w6 gG hb;have fV:=ak.mk (gG);have GW582:=ak.mk ((by rw[hg];exact(aU bz):w.heap.size≤jY));have Eu:=ak.mk ((by rw[hg];exact(aU bz):w.heap.size≤jY));replace HB:=ak.mk (aG bz hb);clear hb gG hg;have hcz7_0:w6.cell? ⟨jY,0,none⟩=some (.int .i64 0):=(aC fV.out 0).trans rfl;have hcz7_1:w6.cell? ⟨jY,1,none⟩=some (.int .i64 0):=(aC fV.out 1).trans rfl;have hcz7_2:w6.cell? ⟨jY,2,none⟩=some (.string (⟨#[]⟩:Bt)):=(aC fV.out 2).trans rfl;have hcz7_3:w6.cell? ⟨jY,3,none⟩=some (.string (⟨#[]⟩:Bt)):=(aC fV.out 3).trans rfl;have hcz7_4:w6.cell? ⟨jY,4,none⟩=some (.slice none 0 0):=(aC fV.out 4).trans rfl;have hfz7_0:=ay fV.out 0;have hfz7_1:=ay fV.out 1;have hfz7_2:=ay fV.out 2;have hfz7_3:=ay fV.out 3;have hfz7_4:=ay fV.out 4))
      (try simp only[Act.put,List.setIfInBounds_toArray,List.set_cons_zero,List.set_cons_succ])
      go_cut [25] (fun v25 wc=>∃(kq:Nat) (x25_4:Bool),v25=.bool x25_4∧ak (fZ.j1 kq l0 (l0.length:Int) gX x25_4 ((au l0 gX).f0) ((au l0 gX).f1) ((au l0 gX).f2) ((au l0 gX).f3) ((au l0 gX).f4)=some r)∧ak (kq≤k1)∧ak (wc.heap[jY]?=some (.cells #[.int .i64 ((au l0 gX).f0),.int .i64 ((au l0 gX).f1),.string ((au l0 gX).f2),.string ((au l0 gX).f3),(.slice Lv ((au l0 gX).f4).length Lx)] 34 (0,0)))∧ak (Below w.heap.size w wc))
      case first=>
       have H:=HC5.out;clear HC5
       by_cases c8:((au l0 gX).f0)<0
       ·rw[if_pos c8]at H
        have yZ:=decide_eq_true c8;clear c8
        (first|rw[yZ] |(simp only[mq,nA];rw[yZ])|skip)
        have H':=ak.mk H;clear H;have xC:w6.cell? ⟨jY,0,none⟩=some (.int .i64 0):=(aC fV.out 0).trans rfl;have xD:w6.cell? ⟨jY,1,none⟩=some (.int .i64 0):=(aC fV.out 1).trans rfl;have xE:w6.cell? ⟨jY,2,none⟩=some (.string (⟨#[]⟩:Bt)):=(aC fV.out 2).trans rfl;have xF:w6.cell? ⟨jY,3,none⟩=some (.string (⟨#[]⟩:Bt)):=(aC fV.out 3).trans rfl;have xG:w6.cell? ⟨jY,4,none⟩=some (.slice none 0 0):=(aC fV.out 4).trans rfl;have xH:=ay fV.out 0;have xI:=ay fV.out 1;have xJ:=ay fV.out 2;have xK:=ay fV.out 3;have xL:=ay fV.out 4;go_wp2
        go_meet
        case rel=>exact⟨_,(true),q'c,H',⟨lz HK1.out⟩,⟨by(with_reducible repeat(first|refine aY ?_ _|refine bq ?_ |refine aZ ?_ _));refine bQ (cs:=#[.int .i64 ((au l0 gX).f0),.int .i64 ((au l0 gX).f1),.string ((au l0 gX).f2),.string ((au l0 gX).f3),.slice none 0 0]) ?_ 4 _ rfl;(with_reducible repeat(first|refine aY ?_ _|refine bq ?_ |refine aZ ?_ _));refine bQ (cs:=#[.int .i64 ((au l0 gX).f0),.int .i64 ((au l0 gX).f1),.string ((au l0 gX).f2),.string (⟨#[]⟩:Bt),.slice none 0 0]) ?_ 3 _ rfl;(with_reducible repeat(first|refine aY ?_ _|refine bq ?_ |refine aZ ?_ _));refine bQ (cs:=#[.int .i64 ((au l0 gX).f0),.int .i64 ((au l0 gX).f1),.string (⟨#[]⟩:Bt),.string (⟨#[]⟩:Bt),.slice none 0 0]) ?_ 2 _ rfl;(with_reducible repeat(first|refine aY ?_ _|refine bq ?_ |refine aZ ?_ _));refine bQ (cs:=#[.int .i64 ((au l0 gX).f0),.int .i64 0,.string (⟨#[]⟩:Bt),.string (⟨#[]⟩:Bt),.slice none 0 0]) ?_ 1 _ rfl;(with_reducible repeat(first|refine aY ?_ _|refine bq ?_ |refine aZ ?_ _));refine bQ (cs:=#[.int .i64 0,.int .i64 0,.string (⟨#[]⟩:Bt),.string (⟨#[]⟩:Bt),.slice none 0 0]) ?_ 0 _ rfl;(with_reducible repeat(first|refine aY ?_ _|refine bq ?_ |refine aZ ?_ _));exact fV.out⟩,⟨bs Eu.out⟩⟩
       ·rw[if_neg c8]at H
        have yZ:=decide_eq_false c8;clear c8
        (first|rw[yZ] |(simp only[mq,nA];rw[yZ])|skip)
        by_cases c10:((au l0 gX).f0)>DL
        ·rw[if_pos c10]at H
         have Er:=decide_eq_true c10;clear c10;have H':=ak.mk H;clear H;have Q7:w6.cell? ⟨jY,0,none⟩=some (.int .i64 0):=(aC fV.out 0).trans rfl;have Q8:w6.cell? ⟨jY,1,none⟩=some (.int .i64 0):=(aC fV.out 1).trans rfl;have Q9:w6.cell? ⟨jY,2,none⟩=some (.string (⟨#[]⟩:Bt)):=(aC fV.out 2).trans rfl;have Ra:w6.cell? ⟨jY,3,none⟩=some (.string (⟨#[]⟩:Bt)):=(aC fV.out 3).trans rfl;have Rb:w6.cell? ⟨jY,4,none⟩=some (.slice none 0 0):=(aC fV.out 4).trans rfl;have Rf:=ay fV.out 0;have Rh:=ay fV.out 1;have Ri:=ay fV.out 2;have Rj:=ay fV.out 3;have Rk:=ay fV.out 4;go_wp2
         go_meet
         case rel=>exact⟨_,(true),q'c,H',⟨lz HK1.out⟩,⟨by(with_reducible repeat(first|refine aY ?_ _|refine bq ?_ |refine aZ ?_ _));refine bQ (cs:=#[.int .i64 ((au l0 gX).f0),.int .i64 ((au l0 gX).f1),.string ((au l0 gX).f2),.string ((au l0 gX).f3),.slice none 0 0]) ?_ 4 _ rfl;(with_reducible repeat(first|refine aY ?_ _|refine bq ?_ |refine aZ ?_ _));refine bQ (cs:=#[.int .i64 ((au l0 gX).f0),.int .i64 ((au l0 gX).f1),.string ((au l0 gX).f2),.string (⟨#[]⟩:Bt),.slice none 0 0]) ?_ 3 _ rfl;(with_reducible repeat(first|refine aY ?_ _|refine bq ?_ |refine aZ ?_ _));refine bQ (cs:=#[.int .i64 ((au l0 gX).f0),.int .i64 ((au l0 gX).f1),.string (⟨#[]⟩:Bt),.string (⟨#[]⟩:Bt),.slice none 0 0]) ?_ 2 _ rfl;(with_reducible repeat(first|refine aY ?_ _|refine bq ?_ |refine aZ ?_ _));refine bQ (cs:=#[.int .i64 ((au l0 gX).f0),.int .i64 0,.string (⟨#[]⟩:Bt),.string (⟨#[]⟩:Bt),.slice none 0 0]) ?_ 1 _ rfl;(with_reducible repeat(first|refine aY ?_ _|refine bq ?_ |refine aZ ?_ _));refine bQ (cs:=#[.int .i64 0,.int .i64 0,.string (⟨#[]⟩:Bt),.string (⟨#[]⟩:Bt),.slice none 0 0]) ?_ 0 _ rfl;(with_reducible repeat(first|refine aY ?_ _|refine bq ?_ |refine aZ ?_ _));exact fV.out⟩,⟨bs Eu.out⟩⟩
        ·rw[if_neg c10]at H
         have Er:=decide_eq_false c10;clear c10;replace H:=Option.bind_eq_some_iff.mp H;obtain⟨t583,A120,H⟩:=H
         try dsimp only at H
         have A12:=ak.mk A120;clear A120;have H':=ak.mk H;clear H;have Rz:w6.cell? ⟨jY,0,none⟩=some (.int .i64 0):=(aC fV.out 0).trans rfl;have RA:w6.cell? ⟨jY,1,none⟩=some (.int .i64 0):=(aC fV.out 1).trans rfl;have RB:w6.cell? ⟨jY,2,none⟩=some (.string (⟨#[]⟩:Bt)):=(aC fV.out 2).trans rfl;have RD:w6.cell? ⟨jY,3,none⟩=some (.string (⟨#[]⟩:Bt)):=(aC fV.out 3).trans rfl;have RF:w6.cell? ⟨jY,4,none⟩=some (.slice none 0 0):=(aC fV.out 4).trans rfl;have RG:=ay fV.out 0;have RH:=ay fV.out 1;have RI:=ay fV.out 2;have RJ:=ay fV.out 3;have RL:=ay fV.out 4
         go_wp2_with(first|(go_at_call 131;(with_reducible refine(rows_row.calls k1 ((au l0 gX).f0) ((au l0 gX).f1) ((au l0 gX).f2) ((au l0 gX).f3) _ _ ((au l0 gX).f4) t583 _ ?dI ?dJ A12.out).mono ?_);(case dI=>exact Kd.bT HR581_4.out (bs Eu.out));(case dJ=>exact HC581_4.out);rintro e w14 ⟨rfl,hb⟩;replace fV:=ak.mk (dK (g:=jY) (o:=.cells #[.int .i64 ((au l0 gX).f0),.int .i64 ((au l0 gX).f1),.string ((au l0 gX).f2),.string ((au l0 gX).f3),.slice Lv ((au l0 gX).f4).length Lx] 34 (0,0)) (by(with_reducible repeat(first|refine aY ?_ _|refine bq ?_ |refine aZ ?_ _));refine bQ (cs:=#[.int .i64 ((au l0 gX).f0),.int .i64 ((au l0 gX).f1),.string ((au l0 gX).f2),.string ((au l0 gX).f3),.slice none 0 0]) ?_ 4 _ rfl;(with_reducible repeat(first|refine aY ?_ _|refine bq ?_ |refine aZ ?_ _));refine bQ (cs:=#[.int .i64 ((au l0 gX).f0),.int .i64 ((au l0 gX).f1),.string ((au l0 gX).f2),.string (⟨#[]⟩:Bt),.slice none 0 0]) ?_ 3 _ rfl;(with_reducible repeat(first|refine aY ?_ _|refine bq ?_ |refine aZ ?_ _));refine bQ (cs:=#[.int .i64 ((au l0 gX).f0),.int .i64 ((au l0 gX).f1),.string (⟨#[]⟩:Bt),.string (⟨#[]⟩:Bt),.slice none 0 0]) ?_ 2 _ rfl;(with_reducible repeat(first|refine aY ?_ _|refine bq ?_ |refine aZ ?_ _));refine bQ (cs:=#[.int .i64 ((au l0 gX).f0),.int .i64 0,.string (⟨#[]⟩:Bt),.string (⟨#[]⟩:Bt),.slice none 0 0]) ?_ 1 _ rfl;(with_reducible repeat(first|refine aY ?_ _|refine bq ?_ |refine aZ ?_ _));refine bQ (cs:=#[.int .i64 0,.int .i64 0,.string (⟨#[]⟩:Bt),.string (⟨#[]⟩:Bt),.slice none 0 0]) ?_ 0 _ rfl;(with_reducible repeat(first|refine aY ?_ _|refine bq ?_ |refine aZ ?_ _));exact fV.out) hb);replace HB:=ak.mk (aG (bs Eu.out) hb);(try clear hb);(try clear hb2);(try clear hk);(try clear hi)))
         go_meet
         case rel=>exact⟨_,(!t583),q'c,H',⟨lz HK1.out⟩,⟨kz fV.out⟩,⟨bs Eu.out⟩⟩
      case rest=>
       clear HC5
       try clear c1
       try clear c2
       try clear EU
       try clear p2
       try clear c3
       try clear oD
       try clear c4
       try clear lY
       try clear c5
       try clear p5
       try clear q5
       try clear hx5
       try clear c8
       try clear yZ
       try clear c10
       try clear Er
       try clear Q7
       try clear Q8
       try clear Q9
       try clear Ra
       try clear Rb
       try clear Rz
       try clear RA
       try clear RB
       try clear RD
       try clear RF
       try clear hcz7_0
       try clear hcz7_1
       try clear hcz7_2
       try clear hcz7_3
       try clear hcz7_4
       try clear xC
       try clear xD
       try clear xE
       try clear xF
       try clear xG
       try clear Rf
       try clear Rh
       try clear Ri
       try clear Rj
       try clear Rk
       try clear RG
       try clear RH
       try clear RI
       try clear RJ
       try clear RL
       try clear hfz7_0
       try clear hfz7_1
       try clear hfz7_2
       try clear hfz7_3
       try clear hfz7_4
       try clear xH
       try clear xI
       try clear xJ
       try clear xK
       try clear xL
       try clear FE
       try clear FH
       try clear FI
       try clear FJ
       try clear FL
       try clear p581
       try clear q581
       obtain⟨kq,x25_4,rfl,HA,HJ4,fV,HB⟩:=hcut;cases kq with
       |zero=>exact absurd HA.out (by simp[fZ.j1])
       |succ kj4=>
        have H:=HA.out;clear HA;simp only[fZ.j1]at H
        by_cases c15:x25_4=true
        ·subst c15
         rw[if_pos rfl]at H
         try dsimp only at H
         obtain rfl:=Option.some.inj H;go_wp2;go_ret;exact⟨by first|rfl|(simp[aI,aJ]<;>rfl)|(simp[*,aI,aJ]<;>rfl),bs Eu.out⟩
        ·replace c15:=Bool.eq_false_iff.mpr c15
         subst c15;have H1:(if((au l0 gX).f1)=0 then(fZ.l0 kj4 (wrap64 (((au l0 gX).f0)+1)) l0 (l0.length:Int) (wrap64 (gX+1)))else(fZ.l0 kj4 ((au l0 gX).f0) l0 (l0.length:Int) (wrap64 (gX+1))))=some r:=by rw[if_neg (show¬(false=true) by decide)]at H;first|exact H|(simp only[eq_self]at H⊢;exact H)|(simp only[eq_self,if_true]at H⊢;exact H)
         clear H;have H:=H1;clear H1
         by_cases c16:((au l0 gX).f1)=0
         ·rw[if_pos c16]at H
          have c16b0:=beq_iff_eq.mpr c16;have c16b1:=bne_eq_false_iff_eq.mpr c16;clear c16;have H':=ak.mk H;clear H;have hcz17_0:wc.cell? ⟨jY,0,none⟩=some (.int .i64 ((au l0 gX).f0)):=(aC fV.out 0).trans rfl;have hcz17_1:wc.cell? ⟨jY,1,none⟩=some (.int .i64 ((au l0 gX).f1)):=(aC fV.out 1).trans rfl;have hcz17_2:wc.cell? ⟨jY,2,none⟩=some (.string ((au l0 gX).f2)):=(aC fV.out 2).trans rfl;have hcz17_3:wc.cell? ⟨jY,3,none⟩=some (.string ((au l0 gX).f3)):=(aC fV.out 3).trans rfl;have hcz17_4:wc.cell? ⟨jY,4,none⟩=some (.slice Lv ((au l0 gX).f4).length Lx):=(aC fV.out 4).trans rfl;have hfz17_0:=ay fV.out 0;have hfz17_1:=ay fV.out 1;have hfz17_2:=ay fV.out 2;have hfz17_3:=ay fV.out 3;have hfz17_4:=ay fV.out 4;go_wp2
          go_roundg kj4
          case measure=>have:=HK1.out;have:=HJ4.out;omega
          case rel=>exact⟨(wrap64 (((au l0 gX).f0)+1)),(wrap64 (gX+1)),q'c,q'c,H',⟨by have:=HK1.out;have:=HJ4.out;omega⟩,⟨bs Eu.out⟩⟩
         ·rw[if_neg c16]at H
          have c16b0:=beq_eq_false_iff_ne.mpr c16;have c16b1:=bne_iff_ne.mpr c16;have H':=ak.mk H;clear H;have ug:wc.cell? ⟨jY,0,none⟩=some (.int .i64 ((au l0 gX).f0)):=(aC fV.out 0).trans rfl;have uh:wc.cell? ⟨jY,1,none⟩=some (.int .i64 ((au l0 gX).f1)):=(aC fV.out 1).trans rfl;have uj:wc.cell? ⟨jY,2,none⟩=some (.string ((au l0 gX).f2)):=(aC fV.out 2).trans rfl;have um:wc.cell? ⟨jY,3,none⟩=some (.string ((au l0 gX).f3)):=(aC fV.out 3).trans rfl;have uo:wc.cell? ⟨jY,4,none⟩=some (.slice Lv ((au l0 gX).f4).length Lx):=(aC fV.out 4).trans rfl;have uq:=ay fV.out 0;have uw:=ay fV.out 1;have uy:=ay fV.out 2;have uz:=ay fV.out 3;have uD:=ay fV.out 4;go_wp2
          go_roundg kj4
          case measure=>have:=HK1.out;have:=HJ4.out;omega
          case rel=>exact⟨(((au l0 gX).f0)),(wrap64 (gX+1)),q'c,q'c,H',⟨by have:=HK1.out;have:=HJ4.out;omega⟩,⟨bs Eu.out⟩⟩
     ·rw[if_neg c4]at H
      exact absurd H (by simp)
    ·rw[if_neg c3]at H
     exact absurd H (by simp)
   ·rw[if_neg c2]at H
    have EU:=decide_eq_false c2;clear c2;obtain rfl:=Option.some.inj H;go_wp2;go_ret;exact⟨by first|rfl|(simp[aI,aJ]<;>rfl)|(simp[*,aI,aJ]<;>rfl),bz⟩
def qL.f(k:Nat)(l0:List (S34)):Option (Int):=(tF.f l0).bind fun t584=>(if t584=true then(some 2)else((fZ.f k l0).bind fun t585=>(if t585=true then(some 0)else(some 40))))
theorem qL.calls(k:Nat)(A0:Option Addr)(c0:Nat)(l0:List (S34))(r:Int)(w:World)(hr0:Kd.C k34 w A0 l0.length l0)(hc0:l0.length≤c0)(h:qL.f k l0=some r):
 Calls Tryz.prog 39 #[.slice A0 l0.length c0] w fun e w'=>e=.returned (.int .i64 r)∧Below w.heap.size w w':=by
 have HR0:=ak.mk hr0;have HC0:=ak.mk hc0;clear hr0 hc0;have HB:=ak.mk (Below.refl w.heap.size w);have H:((tF.f l0).bind fun t584=>(if t584=true then(some 2)else((fZ.f k l0).bind fun t585=>(if t585=true then(some 0)else(some 40)))))=some r:=h;clear h;replace H:=Option.bind_eq_some_iff.mp H;obtain⟨t584,A20,H⟩:=H
 try dsimp only at H
 have A2:=ak.mk A20;clear A20
 by_cases c3:t584=true
 ·subst c3
  rw[if_pos rfl]at H
  try dsimp only at H
  obtain rfl:=Option.some.inj H;go_enter Tryz.func39,Tryz.ntmps39
  go_wp2_with(first|((with_reducible refine bC (f:=84) rfl ?_);refine eG (some 5) rfl rfl Tryz.func84 (by kernel_rfl) rfl #[.slice A0 l0.length c0] rfl q'a ?_;(with_reducible refine(tF.calls _ _ l0 true _ ?dI ?dJ A2.out).mono ?_);(case dI=>repeat(first|exact HR0.out|(with_reducible refine Kd.eH ?_ _)|(with_reducible refine Kd.eP ?_ _)|(with_reducible refine Kd.fA ?_)));(case dJ=>exact HC0.out);rintro e w4 ⟨rfl,hb⟩;refine⟨_,rfl,?_⟩;replace HB:=ak.mk (aG bz hb);(try clear hb);(try clear hb2);(try clear hk);(try clear hi)))
  go_ret;exact⟨by first|rfl|(simp[aI,aJ]<;>rfl)|(simp[*,aI,aJ]<;>rfl),bz⟩
 ·replace c3:=Bool.eq_false_iff.mpr c3
  subst c3;have H1:((fZ.f k l0).bind fun t585=>(if t585=true then(some 0)else(some 40)))=some r:=by rw[if_neg (show¬(false=true) by decide)]at H;first|exact H|(simp only[eq_self]at H⊢;exact H)|(simp only[eq_self,if_true]at H⊢;exact H)
  clear H;have H:=H1;clear H1;replace H:=Option.bind_eq_some_iff.mp H;obtain⟨t585,A50,H⟩:=H
  try dsimp only at H
  have A5:=ak.mk A50;clear A50
  by_cases c6:t585=true
  ·subst c6
   rw[if_pos rfl]at H
   try dsimp only at H
   obtain rfl:=Option.some.inj H;go_enter Tryz.func39,Tryz.ntmps39
   go_wp2_with(first|((with_reducible refine bC (f:=84) rfl ?_);refine eG (some 5) rfl rfl Tryz.func84 (by kernel_rfl) rfl #[.slice A0 l0.length c0] rfl q'a ?_;(with_reducible refine(tF.calls _ _ l0 false _ ?dI ?dJ A2.out).mono ?_);(case dI=>repeat(first|exact HR0.out|(with_reducible refine Kd.eH ?_ _)|(with_reducible refine Kd.eP ?_ _)|(with_reducible refine Kd.fA ?_)));(case dJ=>exact HC0.out);rintro e w7 ⟨rfl,hb⟩;refine⟨_,rfl,?_⟩;replace HB:=ak.mk (aG bz hb);(try clear hb);(try clear hb2);(try clear hk);(try clear hi))|((with_reducible refine bC (f:=85) rfl ?_);refine eG (some 8) rfl rfl Tryz.func85 (by kernel_rfl) rfl #[.slice A0 l0.length c0] rfl q'a ?_;(with_reducible refine(fZ.calls k _ _ l0 true _ ?dI ?dJ A5.out).mono ?_);(case dI=>exact cz (Kd.bT HR0.out HB.out));(case dJ=>exact HC0.out);rintro e w8 ⟨rfl,hb⟩;refine⟨_,rfl,?_⟩;replace HB:=ak.mk (aG bz hb);(try clear hb);(try clear hb2);(try clear hk);(try clear hi)))
   go_ret;exact⟨by first|rfl|(simp[aI,aJ]<;>rfl)|(simp[*,aI,aJ]<;>rfl),bz⟩
  ·replace c6:=Bool.eq_false_iff.mpr c6
   subst c6;have H1:(some 40)=some r:=by rw[if_neg (show¬(false=true) by decide)]at H;first|exact H|(simp only[eq_self]at H⊢;exact H)|(simp only[eq_self,if_true]at H⊢;exact H)
   clear H;have H:=H1;clear H1;obtain rfl:=Option.some.inj H;go_enter Tryz.func39,Tryz.ntmps39
   go_wp2_with(first|((with_reducible refine bC (f:=84) rfl ?_);refine eG (some 5) rfl rfl Tryz.func84 (by kernel_rfl) rfl #[.slice A0 l0.length c0] rfl q'a ?_;(with_reducible refine(tF.calls _ _ l0 false _ ?dI ?dJ A2.out).mono ?_);(case dI=>repeat(first|exact HR0.out|(with_reducible refine Kd.eH ?_ _)|(with_reducible refine Kd.eP ?_ _)|(with_reducible refine Kd.fA ?_)));(case dJ=>exact HC0.out);rintro e w9 ⟨rfl,hb⟩;refine⟨_,rfl,?_⟩;replace HB:=ak.mk (aG bz hb);(try clear hb);(try clear hb2);(try clear hk);(try clear hi))|((with_reducible refine bC (f:=85) rfl ?_);refine eG (some 8) rfl rfl Tryz.func85 (by kernel_rfl) rfl #[.slice A0 l0.length c0] rfl q'a ?_;(with_reducible refine(fZ.calls k _ _ l0 false _ ?dI ?dJ A5.out).mono ?_);(case dI=>exact cz (Kd.bT HR0.out HB.out));(case dJ=>exact HC0.out);rintro e w10 ⟨rfl,hb⟩;refine⟨_,rfl,?_⟩;replace HB:=ak.mk (aG bz hb);(try clear hb);(try clear hb2);(try clear hk);(try clear hi)))
   go_ret;exact⟨by first|rfl|(simp[aI,aJ]<;>rfl)|(simp[*,aI,aJ]<;>rfl),bz⟩
end Go.Proofs.aj.W7
namespace Go.Proofs.aj.W7
open Go.RowKit Go.Proofs aj YtkcmghlhpbepcaaGreatDoor ah.aD
end Go.Proofs.aj.W7
