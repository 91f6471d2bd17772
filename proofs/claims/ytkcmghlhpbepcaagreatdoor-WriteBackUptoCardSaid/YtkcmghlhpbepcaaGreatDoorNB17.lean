/- Lemmas and walks, part 17. -/
import Derived.Test.YtkcmghlhpbepcaaGreatDoorNB9
set_option linter.unusedVariables false
set_option linter.unusedSimpArgs false
set_option maxHeartbeats 8000000
set_option maxRecDepth 100000
namespace Go.Proofs.aj.W7
open Go.RowKit Go.Proofs.ah.aD Go.Proofs.ah.bH Go.Proofs.ah.bV
attribute [local go_sem] dA dB dP dQ bY bZ dD dF
mutual
def rows_row.j0:Nat→Bool→Int→Int→ByteArray→ByteArray→List (S36)→Option (Bool)
 |0,_,_,_,_,_,_=>none
 |k+1,x14,pQ,oG,nN,oH,kW=>if x14=true then(if nN.toList=([] :List UInt8)then(some ((kW.length:Int)==0))else(some false))else(if oG=0 then(if nN.toList=([] :List UInt8)then(rows_row.j1 k true pQ oG nN oH kW)else(rows_row.j1 k (oH.toList !=([] :List UInt8)) pQ oG nN oH kW))else(rows_row.j1 k true pQ oG nN oH kW))
def rows_row.j1:Nat→Bool→Int→Int→ByteArray→ByteArray→List (S36)→Option (Bool)
 |0,_,_,_,_,_,_=>none
 |k+1,x36,pQ,oG,nN,oH,kW=>if x36=true then(some false)else(rows_row.l0 k kW (kW.length:Int) 0 pQ oG nN oH kW)
def rows_row.l0:Nat→List (S36)→Int→Int→Int→Int→ByteArray→ByteArray→List (S36)→Option (Bool)
 |0,_,_,_,_,_,_,_,_=>none
 |k+1,x38,x39,x40,pQ,oG,nN,oH,kW=>if x40<x39 then(if 0≤x40 then(if x40<(x38.length:Int)then(if x40≤(kW.length:Int)then((some (kW.take (x40:Int).toNat:List (S36))).bind fun sQ=>(rows_row.l1 k x38 x39 x40 sQ (sQ.length:Int) 0 pQ oG nN oH kW ((bg x38 x40).f0) ((bg x38 x40).f1)))else(none))else(none))else(none))else(some true)
def rows_row.l1:Nat→List (S36)→Int→Int→List (S36)→Int→Int→Int→Int→ByteArray→ByteArray→List (S36)→ByteArray→ByteArray→Option (Bool)
 |0,_,_,_,_,_,_,_,_,_,_,_,_,_=>none
 |k+1,x38,x39,x40,x48,x49,x50,pQ,oG,nN,oH,kW,Oe,x575001=>if x50<x49 then(if 0≤x50 then(if x50<(x48.length:Int)then(if Oe.toList=((bg x48 x50).f0).toList then(some false)else(rows_row.l1 k x38 x39 x40 x48 x49 (wrap64 (x50+1)) pQ oG nN oH kW Oe x575001))else(none))else(none))else(rows_row.l0 k x38 x39 (wrap64 (x40+1)) pQ oG nN oH kW)
end
def rows_row.f(k:Nat)(dN dz:Int)(bU dL:ByteArray)(bq:List (S36)):Option (Bool):=if dz=1 then(rows_row.j0 k true dN dz bU dL bq)else(rows_row.j0 k (dz==2) dN dz bU dL bq)
theorem rows_row.calls(k:Nat)(dN dz:Int)(bU dL:ByteArray)(iy:Option Addr)(eP:Nat)(bq:List (S36))(r:Bool)(w:World)(xD:Kd.C k36 w iy bq.length bq)(xE:bq.length≤eP)(h:rows_row.f k dN dz bU dL bq=some r):
 Calls Tryz.prog 131 #[.agg #[.int .i64 dN,.int .i64 dz,.string bU,.string dL,.slice iy bq.length eP]] w fun e w'=>e=.returned (.bool r)∧Below w.heap.size w w':=by
 have hu34:=Tryz.underlying34;have hu36:=Tryz.underlying36;have xF:=ak.mk xD;have Kt:=ak.mk xE;clear xD xE;have HB:=ak.mk (Below.refl w.heap.size w);have H:(if dz=1 then(rows_row.j0 k true dN dz bU dL bq)else(rows_row.j0 k (dz==2) dN dz bU dL bq))=some r:=h;clear h;have HC2:=ak.mk H;clear H;go_enter Tryz.func131,Tryz.ntmps131
 go_upto_region 1 with(first|((with_reducible refine cB (N:=1) rfl ?_);(try(refine oW (by rfl) ?_;dsimp only));refine eG ?hg (N:=1) ?hd (cs:=#[.int .i64 dN,.int .i64 dz,.string bU,.string dL,.slice iy bq.length eP]) (t:=34) ?hr ?_;(case hd=>rfl);(case hg=>rfl);(case hr=>first|(go_simp;done)|(go_simp;rfl));intro eX hg w3 fK hb;have n0_:=ak.mk (aG bz hb);have n1_:=ak.mk (fK);have n2_:=ak.mk ((by rw[hg];exact(aR bz):w.heap.size≤eX));have n3_:=ak.mk ((by rw[hg];exact(aR bz):w.heap.size≤eX));clear HB;have HB:=n0_;have cZ:=n1_;have GW572:=n2_;have lT:=n3_;clear n0_ n1_ n2_ n3_;clear hb fK hg))
 (try simp only[Act.put,List.setIfInBounds_toArray,List.set_cons_zero,List.set_cons_succ])
 go_cut [14] (fun v14 wc=>∃(kq:Nat) (x14_1:Bool),v14=.bool x14_1∧ak (rows_row.j0 kq x14_1 dN dz bU dL bq=some r)∧ak (kq≤k)∧ak (wc.heap[eX]?=some (.cells #[.int .i64 dN,.int .i64 dz,.string bU,.string dL,(.slice iy bq.length eP)] 34 (0,0)))∧ak (Below w.heap.size w wc))
 case first=>
  have H:=HC2.out;clear HC2
  by_cases c4:dz=1
  ·rw[if_pos c4]at H
   have mP:(dz==1)=true:=beq_iff_eq.mpr c4;have Ab:(dz !=1)=false:=bne_eq_false_iff_eq.mpr c4;clear c4
   (first|rw[mP] |(simp only[oD,oF];rw[mP])|skip)
   have H':=ak.mk H;clear H;have G5:w3.cell? ⟨eX,0,none⟩=some (.int .i64 dN):=(aC cZ.out 0).trans rfl;have G6:w3.cell? ⟨eX,1,none⟩=some (.int .i64 dz):=(aC cZ.out 1).trans rfl;have G7:w3.cell? ⟨eX,2,none⟩=some (.string bU):=(aC cZ.out 2).trans rfl;have G8:w3.cell? ⟨eX,3,none⟩=some (.string dL):=(aC cZ.out 3).trans rfl;have G9:w3.cell? ⟨eX,4,none⟩=some (.slice iy bq.length eP):=(aC cZ.out 4).trans rfl;have He:=ay cZ.out 0;have Hf:=ay cZ.out 1;have Hg:=ay cZ.out 2;have Hl:=ay cZ.out 3;have Ho:=ay cZ.out 4;go_wp2
   go_meet
   case rel=>exact⟨_,(true),q'c,H',⟨by first|omega|exact Nat.le_refl _⟩,⟨by(with_reducible repeat(first|refine aT ?_ _|refine aY ?_ |refine aU ?_ _));exact cZ.out⟩,⟨bs lT.out⟩⟩
  ·rw[if_neg c4]at H
   have mP:(dz==1)=false:=beq_eq_false_iff_ne.mpr c4;have Ab:(dz !=1)=true:=bne_iff_ne.mpr c4
   (first|rw[mP] |(simp only[oD,oF];rw[mP])|skip)
   have H':=ak.mk H;clear H;have Hq:w3.cell? ⟨eX,0,none⟩=some (.int .i64 dN):=(aC cZ.out 0).trans rfl;have Hr:w3.cell? ⟨eX,1,none⟩=some (.int .i64 dz):=(aC cZ.out 1).trans rfl;have Ht:w3.cell? ⟨eX,2,none⟩=some (.string bU):=(aC cZ.out 2).trans rfl;have Hu:w3.cell? ⟨eX,3,none⟩=some (.string dL):=(aC cZ.out 3).trans rfl;have Hw:w3.cell? ⟨eX,4,none⟩=some (.slice iy bq.length eP):=(aC cZ.out 4).trans rfl;have Hy:=ay cZ.out 0;have Hz:=ay cZ.out 1;have HV:=ay cZ.out 2;have HY:=ay cZ.out 3;have HZ:=ay cZ.out 4;go_wp2
   go_meet
   case rel=>exact⟨_,((dz==2)),q'c,H',⟨by first|omega|exact Nat.le_refl _⟩,⟨by(with_reducible repeat(first|refine aT ?_ _|refine aY ?_ |refine aU ?_ _));exact cZ.out⟩,⟨bs lT.out⟩⟩
 case rest=>
  clear HC2
  try clear c1
  try clear p2
  try clear c4
  try clear mP
  try clear Ab
  try clear G5
  try clear G6
  try clear G7
  try clear G8
  try clear G9
  try clear Hq
  try clear Hr
  try clear Ht
  try clear Hu
  try clear Hw
  try clear He
  try clear Hf
  try clear Hg
  try clear Hl
  try clear Ho
  try clear Hy
  try clear Hz
  try clear HV
  try clear HY
  try clear HZ
  obtain⟨kq,x14_1,rfl,HA,HJ1,cZ,HB⟩:=hcut;cases kq with
  |zero=>exact absurd HA.out (by simp[rows_row.j0])
  |succ kj1=>
   have H:=HA.out;clear HA;simp only[rows_row.j0]at H
   by_cases c7:x14_1=true
   ·subst c7
    have H1:(if bU.toList=([] :List UInt8)then(some ((bq.length:Int)==0))else(some false))=some r:=by rw[if_pos rfl]at H;exact H
    clear H;have H:=H1;clear H1
    by_cases c8:bU.toList=([] :List UInt8)
    ·rw[if_pos c8]at H
     have xB:(bU.toList==([] :List UInt8))=true:=beq_iff_eq.mpr c8;have c8b1:(bU.toList !=([] :List UInt8))=false:=bne_eq_false_iff_eq.mpr c8;clear c8;obtain rfl:=Option.some.inj H;have vL:wc.cell? ⟨eX,0,none⟩=some (.int .i64 dN):=(aC cZ.out 0).trans rfl;have vM:wc.cell? ⟨eX,1,none⟩=some (.int .i64 dz):=(aC cZ.out 1).trans rfl;have vN:wc.cell? ⟨eX,2,none⟩=some (.string bU):=(aC cZ.out 2).trans rfl;have vO:wc.cell? ⟨eX,3,none⟩=some (.string dL):=(aC cZ.out 3).trans rfl;have vP:wc.cell? ⟨eX,4,none⟩=some (.slice iy bq.length eP):=(aC cZ.out 4).trans rfl;have vQ:=ay cZ.out 0;have vR:=ay cZ.out 1;have vS:=ay cZ.out 2;have vT:=ay cZ.out 3;have vU:=ay cZ.out 4;go_wp2;go_ret;exact⟨by first|rfl|(simp[aJ,aM]<;>rfl)|(simp[*,aJ,aM]<;>rfl),bs lT.out⟩
    ·rw[if_neg c8]at H
     have xB:(bU.toList==([] :List UInt8))=false:=beq_eq_false_iff_ne.mpr c8;have c8b1:(bU.toList !=([] :List UInt8))=true:=bne_iff_ne.mpr c8;obtain rfl:=Option.some.inj H;have H6:wc.cell? ⟨eX,0,none⟩=some (.int .i64 dN):=(aC cZ.out 0).trans rfl;have H7:wc.cell? ⟨eX,1,none⟩=some (.int .i64 dz):=(aC cZ.out 1).trans rfl;have H8:wc.cell? ⟨eX,2,none⟩=some (.string bU):=(aC cZ.out 2).trans rfl;have H9:wc.cell? ⟨eX,3,none⟩=some (.string dL):=(aC cZ.out 3).trans rfl;have Ia:wc.cell? ⟨eX,4,none⟩=some (.slice iy bq.length eP):=(aC cZ.out 4).trans rfl;have Ib:=ay cZ.out 0;have Ic:=ay cZ.out 1;have Ie:=ay cZ.out 2;have Ig:=ay cZ.out 3;have Ih:=ay cZ.out 4;go_wp2;go_ret;exact⟨by first|rfl|(simp[aJ,aM]<;>rfl)|(simp[*,aJ,aM]<;>rfl),bs lT.out⟩
   ·replace c7:=Bool.eq_false_iff.mpr c7
    subst c7;have H1:(if dz=0 then(if bU.toList=([] :List UInt8)then(rows_row.j1 kj1 true dN dz bU dL bq)else(rows_row.j1 kj1 (dL.toList !=([] :List UInt8)) dN dz bU dL bq))else(rows_row.j1 kj1 true dN dz bU dL bq))=some r:=by rw[if_neg (show¬(false=true) by decide)]at H;first|exact H|(simp only[eq_self]at H⊢;exact H)|(simp only[eq_self,if_true]at H⊢;exact H)
    clear H;have H:=H1;clear H1;have HC11:=ak.mk H;clear H
    go_upto_region 3 with(fail)
    go_cut [36] (fun v36 wc=>∃(kq:Nat) (Ii:Bool),v36=.bool Ii∧ak (rows_row.j1 kq Ii dN dz bU dL bq=some r)∧ak (kq≤kj1)∧ak (wc.heap[eX]?=some (.cells #[.int .i64 dN,.int .i64 dz,.string bU,.string dL,(.slice iy bq.length eP)] 34 (0,0)))∧ak (Below w.heap.size w wc))
    case first=>
     have H:=HC11.out;clear HC11
     by_cases c12:dz=0
     ·rw[if_pos c12]at H
      have Ad:(dz==0)=true:=beq_iff_eq.mpr c12;have Ky:(dz !=0)=false:=bne_eq_false_iff_eq.mpr c12;clear c12
      (first|rw[Ad] |(simp only[oD,oF];rw[Ad])|skip)
      by_cases c13:bU.toList=([] :List UInt8)
      ·rw[if_pos c13]at H
       have tY:(bU.toList==([] :List UInt8))=true:=beq_iff_eq.mpr c13;have Ec:(bU.toList !=([] :List UInt8))=false:=bne_eq_false_iff_eq.mpr c13;clear c13;have H':=ak.mk H;clear H;have rP:wc.cell? ⟨eX,0,none⟩=some (.int .i64 dN):=(aC cZ.out 0).trans rfl;have rQ:wc.cell? ⟨eX,1,none⟩=some (.int .i64 dz):=(aC cZ.out 1).trans rfl;have rR:wc.cell? ⟨eX,2,none⟩=some (.string bU):=(aC cZ.out 2).trans rfl;have rT:wc.cell? ⟨eX,3,none⟩=some (.string dL):=(aC cZ.out 3).trans rfl;have rU:wc.cell? ⟨eX,4,none⟩=some (.slice iy bq.length eP):=(aC cZ.out 4).trans rfl;have rV:=ay cZ.out 0;have rW:=ay cZ.out 1;have rX:=ay cZ.out 2;have rY:=ay cZ.out 3;have rZ:=ay cZ.out 4;go_wp2
       go_meet
       case rel=>exact⟨_,(true),q'c,H',⟨by have:=HJ1.out;first|omega|exact Nat.le_refl _⟩,⟨by(with_reducible repeat(first|refine aT ?_ _|refine aY ?_ |refine aU ?_ _));exact cZ.out⟩,⟨bs lT.out⟩⟩
      ·rw[if_neg c13]at H
       have tY:(bU.toList==([] :List UInt8))=false:=beq_eq_false_iff_ne.mpr c13;have Ec:(bU.toList !=([] :List UInt8))=true:=bne_iff_ne.mpr c13;have H':=ak.mk H;clear H;have Ij:wc.cell? ⟨eX,0,none⟩=some (.int .i64 dN):=(aC cZ.out 0).trans rfl;have Ik:wc.cell? ⟨eX,1,none⟩=some (.int .i64 dz):=(aC cZ.out 1).trans rfl;have Il:wc.cell? ⟨eX,2,none⟩=some (.string bU):=(aC cZ.out 2).trans rfl;have Im:wc.cell? ⟨eX,3,none⟩=some (.string dL):=(aC cZ.out 3).trans rfl;have Io:wc.cell? ⟨eX,4,none⟩=some (.slice iy bq.length eP):=(aC cZ.out 4).trans rfl;have Ip:=ay cZ.out 0;have Iq:=ay cZ.out 1;have Ir:=ay cZ.out 2;have Iu:=ay cZ.out 3;have Iw:=ay cZ.out 4;go_wp2
       go_meet
       case rel=>exact⟨_,((dL.toList !=([] :List UInt8))),q'c,H',⟨by have:=HJ1.out;first|omega|exact Nat.le_refl _⟩,⟨by(with_reducible repeat(first|refine aT ?_ _|refine aY ?_ |refine aU ?_ _));exact cZ.out⟩,⟨bs lT.out⟩⟩
     ·rw[if_neg c12]at H
      have Ad:(dz==0)=false:=beq_eq_false_iff_ne.mpr c12;have Ky:(dz !=0)=true:=bne_iff_ne.mpr c12
      (first|rw[Ad] |(simp only[oD,oF];rw[Ad])|skip)
      have H':=ak.mk H;clear H;have vV:wc.cell? ⟨eX,0,none⟩=some (.int .i64 dN):=(aC cZ.out 0).trans rfl;have vW:wc.cell? ⟨eX,1,none⟩=some (.int .i64 dz):=(aC cZ.out 1).trans rfl;have yc:wc.cell? ⟨eX,2,none⟩=some (.string bU):=(aC cZ.out 2).trans rfl;have yg:wc.cell? ⟨eX,3,none⟩=some (.string dL):=(aC cZ.out 3).trans rfl;have yh:wc.cell? ⟨eX,4,none⟩=some (.slice iy bq.length eP):=(aC cZ.out 4).trans rfl;have vX:=ay cZ.out 0;have vY:=ay cZ.out 1;have yj:=ay cZ.out 2;have yu:=ay cZ.out 3;have yw:=ay cZ.out 4;go_wp2
      go_meet
      case rel=>exact⟨_,(true),q'c,H',⟨by have:=HJ1.out;first|omega|exact Nat.le_refl _⟩,⟨by(with_reducible repeat(first|refine aT ?_ _|refine aY ?_ |refine aU ?_ _));exact cZ.out⟩,⟨bs lT.out⟩⟩
    case rest=>
     clear HC11
     try clear c1
     try clear p2
     try clear c4
     try clear mP
     try clear Ab
     try clear c7
     try clear c8
     try clear xB
     try clear c8b1
     try clear c12
     try clear Ad
     try clear Ky
     try clear c13
     try clear tY
     try clear Ec
     try clear H6
     try clear H7
     try clear H8
     try clear H9
     try clear Ia
     try clear rP
     try clear rQ
     try clear rR
     try clear rT
     try clear rU
     try clear Ij
     try clear Ik
     try clear Il
     try clear Im
     try clear Io
     try clear vV
     try clear vW
     try clear yc
     try clear yg
     try clear yh
     try clear G5
     try clear G6
     try clear G7
     try clear G8
     try clear G9
     try clear Hq
     try clear Hr
     try clear Ht
     try clear Hu
     try clear Hw
     try clear vL
     try clear vM
     try clear vN
     try clear vO
     try clear vP
     try clear Ib
     try clear Ic
     try clear Ie
     try clear Ig
     try clear Ih
     try clear rV
     try clear rW
     try clear rX
     try clear rY
     try clear rZ
     try clear Ip
     try clear Iq
     try clear Ir
     try clear Iu
     try clear Iw
     try clear vX
     try clear vY
     try clear yj
     try clear yu
     try clear yw
     try clear He
     try clear Hf
     try clear Hg
     try clear Hl
     try clear Ho
     try clear Hy
     try clear Hz
     try clear HV
     try clear HY
     try clear HZ
     try clear vQ
     try clear vR
     try clear vS
     try clear vT
     try clear vU
     try clear p2
     obtain⟨kq,Ii,rfl,HA,HJ10,cZ,HB⟩:=hcut;cases kq with
     |zero=>exact absurd HA.out (by simp[rows_row.j1])
     |succ kj10=>
      have H:=HA.out;clear HA;simp only[rows_row.j1]at H
      by_cases c17:Ii=true
      ·subst c17
       have H1:(some false)=some r:=by rw[if_pos rfl]at H;exact H
       clear H;have H:=H1;clear H1;obtain rfl:=Option.some.inj H;go_wp2;go_ret;exact⟨by first|rfl|(simp[aJ,aM]<;>rfl)|(simp[*,aJ,aM]<;>rfl),bs lT.out⟩
      ·replace c17:=Bool.eq_false_iff.mpr c17
       subst c17;have H1:(rows_row.l0 kj10 bq (bq.length:Int) 0 dN dz bU dL bq)=some r:=by rw[if_neg (show¬(false=true) by decide)]at H;first|exact H|(simp only[eq_self]at H⊢;exact H)|(simp only[eq_self,if_true]at H⊢;exact H)
       clear H;have H:=H1;clear H1;have H':=ak.mk H;clear H;have vB:wc.cell? ⟨eX,0,none⟩=some (.int .i64 dN):=(aC cZ.out 0).trans rfl;have vC:wc.cell? ⟨eX,1,none⟩=some (.int .i64 dz):=(aC cZ.out 1).trans rfl;have vD:wc.cell? ⟨eX,2,none⟩=some (.string bU):=(aC cZ.out 2).trans rfl;have vE:wc.cell? ⟨eX,3,none⟩=some (.string dL):=(aC cZ.out 3).trans rfl;have vF:wc.cell? ⟨eX,4,none⟩=some (.slice iy bq.length eP):=(aC cZ.out 4).trans rfl;have vG:=ay cZ.out 0;have vH:=ay cZ.out 1;have vI:=ay cZ.out 2;have vJ:=ay cZ.out 3;have vK:=ay cZ.out 4;go_wp2
       go_loopg [40] kj10 (fun kq v40 w'=>∃(gy:Int),v40=.int .i64 gy∧ak (rows_row.l0 kq bq (bq.length:Int) gy dN dz bU dL bq=some r)∧ak (kq≤kj10)∧ak (w'.heap[eX]?=some (.cells #[.int .i64 dN,.int .i64 dz,.string bU,.string dL,(.slice iy bq.length eP)] 34 (0,0)))∧ak (Below w.heap.size w w'))
       case atStart=>exact⟨(0),q'c,H',⟨Nat.le_refl _⟩,⟨by(with_reducible repeat(first|refine aT ?_ _|refine aY ?_ |refine aU ?_ _));exact cZ.out⟩,⟨bs lT.out⟩⟩
       case round=>
        clear H'
        try clear c1
        try clear p2
        try clear c4
        try clear mP
        try clear Ab
        try clear c7
        try clear c8
        try clear xB
        try clear c8b1
        try clear c12
        try clear Ad
        try clear Ky
        try clear c13
        try clear tY
        try clear Ec
        try clear c17
        try clear H6
        try clear H7
        try clear H8
        try clear H9
        try clear Ia
        try clear rP
        try clear rQ
        try clear rR
        try clear rT
        try clear rU
        try clear Ij
        try clear Ik
        try clear Il
        try clear Im
        try clear Io
        try clear vV
        try clear vW
        try clear yc
        try clear yg
        try clear yh
        try clear vB
        try clear vC
        try clear vD
        try clear vE
        try clear vF
        try clear G5
        try clear G6
        try clear G7
        try clear G8
        try clear G9
        try clear Hq
        try clear Hr
        try clear Ht
        try clear Hu
        try clear Hw
        try clear vL
        try clear vM
        try clear vN
        try clear vO
        try clear vP
        try clear Ib
        try clear Ic
        try clear Ie
        try clear Ig
        try clear Ih
        try clear rV
        try clear rW
        try clear rX
        try clear rY
        try clear rZ
        try clear Ip
        try clear Iq
        try clear Ir
        try clear Iu
        try clear Iw
        try clear vX
        try clear vY
        try clear yj
        try clear yu
        try clear yw
        try clear vG
        try clear vH
        try clear vI
        try clear vJ
        try clear vK
        try clear He
        try clear Hf
        try clear Hg
        try clear Hl
        try clear Ho
        try clear Hy
        try clear Hz
        try clear HV
        try clear HY
        try clear HZ
        try clear vQ
        try clear vR
        try clear vS
        try clear vT
        try clear vU
        try clear p2
        obtain⟨gy,rfl,HA,HK3,cZ,HB⟩:=hrel;cases gk with
        |zero=>exact absurd HA.out (by simp[rows_row.l0])
        |succ k3=>
         have H:=HA.out;clear HA;simp only[rows_row.l0]at H
         by_cases c19:gy<(bq.length:Int)
         ·rw[if_pos c19]at H
          have Ee:decide (gy<(bq.length:Int))=true:=decide_eq_true c19;clear c19
          by_cases c20:0≤gy
          ·rw[if_pos c20]at H
           have c20b0:decide (0≤gy)=true:=decide_eq_true c20;clear c20
           by_cases c21:gy<(bq.length:Int)
           ·rw[if_pos c21]at H
            have c21b0:decide (gy<(bq.length:Int))=true:=decide_eq_true c21;clear c21;have c22b0:=eq_true (q'b:0≤gy)
            by_cases c23:gy≤(bq.length:Int)
            ·rw[if_pos c23]at H
             have c23b0:=eq_true c23;have c23b1:decide (gy≤(bq.length:Int))=true:=decide_eq_true c23;clear c23;obtain⟨sQ,Kz⟩:∃y_:List (S36),y_=(bq.take (gy:Int).toNat):=⟨_,rfl⟩
             replace H:(rows_row.l1 k3 bq (bq.length:Int) gy sQ (sQ.length:Int) 0 dN dz bU dL bq ((bg bq gy).f0) ((bg bq gy).f1))=some r:=by first|(rw[Kz];with_reducible exact H)|(have H2_:=(Option.bind_some _ _).symm.trans H;rw[Kz];with_reducible exact H2_)|(have H2_:=(Option.bind_some _ _).symm.trans H;with_reducible exact H2_)|with_reducible exact H|(rw[Kz];exact H)|exact H
             have Ny575:=ak.mk Kz;clear Kz;have H':=ak.mk H;clear H;have p573:0≤(gy:Int):=q'b;have q573:gy<(bq.length:Int):=q'b;obtain⟨qx,e573,CY,CZ⟩:=lI xF.out gy p573 q573;cases e573;replace CY:=(HB.out.cell (World.block_lt_of_cell? w _ CY)).trans CY;replace CZ:=(HB.out.cell (World.block_lt_of_cell? w _ CZ)).trans CZ;replace p573:=eq_true p573;replace q573:=eq_true q573
             go_wp2_with(first|((with_reducible refine cB (N:=4) rfl ?_);(try(refine oW (by rfl) ?_;dsimp only));refine eG ?hg (N:=4) ?hd (cs:=#[.string (⟨#[]⟩:ByteArray),.string (⟨#[]⟩:ByteArray)]) (t:=36) ?hr ?_;(case hd=>rfl);(case hg=>rfl);(case hr=>first|(go_simp;done)|(go_simp;rfl));intro lU hg w24 fK hb;have n0_:=ak.mk (dJ (g:=eX) (o:=.cells #[.int .i64 dN,.int .i64 dz,.string bU,.string dL,.slice (some qx) bq.length eP] 34 (0,0)) (kz cZ.out) hb);have n1_:=ak.mk (aG (bs lT.out) hb);have n2_:=ak.mk (fK);have n3_:=ak.mk ((by rw[hg];exact(aR (bs lT.out)):w.heap.size≤lU));have n4_:=ak.mk ((by rw[hg];exact(aR (bs lT.out)):w.heap.size≤lU));have n5_:=ak.mk ((by rw[hg];exact Nat.ne_of_lt (gU (g:=eX) (o:=.cells #[.int .i64 dN,.int .i64 dz,.string bU,.string dL,.slice (some qx) bq.length eP] 34 (0,0)) (kz cZ.out)):eX≠lU));have n6_:=ak.mk ((by rw[hg];exact Nat.ne_of_gt (gU (g:=eX) (o:=.cells #[.int .i64 dN,.int .i64 dz,.string bU,.string dL,.slice (some qx) bq.length eP] 34 (0,0)) (kz cZ.out)):lU≠eX));clear cZ;clear HB;have cZ:=n0_;have HB:=n1_;have kK:=n2_;have GW574:=n3_;have xG:=n4_;have uh:=n5_;have Bz:=n6_;clear n0_ n1_ n2_ n3_ n4_ n5_ n6_;clear hb fK hg;have hnb25:=Bz.out;have hnc25:=uh.out;have C8:w24.cell? ⟨lU,0,none⟩=some (.string (⟨#[]⟩:ByteArray)):=(aC kK.out 0).trans rfl;have C9:w24.cell? ⟨lU,1,none⟩=some (.string (⟨#[]⟩:ByteArray)):=(aC kK.out 1).trans rfl;have Da:=ay kK.out 0;have Db:=ay kK.out 1)|((with_reducible refine jW (t:=36) (p:=4) rfl ?_);refine jy (t:=36) (p:=4) (v:=?vo_w27) (w1:=((w24.setCell ⟨lU,0,none⟩ (.string ((bg bq gy).f0))).setCell ⟨lU,1,none⟩ (.string ((bg bq gy).f1)))) ?hg ?ho ?hn ?hr ?_;(case ho=>rfl);(case hg=>rfl);(case hn=>rfl);(case hr=>first|(go_simp;done)|(go_simp;rfl));intro w27 hw;have n0_:ak (w27.heap[eX]?=some (.cells #[.int .i64 dN,.int .i64 dz,.string bU,.string dL,.slice (some qx) bq.length eP] 34 (0,0))):=⟨(by rw[hw];exact(by(with_reducible repeat(first|refine aT ?_ _|refine aY ?_ |refine aU ?_ _));refine lV ?_ uh.out _;(with_reducible repeat(first|refine aT ?_ _|refine aY ?_ |refine aU ?_ _));refine lV ?_ uh.out _;(with_reducible repeat(first|refine aT ?_ _|refine aY ?_ |refine aU ?_ _));exact cZ.out))⟩;have n1_:ak (w27.heap[lU]?=some (.cells #[.string ((bg bq gy).f0),.string ((bg bq gy).f1)] 36 (0,0))):=⟨(by rw[hw];exact(by(with_reducible repeat(first|refine aT ?_ _|refine aY ?_ |refine aU ?_ _));refine bT (cs:=#[.string ((bg bq gy).f0),.string (⟨#[]⟩:ByteArray)]) ?_ 1 _ rfl;(with_reducible repeat(first|refine aT ?_ _|refine aY ?_ |refine aU ?_ _));refine bT (cs:=#[.string (⟨#[]⟩:ByteArray),.string (⟨#[]⟩:ByteArray)]) ?_ 0 _ rfl;(with_reducible repeat(first|refine aT ?_ _|refine aY ?_ |refine aU ?_ _));exact kK.out))⟩;have n2_:ak (Below w.heap.size w w27):=⟨(by rw[hw];exact(by repeat(first|(with_reducible first|exact HB.out|apply bX|apply bE|apply dn|refine aH ?_ lT.out|refine aH ?_ xG.out)|exact HB.out)))⟩;clear hw;clear cZ;clear kK;clear HB;have cZ:=n0_;have kK:=n1_;have HB:=n2_;clear n0_ n1_ n2_;have NV:w27.cell? ⟨eX,0,none⟩=some (.int .i64 dN):=(aC cZ.out 0).trans rfl;have NW:w27.cell? ⟨eX,1,none⟩=some (.int .i64 dz):=(aC cZ.out 1).trans rfl;have NY:w27.cell? ⟨eX,2,none⟩=some (.string bU):=(aC cZ.out 2).trans rfl;have NZ:w27.cell? ⟨eX,3,none⟩=some (.string dL):=(aC cZ.out 3).trans rfl;have N7:w27.cell? ⟨eX,4,none⟩=some (.slice (some qx) bq.length eP):=(aC cZ.out 4).trans rfl;have N8:=ay cZ.out 0;have N9:=ay cZ.out 1;have Oa:=ay cZ.out 2;have Ob:=ay cZ.out 3;have Oc:=ay cZ.out 4;have q29:(gy:Int)≤((bq.length:Int):Int):=q'b;obtain⟨i029,hi029,_,hsz29,_⟩:=info_parts Gz;have Og:bq.length≤eP:=Kt.out;have hC29:Kd.C k36 _ (some qx) bq.length bq:=xF.out;have hcut29:=vZ (P:=Tryz.prog) 32 36 .i64 Tryz.underlying32 hi029 (some qx) bq.length eP gy (q'b) q29 Og;have hr29:=Kd.C_take (m:=(gy:Int).toNat) hC29 (by omega);have hy29:sQ.length=(gy:Int).toNat:=(by rw[Ny575.out,List.length_take];omega);rw[←Ny575.out]at hr29;rw[←hy29]at hcut29;have HR578:=ak.mk hr29;have HC578:=ak.mk (show sQ.length≤eP from by omega);clear hr29 hC29 Og hi029 hsz29;have KY29:=ak.mk hy29;clear hy29;replace q29:=eq_true q29))
             go_loopg [50] k3 (fun kq v50 w'=>∃(nu:Int),v50=.int .i64 nu∧ak (rows_row.l1 kq bq (bq.length:Int) gy sQ (sQ.length:Int) nu dN dz bU dL bq ((bg bq gy).f0) ((bg bq gy).f1)=some r)∧ak (kq≤k3)∧ak (w'.heap[eX]?=some (.cells #[.int .i64 dN,.int .i64 dz,.string bU,.string dL,(.slice (some qx) bq.length eP)] 34 (0,0)))∧ak (w'.heap[lU]?=some (.cells #[.string ((bg bq gy).f0),.string ((bg bq gy).f1)] 36 (0,0)))∧ak (Below w.heap.size w w'))
             case atStart=>exact⟨(0),q'c,H',⟨Nat.le_refl _⟩,⟨by(with_reducible repeat(first|refine aT ?_ _|refine aY ?_ |refine aU ?_ _));exact cZ.out⟩,⟨by(with_reducible repeat(first|refine aT ?_ _|refine aY ?_ |refine aU ?_ _));exact kK.out⟩,⟨by repeat(first|(with_reducible first|exact HB.out|apply bX|apply bE|apply dn|refine aH ?_ lT.out|refine aH ?_ xG.out)|exact HB.out)⟩⟩
             case round=>
              clear H'
              try clear c1
              try clear c2
              try clear p2
              try clear q2
              try clear c4
              try clear mP
              try clear Ab
              try clear p5
              try clear q5
              try clear hx5
              try clear c7
              try clear c8
              try clear xB
              try clear c8b1
              try clear c12
              try clear Ad
              try clear Ky
              try clear c13
              try clear tY
              try clear Ec
              try clear c17
              try clear c19
              try clear Ee
              try clear c20
              try clear c20b0
              try clear c21
              try clear c21b0
              try clear c22
              try clear c22b0
              try clear c23
              try clear c23b0
              try clear c23b1
              try clear c25
              try clear q29
              try clear H6
              try clear H7
              try clear H8
              try clear H9
              try clear Ia
              try clear rP
              try clear rQ
              try clear rR
              try clear rT
              try clear rU
              try clear Ij
              try clear Ik
              try clear Il
              try clear Im
              try clear Io
              try clear vV
              try clear vW
              try clear yc
              try clear yg
              try clear yh
              try clear vB
              try clear vC
              try clear vD
              try clear vE
              try clear vF
              try clear C8
              try clear C9
              try clear NV
              try clear NW
              try clear NY
              try clear NZ
              try clear N7
              try clear G5
              try clear G6
              try clear G7
              try clear G8
              try clear G9
              try clear Hq
              try clear Hr
              try clear Ht
              try clear Hu
              try clear Hw
              try clear vL
              try clear vM
              try clear vN
              try clear vO
              try clear vP
              try clear Ib
              try clear Ic
              try clear Ie
              try clear Ig
              try clear Ih
              try clear rV
              try clear rW
              try clear rX
              try clear rY
              try clear rZ
              try clear Ip
              try clear Iq
              try clear Ir
              try clear Iu
              try clear Iw
              try clear vX
              try clear vY
              try clear yj
              try clear yu
              try clear yw
              try clear vG
              try clear vH
              try clear vI
              try clear vJ
              try clear vK
              try clear Da
              try clear Db
              try clear N8
              try clear N9
              try clear Oa
              try clear Ob
              try clear Oc
              try clear He
              try clear Hf
              try clear Hg
              try clear Hl
              try clear Ho
              try clear Hy
              try clear Hz
              try clear HV
              try clear HY
              try clear HZ
              try clear vQ
              try clear vR
              try clear vS
              try clear vT
              try clear vU
              try clear CY
              try clear CZ
              try clear p2
              try clear p573
              try clear q29
              try clear q573
              obtain⟨nu,rfl,HA,HK4,cZ,kK,HB⟩:=hrel;cases gk with
              |zero=>exact absurd HA.out (by simp[rows_row.l1])
              |succ k4=>
               have H:=HA.out;clear HA;simp only[rows_row.l1]at H
               by_cases c30:nu<(sQ.length:Int)
               ·rw[if_pos c30]at H
                have c30b0:decide (nu<(sQ.length:Int))=true:=decide_eq_true c30;clear c30
                by_cases c31:0≤nu
                ·rw[if_pos c31]at H
                 have c31b0:decide (0≤nu)=true:=decide_eq_true c31;clear c31
                 by_cases c32:nu<(sQ.length:Int)
                 ·rw[if_pos c32]at H
                  have c32b0:decide (nu<(sQ.length:Int))=true:=decide_eq_true c32;clear c32
                  by_cases c33:((bg bq gy).f0).toList=((bg sQ nu).f0).toList
                  ·rw[if_pos c33]at H
                   have c33b0:(((bg bq gy).f0).toList==((bg sQ nu).f0).toList)=true:=beq_iff_eq.mpr c33;have c33b1:(((bg bq gy).f0).toList !=((bg sQ nu).f0).toList)=false:=bne_eq_false_iff_eq.mpr c33;clear c33;obtain rfl:=Option.some.inj H;have p579:0≤(nu:Int):=q'b;have q579:nu<(sQ.length:Int):=q'b;obtain⟨ad579,e579,wh,wm⟩:=lI HR578.out nu p579 q579;obtain rfl:qx=ad579:=(by injection e579);replace wh:=(HB.out.cell (World.block_lt_of_cell? w _ wh)).trans wh;replace wm:=(HB.out.cell (World.block_lt_of_cell? w _ wm)).trans wm;replace p579:=eq_true p579;replace q579:=eq_true q579
                   go_wp2_with(first|((with_reducible refine cB (N:=6) rfl ?_);(try(refine oW (by rfl) ?_;dsimp only));refine eG ?hg (N:=6) ?hd (cs:=#[.string (⟨#[]⟩:ByteArray),.string (⟨#[]⟩:ByteArray)]) (t:=36) ?hr ?_;(case hd=>rfl);(case hg=>rfl);(case hr=>first|(go_simp;done)|(go_simp;rfl));intro qc hg w34 fK hb;have n0_:=ak.mk (dJ (g:=eX) (o:=.cells #[.int .i64 dN,.int .i64 dz,.string bU,.string dL,.slice (some qx) bq.length eP] 34 (0,0)) (kz cZ.out) hb);have n1_:=ak.mk (dJ (g:=lU) (o:=.cells #[.string ((bg bq gy).f0),.string ((bg bq gy).f1)] 36 (0,0)) (kz kK.out) hb);have n2_:=ak.mk (aG (by repeat(first|(with_reducible first|exact HB.out|apply bX|apply bE|apply dn|refine aH ?_ lT.out|refine aH ?_ xG.out)|exact HB.out)) hb);have n3_:=ak.mk (fK);have n4_:=ak.mk ((by rw[hg];exact(aR (by repeat(first|(with_reducible first|exact HB.out|apply bX|apply bE|apply dn|refine aH ?_ lT.out|refine aH ?_ xG.out)|exact HB.out))):w.heap.size≤qc));have n5_:=ak.mk ((by rw[hg];exact(aR (by repeat(first|(with_reducible first|exact HB.out|apply bX|apply bE|apply dn|refine aH ?_ lT.out|refine aH ?_ xG.out)|exact HB.out))):w.heap.size≤qc));have n6_:=ak.mk ((by rw[hg];exact Nat.ne_of_lt (gU (g:=eX) (o:=.cells #[.int .i64 dN,.int .i64 dz,.string bU,.string dL,.slice (some qx) bq.length eP] 34 (0,0)) (kz cZ.out)):eX≠qc));have n7_:=ak.mk ((by rw[hg];exact Nat.ne_of_gt (gU (g:=eX) (o:=.cells #[.int .i64 dN,.int .i64 dz,.string bU,.string dL,.slice (some qx) bq.length eP] 34 (0,0)) (kz cZ.out)):qc≠eX));have n8_:=ak.mk ((by rw[hg];exact Nat.ne_of_lt (gU (g:=lU) (o:=.cells #[.string ((bg bq gy).f0),.string ((bg bq gy).f1)] 36 (0,0)) (kz kK.out)):lU≠qc));have n9_:=ak.mk ((by rw[hg];exact Nat.ne_of_gt (gU (g:=lU) (o:=.cells #[.string ((bg bq gy).f0),.string ((bg bq gy).f1)] 36 (0,0)) (kz kK.out)):qc≠lU));clear cZ;clear kK;clear HB;have cZ:=n0_;have kK:=n1_;have HB:=n2_;have Ae:=n3_;have GW580:=n4_;have GE580:=n5_;have uj:=n6_;have BA:=n7_;have um:=n8_;have BD:=n9_;clear n0_ n1_ n2_ n3_ n4_ n5_ n6_ n7_ n8_ n9_;clear hb fK hg;have hnb35:=BA.out;have hnc35:=uj.out;have hnb36:=BD.out;have hnc36:=um.out;have hcz37_0:w34.cell? ⟨qc,0,none⟩=some (.string (⟨#[]⟩:ByteArray)):=(aC Ae.out 0).trans rfl;have hcz37_1:w34.cell? ⟨qc,1,none⟩=some (.string (⟨#[]⟩:ByteArray)):=(aC Ae.out 1).trans rfl;have hfz37_0:=ay Ae.out 0;have hfz37_1:=ay Ae.out 1;have hnb38:=Bz.out;have hnc38:=uh.out;have hcz39_0:w34.cell? ⟨lU,0,none⟩=some (.string ((bg bq gy).f0)):=(aC kK.out 0).trans rfl;have hcz39_1:w34.cell? ⟨lU,1,none⟩=some (.string ((bg bq gy).f1)):=(aC kK.out 1).trans rfl;have hfz39_0:=ay kK.out 0;have hfz39_1:=ay kK.out 1))
                   go_ret;exact⟨by first|rfl|(simp[aJ,aM]<;>rfl)|(simp[*,aJ,aM]<;>rfl),by repeat(first|(with_reducible first|exact HB.out|apply bX|apply bE|apply dn|refine aH ?_ lT.out|refine aH ?_ xG.out|refine aH ?_ GE580.out)|exact HB.out)⟩
                  ·rw[if_neg c33]at H
                   have c33b0:(((bg bq gy).f0).toList==((bg sQ nu).f0).toList)=false:=beq_eq_false_iff_ne.mpr c33;have c33b1:(((bg bq gy).f0).toList !=((bg sQ nu).f0).toList)=true:=bne_iff_ne.mpr c33;have H':=ak.mk H;clear H;have p579:0≤(nu:Int):=q'b;have q579:nu<(sQ.length:Int):=q'b;obtain⟨ad579,e579,wh,wm⟩:=lI HR578.out nu p579 q579;obtain rfl:qx=ad579:=(by injection e579);replace wh:=(HB.out.cell (World.block_lt_of_cell? w _ wh)).trans wh;replace wm:=(HB.out.cell (World.block_lt_of_cell? w _ wm)).trans wm;replace p579:=eq_true p579;replace q579:=eq_true q579
                   go_wp2_with(first|((with_reducible refine cB (N:=6) rfl ?_);(try(refine oW (by rfl) ?_;dsimp only));refine eG ?hg (N:=6) ?hd (cs:=#[.string (⟨#[]⟩:ByteArray),.string (⟨#[]⟩:ByteArray)]) (t:=36) ?hr ?_;(case hd=>rfl);(case hg=>rfl);(case hr=>first|(go_simp;done)|(go_simp;rfl));intro qc hg w40 fK hb;have n0_:=ak.mk (dJ (g:=eX) (o:=.cells #[.int .i64 dN,.int .i64 dz,.string bU,.string dL,.slice (some qx) bq.length eP] 34 (0,0)) (kz cZ.out) hb);have n1_:=ak.mk (dJ (g:=lU) (o:=.cells #[.string ((bg bq gy).f0),.string ((bg bq gy).f1)] 36 (0,0)) (kz kK.out) hb);have n2_:=ak.mk (aG (by repeat(first|(with_reducible first|exact HB.out|apply bX|apply bE|apply dn|refine aH ?_ lT.out|refine aH ?_ xG.out)|exact HB.out)) hb);have n3_:=ak.mk (fK);have n4_:=ak.mk ((by rw[hg];exact(aR (by repeat(first|(with_reducible first|exact HB.out|apply bX|apply bE|apply dn|refine aH ?_ lT.out|refine aH ?_ xG.out)|exact HB.out))):w.heap.size≤qc));have n5_:=ak.mk ((by rw[hg];exact(aR (by repeat(first|(with_reducible first|exact HB.out|apply bX|apply bE|apply dn|refine aH ?_ lT.out|refine aH ?_ xG.out)|exact HB.out))):w.heap.size≤qc));have n6_:=ak.mk ((by rw[hg];exact Nat.ne_of_lt (gU (g:=eX) (o:=.cells #[.int .i64 dN,.int .i64 dz,.string bU,.string dL,.slice (some qx) bq.length eP] 34 (0,0)) (kz cZ.out)):eX≠qc));have n7_:=ak.mk ((by rw[hg];exact Nat.ne_of_gt (gU (g:=eX) (o:=.cells #[.int .i64 dN,.int .i64 dz,.string bU,.string dL,.slice (some qx) bq.length eP] 34 (0,0)) (kz cZ.out)):qc≠eX));have n8_:=ak.mk ((by rw[hg];exact Nat.ne_of_lt (gU (g:=lU) (o:=.cells #[.string ((bg bq gy).f0),.string ((bg bq gy).f1)] 36 (0,0)) (kz kK.out)):lU≠qc));have n9_:=ak.mk ((by rw[hg];exact Nat.ne_of_gt (gU (g:=lU) (o:=.cells #[.string ((bg bq gy).f0),.string ((bg bq gy).f1)] 36 (0,0)) (kz kK.out)):qc≠lU));clear cZ;clear kK;clear HB;have cZ:=n0_;have kK:=n1_;have HB:=n2_;have Ae:=n3_;have GW580:=n4_;have GE580:=n5_;have uj:=n6_;have BA:=n7_;have um:=n8_;have BD:=n9_;clear n0_ n1_ n2_ n3_ n4_ n5_ n6_ n7_ n8_ n9_;clear hb fK hg;have hnb41:=BA.out;have hnc41:=uj.out;have hnb42:=BD.out;have hnc42:=um.out;have hcz43_0:w40.cell? ⟨qc,0,none⟩=some (.string (⟨#[]⟩:ByteArray)):=(aC Ae.out 0).trans rfl;have hcz43_1:w40.cell? ⟨qc,1,none⟩=some (.string (⟨#[]⟩:ByteArray)):=(aC Ae.out 1).trans rfl;have hfz43_0:=ay Ae.out 0;have hfz43_1:=ay Ae.out 1;have hnb44:=Bz.out;have hnc44:=uh.out;have hcz45_0:w40.cell? ⟨lU,0,none⟩=some (.string ((bg bq gy).f0)):=(aC kK.out 0).trans rfl;have hcz45_1:w40.cell? ⟨lU,1,none⟩=some (.string ((bg bq gy).f1)):=(aC kK.out 1).trans rfl;have hfz45_0:=ay kK.out 0;have hfz45_1:=ay kK.out 1))
                   go_roundg k4
                   case measure=>have:=HJ1.out;have:=HJ10.out;have:=HK3.out;have:=HK4.out;omega
                   case rel=>exact⟨(wrap64 (nu+1)),q'c,H',⟨by have:=HJ1.out;have:=HJ10.out;have:=HK3.out;have:=HK4.out;omega⟩,⟨by(with_reducible repeat(first|refine aT ?_ _|refine aY ?_ |refine aU ?_ _));refine lV ?_ uj.out _;(with_reducible repeat(first|refine aT ?_ _|refine aY ?_ |refine aU ?_ _));refine lV ?_ uj.out _;(with_reducible repeat(first|refine aT ?_ _|refine aY ?_ |refine aU ?_ _));exact cZ.out⟩,⟨by(with_reducible repeat(first|refine aT ?_ _|refine aY ?_ |refine aU ?_ _));refine lV ?_ um.out _;(with_reducible repeat(first|refine aT ?_ _|refine aY ?_ |refine aU ?_ _));refine lV ?_ um.out _;(with_reducible repeat(first|refine aT ?_ _|refine aY ?_ |refine aU ?_ _));exact kK.out⟩,⟨by repeat(first|(with_reducible first|exact HB.out|apply bX|apply bE|apply dn|refine aH ?_ lT.out|refine aH ?_ xG.out|refine aH ?_ GE580.out)|exact HB.out)⟩⟩
                 ·rw[if_neg c32]at H
                  exact absurd H (by simp)
                ·rw[if_neg c31]at H
                 exact absurd H (by simp)
               ·rw[if_neg c30]at H
                have c30b0:decide (nu<(sQ.length:Int))=false:=decide_eq_false c30;clear c30;have H':=ak.mk H;clear H;go_wp2
                go_roundg k4
                case measure=>have:=HJ1.out;have:=HJ10.out;have:=HK3.out;have:=HK4.out;omega
                case rel=>exact⟨(wrap64 (gy+1)),q'c,H',⟨by have:=HJ1.out;have:=HJ10.out;have:=HK3.out;have:=HK4.out;omega⟩,⟨by(with_reducible repeat(first|refine aT ?_ _|refine aY ?_ |refine aU ?_ _));exact cZ.out⟩,⟨by repeat(first|(with_reducible first|exact HB.out|apply bX|apply bE|apply dn|refine aH ?_ lT.out|refine aH ?_ xG.out)|exact HB.out)⟩⟩
            ·rw[if_neg c23]at H
             exact absurd H (by simp)
           ·rw[if_neg c21]at H
            exact absurd H (by simp)
          ·rw[if_neg c20]at H
           exact absurd H (by simp)
         ·rw[if_neg c19]at H
          have Ee:decide (gy<(bq.length:Int))=false:=decide_eq_false c19;clear c19;obtain rfl:=Option.some.inj H;go_wp2;go_ret;exact⟨by first|rfl|(simp[aJ,aM]<;>rfl)|(simp[*,aJ,aM]<;>rfl),bs lT.out⟩
end Go.Proofs.aj.W7
