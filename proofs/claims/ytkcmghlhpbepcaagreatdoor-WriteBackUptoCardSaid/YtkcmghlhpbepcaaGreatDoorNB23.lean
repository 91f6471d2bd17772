/- Lemmas and walks, part 23. -/
import Derived.Test.YtkcmghlhpbepcaaGreatDoorNB5
set_option linter.unusedVariables false
set_option linter.unusedSimpArgs false
set_option maxHeartbeats 8000000
set_option maxRecDepth 100000
namespace Go.Proofs.aj.W7
open Go.RowKit Go.Proofs.ah.aD Go.Proofs.ah.bJ Go.Proofs.ah.bW
attribute [local go_sem] dB dD dR dS bZ cu dF dG
mutual
def rows_row.j0:Nat→Bool→Int→Int→Bt→Bt→List (S36)→Option (Bool)
 |0,_,_,_,_,_,_=>none
 |k+1,x14,qc,oQ,nX,oU,lF=>if x14=true then(if nX.toList=([] :List UInt8)then(some ((lF.length:Int)==0))else(some false))else(if oQ=0 then(if nX.toList=([] :List UInt8)then(rows_row.j1 k true qc oQ nX oU lF)else(rows_row.j1 k (oU.toList !=([] :List UInt8)) qc oQ nX oU lF))else(rows_row.j1 k true qc oQ nX oU lF))
def rows_row.j1:Nat→Bool→Int→Int→Bt→Bt→List (S36)→Option (Bool)
 |0,_,_,_,_,_,_=>none
 |k+1,x36,qc,oQ,nX,oU,lF=>if x36=true then(some false)else(rows_row.l0 k lF (lF.length:Int) 0 qc oQ nX oU lF)
def rows_row.l0:Nat→List (S36)→Int→Int→Int→Int→Bt→Bt→List (S36)→Option (Bool)
 |0,_,_,_,_,_,_,_,_=>none
 |k+1,x38,x39,x40,qc,oQ,nX,oU,lF=>if x40<x39 then(if 0≤x40 then(if x40<(x38.length:Int)then(if x40≤(lF.length:Int)then((some (lF.take (x40:Int).toNat:List (S36))).bind fun tO=>(rows_row.l1 k x38 x39 x40 tO (tO.length:Int) 0 qc oQ nX oU lF ((bq x38 x40).f0) ((bq x38 x40).f1)))else(none))else(none))else(none))else(some true)
def rows_row.l1:Nat→List (S36)→Int→Int→List (S36)→Int→Int→Int→Int→Bt→Bt→List (S36)→Bt→Bt→Option (Bool)
 |0,_,_,_,_,_,_,_,_,_,_,_,_,_=>none
 |k+1,x38,x39,x40,x48,x49,x50,qc,oQ,nX,oU,lF,O8,x575001=>if x50<x49 then(if 0≤x50 then(if x50<(x48.length:Int)then(if O8.toList=((bq x48 x50).f0).toList then(some false)else(rows_row.l1 k x38 x39 x40 x48 x49 (wrap64 (x50+1)) qc oQ nX oU lF O8 x575001))else(none))else(none))else(rows_row.l0 k x38 x39 (wrap64 (x40+1)) qc oQ nX oU lF)
end
def rows_row.f(k:Nat)(dO dz:Int)(bV dL:Bt)(bA:List (S36)):Option (Bool):=if dz=1 then(rows_row.j0 k true dO dz bV dL bA)else(rows_row.j0 k (dz==2) dO dz bV dL bA)
theorem rows_row.xS:∀k,(∀y0 y1 y2 y3 y4 y5,LeO (rows_row.j0 k y0 y1 y2 y3 y4 y5) (rows_row.j0 (k+1) y0 y1 y2 y3 y4 y5))∧(∀y0 y1 y2 y3 y4 y5,LeO (rows_row.j1 k y0 y1 y2 y3 y4 y5) (rows_row.j1 (k+1) y0 y1 y2 y3 y4 y5))∧(∀y0 y1 y2 y3 y4 y5 y6 y7,LeO (rows_row.l0 k y0 y1 y2 y3 y4 y5 y6 y7) (rows_row.l0 (k+1) y0 y1 y2 y3 y4 y5 y6 y7))∧(∀y0 y1 y2 y3 y4 y5 y6 y7 y8 y9 y10 y11 y12,LeO (rows_row.l1 k y0 y1 y2 y3 y4 y5 y6 y7 y8 y9 y10 y11 y12) (rows_row.l1 (k+1) y0 y1 y2 y3 y4 y5 y6 y7 y8 y9 y10 y11 y12))
 |0=>⟨fun _ _ _ _ _ _ r h=>by simp[rows_row.j0]at h,fun _ _ _ _ _ _ r h=>by simp[rows_row.j1]at h,fun _ _ _ _ _ _ _ _ r h=>by simp[rows_row.l0]at h,fun _ _ _ _ _ _ _ _ _ _ _ _ _ r h=>by simp[rows_row.l1]at h⟩
 |k+1=>by
  obtain⟨ih0,ih1,ih2,ih3⟩:=rows_row.xS k;refine⟨?_,?_,?_,?_⟩
  ·intro y0 y1 y2 y3 y4 y5
   unfold rows_row.j0
   repeat' first
   |(with_reducible exact ih0 _ _ _ _ _ _)
   |(with_reducible exact ih1 _ _ _ _ _ _)
   |(with_reducible exact ih2 _ _ _ _ _ _ _ _)
   |(with_reducible exact ih3 _ _ _ _ _ _ _ _ _ _ _ _ _)
   |(with_reducible exact LeO.refl _)
   |(with_reducible exact LeO.none _)
   |(with_reducible refine LeO.ite ?_ ?_)
   |(with_reducible refine LeO.bind ?_ (fun _=>?_))
   |exact ih0 _ _ _ _ _ _
   |exact ih1 _ _ _ _ _ _
   |exact ih2 _ _ _ _ _ _ _ _
   |exact ih3 _ _ _ _ _ _ _ _ _ _ _ _ _
   |exact LeO.none _
   |refine LeO.ite ?_ ?_
   |refine LeO.bind ?_ (fun _=>?_)
  ·intro y0 y1 y2 y3 y4 y5
   unfold rows_row.j1
   repeat' first
   |(with_reducible exact ih0 _ _ _ _ _ _)
   |(with_reducible exact ih1 _ _ _ _ _ _)
   |(with_reducible exact ih2 _ _ _ _ _ _ _ _)
   |(with_reducible exact ih3 _ _ _ _ _ _ _ _ _ _ _ _ _)
   |(with_reducible exact LeO.refl _)
   |(with_reducible exact LeO.none _)
   |(with_reducible refine LeO.ite ?_ ?_)
   |(with_reducible refine LeO.bind ?_ (fun _=>?_))
   |exact ih0 _ _ _ _ _ _
   |exact ih1 _ _ _ _ _ _
   |exact ih2 _ _ _ _ _ _ _ _
   |exact ih3 _ _ _ _ _ _ _ _ _ _ _ _ _
   |exact LeO.none _
   |refine LeO.ite ?_ ?_
   |refine LeO.bind ?_ (fun _=>?_)
  ·intro y0 y1 y2 y3 y4 y5 y6 y7
   unfold rows_row.l0
   repeat' first
   |(with_reducible exact ih0 _ _ _ _ _ _)
   |(with_reducible exact ih1 _ _ _ _ _ _)
   |(with_reducible exact ih2 _ _ _ _ _ _ _ _)
   |(with_reducible exact ih3 _ _ _ _ _ _ _ _ _ _ _ _ _)
   |(with_reducible exact LeO.refl _)
   |(with_reducible exact LeO.none _)
   |(with_reducible refine LeO.ite ?_ ?_)
   |(with_reducible refine LeO.bind ?_ (fun _=>?_))
   |exact ih0 _ _ _ _ _ _
   |exact ih1 _ _ _ _ _ _
   |exact ih2 _ _ _ _ _ _ _ _
   |exact ih3 _ _ _ _ _ _ _ _ _ _ _ _ _
   |exact LeO.none _
   |refine LeO.ite ?_ ?_
   |refine LeO.bind ?_ (fun _=>?_)
  ·intro y0 y1 y2 y3 y4 y5 y6 y7 y8 y9 y10 y11 y12
   unfold rows_row.l1
   repeat' first
   |(with_reducible exact ih0 _ _ _ _ _ _)
   |(with_reducible exact ih1 _ _ _ _ _ _)
   |(with_reducible exact ih2 _ _ _ _ _ _ _ _)
   |(with_reducible exact ih3 _ _ _ _ _ _ _ _ _ _ _ _ _)
   |(with_reducible exact LeO.refl _)
   |(with_reducible exact LeO.none _)
   |(with_reducible refine LeO.ite ?_ ?_)
   |(with_reducible refine LeO.bind ?_ (fun _=>?_))
   |exact ih0 _ _ _ _ _ _
   |exact ih1 _ _ _ _ _ _
   |exact ih2 _ _ _ _ _ _ _ _
   |exact ih3 _ _ _ _ _ _ _ _ _ _ _ _ _
   |exact LeO.none _
   |refine LeO.ite ?_ ?_
   |refine LeO.bind ?_ (fun _=>?_)
theorem rows_row.mono:∀a0 a1 a2 a3 a4 k,LeO (rows_row.f k a0 a1 a2 a3 a4) (rows_row.f (k+1) a0 a1 a2 a3 a4):=by
 intro a0 a1 a2 a3 a4 k;obtain⟨ih0,ih1,ih2,ih3⟩:=rows_row.xS k;unfold rows_row.f
 repeat' first
  |(with_reducible exact ih0 _ _ _ _ _ _)
  |(with_reducible exact ih1 _ _ _ _ _ _)
  |(with_reducible exact ih2 _ _ _ _ _ _ _ _)
  |(with_reducible exact ih3 _ _ _ _ _ _ _ _ _ _ _ _ _)
  |(with_reducible exact LeO.refl _)
  |(with_reducible exact LeO.none _)
  |(with_reducible refine LeO.ite ?_ ?_)
  |(with_reducible refine LeO.bind ?_ (fun _=>?_))
  |exact ih0 _ _ _ _ _ _
  |exact ih1 _ _ _ _ _ _
  |exact ih2 _ _ _ _ _ _ _ _
  |exact ih3 _ _ _ _ _ _ _ _ _ _ _ _ _
  |exact LeO.none _
  |refine LeO.ite ?_ ?_
  |refine LeO.bind ?_ (fun _=>?_)
theorem rows_row.calls(k:Nat)(dO dz:Int)(bV dL:Bt)(iC:Option Addr)(eP:Nat)(bA:List (S36))(r:Bool)(w:World)(xW:Kd.C k36 w iC bA.length bA)(xX:bA.length≤eP)(h:rows_row.f k dO dz bV dL bA=some r):
 Calls Tryz.prog 131 #[.agg #[.int .i64 dO,.int .i64 dz,.string bV,.string dL,.slice iC bA.length eP]] w fun e w'=>e=.returned (.bool r)∧Below w.heap.size w w':=by
 have hu34:=Tryz.underlying34;have hu36:=Tryz.underlying36;have xY:=ak.mk xW;have K9:=ak.mk xX;clear xW xX;have HB:=ak.mk (Below.refl w.heap.size w);have H:(if dz=1 then(rows_row.j0 k true dO dz bV dL bA)else(rows_row.j0 k (dz==2) dO dz bV dL bA))=some r:=h;clear h;have HC2:=ak.mk H;clear H;go_enter Tryz.func131,Tryz.ntmps131
 go_upto_region 1 with(first|((with_reducible refine cO (N:=1) rfl ?_);(try(refine pI (by rfl) ?_;dsimp only));refine eH ?hg (N:=1) ?hd (cs:=#[.int .i64 dO,.int .i64 dz,.string bV,.string dL,.slice iC bA.length eP]) (t:=34) ?hr ?_;(case hd=>rfl);(case hg=>rfl);(case hr=>first|(go_simp;done)|(go_simp;rfl));intro eY hg w3 fP hb;have dh:=ak.mk (fP);have GW572:=ak.mk ((by rw[hg];exact(aR bz):w.heap.size≤eY));have mq:=ak.mk ((by rw[hg];exact(aR bz):w.heap.size≤eY));replace HB:=ak.mk (aG bz hb);clear hb fP hg))
 (try simp only[Act.put,List.setIfInBounds_toArray,List.set_cons_zero,List.set_cons_succ])
 go_cut [14] (fun v14 wc=>∃(kq:Nat) (x14_1:Bool),v14=.bool x14_1∧ak (rows_row.j0 kq x14_1 dO dz bV dL bA=some r)∧ak (kq≤k)∧ak (wc.heap[eY]?=some (.cells #[.int .i64 dO,.int .i64 dz,.string bV,.string dL,(.slice iC bA.length eP)] 34 (0,0)))∧ak (Below w.heap.size w wc))
 case first=>
  have H:=HC2.out;clear HC2
  by_cases c4:dz=1
  ·rw[if_pos c4]at H
   have mZ:(dz==1)=true:=beq_iff_eq.mpr c4;have AA:(dz !=1)=false:=bne_eq_false_iff_eq.mpr c4;clear c4
   (first|rw[mZ] |(simp only[oO,oP];rw[mZ])|skip)
   have H':=ak.mk H;clear H;have Il:w3.cell? ⟨eY,0,none⟩=some (.int .i64 dO):=(aC dh.out 0).trans rfl;have Im:w3.cell? ⟨eY,1,none⟩=some (.int .i64 dz):=(aC dh.out 1).trans rfl;have Io:w3.cell? ⟨eY,2,none⟩=some (.string bV):=(aC dh.out 2).trans rfl;have Ip:w3.cell? ⟨eY,3,none⟩=some (.string dL):=(aC dh.out 3).trans rfl;have Iq:w3.cell? ⟨eY,4,none⟩=some (.slice iC bA.length eP):=(aC dh.out 4).trans rfl;have Ir:=ay dh.out 0;have Iu:=ay dh.out 1;have Iw:=ay dh.out 2;have Iy:=ay dh.out 3;have Iz:=ay dh.out 4;go_wp2
   go_meet
   case rel=>exact⟨_,(true),q'c,H',⟨by first|omega|exact Nat.le_refl _⟩,⟨by(with_reducible repeat(first|refine aT ?_ _|refine aY ?_ |refine aU ?_ _));exact dh.out⟩,⟨bs mq.out⟩⟩
  ·rw[if_neg c4]at H
   have mZ:(dz==1)=false:=beq_eq_false_iff_ne.mpr c4;have AA:(dz !=1)=true:=bne_iff_ne.mpr c4
   (first|rw[mZ] |(simp only[oO,oP];rw[mZ])|skip)
   have H':=ak.mk H;clear H;have IB:w3.cell? ⟨eY,0,none⟩=some (.int .i64 dO):=(aC dh.out 0).trans rfl;have IC:w3.cell? ⟨eY,1,none⟩=some (.int .i64 dz):=(aC dh.out 1).trans rfl;have IE:w3.cell? ⟨eY,2,none⟩=some (.string bV):=(aC dh.out 2).trans rfl;have IG:w3.cell? ⟨eY,3,none⟩=some (.string dL):=(aC dh.out 3).trans rfl;have II:w3.cell? ⟨eY,4,none⟩=some (.slice iC bA.length eP):=(aC dh.out 4).trans rfl;have IJ:=ay dh.out 0;have IK:=ay dh.out 1;have IL:=ay dh.out 2;have IQ:=ay dh.out 3;have IU:=ay dh.out 4;go_wp2
   go_meet
   case rel=>exact⟨_,((dz==2)),q'c,H',⟨by first|omega|exact Nat.le_refl _⟩,⟨by(with_reducible repeat(first|refine aT ?_ _|refine aY ?_ |refine aU ?_ _));exact dh.out⟩,⟨bs mq.out⟩⟩
 case rest=>
  clear HC2
  try clear c1
  try clear p2
  try clear c4
  try clear mZ
  try clear AA
  try clear Il
  try clear Im
  try clear Io
  try clear Ip
  try clear Iq
  try clear IB
  try clear IC
  try clear IE
  try clear IG
  try clear II
  try clear Ir
  try clear Iu
  try clear Iw
  try clear Iy
  try clear Iz
  try clear IJ
  try clear IK
  try clear IL
  try clear IQ
  try clear IU
  obtain⟨kq,x14_1,rfl,HA,HJ1,dh,HB⟩:=hcut;cases kq with
  |zero=>exact absurd HA.out (by simp[rows_row.j0])
  |succ kj1=>
   have H:=HA.out;clear HA;simp only[rows_row.j0]at H
   by_cases c7:x14_1=true
   ·subst c7
    have H1:(if bV.toList=([] :List UInt8)then(some ((bA.length:Int)==0))else(some false))=some r:=by rw[if_pos rfl]at H;exact H
    clear H;have H:=H1;clear H1
    by_cases c8:bV.toList=([] :List UInt8)
    ·rw[if_pos c8]at H
     have xU:(bV.toList==([] :List UInt8))=true:=beq_iff_eq.mpr c8;have c8b1:(bV.toList !=([] :List UInt8))=false:=bne_eq_false_iff_eq.mpr c8;clear c8;obtain rfl:=Option.some.inj H;have wh:wc.cell? ⟨eY,0,none⟩=some (.int .i64 dO):=(aC dh.out 0).trans rfl;have wm:wc.cell? ⟨eY,1,none⟩=some (.int .i64 dz):=(aC dh.out 1).trans rfl;have wo:wc.cell? ⟨eY,2,none⟩=some (.string bV):=(aC dh.out 2).trans rfl;have wu:wc.cell? ⟨eY,3,none⟩=some (.string dL):=(aC dh.out 3).trans rfl;have wz:wc.cell? ⟨eY,4,none⟩=some (.slice iC bA.length eP):=(aC dh.out 4).trans rfl;have wB:=ay dh.out 0;have wC:=ay dh.out 1;have wD:=ay dh.out 2;have wE:=ay dh.out 3;have wF:=ay dh.out 4;go_wp2;go_ret;exact⟨by first|rfl|(simp[aJ,aM]<;>rfl)|(simp[*,aJ,aM]<;>rfl),bs mq.out⟩
    ·rw[if_neg c8]at H
     have xU:(bV.toList==([] :List UInt8))=false:=beq_eq_false_iff_ne.mpr c8;have c8b1:(bV.toList !=([] :List UInt8))=true:=bne_iff_ne.mpr c8;obtain rfl:=Option.some.inj H;have IV:wc.cell? ⟨eY,0,none⟩=some (.int .i64 dO):=(aC dh.out 0).trans rfl;have IW:wc.cell? ⟨eY,1,none⟩=some (.int .i64 dz):=(aC dh.out 1).trans rfl;have IX:wc.cell? ⟨eY,2,none⟩=some (.string bV):=(aC dh.out 2).trans rfl;have IY:wc.cell? ⟨eY,3,none⟩=some (.string dL):=(aC dh.out 3).trans rfl;have IZ:wc.cell? ⟨eY,4,none⟩=some (.slice iC bA.length eP):=(aC dh.out 4).trans rfl;have I4:=ay dh.out 0;have I5:=ay dh.out 1;have I6:=ay dh.out 2;have I7:=ay dh.out 3;have I8:=ay dh.out 4;go_wp2;go_ret;exact⟨by first|rfl|(simp[aJ,aM]<;>rfl)|(simp[*,aJ,aM]<;>rfl),bs mq.out⟩
   ·replace c7:=Bool.eq_false_iff.mpr c7
    subst c7;have H1:(if dz=0 then(if bV.toList=([] :List UInt8)then(rows_row.j1 kj1 true dO dz bV dL bA)else(rows_row.j1 kj1 (dL.toList !=([] :List UInt8)) dO dz bV dL bA))else(rows_row.j1 kj1 true dO dz bV dL bA))=some r:=by rw[if_neg (show¬(false=true) by decide)]at H;first|exact H|(simp only[eq_self]at H⊢;exact H)|(simp only[eq_self,if_true]at H⊢;exact H)
    clear H;have H:=H1;clear H1;have HC11:=ak.mk H;clear H
    go_upto_region 3 with(fail)
    go_cut [36] (fun v36 wc=>∃(kq:Nat) (I9:Bool),v36=.bool I9∧ak (rows_row.j1 kq I9 dO dz bV dL bA=some r)∧ak (kq≤kj1)∧ak (wc.heap[eY]?=some (.cells #[.int .i64 dO,.int .i64 dz,.string bV,.string dL,(.slice iC bA.length eP)] 34 (0,0)))∧ak (Below w.heap.size w wc))
    case first=>
     have H:=HC11.out;clear HC11
     by_cases c12:dz=0
     ·rw[if_pos c12]at H
      have AJ:(dz==0)=true:=beq_iff_eq.mpr c12;have Ld:(dz !=0)=false:=bne_eq_false_iff_eq.mpr c12;clear c12
      (first|rw[AJ] |(simp only[oO,oP];rw[AJ])|skip)
      by_cases c13:bV.toList=([] :List UInt8)
      ·rw[if_pos c13]at H
       have uH:(bV.toList==([] :List UInt8))=true:=beq_iff_eq.mpr c13;have EA:(bV.toList !=([] :List UInt8))=false:=bne_eq_false_iff_eq.mpr c13;clear c13;have H':=ak.mk H;clear H;have sF:wc.cell? ⟨eY,0,none⟩=some (.int .i64 dO):=(aC dh.out 0).trans rfl;have sG:wc.cell? ⟨eY,1,none⟩=some (.int .i64 dz):=(aC dh.out 1).trans rfl;have sH:wc.cell? ⟨eY,2,none⟩=some (.string bV):=(aC dh.out 2).trans rfl;have sI:wc.cell? ⟨eY,3,none⟩=some (.string dL):=(aC dh.out 3).trans rfl;have sJ:wc.cell? ⟨eY,4,none⟩=some (.slice iC bA.length eP):=(aC dh.out 4).trans rfl;have sK:=ay dh.out 0;have sM:=ay dh.out 1;have sN:=ay dh.out 2;have sO:=ay dh.out 3;have sP:=ay dh.out 4;go_wp2
       go_meet
       case rel=>exact⟨_,(true),q'c,H',⟨by have:=HJ1.out;first|omega|exact Nat.le_refl _⟩,⟨by(with_reducible repeat(first|refine aT ?_ _|refine aY ?_ |refine aU ?_ _));exact dh.out⟩,⟨bs mq.out⟩⟩
      ·rw[if_neg c13]at H
       have uH:(bV.toList==([] :List UInt8))=false:=beq_eq_false_iff_ne.mpr c13;have EA:(bV.toList !=([] :List UInt8))=true:=bne_iff_ne.mpr c13;have H':=ak.mk H;clear H;have Ja:wc.cell? ⟨eY,0,none⟩=some (.int .i64 dO):=(aC dh.out 0).trans rfl;have Jb:wc.cell? ⟨eY,1,none⟩=some (.int .i64 dz):=(aC dh.out 1).trans rfl;have Jc:wc.cell? ⟨eY,2,none⟩=some (.string bV):=(aC dh.out 2).trans rfl;have Jd:wc.cell? ⟨eY,3,none⟩=some (.string dL):=(aC dh.out 3).trans rfl;have Je:wc.cell? ⟨eY,4,none⟩=some (.slice iC bA.length eP):=(aC dh.out 4).trans rfl;have Jf:=ay dh.out 0;have Jg:=ay dh.out 1;have Jh:=ay dh.out 2;have Ji:=ay dh.out 3;have Jj:=ay dh.out 4;go_wp2
       go_meet
       case rel=>exact⟨_,((dL.toList !=([] :List UInt8))),q'c,H',⟨by have:=HJ1.out;first|omega|exact Nat.le_refl _⟩,⟨by(with_reducible repeat(first|refine aT ?_ _|refine aY ?_ |refine aU ?_ _));exact dh.out⟩,⟨bs mq.out⟩⟩
     ·rw[if_neg c12]at H
      have AJ:(dz==0)=false:=beq_eq_false_iff_ne.mpr c12;have Ld:(dz !=0)=true:=bne_iff_ne.mpr c12
      (first|rw[AJ] |(simp only[oO,oP];rw[AJ])|skip)
      have H':=ak.mk H;clear H;have wG:wc.cell? ⟨eY,0,none⟩=some (.int .i64 dO):=(aC dh.out 0).trans rfl;have wH:wc.cell? ⟨eY,1,none⟩=some (.int .i64 dz):=(aC dh.out 1).trans rfl;have yK:wc.cell? ⟨eY,2,none⟩=some (.string bV):=(aC dh.out 2).trans rfl;have yL:wc.cell? ⟨eY,3,none⟩=some (.string dL):=(aC dh.out 3).trans rfl;have yM:wc.cell? ⟨eY,4,none⟩=some (.slice iC bA.length eP):=(aC dh.out 4).trans rfl;have wI:=ay dh.out 0;have wJ:=ay dh.out 1;have yN:=ay dh.out 2;have yO:=ay dh.out 3;have yP:=ay dh.out 4;go_wp2
      go_meet
      case rel=>exact⟨_,(true),q'c,H',⟨by have:=HJ1.out;first|omega|exact Nat.le_refl _⟩,⟨by(with_reducible repeat(first|refine aT ?_ _|refine aY ?_ |refine aU ?_ _));exact dh.out⟩,⟨bs mq.out⟩⟩
    case rest=>
     clear HC11
     try clear c1
     try clear p2
     try clear c4
     try clear mZ
     try clear AA
     try clear c7
     try clear c8
     try clear xU
     try clear c8b1
     try clear c12
     try clear AJ
     try clear Ld
     try clear c13
     try clear uH
     try clear EA
     try clear IV
     try clear IW
     try clear IX
     try clear IY
     try clear IZ
     try clear sF
     try clear sG
     try clear sH
     try clear sI
     try clear sJ
     try clear Ja
     try clear Jb
     try clear Jc
     try clear Jd
     try clear Je
     try clear wG
     try clear wH
     try clear yK
     try clear yL
     try clear yM
     try clear Il
     try clear Im
     try clear Io
     try clear Ip
     try clear Iq
     try clear IB
     try clear IC
     try clear IE
     try clear IG
     try clear II
     try clear wh
     try clear wm
     try clear wo
     try clear wu
     try clear wz
     try clear I4
     try clear I5
     try clear I6
     try clear I7
     try clear I8
     try clear sK
     try clear sM
     try clear sN
     try clear sO
     try clear sP
     try clear Jf
     try clear Jg
     try clear Jh
     try clear Ji
     try clear Jj
     try clear wI
     try clear wJ
     try clear yN
     try clear yO
     try clear yP
     try clear Ir
     try clear Iu
     try clear Iw
     try clear Iy
     try clear Iz
     try clear IJ
     try clear IK
     try clear IL
     try clear IQ
     try clear IU
     try clear wB
     try clear wC
     try clear wD
     try clear wE
     try clear wF
     try clear p2
     obtain⟨kq,I9,rfl,HA,HJ10,dh,HB⟩:=hcut;cases kq with
     |zero=>exact absurd HA.out (by simp[rows_row.j1])
     |succ kj10=>
      have H:=HA.out;clear HA;simp only[rows_row.j1]at H
      by_cases c17:I9=true
      ·subst c17
       have H1:(some false)=some r:=by rw[if_pos rfl]at H;exact H
       clear H;have H:=H1;clear H1;obtain rfl:=Option.some.inj H;go_wp2;go_ret;exact⟨by first|rfl|(simp[aJ,aM]<;>rfl)|(simp[*,aJ,aM]<;>rfl),bs mq.out⟩
      ·replace c17:=Bool.eq_false_iff.mpr c17
       subst c17;have H1:(rows_row.l0 kj10 bA (bA.length:Int) 0 dO dz bV dL bA)=some r:=by rw[if_neg (show¬(false=true) by decide)]at H;first|exact H|(simp only[eq_self]at H⊢;exact H)|(simp only[eq_self,if_true]at H⊢;exact H)
       clear H;have H:=H1;clear H1;have H':=ak.mk H;clear H;have vQ:wc.cell? ⟨eY,0,none⟩=some (.int .i64 dO):=(aC dh.out 0).trans rfl;have vR:wc.cell? ⟨eY,1,none⟩=some (.int .i64 dz):=(aC dh.out 1).trans rfl;have vS:wc.cell? ⟨eY,2,none⟩=some (.string bV):=(aC dh.out 2).trans rfl;have vT:wc.cell? ⟨eY,3,none⟩=some (.string dL):=(aC dh.out 3).trans rfl;have vU:wc.cell? ⟨eY,4,none⟩=some (.slice iC bA.length eP):=(aC dh.out 4).trans rfl;have vV:=ay dh.out 0;have vW:=ay dh.out 1;have vX:=ay dh.out 2;have vY:=ay dh.out 3;have vZ:=ay dh.out 4;go_wp2
       go_loopg [40] kj10 (fun kq v40 w'=>∃(gB:Int),v40=.int .i64 gB∧ak (rows_row.l0 kq bA (bA.length:Int) gB dO dz bV dL bA=some r)∧ak (kq≤kj10)∧ak (w'.heap[eY]?=some (.cells #[.int .i64 dO,.int .i64 dz,.string bV,.string dL,(.slice iC bA.length eP)] 34 (0,0)))∧ak (Below w.heap.size w w'))
       case atStart=>exact⟨(0),q'c,H',⟨Nat.le_refl _⟩,⟨by(with_reducible repeat(first|refine aT ?_ _|refine aY ?_ |refine aU ?_ _));exact dh.out⟩,⟨bs mq.out⟩⟩
       case round=>
        clear H'
        try clear c1
        try clear p2
        try clear c4
        try clear mZ
        try clear AA
        try clear c7
        try clear c8
        try clear xU
        try clear c8b1
        try clear c12
        try clear AJ
        try clear Ld
        try clear c13
        try clear uH
        try clear EA
        try clear c17
        try clear IV
        try clear IW
        try clear IX
        try clear IY
        try clear IZ
        try clear sF
        try clear sG
        try clear sH
        try clear sI
        try clear sJ
        try clear Ja
        try clear Jb
        try clear Jc
        try clear Jd
        try clear Je
        try clear wG
        try clear wH
        try clear yK
        try clear yL
        try clear yM
        try clear vQ
        try clear vR
        try clear vS
        try clear vT
        try clear vU
        try clear Il
        try clear Im
        try clear Io
        try clear Ip
        try clear Iq
        try clear IB
        try clear IC
        try clear IE
        try clear IG
        try clear II
        try clear wh
        try clear wm
        try clear wo
        try clear wu
        try clear wz
        try clear I4
        try clear I5
        try clear I6
        try clear I7
        try clear I8
        try clear sK
        try clear sM
        try clear sN
        try clear sO
        try clear sP
        try clear Jf
        try clear Jg
        try clear Jh
        try clear Ji
        try clear Jj
        try clear wI
        try clear wJ
        try clear yN
        try clear yO
        try clear yP
        try clear vV
        try clear vW
        try clear vX
        try clear vY
        try clear vZ
        try clear Ir
        try clear Iu
        try clear Iw
        try clear Iy
        try clear Iz
        try clear IJ
        try clear IK
        try clear IL
        try clear IQ
        try clear IU
        try clear wB
        try clear wC
        try clear wD
        try clear wE
        try clear wF
        try clear p2
        obtain⟨gB,rfl,HA,HK3,dh,HB⟩:=hrel;cases gk with
        |zero=>exact absurd HA.out (by simp[rows_row.l0])
        |succ k3=>
         have H:=HA.out;clear HA;simp only[rows_row.l0]at H
         by_cases c19:gB<(bA.length:Int)
         ·rw[if_pos c19]at H
          have EC:decide (gB<(bA.length:Int))=true:=decide_eq_true c19;clear c19
          by_cases c20:0≤gB
          ·rw[if_pos c20]at H
           have c20b0:decide (0≤gB)=true:=decide_eq_true c20;clear c20
           by_cases c21:gB<(bA.length:Int)
           ·rw[if_pos c21]at H
            have c21b0:decide (gB<(bA.length:Int))=true:=decide_eq_true c21;clear c21;have c22b0:=eq_true (q'b:0≤gB)
            by_cases c23:gB≤(bA.length:Int)
            ·rw[if_pos c23]at H
             have c23b0:=eq_true c23;have c23b1:decide (gB≤(bA.length:Int))=true:=decide_eq_true c23;clear c23;obtain⟨tO,Le⟩:∃y_:List (S36),y_=(bA.take (gB:Int).toNat):=⟨_,rfl⟩
             replace H:(rows_row.l1 k3 bA (bA.length:Int) gB tO (tO.length:Int) 0 dO dz bV dL bA ((bq bA gB).f0) ((bq bA gB).f1))=some r:=by first|(rw[Le];with_reducible exact H)|(have H2_:=(Option.bind_some _ _).symm.trans H;rw[Le];with_reducible exact H2_)|(have H2_:=(Option.bind_some _ _).symm.trans H;with_reducible exact H2_)|with_reducible exact H|(rw[Le];exact H)|exact H
             have Ny575:=ak.mk Le;clear Le;have H':=ak.mk H;clear H;have p573:0≤(gB:Int):=q'b;have q573:gB<(bA.length:Int):=q'b;obtain⟨qG,e573,Du,Dv⟩:=lY xY.out gB p573 q573;cases e573;replace Du:=(HB.out.cell (World.block_lt_of_cell? w _ Du)).trans Du;replace Dv:=(HB.out.cell (World.block_lt_of_cell? w _ Dv)).trans Dv;replace p573:=eq_true p573;replace q573:=eq_true q573
             go_wp2_with(first|((with_reducible refine cO (N:=4) rfl ?_);(try(refine pI (by rfl) ?_;dsimp only));refine eH ?hg (N:=4) ?hd (cs:=#[.string (⟨#[]⟩:Bt),.string (⟨#[]⟩:Bt)]) (t:=36) ?hr ?_;(case hd=>rfl);(case hg=>rfl);(case hr=>first|(go_simp;done)|(go_simp;rfl));intro mD hg w24 fP hb;have kT:=ak.mk (fP);have GW574:=ak.mk ((by rw[hg];exact(aR (bs mq.out)):w.heap.size≤mD));have xZ:=ak.mk ((by rw[hg];exact(aR (bs mq.out)):w.heap.size≤mD));have uL:=ak.mk ((by rw[hg];exact Nat.ne_of_lt (gZ (g:=eY) (o:=.cells #[.int .i64 dO,.int .i64 dz,.string bV,.string dL,.slice (some qG) bA.length eP] 34 (0,0)) (kz dh.out)):eY≠mD));have BZ:=ak.mk ((by rw[hg];exact Nat.ne_of_gt (gZ (g:=eY) (o:=.cells #[.int .i64 dO,.int .i64 dz,.string bV,.string dL,.slice (some qG) bA.length eP] 34 (0,0)) (kz dh.out)):mD≠eY));replace dh:=ak.mk (dK (g:=eY) (o:=.cells #[.int .i64 dO,.int .i64 dz,.string bV,.string dL,.slice (some qG) bA.length eP] 34 (0,0)) (kz dh.out) hb);replace HB:=ak.mk (aG (bs mq.out) hb);clear hb fP hg;have hnb25:=BZ.out;have hnc25:=uL.out;have Dw:w24.cell? ⟨mD,0,none⟩=some (.string (⟨#[]⟩:Bt)):=(aC kT.out 0).trans rfl;have Dx:w24.cell? ⟨mD,1,none⟩=some (.string (⟨#[]⟩:Bt)):=(aC kT.out 1).trans rfl;have Dy:=ay kT.out 0;have Dz:=ay kT.out 1)|((with_reducible refine j6 (t:=36) (p:=4) rfl ?_);refine jE (t:=36) (p:=4) (v:=?vo_w27) (w1:=((w24.setCell ⟨mD,0,none⟩ (.string ((bq bA gB).f0))).setCell ⟨mD,1,none⟩ (.string ((bq bA gB).f1)))) ?hg ?ho ?hn ?hr ?_;(case ho=>rfl);(case hg=>rfl);(case hn=>rfl);(case hr=>first|(go_simp;done)|(go_simp;rfl));intro w27 hw;have n0_:ak (w27.heap[eY]?=some (.cells #[.int .i64 dO,.int .i64 dz,.string bV,.string dL,.slice (some qG) bA.length eP] 34 (0,0))):=⟨(by rw[hw];exact(by(with_reducible repeat(first|refine aT ?_ _|refine aY ?_ |refine aU ?_ _));refine mE ?_ uL.out _;(with_reducible repeat(first|refine aT ?_ _|refine aY ?_ |refine aU ?_ _));refine mE ?_ uL.out _;(with_reducible repeat(first|refine aT ?_ _|refine aY ?_ |refine aU ?_ _));exact dh.out))⟩;have n1_:ak (w27.heap[mD]?=some (.cells #[.string ((bq bA gB).f0),.string ((bq bA gB).f1)] 36 (0,0))):=⟨(by rw[hw];exact(by(with_reducible repeat(first|refine aT ?_ _|refine aY ?_ |refine aU ?_ _));refine bU (cs:=#[.string ((bq bA gB).f0),.string (⟨#[]⟩:Bt)]) ?_ 1 _ rfl;(with_reducible repeat(first|refine aT ?_ _|refine aY ?_ |refine aU ?_ _));refine bU (cs:=#[.string (⟨#[]⟩:Bt),.string (⟨#[]⟩:Bt)]) ?_ 0 _ rfl;(with_reducible repeat(first|refine aT ?_ _|refine aY ?_ |refine aU ?_ _));exact kT.out))⟩;have n2_:ak (Below w.heap.size w w27):=⟨(by rw[hw];exact(by repeat(first|(with_reducible first|exact HB.out|apply bY|apply bE|apply dn|refine aH ?_ mq.out|refine aH ?_ xZ.out)|exact HB.out)))⟩;clear hw;clear dh;clear kT;clear HB;have dh:=n0_;have kT:=n1_;have HB:=n2_;clear n0_ n1_ n2_;have OU:w27.cell? ⟨eY,0,none⟩=some (.int .i64 dO):=(aC dh.out 0).trans rfl;have OV:w27.cell? ⟨eY,1,none⟩=some (.int .i64 dz):=(aC dh.out 1).trans rfl;have OW:w27.cell? ⟨eY,2,none⟩=some (.string bV):=(aC dh.out 2).trans rfl;have OX:w27.cell? ⟨eY,3,none⟩=some (.string dL):=(aC dh.out 3).trans rfl;have OY:w27.cell? ⟨eY,4,none⟩=some (.slice (some qG) bA.length eP):=(aC dh.out 4).trans rfl;have OZ:=ay dh.out 0;have O1:=ay dh.out 1;have O4:=ay dh.out 2;have O5:=ay dh.out 3;have O6:=ay dh.out 4;have q29:(gB:Int)≤((bA.length:Int):Int):=q'b;obtain⟨i029,hi029,_,hsz29,_⟩:=info_parts HV;have O9:bA.length≤eP:=K9.out;have hC29:Kd.C k36 _ (some qG) bA.length bA:=xY.out;have hcut29:=wK (P:=Tryz.prog) 32 36 .i64 Tryz.underlying32 hi029 (some qG) bA.length eP gB (q'b) q29 O9;have hr29:=Kd.C_take (m:=(gB:Int).toNat) hC29 (by omega);have hy29:tO.length=(gB:Int).toNat:=(by rw[Ny575.out,List.length_take];omega);rw[←Ny575.out]at hr29;rw[←hy29]at hcut29;have HR578:=ak.mk hr29;have HC578:=ak.mk (show tO.length≤eP from by omega);clear hr29 hC29 O9 hi029 hsz29;have KY29:=ak.mk hy29;clear hy29;replace q29:=eq_true q29))
             go_loopg [50] k3 (fun kq v50 w'=>∃(nK:Int),v50=.int .i64 nK∧ak (rows_row.l1 kq bA (bA.length:Int) gB tO (tO.length:Int) nK dO dz bV dL bA ((bq bA gB).f0) ((bq bA gB).f1)=some r)∧ak (kq≤k3)∧ak (w'.heap[eY]?=some (.cells #[.int .i64 dO,.int .i64 dz,.string bV,.string dL,(.slice (some qG) bA.length eP)] 34 (0,0)))∧ak (w'.heap[mD]?=some (.cells #[.string ((bq bA gB).f0),.string ((bq bA gB).f1)] 36 (0,0)))∧ak (Below w.heap.size w w'))
             case atStart=>exact⟨(0),q'c,H',⟨Nat.le_refl _⟩,⟨by(with_reducible repeat(first|refine aT ?_ _|refine aY ?_ |refine aU ?_ _));exact dh.out⟩,⟨by(with_reducible repeat(first|refine aT ?_ _|refine aY ?_ |refine aU ?_ _));exact kT.out⟩,⟨by repeat(first|(with_reducible first|exact HB.out|apply bY|apply bE|apply dn|refine aH ?_ mq.out|refine aH ?_ xZ.out)|exact HB.out)⟩⟩
             case round=>
              clear H'
              try clear c1
              try clear c2
              try clear p2
              try clear q2
              try clear c4
              try clear mZ
              try clear AA
              try clear p5
              try clear q5
              try clear hx5
              try clear c7
              try clear c8
              try clear xU
              try clear c8b1
              try clear c12
              try clear AJ
              try clear Ld
              try clear c13
              try clear uH
              try clear EA
              try clear c17
              try clear c19
              try clear EC
              try clear c20
              try clear c20b0
              try clear c21
              try clear c21b0
              try clear c22
              try clear c22b0
              try clear c23
              try clear c23b0
              try clear c23b1
              try clear c25
              try clear q29
              try clear IV
              try clear IW
              try clear IX
              try clear IY
              try clear IZ
              try clear sF
              try clear sG
              try clear sH
              try clear sI
              try clear sJ
              try clear Ja
              try clear Jb
              try clear Jc
              try clear Jd
              try clear Je
              try clear wG
              try clear wH
              try clear yK
              try clear yL
              try clear yM
              try clear vQ
              try clear vR
              try clear vS
              try clear vT
              try clear vU
              try clear Dw
              try clear Dx
              try clear OU
              try clear OV
              try clear OW
              try clear OX
              try clear OY
              try clear Il
              try clear Im
              try clear Io
              try clear Ip
              try clear Iq
              try clear IB
              try clear IC
              try clear IE
              try clear IG
              try clear II
              try clear wh
              try clear wm
              try clear wo
              try clear wu
              try clear wz
              try clear I4
              try clear I5
              try clear I6
              try clear I7
              try clear I8
              try clear sK
              try clear sM
              try clear sN
              try clear sO
              try clear sP
              try clear Jf
              try clear Jg
              try clear Jh
              try clear Ji
              try clear Jj
              try clear wI
              try clear wJ
              try clear yN
              try clear yO
              try clear yP
              try clear vV
              try clear vW
              try clear vX
              try clear vY
              try clear vZ
              try clear Dy
              try clear Dz
              try clear OZ
              try clear O1
              try clear O4
              try clear O5
              try clear O6
              try clear Ir
              try clear Iu
              try clear Iw
              try clear Iy
              try clear Iz
              try clear IJ
              try clear IK
              try clear IL
              try clear IQ
              try clear IU
              try clear wB
              try clear wC
              try clear wD
              try clear wE
              try clear wF
              try clear Du
              try clear Dv
              try clear p2
              try clear p573
              try clear q29
              try clear q573
              obtain⟨nK,rfl,HA,HK4,dh,kT,HB⟩:=hrel;cases gk with
              |zero=>exact absurd HA.out (by simp[rows_row.l1])
              |succ k4=>
               have H:=HA.out;clear HA;simp only[rows_row.l1]at H
               by_cases c30:nK<(tO.length:Int)
               ·rw[if_pos c30]at H
                have c30b0:decide (nK<(tO.length:Int))=true:=decide_eq_true c30;clear c30
                by_cases c31:0≤nK
                ·rw[if_pos c31]at H
                 have c31b0:decide (0≤nK)=true:=decide_eq_true c31;clear c31
                 by_cases c32:nK<(tO.length:Int)
                 ·rw[if_pos c32]at H
                  have c32b0:decide (nK<(tO.length:Int))=true:=decide_eq_true c32;clear c32
                  by_cases c33:((bq bA gB).f0).toList=((bq tO nK).f0).toList
                  ·rw[if_pos c33]at H
                   have c33b0:(((bq bA gB).f0).toList==((bq tO nK).f0).toList)=true:=beq_iff_eq.mpr c33;have c33b1:(((bq bA gB).f0).toList !=((bq tO nK).f0).toList)=false:=bne_eq_false_iff_eq.mpr c33;clear c33;obtain rfl:=Option.some.inj H;have p579:0≤(nK:Int):=q'b;have q579:nK<(tO.length:Int):=q'b;obtain⟨ad579,e579,wL,wO⟩:=lY HR578.out nK p579 q579;obtain rfl:qG=ad579:=(by injection e579);replace wL:=(HB.out.cell (World.block_lt_of_cell? w _ wL)).trans wL;replace wO:=(HB.out.cell (World.block_lt_of_cell? w _ wO)).trans wO;replace p579:=eq_true p579;replace q579:=eq_true q579
                   go_wp2_with(first|((with_reducible refine cO (N:=6) rfl ?_);(try(refine pI (by rfl) ?_;dsimp only));refine eH ?hg (N:=6) ?hd (cs:=#[.string (⟨#[]⟩:Bt),.string (⟨#[]⟩:Bt)]) (t:=36) ?hr ?_;(case hd=>rfl);(case hg=>rfl);(case hr=>first|(go_simp;done)|(go_simp;rfl));intro qp hg w34 fP hb;have AL:=ak.mk (fP);have GW580:=ak.mk ((by rw[hg];exact(aR (by repeat(first|(with_reducible first|exact HB.out|apply bY|apply bE|apply dn|refine aH ?_ mq.out|refine aH ?_ xZ.out)|exact HB.out))):w.heap.size≤qp));have GE580:=ak.mk ((by rw[hg];exact(aR (by repeat(first|(with_reducible first|exact HB.out|apply bY|apply bE|apply dn|refine aH ?_ mq.out|refine aH ?_ xZ.out)|exact HB.out))):w.heap.size≤qp));have uM:=ak.mk ((by rw[hg];exact Nat.ne_of_lt (gZ (g:=eY) (o:=.cells #[.int .i64 dO,.int .i64 dz,.string bV,.string dL,.slice (some qG) bA.length eP] 34 (0,0)) (kz dh.out)):eY≠qp));have Ca:=ak.mk ((by rw[hg];exact Nat.ne_of_gt (gZ (g:=eY) (o:=.cells #[.int .i64 dO,.int .i64 dz,.string bV,.string dL,.slice (some qG) bA.length eP] 34 (0,0)) (kz dh.out)):qp≠eY));have uN:=ak.mk ((by rw[hg];exact Nat.ne_of_lt (gZ (g:=mD) (o:=.cells #[.string ((bq bA gB).f0),.string ((bq bA gB).f1)] 36 (0,0)) (kz kT.out)):mD≠qp));have Cb:=ak.mk ((by rw[hg];exact Nat.ne_of_gt (gZ (g:=mD) (o:=.cells #[.string ((bq bA gB).f0),.string ((bq bA gB).f1)] 36 (0,0)) (kz kT.out)):qp≠mD));replace dh:=ak.mk (dK (g:=eY) (o:=.cells #[.int .i64 dO,.int .i64 dz,.string bV,.string dL,.slice (some qG) bA.length eP] 34 (0,0)) (kz dh.out) hb);replace kT:=ak.mk (dK (g:=mD) (o:=.cells #[.string ((bq bA gB).f0),.string ((bq bA gB).f1)] 36 (0,0)) (kz kT.out) hb);replace HB:=ak.mk (aG (by repeat(first|(with_reducible first|exact HB.out|apply bY|apply bE|apply dn|refine aH ?_ mq.out|refine aH ?_ xZ.out)|exact HB.out)) hb);clear hb fP hg;have hnb35:=Ca.out;have hnc35:=uM.out;have hnb36:=Cb.out;have hnc36:=uN.out;have hcz37_0:w34.cell? ⟨qp,0,none⟩=some (.string (⟨#[]⟩:Bt)):=(aC AL.out 0).trans rfl;have hcz37_1:w34.cell? ⟨qp,1,none⟩=some (.string (⟨#[]⟩:Bt)):=(aC AL.out 1).trans rfl;have hfz37_0:=ay AL.out 0;have hfz37_1:=ay AL.out 1;have hnb38:=BZ.out;have hnc38:=uL.out;have hcz39_0:w34.cell? ⟨mD,0,none⟩=some (.string ((bq bA gB).f0)):=(aC kT.out 0).trans rfl;have hcz39_1:w34.cell? ⟨mD,1,none⟩=some (.string ((bq bA gB).f1)):=(aC kT.out 1).trans rfl;have hfz39_0:=ay kT.out 0;have hfz39_1:=ay kT.out 1))
                   go_ret;exact⟨by first|rfl|(simp[aJ,aM]<;>rfl)|(simp[*,aJ,aM]<;>rfl),by repeat(first|(with_reducible first|exact HB.out|apply bY|apply bE|apply dn|refine aH ?_ mq.out|refine aH ?_ xZ.out|refine aH ?_ GE580.out)|exact HB.out)⟩
                  ·rw[if_neg c33]at H
                   have c33b0:(((bq bA gB).f0).toList==((bq tO nK).f0).toList)=false:=beq_eq_false_iff_ne.mpr c33;have c33b1:(((bq bA gB).f0).toList !=((bq tO nK).f0).toList)=true:=bne_iff_ne.mpr c33;have H':=ak.mk H;clear H;have p579:0≤(nK:Int):=q'b;have q579:nK<(tO.length:Int):=q'b;obtain⟨ad579,e579,wL,wO⟩:=lY HR578.out nK p579 q579;obtain rfl:qG=ad579:=(by injection e579);replace wL:=(HB.out.cell (World.block_lt_of_cell? w _ wL)).trans wL;replace wO:=(HB.out.cell (World.block_lt_of_cell? w _ wO)).trans wO;replace p579:=eq_true p579;replace q579:=eq_true q579
                   go_wp2_with(first|((with_reducible refine cO (N:=6) rfl ?_);(try(refine pI (by rfl) ?_;dsimp only));refine eH ?hg (N:=6) ?hd (cs:=#[.string (⟨#[]⟩:Bt),.string (⟨#[]⟩:Bt)]) (t:=36) ?hr ?_;(case hd=>rfl);(case hg=>rfl);(case hr=>first|(go_simp;done)|(go_simp;rfl));intro qp hg w40 fP hb;have AL:=ak.mk (fP);have GW580:=ak.mk ((by rw[hg];exact(aR (by repeat(first|(with_reducible first|exact HB.out|apply bY|apply bE|apply dn|refine aH ?_ mq.out|refine aH ?_ xZ.out)|exact HB.out))):w.heap.size≤qp));have GE580:=ak.mk ((by rw[hg];exact(aR (by repeat(first|(with_reducible first|exact HB.out|apply bY|apply bE|apply dn|refine aH ?_ mq.out|refine aH ?_ xZ.out)|exact HB.out))):w.heap.size≤qp));have uM:=ak.mk ((by rw[hg];exact Nat.ne_of_lt (gZ (g:=eY) (o:=.cells #[.int .i64 dO,.int .i64 dz,.string bV,.string dL,.slice (some qG) bA.length eP] 34 (0,0)) (kz dh.out)):eY≠qp));have Ca:=ak.mk ((by rw[hg];exact Nat.ne_of_gt (gZ (g:=eY) (o:=.cells #[.int .i64 dO,.int .i64 dz,.string bV,.string dL,.slice (some qG) bA.length eP] 34 (0,0)) (kz dh.out)):qp≠eY));have uN:=ak.mk ((by rw[hg];exact Nat.ne_of_lt (gZ (g:=mD) (o:=.cells #[.string ((bq bA gB).f0),.string ((bq bA gB).f1)] 36 (0,0)) (kz kT.out)):mD≠qp));have Cb:=ak.mk ((by rw[hg];exact Nat.ne_of_gt (gZ (g:=mD) (o:=.cells #[.string ((bq bA gB).f0),.string ((bq bA gB).f1)] 36 (0,0)) (kz kT.out)):qp≠mD));replace dh:=ak.mk (dK (g:=eY) (o:=.cells #[.int .i64 dO,.int .i64 dz,.string bV,.string dL,.slice (some qG) bA.length eP] 34 (0,0)) (kz dh.out) hb);replace kT:=ak.mk (dK (g:=mD) (o:=.cells #[.string ((bq bA gB).f0),.string ((bq bA gB).f1)] 36 (0,0)) (kz kT.out) hb);replace HB:=ak.mk (aG (by repeat(first|(with_reducible first|exact HB.out|apply bY|apply bE|apply dn|refine aH ?_ mq.out|refine aH ?_ xZ.out)|exact HB.out)) hb);clear hb fP hg;have hnb41:=Ca.out;have hnc41:=uM.out;have hnb42:=Cb.out;have hnc42:=uN.out;have hcz43_0:w40.cell? ⟨qp,0,none⟩=some (.string (⟨#[]⟩:Bt)):=(aC AL.out 0).trans rfl;have hcz43_1:w40.cell? ⟨qp,1,none⟩=some (.string (⟨#[]⟩:Bt)):=(aC AL.out 1).trans rfl;have hfz43_0:=ay AL.out 0;have hfz43_1:=ay AL.out 1;have hnb44:=BZ.out;have hnc44:=uL.out;have hcz45_0:w40.cell? ⟨mD,0,none⟩=some (.string ((bq bA gB).f0)):=(aC kT.out 0).trans rfl;have hcz45_1:w40.cell? ⟨mD,1,none⟩=some (.string ((bq bA gB).f1)):=(aC kT.out 1).trans rfl;have hfz45_0:=ay kT.out 0;have hfz45_1:=ay kT.out 1))
                   go_roundg k4
                   case measure=>have:=HJ1.out;have:=HJ10.out;have:=HK3.out;have:=HK4.out;omega
                   case rel=>exact⟨(wrap64 (nK+1)),q'c,H',⟨by have:=HJ1.out;have:=HJ10.out;have:=HK3.out;have:=HK4.out;omega⟩,⟨by(with_reducible repeat(first|refine aT ?_ _|refine aY ?_ |refine aU ?_ _));refine mE ?_ uM.out _;(with_reducible repeat(first|refine aT ?_ _|refine aY ?_ |refine aU ?_ _));refine mE ?_ uM.out _;(with_reducible repeat(first|refine aT ?_ _|refine aY ?_ |refine aU ?_ _));exact dh.out⟩,⟨by(with_reducible repeat(first|refine aT ?_ _|refine aY ?_ |refine aU ?_ _));refine mE ?_ uN.out _;(with_reducible repeat(first|refine aT ?_ _|refine aY ?_ |refine aU ?_ _));refine mE ?_ uN.out _;(with_reducible repeat(first|refine aT ?_ _|refine aY ?_ |refine aU ?_ _));exact kT.out⟩,⟨by repeat(first|(with_reducible first|exact HB.out|apply bY|apply bE|apply dn|refine aH ?_ mq.out|refine aH ?_ xZ.out|refine aH ?_ GE580.out)|exact HB.out)⟩⟩
                 ·rw[if_neg c32]at H
                  exact absurd H (by simp)
                ·rw[if_neg c31]at H
                 exact absurd H (by simp)
               ·rw[if_neg c30]at H
                have c30b0:decide (nK<(tO.length:Int))=false:=decide_eq_false c30;clear c30;have H':=ak.mk H;clear H;go_wp2
                go_roundg k4
                case measure=>have:=HJ1.out;have:=HJ10.out;have:=HK3.out;have:=HK4.out;omega
                case rel=>exact⟨(wrap64 (gB+1)),q'c,H',⟨by have:=HJ1.out;have:=HJ10.out;have:=HK3.out;have:=HK4.out;omega⟩,⟨by(with_reducible repeat(first|refine aT ?_ _|refine aY ?_ |refine aU ?_ _));exact dh.out⟩,⟨by repeat(first|(with_reducible first|exact HB.out|apply bY|apply bE|apply dn|refine aH ?_ mq.out|refine aH ?_ xZ.out)|exact HB.out)⟩⟩
            ·rw[if_neg c23]at H
             exact absurd H (by simp)
           ·rw[if_neg c21]at H
            exact absurd H (by simp)
          ·rw[if_neg c20]at H
           exact absurd H (by simp)
         ·rw[if_neg c19]at H
          have EC:decide (gB<(bA.length:Int))=false:=decide_eq_false c19;clear c19;obtain rfl:=Option.some.inj H;go_wp2;go_ret;exact⟨by first|rfl|(simp[aJ,aM]<;>rfl)|(simp[*,aJ,aM]<;>rfl),bs mq.out⟩
end Go.Proofs.aj.W7
