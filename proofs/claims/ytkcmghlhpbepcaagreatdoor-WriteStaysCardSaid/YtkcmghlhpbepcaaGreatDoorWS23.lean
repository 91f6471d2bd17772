/- Lemmas and walks, part 23. -/
import Derived.Test.YtkcmghlhpbepcaaGreatDoorWS5
set_option linter.unusedVariables false
set_option linter.unusedSimpArgs false
set_option maxHeartbeats 8000000
set_option maxRecDepth 100000
namespace Go.Proofs.aj.W7
open Go.RowKit Go.Proofs.ah.aD Go.Proofs.ah.bG Go.Proofs.ah.bR
attribute [local go_sem] dD dF dV dW bU bV dG dH
mutual
def rows_row.j0:Nat→Bool→Int→Int→Bt→Bt→List (S36)→Option (Bool)
 |0,_,_,_,_,_,_=>none
 |k+1,x14,qh,oQ,nV,oU,lM=>if x14=true then(if nV.toList=([] :List UInt8)then(some ((lM.length:Int)==0))else(some false))else(if oQ=0 then(if nV.toList=([] :List UInt8)then(rows_row.j1 k true qh oQ nV oU lM)else(rows_row.j1 k (oU.toList !=([] :List UInt8)) qh oQ nV oU lM))else(rows_row.j1 k true qh oQ nV oU lM))
def rows_row.j1:Nat→Bool→Int→Int→Bt→Bt→List (S36)→Option (Bool)
 |0,_,_,_,_,_,_=>none
 |k+1,x36,qh,oQ,nV,oU,lM=>if x36=true then(some false)else(rows_row.l0 k lM (lM.length:Int) 0 qh oQ nV oU lM)
def rows_row.l0:Nat→List (S36)→Int→Int→Int→Int→Bt→Bt→List (S36)→Option (Bool)
 |0,_,_,_,_,_,_,_,_=>none
 |k+1,x38,x39,x40,qh,oQ,nV,oU,lM=>if x40<x39 then(if 0≤x40 then(if x40<(x38.length:Int)then(if x40≤(lM.length:Int)then((some (lM.take (x40:Int).toNat:List (S36))).bind fun sW=>(rows_row.l1 k x38 x39 x40 sW (sW.length:Int) 0 qh oQ nV oU lM ((bg x38 x40).f0) ((bg x38 x40).f1)))else(none))else(none))else(none))else(some true)
def rows_row.l1:Nat→List (S36)→Int→Int→List (S36)→Int→Int→Int→Int→Bt→Bt→List (S36)→Bt→Bt→Option (Bool)
 |0,_,_,_,_,_,_,_,_,_,_,_,_,_=>none
 |k+1,x38,x39,x40,x48,x49,x50,qh,oQ,nV,oU,lM,Pv,x575001=>if x50<x49 then(if 0≤x50 then(if x50<(x48.length:Int)then(if Pv.toList=((bg x48 x50).f0).toList then(some false)else(rows_row.l1 k x38 x39 x40 x48 x49 (wrap64 (x50+1)) qh oQ nV oU lM Pv x575001))else(none))else(none))else(rows_row.l0 k x38 x39 (wrap64 (x40+1)) qh oQ nV oU lM)
end
def rows_row.f(k:Nat)(dP dw:Int)(bQ dM:Bt)(bA:List (S36)):Option (Bool):=if dw=1 then(rows_row.j0 k true dP dw bQ dM bA)else(rows_row.j0 k (dw==2) dP dw bQ dM bA)
theorem rows_row.calls(k:Nat)(dP dw:Int)(bQ dM:Bt)(iD:Option Addr)(eX:Nat)(bA:List (S36))(r:Bool)(w:World)(xS:Kd.C k36 w iD bA.length bA)(xU:bA.length≤eX)(h:rows_row.f k dP dw bQ dM bA=some r):
 Calls Tryz.prog 131 #[.agg #[.int .i64 dP,.int .i64 dw,.string bQ,.string dM,.slice iD bA.length eX]] w fun e w'=>e=.returned (.bool r)∧Below w.heap.size w w':=by
 have hu34:=Tryz.underlying34;have hu36:=Tryz.underlying36;have xV:=ak.mk xS;have LG:=ak.mk xU;clear xS xU;have HB:=ak.mk (Below.refl w.heap.size w);have H:(if dw=1 then(rows_row.j0 k true dP dw bQ dM bA)else(rows_row.j0 k (dw==2) dP dw bQ dM bA))=some r:=h;clear h;have HC2:=ak.mk H;clear H;go_enter Tryz.func131,Tryz.ntmps131
 go_upto_region 1 with(first|((with_reducible refine cu (N:=1) rfl ?_);(try(refine pJ (by rfl) ?_;dsimp only));refine eT ?hg (N:=1) ?hd (cs:=#[.int .i64 dP,.int .i64 dw,.string bQ,.string dM,.slice iD bA.length eX]) (t:=34) ?hr ?_;(case hd=>rfl);(case hg=>rfl);(case hr=>first|(go_simp;done)|(go_simp;rfl));intro fq hg w3 fU hb;have cB:=ak.mk (fU);have GW572:=ak.mk ((by rw[hg];exact(aU bz):w.heap.size≤fq));have mE:=ak.mk ((by rw[hg];exact(aU bz):w.heap.size≤fq));replace HB:=ak.mk (aG bz hb);clear hb fU hg))
 (try simp only[Act.put,List.setIfInBounds_toArray,List.set_cons_zero,List.set_cons_succ])
 go_cut [14] (fun v14 wc=>∃(kq:Nat) (x14_1:Bool),v14=.bool x14_1∧ak (rows_row.j0 kq x14_1 dP dw bQ dM bA=some r)∧ak (kq≤k)∧ak (wc.heap[fq]?=some (.cells #[.int .i64 dP,.int .i64 dw,.string bQ,.string dM,(.slice iD bA.length eX)] 34 (0,0)))∧ak (Below w.heap.size w wc))
 case first=>
  have H:=HC2.out;clear HC2
  by_cases c4:dw=1
  ·rw[if_pos c4]at H
   have nN:(dw==1)=true:=beq_iff_eq.mpr c4;have zJ:(dw !=1)=false:=bne_eq_false_iff_eq.mpr c4;clear c4
   (first|rw[nN] |(simp only[oO,oP];rw[nN])|skip)
   have H':=ak.mk H;clear H;have I7:w3.cell? ⟨fq,0,none⟩=some (.int .i64 dP):=(aC cB.out 0).trans rfl;have I8:w3.cell? ⟨fq,1,none⟩=some (.int .i64 dw):=(aC cB.out 1).trans rfl;have I9:w3.cell? ⟨fq,2,none⟩=some (.string bQ):=(aC cB.out 2).trans rfl;have Ja:w3.cell? ⟨fq,3,none⟩=some (.string dM):=(aC cB.out 3).trans rfl;have Jb:w3.cell? ⟨fq,4,none⟩=some (.slice iD bA.length eX):=(aC cB.out 4).trans rfl;have Jc:=ay cB.out 0;have Jd:=ay cB.out 1;have Je:=ay cB.out 2;have Jf:=ay cB.out 3;have Jg:=ay cB.out 4;go_wp2
   go_meet
   case rel=>exact⟨_,(true),q'c,H',⟨by first|omega|exact Nat.le_refl _⟩,⟨by(with_reducible repeat(first|refine aV ?_ _|refine aY ?_ |refine aW ?_ _));exact cB.out⟩,⟨bs mE.out⟩⟩
  ·rw[if_neg c4]at H
   have nN:(dw==1)=false:=beq_eq_false_iff_ne.mpr c4;have zJ:(dw !=1)=true:=bne_iff_ne.mpr c4
   (first|rw[nN] |(simp only[oO,oP];rw[nN])|skip)
   have H':=ak.mk H;clear H;have Jh:w3.cell? ⟨fq,0,none⟩=some (.int .i64 dP):=(aC cB.out 0).trans rfl;have Ji:w3.cell? ⟨fq,1,none⟩=some (.int .i64 dw):=(aC cB.out 1).trans rfl;have Jj:w3.cell? ⟨fq,2,none⟩=some (.string bQ):=(aC cB.out 2).trans rfl;have Jk:w3.cell? ⟨fq,3,none⟩=some (.string dM):=(aC cB.out 3).trans rfl;have Jl:w3.cell? ⟨fq,4,none⟩=some (.slice iD bA.length eX):=(aC cB.out 4).trans rfl;have Jm:=ay cB.out 0;have Jo:=ay cB.out 1;have Jp:=ay cB.out 2;have Jq:=ay cB.out 3;have Jr:=ay cB.out 4;go_wp2
   go_meet
   case rel=>exact⟨_,((dw==2)),q'c,H',⟨by first|omega|exact Nat.le_refl _⟩,⟨by(with_reducible repeat(first|refine aV ?_ _|refine aY ?_ |refine aW ?_ _));exact cB.out⟩,⟨bs mE.out⟩⟩
 case rest=>
  clear HC2
  try clear c1
  try clear p2
  try clear c4
  try clear nN
  try clear zJ
  try clear I7
  try clear I8
  try clear I9
  try clear Ja
  try clear Jb
  try clear Jh
  try clear Ji
  try clear Jj
  try clear Jk
  try clear Jl
  try clear Jc
  try clear Jd
  try clear Je
  try clear Jf
  try clear Jg
  try clear Jm
  try clear Jo
  try clear Jp
  try clear Jq
  try clear Jr
  obtain⟨kq,x14_1,rfl,HA,HJ1,cB,HB⟩:=hcut;cases kq with
  |zero=>exact absurd HA.out (by simp[rows_row.j0])
  |succ kj1=>
   have H:=HA.out;clear HA;simp only[rows_row.j0]at H
   by_cases c7:x14_1=true
   ·subst c7
    have H1:(if bQ.toList=([] :List UInt8)then(some ((bA.length:Int)==0))else(some false))=some r:=by rw[if_pos rfl]at H;exact H
    clear H;have H:=H1;clear H1
    by_cases c8:bQ.toList=([] :List UInt8)
    ·rw[if_pos c8]at H
     have zh:(bQ.toList==([] :List UInt8))=true:=beq_iff_eq.mpr c8;have c8b1:(bQ.toList !=([] :List UInt8))=false:=bne_eq_false_iff_eq.mpr c8;clear c8;obtain rfl:=Option.some.inj H;have vP:wc.cell? ⟨fq,0,none⟩=some (.int .i64 dP):=(aC cB.out 0).trans rfl;have vQ:wc.cell? ⟨fq,1,none⟩=some (.int .i64 dw):=(aC cB.out 1).trans rfl;have vR:wc.cell? ⟨fq,2,none⟩=some (.string bQ):=(aC cB.out 2).trans rfl;have vS:wc.cell? ⟨fq,3,none⟩=some (.string dM):=(aC cB.out 3).trans rfl;have vT:wc.cell? ⟨fq,4,none⟩=some (.slice iD bA.length eX):=(aC cB.out 4).trans rfl;have vU:=ay cB.out 0;have vV:=ay cB.out 1;have vW:=ay cB.out 2;have vX:=ay cB.out 3;have vY:=ay cB.out 4;go_wp2;go_ret;exact⟨by first|rfl|(simp[aJ,aM]<;>rfl)|(simp[*,aJ,aM]<;>rfl),bs mE.out⟩
    ·rw[if_neg c8]at H
     have zh:(bQ.toList==([] :List UInt8))=false:=beq_eq_false_iff_ne.mpr c8;have c8b1:(bQ.toList !=([] :List UInt8))=true:=bne_iff_ne.mpr c8;obtain rfl:=Option.some.inj H;have Js:wc.cell? ⟨fq,0,none⟩=some (.int .i64 dP):=(aC cB.out 0).trans rfl;have Jt:wc.cell? ⟨fq,1,none⟩=some (.int .i64 dw):=(aC cB.out 1).trans rfl;have Ju:wc.cell? ⟨fq,2,none⟩=some (.string bQ):=(aC cB.out 2).trans rfl;have Jv:wc.cell? ⟨fq,3,none⟩=some (.string dM):=(aC cB.out 3).trans rfl;have Jw:wc.cell? ⟨fq,4,none⟩=some (.slice iD bA.length eX):=(aC cB.out 4).trans rfl;have Jy:=ay cB.out 0;have Jz:=ay cB.out 1;have JA:=ay cB.out 2;have JB:=ay cB.out 3;have JC:=ay cB.out 4;go_wp2;go_ret;exact⟨by first|rfl|(simp[aJ,aM]<;>rfl)|(simp[*,aJ,aM]<;>rfl),bs mE.out⟩
   ·replace c7:=Bool.eq_false_iff.mpr c7
    subst c7;have H1:(if dw=0 then(if bQ.toList=([] :List UInt8)then(rows_row.j1 kj1 true dP dw bQ dM bA)else(rows_row.j1 kj1 (dM.toList !=([] :List UInt8)) dP dw bQ dM bA))else(rows_row.j1 kj1 true dP dw bQ dM bA))=some r:=by rw[if_neg (show¬(false=true) by decide)]at H;first|exact H|(simp only[eq_self]at H⊢;exact H)|(simp only[eq_self,if_true]at H⊢;exact H)
    clear H;have H:=H1;clear H1;have HC11:=ak.mk H;clear H
    go_upto_region 3 with(fail)
    go_cut [36] (fun v36 wc=>∃(kq:Nat) (JD:Bool),v36=.bool JD∧ak (rows_row.j1 kq JD dP dw bQ dM bA=some r)∧ak (kq≤kj1)∧ak (wc.heap[fq]?=some (.cells #[.int .i64 dP,.int .i64 dw,.string bQ,.string dM,(.slice iD bA.length eX)] 34 (0,0)))∧ak (Below w.heap.size w wc))
    case first=>
     have H:=HC11.out;clear HC11
     by_cases c12:dw=0
     ·rw[if_pos c12]at H
      have AL:(dw==0)=true:=beq_iff_eq.mpr c12;have LM:(dw !=0)=false:=bne_eq_false_iff_eq.mpr c12;clear c12
      (first|rw[AL] |(simp only[oO,oP];rw[AL])|skip)
      by_cases c13:bQ.toList=([] :List UInt8)
      ·rw[if_pos c13]at H
       have uh:(bQ.toList==([] :List UInt8))=true:=beq_iff_eq.mpr c13;have EL:(bQ.toList !=([] :List UInt8))=false:=bne_eq_false_iff_eq.mpr c13;clear c13;have H':=ak.mk H;clear H;have vZ:wc.cell? ⟨fq,0,none⟩=some (.int .i64 dP):=(aC cB.out 0).trans rfl;have wh:wc.cell? ⟨fq,1,none⟩=some (.int .i64 dw):=(aC cB.out 1).trans rfl;have wm:wc.cell? ⟨fq,2,none⟩=some (.string bQ):=(aC cB.out 2).trans rfl;have wo:wc.cell? ⟨fq,3,none⟩=some (.string dM):=(aC cB.out 3).trans rfl;have wu:wc.cell? ⟨fq,4,none⟩=some (.slice iD bA.length eX):=(aC cB.out 4).trans rfl;have wz:=ay cB.out 0;have wB:=ay cB.out 1;have wC:=ay cB.out 2;have wD:=ay cB.out 3;have wE:=ay cB.out 4;go_wp2
       go_meet
       case rel=>exact⟨_,(true),q'c,H',⟨by have:=HJ1.out;first|omega|exact Nat.le_refl _⟩,⟨by(with_reducible repeat(first|refine aV ?_ _|refine aY ?_ |refine aW ?_ _));exact cB.out⟩,⟨bs mE.out⟩⟩
      ·rw[if_neg c13]at H
       have uh:(bQ.toList==([] :List UInt8))=false:=beq_eq_false_iff_ne.mpr c13;have EL:(bQ.toList !=([] :List UInt8))=true:=bne_iff_ne.mpr c13;have H':=ak.mk H;clear H;have JE:wc.cell? ⟨fq,0,none⟩=some (.int .i64 dP):=(aC cB.out 0).trans rfl;have JF:wc.cell? ⟨fq,1,none⟩=some (.int .i64 dw):=(aC cB.out 1).trans rfl;have JG:wc.cell? ⟨fq,2,none⟩=some (.string bQ):=(aC cB.out 2).trans rfl;have JH:wc.cell? ⟨fq,3,none⟩=some (.string dM):=(aC cB.out 3).trans rfl;have JI:wc.cell? ⟨fq,4,none⟩=some (.slice iD bA.length eX):=(aC cB.out 4).trans rfl;have JJ:=ay cB.out 0;have JK:=ay cB.out 1;have JL:=ay cB.out 2;have JM:=ay cB.out 3;have JN:=ay cB.out 4;go_wp2
       go_meet
       case rel=>exact⟨_,((dM.toList !=([] :List UInt8))),q'c,H',⟨by have:=HJ1.out;first|omega|exact Nat.le_refl _⟩,⟨by(with_reducible repeat(first|refine aV ?_ _|refine aY ?_ |refine aW ?_ _));exact cB.out⟩,⟨bs mE.out⟩⟩
     ·rw[if_neg c12]at H
      have AL:(dw==0)=false:=beq_eq_false_iff_ne.mpr c12;have LM:(dw !=0)=true:=bne_iff_ne.mpr c12
      (first|rw[AL] |(simp only[oO,oP];rw[AL])|skip)
      have H':=ak.mk H;clear H;have wF:wc.cell? ⟨fq,0,none⟩=some (.int .i64 dP):=(aC cB.out 0).trans rfl;have wG:wc.cell? ⟨fq,1,none⟩=some (.int .i64 dw):=(aC cB.out 1).trans rfl;have yI:wc.cell? ⟨fq,2,none⟩=some (.string bQ):=(aC cB.out 2).trans rfl;have yJ:wc.cell? ⟨fq,3,none⟩=some (.string dM):=(aC cB.out 3).trans rfl;have yK:wc.cell? ⟨fq,4,none⟩=some (.slice iD bA.length eX):=(aC cB.out 4).trans rfl;have wH:=ay cB.out 0;have wI:=ay cB.out 1;have yL:=ay cB.out 2;have yM:=ay cB.out 3;have yN:=ay cB.out 4;go_wp2
      go_meet
      case rel=>exact⟨_,(true),q'c,H',⟨by have:=HJ1.out;first|omega|exact Nat.le_refl _⟩,⟨by(with_reducible repeat(first|refine aV ?_ _|refine aY ?_ |refine aW ?_ _));exact cB.out⟩,⟨bs mE.out⟩⟩
    case rest=>
     clear HC11
     try clear c1
     try clear p2
     try clear c4
     try clear nN
     try clear zJ
     try clear c7
     try clear c8
     try clear zh
     try clear c8b1
     try clear c12
     try clear AL
     try clear LM
     try clear c13
     try clear uh
     try clear EL
     try clear Js
     try clear Jt
     try clear Ju
     try clear Jv
     try clear Jw
     try clear vZ
     try clear wh
     try clear wm
     try clear wo
     try clear wu
     try clear JE
     try clear JF
     try clear JG
     try clear JH
     try clear JI
     try clear wF
     try clear wG
     try clear yI
     try clear yJ
     try clear yK
     try clear I7
     try clear I8
     try clear I9
     try clear Ja
     try clear Jb
     try clear Jh
     try clear Ji
     try clear Jj
     try clear Jk
     try clear Jl
     try clear vP
     try clear vQ
     try clear vR
     try clear vS
     try clear vT
     try clear Jy
     try clear Jz
     try clear JA
     try clear JB
     try clear JC
     try clear wz
     try clear wB
     try clear wC
     try clear wD
     try clear wE
     try clear JJ
     try clear JK
     try clear JL
     try clear JM
     try clear JN
     try clear wH
     try clear wI
     try clear yL
     try clear yM
     try clear yN
     try clear Jc
     try clear Jd
     try clear Je
     try clear Jf
     try clear Jg
     try clear Jm
     try clear Jo
     try clear Jp
     try clear Jq
     try clear Jr
     try clear vU
     try clear vV
     try clear vW
     try clear vX
     try clear vY
     try clear p2
     obtain⟨kq,JD,rfl,HA,HJ10,cB,HB⟩:=hcut;cases kq with
     |zero=>exact absurd HA.out (by simp[rows_row.j1])
     |succ kj10=>
      have H:=HA.out;clear HA;simp only[rows_row.j1]at H
      by_cases c17:JD=true
      ·subst c17
       have H1:(some false)=some r:=by rw[if_pos rfl]at H;exact H
       clear H;have H:=H1;clear H1;obtain rfl:=Option.some.inj H;go_wp2;go_ret;exact⟨by first|rfl|(simp[aJ,aM]<;>rfl)|(simp[*,aJ,aM]<;>rfl),bs mE.out⟩
      ·replace c17:=Bool.eq_false_iff.mpr c17
       subst c17;have H1:(rows_row.l0 kj10 bA (bA.length:Int) 0 dP dw bQ dM bA)=some r:=by rw[if_neg (show¬(false=true) by decide)]at H;first|exact H|(simp only[eq_self]at H⊢;exact H)|(simp only[eq_self,if_true]at H⊢;exact H)
       clear H;have H:=H1;clear H1;have H':=ak.mk H;clear H;have vF:wc.cell? ⟨fq,0,none⟩=some (.int .i64 dP):=(aC cB.out 0).trans rfl;have vG:wc.cell? ⟨fq,1,none⟩=some (.int .i64 dw):=(aC cB.out 1).trans rfl;have vH:wc.cell? ⟨fq,2,none⟩=some (.string bQ):=(aC cB.out 2).trans rfl;have vI:wc.cell? ⟨fq,3,none⟩=some (.string dM):=(aC cB.out 3).trans rfl;have vJ:wc.cell? ⟨fq,4,none⟩=some (.slice iD bA.length eX):=(aC cB.out 4).trans rfl;have vK:=ay cB.out 0;have vL:=ay cB.out 1;have vM:=ay cB.out 2;have vN:=ay cB.out 3;have vO:=ay cB.out 4;go_wp2
       go_loopg [40] kj10 (fun kq v40 w'=>∃(gB:Int),v40=.int .i64 gB∧ak (rows_row.l0 kq bA (bA.length:Int) gB dP dw bQ dM bA=some r)∧ak (kq≤kj10)∧ak (w'.heap[fq]?=some (.cells #[.int .i64 dP,.int .i64 dw,.string bQ,.string dM,(.slice iD bA.length eX)] 34 (0,0)))∧ak (Below w.heap.size w w'))
       case atStart=>exact⟨(0),q'c,H',⟨Nat.le_refl _⟩,⟨by(with_reducible repeat(first|refine aV ?_ _|refine aY ?_ |refine aW ?_ _));exact cB.out⟩,⟨bs mE.out⟩⟩
       case round=>
        clear H'
        try clear c1
        try clear p2
        try clear c4
        try clear nN
        try clear zJ
        try clear c7
        try clear c8
        try clear zh
        try clear c8b1
        try clear c12
        try clear AL
        try clear LM
        try clear c13
        try clear uh
        try clear EL
        try clear c17
        try clear Js
        try clear Jt
        try clear Ju
        try clear Jv
        try clear Jw
        try clear vZ
        try clear wh
        try clear wm
        try clear wo
        try clear wu
        try clear JE
        try clear JF
        try clear JG
        try clear JH
        try clear JI
        try clear wF
        try clear wG
        try clear yI
        try clear yJ
        try clear yK
        try clear vF
        try clear vG
        try clear vH
        try clear vI
        try clear vJ
        try clear I7
        try clear I8
        try clear I9
        try clear Ja
        try clear Jb
        try clear Jh
        try clear Ji
        try clear Jj
        try clear Jk
        try clear Jl
        try clear vP
        try clear vQ
        try clear vR
        try clear vS
        try clear vT
        try clear Jy
        try clear Jz
        try clear JA
        try clear JB
        try clear JC
        try clear wz
        try clear wB
        try clear wC
        try clear wD
        try clear wE
        try clear JJ
        try clear JK
        try clear JL
        try clear JM
        try clear JN
        try clear wH
        try clear wI
        try clear yL
        try clear yM
        try clear yN
        try clear vK
        try clear vL
        try clear vM
        try clear vN
        try clear vO
        try clear Jc
        try clear Jd
        try clear Je
        try clear Jf
        try clear Jg
        try clear Jm
        try clear Jo
        try clear Jp
        try clear Jq
        try clear Jr
        try clear vU
        try clear vV
        try clear vW
        try clear vX
        try clear vY
        try clear p2
        obtain⟨gB,rfl,HA,HK3,cB,HB⟩:=hrel;cases gk with
        |zero=>exact absurd HA.out (by simp[rows_row.l0])
        |succ k3=>
         have H:=HA.out;clear HA;simp only[rows_row.l0]at H
         by_cases c19:gB<(bA.length:Int)
         ·rw[if_pos c19]at H
          have EN:decide (gB<(bA.length:Int))=true:=decide_eq_true c19;clear c19
          by_cases c20:0≤gB
          ·rw[if_pos c20]at H
           have c20b0:decide (0≤gB)=true:=decide_eq_true c20;clear c20
           by_cases c21:gB<(bA.length:Int)
           ·rw[if_pos c21]at H
            have c21b0:decide (gB<(bA.length:Int))=true:=decide_eq_true c21;clear c21;have c22b0:=eq_true (q'b:0≤gB)
            by_cases c23:gB≤(bA.length:Int)
            ·rw[if_pos c23]at H
             have c23b0:=eq_true c23;have c23b1:decide (gB≤(bA.length:Int))=true:=decide_eq_true c23;clear c23;obtain⟨sW,LP⟩:∃y_:List (S36),y_=(bA.take (gB:Int).toNat):=⟨_,rfl⟩
             replace H:(rows_row.l1 k3 bA (bA.length:Int) gB sW (sW.length:Int) 0 dP dw bQ dM bA ((bg bA gB).f0) ((bg bA gB).f1))=some r:=by first|(rw[LP];with_reducible exact H)|(have H2_:=(Option.bind_some _ _).symm.trans H;rw[LP];with_reducible exact H2_)|(have H2_:=(Option.bind_some _ _).symm.trans H;with_reducible exact H2_)|with_reducible exact H|(rw[LP];exact H)|exact H
             have Ny575:=ak.mk LP;clear LP;have H':=ak.mk H;clear H;have p573:0≤(gB:Int):=q'b;have q573:gB<(bA.length:Int):=q'b;obtain⟨qF,e573,DT,DU⟩:=l7 xV.out gB p573 q573;cases e573;replace DT:=(HB.out.cell (World.block_lt_of_cell? w _ DT)).trans DT;replace DU:=(HB.out.cell (World.block_lt_of_cell? w _ DU)).trans DU;replace p573:=eq_true p573;replace q573:=eq_true q573
             go_wp2_with(first|((with_reducible refine cu (N:=4) rfl ?_);(try(refine pJ (by rfl) ?_;dsimp only));refine eT ?hg (N:=4) ?hd (cs:=#[.string (⟨#[]⟩:Bt),.string (⟨#[]⟩:Bt)]) (t:=36) ?hr ?_;(case hd=>rfl);(case hg=>rfl);(case hr=>first|(go_simp;done)|(go_simp;rfl));intro mF hg w24 fU hb;have kW:=ak.mk (fU);have GW574:=ak.mk ((by rw[hg];exact(aU (bs mE.out)):w.heap.size≤mF));have xW:=ak.mk ((by rw[hg];exact(aU (bs mE.out)):w.heap.size≤mF));have uo:=ak.mk ((by rw[hg];exact Nat.ne_of_lt (gW (g:=fq) (o:=.cells #[.int .i64 dP,.int .i64 dw,.string bQ,.string dM,.slice (some qF) bA.length eX] 34 (0,0)) (kz cB.out)):fq≠mF));have Co:=ak.mk ((by rw[hg];exact Nat.ne_of_gt (gW (g:=fq) (o:=.cells #[.int .i64 dP,.int .i64 dw,.string bQ,.string dM,.slice (some qF) bA.length eX] 34 (0,0)) (kz cB.out)):mF≠fq));replace cB:=ak.mk (dI (g:=fq) (o:=.cells #[.int .i64 dP,.int .i64 dw,.string bQ,.string dM,.slice (some qF) bA.length eX] 34 (0,0)) (kz cB.out) hb);replace HB:=ak.mk (aG (bs mE.out) hb);clear hb fU hg;have hnb25:=Co.out;have hnc25:=uo.out;have DV:w24.cell? ⟨mF,0,none⟩=some (.string (⟨#[]⟩:Bt)):=(aC kW.out 0).trans rfl;have DW:w24.cell? ⟨mF,1,none⟩=some (.string (⟨#[]⟩:Bt)):=(aC kW.out 1).trans rfl;have DX:=ay kW.out 0;have DY:=ay kW.out 1)|((with_reducible refine lN (t:=36) (p:=4) rfl ?_);refine kN (t:=36) (p:=4) (v:=?vo_w27) (w1:=((w24.setCell ⟨mF,0,none⟩ (.string ((bg bA gB).f0))).setCell ⟨mF,1,none⟩ (.string ((bg bA gB).f1)))) ?hg ?ho ?hn ?hr ?_;(case ho=>rfl);(case hg=>rfl);(case hn=>rfl);(case hr=>first|(go_simp;done)|(go_simp;rfl));intro w27 hw;have n0_:ak (w27.heap[fq]?=some (.cells #[.int .i64 dP,.int .i64 dw,.string bQ,.string dM,.slice (some qF) bA.length eX] 34 (0,0))):=⟨(by rw[hw];exact(by(with_reducible repeat(first|refine aV ?_ _|refine aY ?_ |refine aW ?_ _));refine mG ?_ uo.out _;(with_reducible repeat(first|refine aV ?_ _|refine aY ?_ |refine aW ?_ _));refine mG ?_ uo.out _;(with_reducible repeat(first|refine aV ?_ _|refine aY ?_ |refine aW ?_ _));exact cB.out))⟩;have n1_:ak (w27.heap[mF]?=some (.cells #[.string ((bg bA gB).f0),.string ((bg bA gB).f1)] 36 (0,0))):=⟨(by rw[hw];exact(by(with_reducible repeat(first|refine aV ?_ _|refine aY ?_ |refine aW ?_ _));refine bT (cs:=#[.string ((bg bA gB).f0),.string (⟨#[]⟩:Bt)]) ?_ 1 _ rfl;(with_reducible repeat(first|refine aV ?_ _|refine aY ?_ |refine aW ?_ _));refine bT (cs:=#[.string (⟨#[]⟩:Bt),.string (⟨#[]⟩:Bt)]) ?_ 0 _ rfl;(with_reducible repeat(first|refine aV ?_ _|refine aY ?_ |refine aW ?_ _));exact kW.out))⟩;have n2_:ak (Below w.heap.size w w27):=⟨(by rw[hw];exact(by repeat(first|(with_reducible first|exact HB.out|apply bY|apply bE|apply dh|refine aH ?_ mE.out|refine aH ?_ xW.out)|exact HB.out)))⟩;clear hw;clear cB;clear kW;clear HB;have cB:=n0_;have kW:=n1_;have HB:=n2_;clear n0_ n1_ n2_;have Pf:w27.cell? ⟨fq,0,none⟩=some (.int .i64 dP):=(aC cB.out 0).trans rfl;have Pg:w27.cell? ⟨fq,1,none⟩=some (.int .i64 dw):=(aC cB.out 1).trans rfl;have Ph:w27.cell? ⟨fq,2,none⟩=some (.string bQ):=(aC cB.out 2).trans rfl;have Pj:w27.cell? ⟨fq,3,none⟩=some (.string dM):=(aC cB.out 3).trans rfl;have Pk:w27.cell? ⟨fq,4,none⟩=some (.slice (some qF) bA.length eX):=(aC cB.out 4).trans rfl;have Pm:=ay cB.out 0;have Pn:=ay cB.out 1;have Po:=ay cB.out 2;have Pp:=ay cB.out 3;have Pq:=ay cB.out 4;have q29:(gB:Int)≤((bA.length:Int):Int):=q'b;obtain⟨i029,hi029,_,hsz29,_⟩:=info_parts Nu;have Pw:bA.length≤eX:=LG.out;have hC29:Kd.C k36 _ (some qF) bA.length bA:=xV.out;have hcut29:=xX (P:=Tryz.prog) 32 36 .i64 Tryz.underlying32 hi029 (some qF) bA.length eX gB (q'b) q29 Pw;have hr29:=Kd.C_take (m:=(gB:Int).toNat) hC29 (by omega);have hy29:sW.length=(gB:Int).toNat:=(by rw[Ny575.out,List.length_take];omega);rw[←Ny575.out]at hr29;rw[←hy29]at hcut29;have HR578:=ak.mk hr29;have HC578:=ak.mk (show sW.length≤eX from by omega);clear hr29 hC29 Pw hi029 hsz29;have KY29:=ak.mk hy29;clear hy29;replace q29:=eq_true q29))
             go_loopg [50] k3 (fun kq v50 w'=>∃(nK:Int),v50=.int .i64 nK∧ak (rows_row.l1 kq bA (bA.length:Int) gB sW (sW.length:Int) nK dP dw bQ dM bA ((bg bA gB).f0) ((bg bA gB).f1)=some r)∧ak (kq≤k3)∧ak (w'.heap[fq]?=some (.cells #[.int .i64 dP,.int .i64 dw,.string bQ,.string dM,(.slice (some qF) bA.length eX)] 34 (0,0)))∧ak (w'.heap[mF]?=some (.cells #[.string ((bg bA gB).f0),.string ((bg bA gB).f1)] 36 (0,0)))∧ak (Below w.heap.size w w'))
             case atStart=>exact⟨(0),q'c,H',⟨Nat.le_refl _⟩,⟨by(with_reducible repeat(first|refine aV ?_ _|refine aY ?_ |refine aW ?_ _));exact cB.out⟩,⟨by(with_reducible repeat(first|refine aV ?_ _|refine aY ?_ |refine aW ?_ _));exact kW.out⟩,⟨by repeat(first|(with_reducible first|exact HB.out|apply bY|apply bE|apply dh|refine aH ?_ mE.out|refine aH ?_ xW.out)|exact HB.out)⟩⟩
             case round=>
              clear H'
              try clear c1
              try clear c2
              try clear p2
              try clear q2
              try clear c4
              try clear nN
              try clear zJ
              try clear p5
              try clear q5
              try clear hx5
              try clear c7
              try clear c8
              try clear zh
              try clear c8b1
              try clear c12
              try clear AL
              try clear LM
              try clear c13
              try clear uh
              try clear EL
              try clear c17
              try clear c19
              try clear EN
              try clear c20
              try clear c20b0
              try clear c21
              try clear c21b0
              try clear c22
              try clear c22b0
              try clear c23
              try clear c23b0
              try clear c23b1
              try clear c25
              try clear q29
              try clear Js
              try clear Jt
              try clear Ju
              try clear Jv
              try clear Jw
              try clear vZ
              try clear wh
              try clear wm
              try clear wo
              try clear wu
              try clear JE
              try clear JF
              try clear JG
              try clear JH
              try clear JI
              try clear wF
              try clear wG
              try clear yI
              try clear yJ
              try clear yK
              try clear vF
              try clear vG
              try clear vH
              try clear vI
              try clear vJ
              try clear DV
              try clear DW
              try clear Pf
              try clear Pg
              try clear Ph
              try clear Pj
              try clear Pk
              try clear I7
              try clear I8
              try clear I9
              try clear Ja
              try clear Jb
              try clear Jh
              try clear Ji
              try clear Jj
              try clear Jk
              try clear Jl
              try clear vP
              try clear vQ
              try clear vR
              try clear vS
              try clear vT
              try clear Jy
              try clear Jz
              try clear JA
              try clear JB
              try clear JC
              try clear wz
              try clear wB
              try clear wC
              try clear wD
              try clear wE
              try clear JJ
              try clear JK
              try clear JL
              try clear JM
              try clear JN
              try clear wH
              try clear wI
              try clear yL
              try clear yM
              try clear yN
              try clear vK
              try clear vL
              try clear vM
              try clear vN
              try clear vO
              try clear DX
              try clear DY
              try clear Pm
              try clear Pn
              try clear Po
              try clear Pp
              try clear Pq
              try clear Jc
              try clear Jd
              try clear Je
              try clear Jf
              try clear Jg
              try clear Jm
              try clear Jo
              try clear Jp
              try clear Jq
              try clear Jr
              try clear vU
              try clear vV
              try clear vW
              try clear vX
              try clear vY
              try clear DT
              try clear DU
              try clear p2
              try clear p573
              try clear q29
              try clear q573
              obtain⟨nK,rfl,HA,HK4,cB,kW,HB⟩:=hrel;cases gk with
              |zero=>exact absurd HA.out (by simp[rows_row.l1])
              |succ k4=>
               have H:=HA.out;clear HA;simp only[rows_row.l1]at H
               by_cases c30:nK<(sW.length:Int)
               ·rw[if_pos c30]at H
                have c30b0:decide (nK<(sW.length:Int))=true:=decide_eq_true c30;clear c30
                by_cases c31:0≤nK
                ·rw[if_pos c31]at H
                 have c31b0:decide (0≤nK)=true:=decide_eq_true c31;clear c31
                 by_cases c32:nK<(sW.length:Int)
                 ·rw[if_pos c32]at H
                  have c32b0:decide (nK<(sW.length:Int))=true:=decide_eq_true c32;clear c32
                  by_cases c33:((bg bA gB).f0).toList=((bg sW nK).f0).toList
                  ·rw[if_pos c33]at H
                   have c33b0:(((bg bA gB).f0).toList==((bg sW nK).f0).toList)=true:=beq_iff_eq.mpr c33;have c33b1:(((bg bA gB).f0).toList !=((bg sW nK).f0).toList)=false:=bne_eq_false_iff_eq.mpr c33;clear c33;obtain rfl:=Option.some.inj H;have p579:0≤(nK:Int):=q'b;have q579:nK<(sW.length:Int):=q'b;obtain⟨ad579,e579,wJ,wK⟩:=l7 HR578.out nK p579 q579;obtain rfl:qF=ad579:=(by injection e579);replace wJ:=(HB.out.cell (World.block_lt_of_cell? w _ wJ)).trans wJ;replace wK:=(HB.out.cell (World.block_lt_of_cell? w _ wK)).trans wK;replace p579:=eq_true p579;replace q579:=eq_true q579
                   go_wp2_with(first|((with_reducible refine cu (N:=6) rfl ?_);(try(refine pJ (by rfl) ?_;dsimp only));refine eT ?hg (N:=6) ?hd (cs:=#[.string (⟨#[]⟩:Bt),.string (⟨#[]⟩:Bt)]) (t:=36) ?hr ?_;(case hd=>rfl);(case hg=>rfl);(case hr=>first|(go_simp;done)|(go_simp;rfl));intro qp hg w34 fU hb;have AO:=ak.mk (fU);have GW580:=ak.mk ((by rw[hg];exact(aU (by repeat(first|(with_reducible first|exact HB.out|apply bY|apply bE|apply dh|refine aH ?_ mE.out|refine aH ?_ xW.out)|exact HB.out))):w.heap.size≤qp));have GE580:=ak.mk ((by rw[hg];exact(aU (by repeat(first|(with_reducible first|exact HB.out|apply bY|apply bE|apply dh|refine aH ?_ mE.out|refine aH ?_ xW.out)|exact HB.out))):w.heap.size≤qp));have uq:=ak.mk ((by rw[hg];exact Nat.ne_of_lt (gW (g:=fq) (o:=.cells #[.int .i64 dP,.int .i64 dw,.string bQ,.string dM,.slice (some qF) bA.length eX] 34 (0,0)) (kz cB.out)):fq≠qp));have Cq:=ak.mk ((by rw[hg];exact Nat.ne_of_gt (gW (g:=fq) (o:=.cells #[.int .i64 dP,.int .i64 dw,.string bQ,.string dM,.slice (some qF) bA.length eX] 34 (0,0)) (kz cB.out)):qp≠fq));have uw:=ak.mk ((by rw[hg];exact Nat.ne_of_lt (gW (g:=mF) (o:=.cells #[.string ((bg bA gB).f0),.string ((bg bA gB).f1)] 36 (0,0)) (kz kW.out)):mF≠qp));have Cr:=ak.mk ((by rw[hg];exact Nat.ne_of_gt (gW (g:=mF) (o:=.cells #[.string ((bg bA gB).f0),.string ((bg bA gB).f1)] 36 (0,0)) (kz kW.out)):qp≠mF));replace cB:=ak.mk (dI (g:=fq) (o:=.cells #[.int .i64 dP,.int .i64 dw,.string bQ,.string dM,.slice (some qF) bA.length eX] 34 (0,0)) (kz cB.out) hb);replace kW:=ak.mk (dI (g:=mF) (o:=.cells #[.string ((bg bA gB).f0),.string ((bg bA gB).f1)] 36 (0,0)) (kz kW.out) hb);replace HB:=ak.mk (aG (by repeat(first|(with_reducible first|exact HB.out|apply bY|apply bE|apply dh|refine aH ?_ mE.out|refine aH ?_ xW.out)|exact HB.out)) hb);clear hb fU hg;have hnb35:=Cq.out;have hnc35:=uq.out;have hnb36:=Cr.out;have hnc36:=uw.out;have hcz37_0:w34.cell? ⟨qp,0,none⟩=some (.string (⟨#[]⟩:Bt)):=(aC AO.out 0).trans rfl;have hcz37_1:w34.cell? ⟨qp,1,none⟩=some (.string (⟨#[]⟩:Bt)):=(aC AO.out 1).trans rfl;have hfz37_0:=ay AO.out 0;have hfz37_1:=ay AO.out 1;have hnb38:=Co.out;have hnc38:=uo.out;have hcz39_0:w34.cell? ⟨mF,0,none⟩=some (.string ((bg bA gB).f0)):=(aC kW.out 0).trans rfl;have hcz39_1:w34.cell? ⟨mF,1,none⟩=some (.string ((bg bA gB).f1)):=(aC kW.out 1).trans rfl;have hfz39_0:=ay kW.out 0;have hfz39_1:=ay kW.out 1))
                   go_ret;exact⟨by first|rfl|(simp[aJ,aM]<;>rfl)|(simp[*,aJ,aM]<;>rfl),by repeat(first|(with_reducible first|exact HB.out|apply bY|apply bE|apply dh|refine aH ?_ mE.out|refine aH ?_ xW.out|refine aH ?_ GE580.out)|exact HB.out)⟩
                  ·rw[if_neg c33]at H
                   have c33b0:(((bg bA gB).f0).toList==((bg sW nK).f0).toList)=false:=beq_eq_false_iff_ne.mpr c33;have c33b1:(((bg bA gB).f0).toList !=((bg sW nK).f0).toList)=true:=bne_iff_ne.mpr c33;have H':=ak.mk H;clear H;have p579:0≤(nK:Int):=q'b;have q579:nK<(sW.length:Int):=q'b;obtain⟨ad579,e579,wJ,wK⟩:=l7 HR578.out nK p579 q579;obtain rfl:qF=ad579:=(by injection e579);replace wJ:=(HB.out.cell (World.block_lt_of_cell? w _ wJ)).trans wJ;replace wK:=(HB.out.cell (World.block_lt_of_cell? w _ wK)).trans wK;replace p579:=eq_true p579;replace q579:=eq_true q579
                   go_wp2_with(first|((with_reducible refine cu (N:=6) rfl ?_);(try(refine pJ (by rfl) ?_;dsimp only));refine eT ?hg (N:=6) ?hd (cs:=#[.string (⟨#[]⟩:Bt),.string (⟨#[]⟩:Bt)]) (t:=36) ?hr ?_;(case hd=>rfl);(case hg=>rfl);(case hr=>first|(go_simp;done)|(go_simp;rfl));intro qp hg w40 fU hb;have AO:=ak.mk (fU);have GW580:=ak.mk ((by rw[hg];exact(aU (by repeat(first|(with_reducible first|exact HB.out|apply bY|apply bE|apply dh|refine aH ?_ mE.out|refine aH ?_ xW.out)|exact HB.out))):w.heap.size≤qp));have GE580:=ak.mk ((by rw[hg];exact(aU (by repeat(first|(with_reducible first|exact HB.out|apply bY|apply bE|apply dh|refine aH ?_ mE.out|refine aH ?_ xW.out)|exact HB.out))):w.heap.size≤qp));have uq:=ak.mk ((by rw[hg];exact Nat.ne_of_lt (gW (g:=fq) (o:=.cells #[.int .i64 dP,.int .i64 dw,.string bQ,.string dM,.slice (some qF) bA.length eX] 34 (0,0)) (kz cB.out)):fq≠qp));have Cq:=ak.mk ((by rw[hg];exact Nat.ne_of_gt (gW (g:=fq) (o:=.cells #[.int .i64 dP,.int .i64 dw,.string bQ,.string dM,.slice (some qF) bA.length eX] 34 (0,0)) (kz cB.out)):qp≠fq));have uw:=ak.mk ((by rw[hg];exact Nat.ne_of_lt (gW (g:=mF) (o:=.cells #[.string ((bg bA gB).f0),.string ((bg bA gB).f1)] 36 (0,0)) (kz kW.out)):mF≠qp));have Cr:=ak.mk ((by rw[hg];exact Nat.ne_of_gt (gW (g:=mF) (o:=.cells #[.string ((bg bA gB).f0),.string ((bg bA gB).f1)] 36 (0,0)) (kz kW.out)):qp≠mF));replace cB:=ak.mk (dI (g:=fq) (o:=.cells #[.int .i64 dP,.int .i64 dw,.string bQ,.string dM,.slice (some qF) bA.length eX] 34 (0,0)) (kz cB.out) hb);replace kW:=ak.mk (dI (g:=mF) (o:=.cells #[.string ((bg bA gB).f0),.string ((bg bA gB).f1)] 36 (0,0)) (kz kW.out) hb);replace HB:=ak.mk (aG (by repeat(first|(with_reducible first|exact HB.out|apply bY|apply bE|apply dh|refine aH ?_ mE.out|refine aH ?_ xW.out)|exact HB.out)) hb);clear hb fU hg;have hnb41:=Cq.out;have hnc41:=uq.out;have hnb42:=Cr.out;have hnc42:=uw.out;have hcz43_0:w40.cell? ⟨qp,0,none⟩=some (.string (⟨#[]⟩:Bt)):=(aC AO.out 0).trans rfl;have hcz43_1:w40.cell? ⟨qp,1,none⟩=some (.string (⟨#[]⟩:Bt)):=(aC AO.out 1).trans rfl;have hfz43_0:=ay AO.out 0;have hfz43_1:=ay AO.out 1;have hnb44:=Co.out;have hnc44:=uo.out;have hcz45_0:w40.cell? ⟨mF,0,none⟩=some (.string ((bg bA gB).f0)):=(aC kW.out 0).trans rfl;have hcz45_1:w40.cell? ⟨mF,1,none⟩=some (.string ((bg bA gB).f1)):=(aC kW.out 1).trans rfl;have hfz45_0:=ay kW.out 0;have hfz45_1:=ay kW.out 1))
                   go_roundg k4
                   case measure=>have:=HJ1.out;have:=HJ10.out;have:=HK3.out;have:=HK4.out;omega
                   case rel=>exact⟨(wrap64 (nK+1)),q'c,H',⟨by have:=HJ1.out;have:=HJ10.out;have:=HK3.out;have:=HK4.out;omega⟩,⟨by(with_reducible repeat(first|refine aV ?_ _|refine aY ?_ |refine aW ?_ _));refine mG ?_ uq.out _;(with_reducible repeat(first|refine aV ?_ _|refine aY ?_ |refine aW ?_ _));refine mG ?_ uq.out _;(with_reducible repeat(first|refine aV ?_ _|refine aY ?_ |refine aW ?_ _));exact cB.out⟩,⟨by(with_reducible repeat(first|refine aV ?_ _|refine aY ?_ |refine aW ?_ _));refine mG ?_ uw.out _;(with_reducible repeat(first|refine aV ?_ _|refine aY ?_ |refine aW ?_ _));refine mG ?_ uw.out _;(with_reducible repeat(first|refine aV ?_ _|refine aY ?_ |refine aW ?_ _));exact kW.out⟩,⟨by repeat(first|(with_reducible first|exact HB.out|apply bY|apply bE|apply dh|refine aH ?_ mE.out|refine aH ?_ xW.out|refine aH ?_ GE580.out)|exact HB.out)⟩⟩
                 ·rw[if_neg c32]at H
                  exact absurd H (by simp)
                ·rw[if_neg c31]at H
                 exact absurd H (by simp)
               ·rw[if_neg c30]at H
                have c30b0:decide (nK<(sW.length:Int))=false:=decide_eq_false c30;clear c30;have H':=ak.mk H;clear H;go_wp2
                go_roundg k4
                case measure=>have:=HJ1.out;have:=HJ10.out;have:=HK3.out;have:=HK4.out;omega
                case rel=>exact⟨(wrap64 (gB+1)),q'c,H',⟨by have:=HJ1.out;have:=HJ10.out;have:=HK3.out;have:=HK4.out;omega⟩,⟨by(with_reducible repeat(first|refine aV ?_ _|refine aY ?_ |refine aW ?_ _));exact cB.out⟩,⟨by repeat(first|(with_reducible first|exact HB.out|apply bY|apply bE|apply dh|refine aH ?_ mE.out|refine aH ?_ xW.out)|exact HB.out)⟩⟩
            ·rw[if_neg c23]at H
             exact absurd H (by simp)
           ·rw[if_neg c21]at H
            exact absurd H (by simp)
          ·rw[if_neg c20]at H
           exact absurd H (by simp)
         ·rw[if_neg c19]at H
          have EN:decide (gB<(bA.length:Int))=false:=decide_eq_false c19;clear c19;obtain rfl:=Option.some.inj H;go_wp2;go_ret;exact⟨by first|rfl|(simp[aJ,aM]<;>rfl)|(simp[*,aJ,aM]<;>rfl),bs mE.out⟩
end Go.Proofs.aj.W7
