/- Lemmas and walks, part 18. -/
import Derived.Test.YtkcmghlhpbepcaaGreatDoorT712
import Derived.Test.YtkcmghlhpbepcaaGreatDoorT717
set_option linter.unusedVariables false
set_option linter.unusedSimpArgs false
set_option maxHeartbeats 8000000
set_option maxRecDepth 100000
namespace Go.Proofs.aj.W7
open Go.RowKit Go.Proofs.ah.aG Go.Proofs.ah.bX Go.Proofs.ah.dN
attribute [local go_sem] dZ d9 eU eX dS dU eu eB
mutual
def bA.j0:Nat→Bt→Bool→Option (List Bt)
 |0,_,_=>none
 |k+1,x0,x8=>if x8=true then(some (([x0] :List Bt)))else(if x0.toList=([100,100] :List UInt8)then(bA.j1 k x0 true)else(bA.j1 k x0 (x0.toList==([100,116] :List UInt8))))
def bA.j1:Nat→Bt→Bool→Option (List Bt)
 |0,_,_=>none
 |k+1,x0,x16=>if x16=true then(some (([(⟨#[100,100]⟩:Bt),(⟨#[100,116]⟩:Bt)] :List Bt)))else(if x0.toList=([111,112,116,103,114,111,117,112] :List UInt8)then(some (([(⟨#[111,112,116,103,114,111,117,112]⟩:Bt),(⟨#[111,112,116,105,111,110]⟩:Bt)] :List Bt)))else(if x0.toList=([116,114] :List UInt8)then(some (([(⟨#[116,100]⟩:Bt),(⟨#[116,104]⟩:Bt),(⟨#[116,114]⟩:Bt)] :List Bt)))else(if x0.toList=([116,100] :List UInt8)then(bA.j2 k x0 true)else(bA.j2 k x0 (x0.toList==([116,104] :List UInt8))))))
def bA.j2:Nat→Bt→Bool→Option (List Bt)
 |0,_,_=>none
 |k+1,x0,x29=>if x29=true then(some (([(⟨#[116,100]⟩:Bt),(⟨#[116,104]⟩:Bt)] :List Bt)))else((bN.f).bind fun vw=>((aM.f k vw x0).bind fun t255=>(if t255=true then((bN.f).bind fun yg=>(some yg))else((dX.f).bind fun rV=>((aM.f k rV x0).bind fun vB=>(if vB=true then(some (([(⟨#[112]⟩:Bt)] :List Bt)))else(some (([] :List Bt)))))))))
end
def bA.f(k:Nat)(a0:Bt):Option (List Bt):=if a0.toList=([108,105] :List UInt8)then(bA.j0 k a0 true)else(bA.j0 k a0 (a0.toList==([111,112,116,105,111,110] :List UInt8)))
theorem bA.calls(k:Nat)(a0:Bt)(r:List Bt)(w:World)(h:bA.f k a0=some r):
 Calls Tryz.prog 107 #[.string a0] w fun e w'=>∃v0_:Value,e=.returned (v0_)∧Kd.R Kd.string 9 w' w.heap.size (fun _=>True) v0_ r∧Below w.heap.size w w':=by
 have HB:=ak.mk (Below.refl w.heap.size w);have H:(if a0.toList=([108,105] :List UInt8)then(bA.j0 k a0 true)else(bA.j0 k a0 (a0.toList==([111,112,116,105,111,110] :List UInt8))))=some r:=h;clear h;have HC2:=ak.mk H;clear H;go_enter Tryz.func107,Tryz.ntmps107
 go_upto_region 1 with(fail)
 go_cut [8] (fun v8 wc=>∃(kq:Nat) (x8_1:Bool),v8=.bool x8_1∧ak (bA.j0 kq a0 x8_1=some r)∧ak (kq≤k)∧ak (Below w.heap.size w wc))
 case first=>
  have H:=HC2.out;clear HC2
  by_cases c3:a0.toList=([108,105] :List UInt8)
  ·rw[if_pos c3]at H
   have lI:(a0.toList==([108,105] :List UInt8))=true:=beq_iff_eq.mpr c3;have tu:(a0.toList !=([108,105] :List UInt8))=false:=bne_eq_false_iff_eq.mpr c3;clear c3
   (first|rw[lI] |(simp only[gM,gX];rw[lI])|skip)
   have H':=ak.mk H;clear H;go_wp2
   go_meet
   case rel=>exact⟨_,(true),q'c,H',⟨by first|omega|exact Nat.le_refl _⟩,⟨bz⟩⟩
  ·rw[if_neg c3]at H
   have lI:(a0.toList==([108,105] :List UInt8))=false:=beq_eq_false_iff_ne.mpr c3;have tu:(a0.toList !=([108,105] :List UInt8))=true:=bne_iff_ne.mpr c3
   (first|rw[lI] |(simp only[gM,gX];rw[lI])|skip)
   have H':=ak.mk H;clear H;go_wp2
   go_meet
   case rel=>exact⟨_,((a0.toList==([111,112,116,105,111,110] :List UInt8))),q'c,H',⟨by first|omega|exact Nat.le_refl _⟩,⟨bz⟩⟩
 case rest=>
  clear HC2
  try clear c1
  try clear p2
  try clear c3
  try clear lI
  try clear tu
  obtain⟨kq,x8_1,rfl,HA,HJ1,HB⟩:=hcut;cases kq with
  |zero=>exact absurd HA.out (by simp[bA.j0])
  |succ kj1=>
   have H:=HA.out;clear HA;simp only[bA.j0]at H
   by_cases c4:x8_1=true
   ·subst c4
    have H1:(some (([a0] :List Bt)))=some r:=by rw[if_pos rfl]at H;exact H
    clear H;have H:=H1;clear H1;obtain⟨y237,Fq⟩:∃y_:List Bt,y_=(([a0] :List Bt)):=⟨_,rfl⟩
    replace H:(some y237)=some r:=by first|(rw[Fq];with_reducible exact H)|(have H2_:=(Option.bind_some _ _).symm.trans H;rw[Fq];with_reducible exact H2_)|(have H2_:=(Option.bind_some _ _).symm.trans H;with_reducible exact H2_)|with_reducible exact H|(rw[Fq];exact H)|exact H
    have Ny237:=ak.mk Fq;clear Fq;obtain rfl:=Option.some.inj H
    go_wp2_with(first|((with_reducible refine bY (N:=10) rfl ?_);refine Kd.eZ Kd.string _ 9 ?hg (N:=10) ?hd (xs:=([a0] :List Bt)) (inner:=[.string a0]) (ok:=fun _=>True) (okp:=fun _=>True) ?hr ?hp (fun _ hk=>hk) trivial (Below.refl _ _) (Nat.le_refl _) (by simp) ?_;(case hd=>rfl);(case hg=>rfl);(case hr=>first|(go_simp;done)|(go_simp;rfl));(case hp=>exact(aY.one (show Kd.M Kd.string _ _ _ a0 [.string a0]from rfl) (aY.none _ _)));intro v238 w5 ho6 hb hg_ cu;clear hg_ cu;(first|rw[←Ny237.out]at ho6|(simp only[Int.reduceToNat]at ho6;rw[←Ny237.out]at ho6));have HO239:=ak.mk (Kd.bM ho6 (aJ bz));replace HB:=ak.mk (aN bz hb);clear hb ho6))
    go_ret;exact⟨_,by first|rfl|(simp[aQ,aT]<;>rfl)|(simp[*,aQ,aT]<;>rfl),by(with_reducible repeat(first|apply Kd.aZ|apply Kd.bB|apply Kd.bq));exact HO239.out,bz⟩
   ·replace c4:=Bool.eq_false_iff.mpr c4
    subst c4;have H1:(if a0.toList=([100,100] :List UInt8)then(bA.j1 kj1 a0 true)else(bA.j1 kj1 a0 (a0.toList==([100,116] :List UInt8))))=some r:=by rw[if_neg (show¬(false=true) by decide)]at H;first|exact H|(simp only[eq_self]at H⊢;exact H)|(simp only[eq_self,if_true]at H⊢;exact H)
    clear H;have H:=H1;clear H1;have HC7:=ak.mk H;clear H
    go_upto_region 3 with(fail)
    go_cut [16] (fun v16 wc=>∃(kq:Nat) (x16_6:Bool),v16=.bool x16_6∧ak (bA.j1 kq a0 x16_6=some r)∧ak (kq≤kj1)∧ak (Below w.heap.size w wc))
    case first=>
     have H:=HC7.out;clear HC7
     by_cases c8:a0.toList=([100,100] :List UInt8)
     ·rw[if_pos c8]at H
      have c8b0:(a0.toList==([100,100] :List UInt8))=true:=beq_iff_eq.mpr c8;have c8b1:(a0.toList !=([100,100] :List UInt8))=false:=bne_eq_false_iff_eq.mpr c8;clear c8
      (first|rw[c8b0] |(simp only[gM,gX];rw[c8b0])|skip)
      have H':=ak.mk H;clear H;go_wp2
      go_meet
      case rel=>exact⟨_,(true),q'c,H',⟨by have:=HJ1.out;first|omega|exact Nat.le_refl _⟩,⟨bz⟩⟩
     ·rw[if_neg c8]at H
      have c8b0:(a0.toList==([100,100] :List UInt8))=false:=beq_eq_false_iff_ne.mpr c8;have c8b1:(a0.toList !=([100,100] :List UInt8))=true:=bne_iff_ne.mpr c8
      (first|rw[c8b0] |(simp only[gM,gX];rw[c8b0])|skip)
      have H':=ak.mk H;clear H;go_wp2
      go_meet
      case rel=>exact⟨_,((a0.toList==([100,116] :List UInt8))),q'c,H',⟨by have:=HJ1.out;first|omega|exact Nat.le_refl _⟩,⟨bz⟩⟩
    case rest=>
     clear HC7
     try clear c1
     try clear p2
     try clear c3
     try clear lI
     try clear tu
     try clear c4
     try clear c8
     try clear c8b0
     try clear c8b1
     try clear p2
     obtain⟨kq,x16_6,rfl,HA,HJ6,HB⟩:=hcut;cases kq with
     |zero=>exact absurd HA.out (by simp[bA.j1])
     |succ kj6=>
      have H:=HA.out;clear HA;simp only[bA.j1]at H
      by_cases c9:x16_6=true
      ·subst c9
       have H1:(some (([(⟨#[100,100]⟩:Bt),(⟨#[100,116]⟩:Bt)] :List Bt)))=some r:=by rw[if_pos rfl]at H;exact H
       clear H;have H:=H1;clear H1;obtain⟨y240,Fu⟩:∃y_:List Bt,y_=(([(⟨#[100,100]⟩:Bt),(⟨#[100,116]⟩:Bt)] :List Bt)):=⟨_,rfl⟩
       replace H:(some y240)=some r:=by first|(rw[Fu];with_reducible exact H)|(have H2_:=(Option.bind_some _ _).symm.trans H;rw[Fu];with_reducible exact H2_)|(have H2_:=(Option.bind_some _ _).symm.trans H;with_reducible exact H2_)|with_reducible exact H|(rw[Fu];exact H)|exact H
       have Ny240:=ak.mk Fu;clear Fu;obtain rfl:=Option.some.inj H
       go_wp2_with(first|((with_reducible refine bY (N:=17) rfl ?_);refine Kd.eZ Kd.string _ 9 ?hg (N:=17) ?hd (xs:=([(⟨#[100,100]⟩:Bt),(⟨#[100,116]⟩:Bt)] :List Bt)) (inner:=[.string (⟨#[100,100]⟩:Bt),.string (⟨#[100,116]⟩:Bt)]) (ok:=fun _=>True) (okp:=fun _=>True) ?hr ?hp (fun _ hk=>hk) trivial (Below.refl _ _) (Nat.le_refl _) (by simp) ?_;(case hd=>rfl);(case hg=>rfl);(case hr=>first|(go_simp;done)|(go_simp;rfl));(case hp=>exact(aY.one (show Kd.M Kd.string _ _ _ (⟨#[100,100]⟩:Bt) [.string (⟨#[100,100]⟩:Bt)]from rfl) (aY.one (show Kd.M Kd.string _ _ _ (⟨#[100,116]⟩:Bt) [.string (⟨#[100,116]⟩:Bt)]from rfl) (aY.none _ _))));intro v241 w10 xZ hb hg_ cu;clear hg_ cu;(first|rw[←Ny240.out]at xZ|(simp only[Int.reduceToNat]at xZ;rw[←Ny240.out]at xZ));have HO242:=ak.mk (Kd.bM xZ (aJ bz));replace HB:=ak.mk (aN bz hb);clear hb xZ))
       go_ret;exact⟨_,by first|rfl|(simp[aQ,aT]<;>rfl)|(simp[*,aQ,aT]<;>rfl),by(with_reducible repeat(first|apply Kd.aZ|apply Kd.bB|apply Kd.bq));exact HO242.out,bz⟩
      ·replace c9:=Bool.eq_false_iff.mpr c9
       subst c9;have H1:(if a0.toList=([111,112,116,103,114,111,117,112] :List UInt8)then(some (([(⟨#[111,112,116,103,114,111,117,112]⟩:Bt),(⟨#[111,112,116,105,111,110]⟩:Bt)] :List Bt)))else(if a0.toList=([116,114] :List UInt8)then(some (([(⟨#[116,100]⟩:Bt),(⟨#[116,104]⟩:Bt),(⟨#[116,114]⟩:Bt)] :List Bt)))else(if a0.toList=([116,100] :List UInt8)then(bA.j2 kj6 a0 true)else(bA.j2 kj6 a0 (a0.toList==([116,104] :List UInt8))))))=some r:=by rw[if_neg (show¬(false=true) by decide)]at H;first|exact H|(simp only[eq_self]at H⊢;exact H)|(simp only[eq_self,if_true]at H⊢;exact H)
       clear H;have H:=H1;clear H1
       by_cases c12:a0.toList=([111,112,116,103,114,111,117,112] :List UInt8)
       ·rw[if_pos c12]at H
        have c12b0:(a0.toList==([111,112,116,103,114,111,117,112] :List UInt8))=true:=beq_iff_eq.mpr c12;have c12b1:(a0.toList !=([111,112,116,103,114,111,117,112] :List UInt8))=false:=bne_eq_false_iff_eq.mpr c12;clear c12;obtain⟨y243,Fv⟩:∃y_:List Bt,y_=(([(⟨#[111,112,116,103,114,111,117,112]⟩:Bt),(⟨#[111,112,116,105,111,110]⟩:Bt)] :List Bt)):=⟨_,rfl⟩
        replace H:(some y243)=some r:=by first|(rw[Fv];with_reducible exact H)|(have H2_:=(Option.bind_some _ _).symm.trans H;rw[Fv];with_reducible exact H2_)|(have H2_:=(Option.bind_some _ _).symm.trans H;with_reducible exact H2_)|with_reducible exact H|(rw[Fv];exact H)|exact H
        have Ny243:=ak.mk Fv;clear Fv;obtain rfl:=Option.some.inj H
        go_wp2_with(first|((with_reducible refine bY (N:=20) rfl ?_);refine Kd.eZ Kd.string _ 9 ?hg (N:=20) ?hd (xs:=([(⟨#[111,112,116,103,114,111,117,112]⟩:Bt),(⟨#[111,112,116,105,111,110]⟩:Bt)] :List Bt)) (inner:=[.string (⟨#[111,112,116,103,114,111,117,112]⟩:Bt),.string (⟨#[111,112,116,105,111,110]⟩:Bt)]) (ok:=fun _=>True) (okp:=fun _=>True) ?hr ?hp (fun _ hk=>hk) trivial (Below.refl _ _) (Nat.le_refl _) (by simp) ?_;(case hd=>rfl);(case hg=>rfl);(case hr=>first|(go_simp;done)|(go_simp;rfl));(case hp=>exact(aY.one (show Kd.M Kd.string _ _ _ (⟨#[111,112,116,103,114,111,117,112]⟩:Bt) [.string (⟨#[111,112,116,103,114,111,117,112]⟩:Bt)]from rfl) (aY.one (show Kd.M Kd.string _ _ _ (⟨#[111,112,116,105,111,110]⟩:Bt) [.string (⟨#[111,112,116,105,111,110]⟩:Bt)]from rfl) (aY.none _ _))));intro v244 w13 zZ hb hg_ cu;clear hg_ cu;(first|rw[←Ny243.out]at zZ|(simp only[Int.reduceToNat]at zZ;rw[←Ny243.out]at zZ));have HO245:=ak.mk (Kd.bM zZ (aJ bz));replace HB:=ak.mk (aN bz hb);clear hb zZ))
        go_ret;exact⟨_,by first|rfl|(simp[aQ,aT]<;>rfl)|(simp[*,aQ,aT]<;>rfl),by(with_reducible repeat(first|apply Kd.aZ|apply Kd.bB|apply Kd.bq));exact HO245.out,bz⟩
       ·rw[if_neg c12]at H
        have c12b0:(a0.toList==([111,112,116,103,114,111,117,112] :List UInt8))=false:=beq_eq_false_iff_ne.mpr c12;have c12b1:(a0.toList !=([111,112,116,103,114,111,117,112] :List UInt8))=true:=bne_iff_ne.mpr c12
        by_cases c15:a0.toList=([116,114] :List UInt8)
        ·rw[if_pos c15]at H
         have c15b0:(a0.toList==([116,114] :List UInt8))=true:=beq_iff_eq.mpr c15;have c15b1:(a0.toList !=([116,114] :List UInt8))=false:=bne_eq_false_iff_eq.mpr c15;clear c15;obtain⟨y246,Fw⟩:∃y_:List Bt,y_=(([(⟨#[116,100]⟩:Bt),(⟨#[116,104]⟩:Bt),(⟨#[116,114]⟩:Bt)] :List Bt)):=⟨_,rfl⟩
         replace H:(some y246)=some r:=by first|(rw[Fw];with_reducible exact H)|(have H2_:=(Option.bind_some _ _).symm.trans H;rw[Fw];with_reducible exact H2_)|(have H2_:=(Option.bind_some _ _).symm.trans H;with_reducible exact H2_)|with_reducible exact H|(rw[Fw];exact H)|exact H
         have Ny246:=ak.mk Fw;clear Fw;obtain rfl:=Option.some.inj H
         go_wp2_with(first|((with_reducible refine bY (N:=23) rfl ?_);refine Kd.eZ Kd.string _ 9 ?hg (N:=23) ?hd (xs:=([(⟨#[116,100]⟩:Bt),(⟨#[116,104]⟩:Bt),(⟨#[116,114]⟩:Bt)] :List Bt)) (inner:=[.string (⟨#[116,100]⟩:Bt),.string (⟨#[116,104]⟩:Bt),.string (⟨#[116,114]⟩:Bt)]) (ok:=fun _=>True) (okp:=fun _=>True) ?hr ?hp (fun _ hk=>hk) trivial (Below.refl _ _) (Nat.le_refl _) (by simp) ?_;(case hd=>rfl);(case hg=>rfl);(case hr=>first|(go_simp;done)|(go_simp;rfl));(case hp=>exact(aY.one (show Kd.M Kd.string _ _ _ (⟨#[116,100]⟩:Bt) [.string (⟨#[116,100]⟩:Bt)]from rfl) (aY.one (show Kd.M Kd.string _ _ _ (⟨#[116,104]⟩:Bt) [.string (⟨#[116,104]⟩:Bt)]from rfl) (aY.one (show Kd.M Kd.string _ _ _ (⟨#[116,114]⟩:Bt) [.string (⟨#[116,114]⟩:Bt)]from rfl) (aY.none _ _)))));intro v247 w16 vC hb hg_ cu;clear hg_ cu;(first|rw[←Ny246.out]at vC|(simp only[Int.reduceToNat]at vC;rw[←Ny246.out]at vC));have HO248:=ak.mk (Kd.bM vC (aJ bz));replace HB:=ak.mk (aN bz hb);clear hb vC))
         go_ret;exact⟨_,by first|rfl|(simp[aQ,aT]<;>rfl)|(simp[*,aQ,aT]<;>rfl),by(with_reducible repeat(first|apply Kd.aZ|apply Kd.bB|apply Kd.bq));exact HO248.out,bz⟩
        ·rw[if_neg c15]at H
         have c15b0:(a0.toList==([116,114] :List UInt8))=false:=beq_eq_false_iff_ne.mpr c15;have c15b1:(a0.toList !=([116,114] :List UInt8))=true:=bne_iff_ne.mpr c15;have HC18:=ak.mk H;clear H
         go_upto_region 9 with(fail)
         go_cut [29] (fun v29 wc=>∃(kq:Nat) (CF:Bool),v29=.bool CF∧ak (bA.j2 kq a0 CF=some r)∧ak (kq≤kj6)∧ak (Below w.heap.size w wc))
         case first=>
          have H:=HC18.out;clear HC18
          by_cases c19:a0.toList=([116,100] :List UInt8)
          ·rw[if_pos c19]at H
           have xL:(a0.toList==([116,100] :List UInt8))=true:=beq_iff_eq.mpr c19;have c19b1:(a0.toList !=([116,100] :List UInt8))=false:=bne_eq_false_iff_eq.mpr c19;clear c19
           (first|rw[xL] |(simp only[gM,gX];rw[xL])|skip)
           have H':=ak.mk H;clear H;go_wp2
           go_meet
           case rel=>exact⟨_,(true),q'c,H',⟨by have:=HJ1.out;have:=HJ6.out;first|omega|exact Nat.le_refl _⟩,⟨bz⟩⟩
          ·rw[if_neg c19]at H
           have xL:(a0.toList==([116,100] :List UInt8))=false:=beq_eq_false_iff_ne.mpr c19;have c19b1:(a0.toList !=([116,100] :List UInt8))=true:=bne_iff_ne.mpr c19
           (first|rw[xL] |(simp only[gM,gX];rw[xL])|skip)
           have H':=ak.mk H;clear H;go_wp2
           go_meet
           case rel=>exact⟨_,((a0.toList==([116,104] :List UInt8))),q'c,H',⟨by have:=HJ1.out;have:=HJ6.out;first|omega|exact Nat.le_refl _⟩,⟨bz⟩⟩
         case rest=>
          clear HC18
          try clear c1
          try clear p2
          try clear c3
          try clear lI
          try clear tu
          try clear c4
          try clear c8
          try clear c8b0
          try clear c8b1
          try clear c9
          try clear c10
          try clear c12
          try clear c12b0
          try clear c12b1
          try clear c15
          try clear c15b0
          try clear c15b1
          try clear c19
          try clear xL
          try clear c19b1
          try clear p2
          obtain⟨kq,CF,rfl,HA,HJ17,HB⟩:=hcut;cases kq with
          |zero=>exact absurd HA.out (by simp[bA.j2])
          |succ yh=>
           have H:=HA.out;clear HA;simp only[bA.j2]at H
           by_cases c20:CF=true
           ·subst c20
            have H1:(some (([(⟨#[116,100]⟩:Bt),(⟨#[116,104]⟩:Bt)] :List Bt)))=some r:=by rw[if_pos rfl]at H;exact H
            clear H;have H:=H1;clear H1;obtain⟨y249,Fx⟩:∃y_:List Bt,y_=(([(⟨#[116,100]⟩:Bt),(⟨#[116,104]⟩:Bt)] :List Bt)):=⟨_,rfl⟩
            replace H:(some y249)=some r:=by first|(rw[Fx];with_reducible exact H)|(have H2_:=(Option.bind_some _ _).symm.trans H;rw[Fx];with_reducible exact H2_)|(have H2_:=(Option.bind_some _ _).symm.trans H;with_reducible exact H2_)|with_reducible exact H|(rw[Fx];exact H)|exact H
            have Ny249:=ak.mk Fx;clear Fx;obtain rfl:=Option.some.inj H
            go_wp2_with(first|((with_reducible refine bY (N:=30) rfl ?_);refine Kd.eZ Kd.string _ 9 ?hg (N:=30) ?hd (xs:=([(⟨#[116,100]⟩:Bt),(⟨#[116,104]⟩:Bt)] :List Bt)) (inner:=[.string (⟨#[116,100]⟩:Bt),.string (⟨#[116,104]⟩:Bt)]) (ok:=fun _=>True) (okp:=fun _=>True) ?hr ?hp (fun _ hk=>hk) trivial (Below.refl _ _) (Nat.le_refl _) (by simp) ?_;(case hd=>rfl);(case hg=>rfl);(case hr=>first|(go_simp;done)|(go_simp;rfl));(case hp=>exact(aY.one (show Kd.M Kd.string _ _ _ (⟨#[116,100]⟩:Bt) [.string (⟨#[116,100]⟩:Bt)]from rfl) (aY.one (show Kd.M Kd.string _ _ _ (⟨#[116,104]⟩:Bt) [.string (⟨#[116,104]⟩:Bt)]from rfl) (aY.none _ _))));intro v250 w21 ho22 hb hg_ cu;clear hg_ cu;(first|rw[←Ny249.out]at ho22|(simp only[Int.reduceToNat]at ho22;rw[←Ny249.out]at ho22));have HO251:=ak.mk (Kd.bM ho22 (aJ bz));replace HB:=ak.mk (aN bz hb);clear hb ho22))
            go_ret;exact⟨_,by first|rfl|(simp[aQ,aT]<;>rfl)|(simp[*,aQ,aT]<;>rfl),by(with_reducible repeat(first|apply Kd.aZ|apply Kd.bB|apply Kd.bq));exact HO251.out,bz⟩
           ·replace c20:=Bool.eq_false_iff.mpr c20
            subst c20;have H1:((bN.f).bind fun vw=>((aM.f yh vw a0).bind fun t255=>(if t255=true then((bN.f).bind fun yg=>(some yg))else((dX.f).bind fun rV=>((aM.f yh rV a0).bind fun vB=>(if vB=true then(some (([(⟨#[112]⟩:Bt)] :List Bt)))else(some (([] :List Bt)))))))))=some r:=by rw[if_neg (show¬(false=true) by decide)]at H;first|exact H|(simp only[eq_self]at H⊢;exact H)|(simp only[eq_self,if_true]at H⊢;exact H)
            clear H;have H:=H1;clear H1;replace H:=Option.bind_eq_some_iff.mp H;obtain⟨vw,A230,H⟩:=H;replace H:((aM.f yh vw a0).bind fun t255=>(if t255=true then((bN.f).bind fun yg=>(some yg))else((dX.f).bind fun rV=>((aM.f yh rV a0).bind fun vB=>(if vB=true then(some (([(⟨#[112]⟩:Bt)] :List Bt)))else(some (([] :List Bt))))))))=some r:=H;have A23:=ak.mk A230;clear A230;replace H:=Option.bind_eq_some_iff.mp H;obtain⟨t255,A240,H⟩:=H;replace H:(if t255=true then((bN.f).bind fun yg=>(some yg))else((dX.f).bind fun rV=>((aM.f yh rV a0).bind fun vB=>(if vB=true then(some (([(⟨#[112]⟩:Bt)] :List Bt)))else(some (([] :List Bt)))))))=some r:=H;have A24:=ak.mk A240;clear A240
            by_cases c25:t255=true
            ·subst c25
             have H1:((bN.f).bind fun yg=>(some yg))=some r:=by rw[if_pos rfl]at H;exact H
             clear H;have H:=H1;clear H1;replace H:=Option.bind_eq_some_iff.mp H;obtain⟨yg,A260,H⟩:=H;replace H:(some yg)=some r:=H;have A26:=ak.mk A260;clear A260;obtain rfl:=Option.some.inj H
             go_wp2_with(first|((with_reducible refine bC (f:=110) rfl ?_);refine dH (some 31) rfl rfl Tryz.func110 (by kernel_rfl) rfl #[] rfl q'a ?_;(with_reducible refine(bN.calls vw _ A23.out).mono ?_);rintro e w27 ⟨v253,rfl,ho0,hb⟩;refine⟨_,rfl,?_⟩;have iR:=ak.mk (Kd.bM ho0 (aJ bz));replace HB:=ak.mk (aN bz hb);(try clear hb);(try clear hb2);(try clear hk);(try clear hi);(try clear ho0);obtain⟨Ao28,co28,eo28⟩:=Kd.bF iR.out;subst eo28)|((with_reducible refine bC (f:=57) rfl ?_);refine dH (some 33) rfl rfl Tryz.func57 (by kernel_rfl) rfl #[.slice Ao28 vw.length co28,.string a0] rfl q'a ?_;(with_reducible refine(aM.calls yh _ _ vw a0 true _ ?dB ?dD A24.out).mono ?_);(case dB=>exact cz (Kd.aI iR.out).2.2);(case dD=>exact(Kd.aI iR.out).2.1);rintro e w' ⟨rfl,⟨nd,rfl⟩⟩;refine⟨_,rfl,?_⟩)|((with_reducible refine bC (f:=110) rfl ?_);refine dH (some 34) rfl rfl Tryz.func110 (by kernel_rfl) rfl #[] rfl q'a ?_;(with_reducible refine(bN.calls yg _ A26.out).mono ?_);rintro e w29 ⟨v257,rfl,ho0,hb⟩;refine⟨_,rfl,?_⟩;have HO258:=ak.mk (Kd.bM (Kd.dw ho0 (Kd.fu (rz iR.out))) (aJ bz));replace iR:=ak.mk (Kd.bP (rz iR.out) (Kd.cK ho0) hb);replace HB:=ak.mk (aN bz hb);(try clear hb);(try clear hb2);(try clear hk);(try clear hi);(try clear ho0)))
             go_ret;exact⟨_,by first|rfl|(simp[aQ,aT]<;>rfl)|(simp[*,aQ,aT]<;>rfl),by(with_reducible repeat(first|apply Kd.aZ|apply Kd.bB|apply Kd.bq));exact Kd.dz HO258.out (fun _ hk=>trivial),bz⟩
            ·replace c25:=Bool.eq_false_iff.mpr c25
             subst c25;have H1:((dX.f).bind fun rV=>((aM.f yh rV a0).bind fun vB=>(if vB=true then(some (([(⟨#[112]⟩:Bt)] :List Bt)))else(some (([] :List Bt))))))=some r:=by rw[if_neg (show¬(false=true) by decide)]at H;first|exact H|(simp only[eq_self]at H⊢;exact H)|(simp only[eq_self,if_true]at H⊢;exact H)
             clear H;have H:=H1;clear H1;replace H:=Option.bind_eq_some_iff.mp H;obtain⟨rV,A300,H⟩:=H;replace H:((aM.f yh rV a0).bind fun vB=>(if vB=true then(some (([(⟨#[112]⟩:Bt)] :List Bt)))else(some (([] :List Bt)))))=some r:=H;have A30:=ak.mk A300;clear A300;replace H:=Option.bind_eq_some_iff.mp H;obtain⟨vB,A310,H⟩:=H;replace H:(if vB=true then(some (([(⟨#[112]⟩:Bt)] :List Bt)))else(some (([] :List Bt))))=some r:=H;have A31:=ak.mk A310;clear A310
             by_cases c32:vB=true
             ·subst c32
              have H1:(some (([(⟨#[112]⟩:Bt)] :List Bt)))=some r:=by rw[if_pos rfl]at H;exact H
              clear H;have H:=H1;clear H1;obtain⟨y263,Fy⟩:∃y_:List Bt,y_=(([(⟨#[112]⟩:Bt)] :List Bt)):=⟨_,rfl⟩
              replace H:(some y263)=some r:=by first|(rw[Fy];with_reducible exact H)|(have H2_:=(Option.bind_some _ _).symm.trans H;rw[Fy];with_reducible exact H2_)|(have H2_:=(Option.bind_some _ _).symm.trans H;with_reducible exact H2_)|with_reducible exact H|(rw[Fy];exact H)|exact H
              have Ny263:=ak.mk Fy;clear Fy;obtain rfl:=Option.some.inj H
              go_wp2_with(first|((with_reducible refine bC (f:=110) rfl ?_);refine dH (some 31) rfl rfl Tryz.func110 (by kernel_rfl) rfl #[] rfl q'a ?_;(with_reducible refine(bN.calls vw _ A23.out).mono ?_);rintro e w33 ⟨v253,rfl,ho0,hb⟩;refine⟨_,rfl,?_⟩;have iR:=ak.mk (Kd.bM ho0 (aJ bz));replace HB:=ak.mk (aN bz hb);(try clear hb);(try clear hb2);(try clear hk);(try clear hi);(try clear ho0);obtain⟨Ao34,co34,eo34⟩:=Kd.bF iR.out;subst eo34)|((with_reducible refine bC (f:=57) rfl ?_);refine dH (some 33) rfl rfl Tryz.func57 (by kernel_rfl) rfl #[.slice Ao34 vw.length co34,.string a0] rfl q'a ?_;(with_reducible refine(aM.calls yh _ _ vw a0 false _ ?dB ?dD A24.out).mono ?_);(case dB=>exact cz (Kd.aI iR.out).2.2);(case dD=>exact(Kd.aI iR.out).2.1);rintro e w' ⟨rfl,⟨nd,rfl⟩⟩;refine⟨_,rfl,?_⟩)|((with_reducible refine bC (f:=149) rfl ?_);refine dH (some 35) rfl rfl Tryz.func149 (by kernel_rfl) rfl #[] rfl q'a ?_;(with_reducible refine(dX.calls rV _ A30.out).mono ?_);rintro e w35 ⟨v260,rfl,ho0,hb⟩;refine⟨_,rfl,?_⟩;have nS:=ak.mk (Kd.bM (Kd.dw ho0 (Kd.fu (rz iR.out))) (aJ bz));replace iR:=ak.mk (Kd.bP (rz iR.out) (Kd.cK ho0) hb);replace HB:=ak.mk (aN bz hb);(try clear hb);(try clear hb2);(try clear hk);(try clear hi);(try clear ho0);obtain⟨Ao36,co36,eo36⟩:=Kd.bF nS.out;subst eo36)|((with_reducible refine bC (f:=57) rfl ?_);refine dH (some 37) rfl rfl Tryz.func57 (by kernel_rfl) rfl #[.slice Ao36 rV.length co36,.string a0] rfl q'a ?_;(with_reducible refine(aM.calls yh _ _ rV a0 true _ ?dB ?dD A31.out).mono ?_);(case dB=>exact cz (Kd.aI nS.out).2.2);(case dD=>exact(Kd.aI nS.out).2.1);rintro e w' ⟨rfl,⟨nd,rfl⟩⟩;refine⟨_,rfl,?_⟩)|((with_reducible refine bY (N:=38) rfl ?_);refine Kd.eZ Kd.string _ 9 ?hg (N:=38) ?hd (xs:=([(⟨#[112]⟩:Bt)] :List Bt)) (inner:=[.string (⟨#[112]⟩:Bt)]) (ok:=fun _=>True) (okp:=fun _=>True) ?hr ?hp (fun _ hk=>hk) trivial (Below.refl _ _) (Nat.le_refl _) (by simp) ?_;(case hd=>rfl);(case hg=>rfl);(case hr=>first|(go_simp;done)|(go_simp;rfl));(case hp=>exact(aY.one (show Kd.M Kd.string _ _ _ (⟨#[112]⟩:Bt) [.string (⟨#[112]⟩:Bt)]from rfl) (aY.none _ _)));intro v264 w37 ho38 hb hg_ cu;clear hg_ cu;(first|rw[←Ny263.out]at ho38|(simp only[Int.reduceToNat]at ho38;rw[←Ny263.out]at ho38));have HO265:=ak.mk (Kd.bM (Kd.dw (Kd.dw ho38 (Kd.fu (rz iR.out))) (Kd.fu (rz nS.out))) (aJ bz));replace iR:=ak.mk (Kd.bP (rz iR.out) (Kd.cK ho38) hb);replace nS:=ak.mk (Kd.bP (rz nS.out) (Kd.cK ho38) hb);replace HB:=ak.mk (aN bz hb);clear hb ho38))
              go_ret;exact⟨_,by first|rfl|(simp[aQ,aT]<;>rfl)|(simp[*,aQ,aT]<;>rfl),by(with_reducible repeat(first|apply Kd.aZ|apply Kd.bB|apply Kd.bq));exact Kd.dz HO265.out (fun _ hk=>trivial),bz⟩
             ·replace c32:=Bool.eq_false_iff.mpr c32
              subst c32;have H1:(some (([] :List Bt)))=some r:=by rw[if_neg (show¬(false=true) by decide)]at H;first|exact H|(simp only[eq_self]at H⊢;exact H)|(simp only[eq_self,if_true]at H⊢;exact H)
              clear H;have H:=H1;clear H1;obtain⟨y266,Fz⟩:∃y_:List Bt,y_=(([] :List Bt)):=⟨_,rfl⟩
              replace H:(some y266)=some r:=by first|(rw[Fz];with_reducible exact H)|(have H2_:=(Option.bind_some _ _).symm.trans H;rw[Fz];with_reducible exact H2_)|(have H2_:=(Option.bind_some _ _).symm.trans H;with_reducible exact H2_)|with_reducible exact H|(rw[Fz];exact H)|exact H
              have Ny266:=ak.mk Fz;clear Fz;obtain rfl:=Option.some.inj H
              go_wp2_with(first|((with_reducible refine bC (f:=110) rfl ?_);refine dH (some 31) rfl rfl Tryz.func110 (by kernel_rfl) rfl #[] rfl q'a ?_;(with_reducible refine(bN.calls vw _ A23.out).mono ?_);rintro e w39 ⟨v253,rfl,ho0,hb⟩;refine⟨_,rfl,?_⟩;have iR:=ak.mk (Kd.bM ho0 (aJ bz));replace HB:=ak.mk (aN bz hb);(try clear hb);(try clear hb2);(try clear hk);(try clear hi);(try clear ho0);obtain⟨Ao40,co40,eo40⟩:=Kd.bF iR.out;subst eo40)|((with_reducible refine bC (f:=57) rfl ?_);refine dH (some 33) rfl rfl Tryz.func57 (by kernel_rfl) rfl #[.slice Ao40 vw.length co40,.string a0] rfl q'a ?_;(with_reducible refine(aM.calls yh _ _ vw a0 false _ ?dB ?dD A24.out).mono ?_);(case dB=>exact cz (Kd.aI iR.out).2.2);(case dD=>exact(Kd.aI iR.out).2.1);rintro e w' ⟨rfl,⟨nd,rfl⟩⟩;refine⟨_,rfl,?_⟩)|((with_reducible refine bC (f:=149) rfl ?_);refine dH (some 35) rfl rfl Tryz.func149 (by kernel_rfl) rfl #[] rfl q'a ?_;(with_reducible refine(dX.calls rV _ A30.out).mono ?_);rintro e w41 ⟨v260,rfl,ho0,hb⟩;refine⟨_,rfl,?_⟩;have nS:=ak.mk (Kd.bM (Kd.dw ho0 (Kd.fu (rz iR.out))) (aJ bz));replace iR:=ak.mk (Kd.bP (rz iR.out) (Kd.cK ho0) hb);replace HB:=ak.mk (aN bz hb);(try clear hb);(try clear hb2);(try clear hk);(try clear hi);(try clear ho0);obtain⟨Ao42,co42,eo42⟩:=Kd.bF nS.out;subst eo42)|((with_reducible refine bC (f:=57) rfl ?_);refine dH (some 37) rfl rfl Tryz.func57 (by kernel_rfl) rfl #[.slice Ao42 rV.length co42,.string a0] rfl q'a ?_;(with_reducible refine(aM.calls yh _ _ rV a0 false _ ?dB ?dD A31.out).mono ?_);(case dB=>exact cz (Kd.aI nS.out).2.2);(case dD=>exact(Kd.aI nS.out).2.1);rintro e w' ⟨rfl,⟨nd,rfl⟩⟩;refine⟨_,rfl,?_⟩)|((with_reducible refine bY (N:=39) rfl ?_);refine Kd.eZ Kd.string _ 9 ?hg (N:=39) ?hd (xs:=([] :List Bt)) (inner:=[]) (ok:=fun _=>True) (okp:=fun _=>True) ?hr ?hp (fun _ hk=>hk) trivial (Below.refl _ _) (Nat.le_refl _) (by simp) ?_;(case hd=>rfl);(case hg=>rfl);(case hr=>first|(go_simp;done)|(go_simp;rfl));(case hp=>exact(aY.none _ _));intro v267 w43 ho44 hb hg_ cu;clear hg_ cu;(first|rw[←Ny266.out]at ho44|(simp only[Int.reduceToNat]at ho44;rw[←Ny266.out]at ho44));have HO268:=ak.mk (Kd.bM (Kd.dw (Kd.dw ho44 (Kd.fu (rz iR.out))) (Kd.fu (rz nS.out))) (aJ bz));replace iR:=ak.mk (Kd.bP (rz iR.out) (Kd.cK ho44) hb);replace nS:=ak.mk (Kd.bP (rz nS.out) (Kd.cK ho44) hb);replace HB:=ak.mk (aN bz hb);clear hb ho44))
              go_ret;exact⟨_,by first|rfl|(simp[aQ,aT]<;>rfl)|(simp[*,aQ,aT]<;>rfl),by(with_reducible repeat(first|apply Kd.aZ|apply Kd.bB|apply Kd.bq));exact Kd.dz HO268.out (fun _ hk=>trivial),bz⟩
end Go.Proofs.aj.W7
