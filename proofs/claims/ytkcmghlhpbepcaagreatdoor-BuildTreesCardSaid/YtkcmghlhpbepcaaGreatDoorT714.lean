/- Lemmas and walks, part 14. -/
import Derived.Test.YtkcmghlhpbepcaaGreatDoorT713
set_option linter.unusedVariables false
set_option linter.unusedSimpArgs false
set_option maxHeartbeats 8000000
set_option maxRecDepth 100000
namespace Go.Proofs.aj.W7
open Go.RowKit Go.Proofs.ah.aG Go.Proofs.ah.bX Go.Proofs.ah.dN
attribute [local go_sem] dZ d9 eU eX dS dU eu eB
def bL.j0:Nat→Bt→Bt→Bool→Option (List Bt)
 |0,_,_,_=>none
 |k+1,x0,x3,x4=>if x4=true then(some (([x0] :List Bt)))else(if x3.toList=([100,100] :List UInt8)then(some (([(⟨#[100,100]⟩:Bt),(⟨#[100,116]⟩:Bt)] :List Bt)))else(if x3.toList=([100,116] :List UInt8)then(some (([(⟨#[100,100]⟩:Bt),(⟨#[100,116]⟩:Bt)] :List Bt)))else(if x3.toList=([111,112,116,103,114,111,117,112] :List UInt8)then(some (([(⟨#[111,112,116,103,114,111,117,112]⟩:Bt),(⟨#[111,112,116,105,111,110]⟩:Bt)] :List Bt)))else(if x3.toList=([116,114] :List UInt8)then(some (([(⟨#[116,100]⟩:Bt),(⟨#[116,104]⟩:Bt),(⟨#[116,114]⟩:Bt)] :List Bt)))else(if x3.toList=([116,100] :List UInt8)then(some (([(⟨#[116,100]⟩:Bt),(⟨#[116,104]⟩:Bt)] :List Bt)))else(if x3.toList=([116,104] :List UInt8)then(some (([(⟨#[116,100]⟩:Bt),(⟨#[116,104]⟩:Bt)] :List Bt)))else((dM.f k x0).bind fun t155=>(if t155=true then(some (([(⟨#[116,98,111,100,121]⟩:Bt),(⟨#[116,100]⟩:Bt),(⟨#[116,102,111,111,116]⟩:Bt),(⟨#[116,104]⟩:Bt),(⟨#[116,104,101,97,100]⟩:Bt),(⟨#[116,114]⟩:Bt)] :List Bt)))else((fB.f k x0).bind fun t159=>(if t159=true then(some (([(⟨#[112]⟩:Bt)] :List Bt)))else(some ([] :List Bt))))))))))))
def bL.f(k:Nat)(a0:Bt):Option (List Bt):=if a0.toList=([108,105] :List UInt8)then(bL.j0 k a0 a0 (a0.toList==([108,105] :List UInt8)))else(bL.j0 k a0 a0 (a0.toList==([111,112,116,105,111,110] :List UInt8)))
theorem bL.zP:∀k,(∀y0 y1 y2,LeO (bL.j0 k y0 y1 y2) (bL.j0 (k+1) y0 y1 y2))
 |0=>fun _ _ _ r h=>by simp[bL.j0]at h
 |k+1=>by
  have ih0:=bL.zP k
  ·intro y0 y1 y2
   unfold bL.j0
   repeat' first
   |(with_reducible exact ih0 _ _ _)
   |(with_reducible exact fB.mono _ _)
   |(with_reducible exact dM.mono _ _)
   |(with_reducible exact LeO.refl _)
   |(with_reducible exact LeO.none _)
   |(with_reducible refine LeO.ite ?_ ?_)
   |(with_reducible refine LeO.bind ?_ (fun _=>?_))
   |exact ih0 _ _ _
   |exact fB.mono _ _
   |exact dM.mono _ _
   |exact LeO.none _
   |refine LeO.ite ?_ ?_
   |refine LeO.bind ?_ (fun _=>?_)
theorem bL.mono:∀a0 k,LeO (bL.f k a0) (bL.f (k+1) a0):=by
 intro a0 k;have ih0:=bL.zP k;unfold bL.f
 repeat' first
  |(with_reducible exact ih0 _ _ _)
  |(with_reducible exact fB.mono _ _)
  |(with_reducible exact dM.mono _ _)
  |(with_reducible exact LeO.refl _)
  |(with_reducible exact LeO.none _)
  |(with_reducible refine LeO.ite ?_ ?_)
  |(with_reducible refine LeO.bind ?_ (fun _=>?_))
  |exact ih0 _ _ _
  |exact fB.mono _ _
  |exact dM.mono _ _
  |exact LeO.none _
  |refine LeO.ite ?_ ?_
  |refine LeO.bind ?_ (fun _=>?_)
theorem bL.calls(k:Nat)(a0:Bt)(r:List Bt)(w:World)(h:bL.f k a0=some r):
 Calls Tryz.prog 35 #[.string a0] w fun e w'=>∃v0_:Value,e=.returned (v0_)∧Kd.R Kd.string 9 w' w.heap.size (fun _=>True) v0_ r∧Below w.heap.size w w':=by
 have HB:=ak.mk (Below.refl w.heap.size w);have H:(if a0.toList=([108,105] :List UInt8)then(bL.j0 k a0 a0 (a0.toList==([108,105] :List UInt8)))else(bL.j0 k a0 a0 (a0.toList==([111,112,116,105,111,110] :List UInt8))))=some r:=h;clear h;have HC2:=ak.mk H;clear H;go_enter Tryz.func35,Tryz.ntmps35
 go_upto_if 4 with(fail)
 go_cut [4] (fun v4 wc=>∃(kq:Nat) (bQ:Bool),v4=.bool bQ∧ak (bL.j0 kq a0 a0 bQ=some r)∧ak (kq≤k)∧ak (Below w.heap.size w wc))
 case first=>
  have H:=HC2.out;clear HC2
  by_cases c3:a0.toList=([108,105] :List UInt8)
  ·rw[if_pos c3]at H
   have lI:(a0.toList==([108,105] :List UInt8))=true:=beq_iff_eq.mpr c3;have tu:(a0.toList !=([108,105] :List UInt8))=false:=bne_eq_false_iff_eq.mpr c3;clear c3
   (first|rw[lI] |(simp only[gM,gX];rw[lI])|skip)
   have H':=ak.mk H;clear H;go_wp2
   go_meet
   case rel=>exact⟨_,((a0.toList==([108,105] :List UInt8))),q'c,H',⟨by first|omega|exact Nat.le_refl _⟩,⟨bz⟩⟩
  ·rw[if_neg c3]at H
   have lI:(a0.toList==([108,105] :List UInt8))=false:=beq_eq_false_iff_ne.mpr c3;have tu:(a0.toList !=([108,105] :List UInt8))=true:=bne_iff_ne.mpr c3
   (first|rw[lI] |(simp only[gM,gX];rw[lI])|skip)
   have H':=ak.mk H;clear H;go_wp2
   go_meet
   case rel=>exact⟨_,((a0.toList==([111,112,116,105,111,110] :List UInt8))),q'c,H',⟨by first|omega|exact Nat.le_refl _⟩,⟨bz⟩⟩
 case rest=>
  clear HC2
  try clear p2
  try clear c3
  try clear lI
  try clear tu
  obtain⟨kq,bQ,rfl,HA,HJ1,HB⟩:=hcut;cases kq with
  |zero=>exact absurd HA.out (by simp[bL.j0])
  |succ kj1=>
   have H:=HA.out;clear HA;simp only[bL.j0]at H
   by_cases c4:bQ=true
   ·subst c4
    have H1:(some (([a0] :List Bt)))=some r:=by rw[if_pos rfl]at H;exact H
    clear H;have H:=H1;clear H1;obtain⟨y134,EM⟩:∃y_:List Bt,y_=(([a0] :List Bt)):=⟨_,rfl⟩
    replace H:(some y134)=some r:=by first|(rw[EM];with_reducible exact H)|(have H2_:=(Option.bind_some _ _).symm.trans H;rw[EM];with_reducible exact H2_)|(have H2_:=(Option.bind_some _ _).symm.trans H;with_reducible exact H2_)|with_reducible exact H|(rw[EM];exact H)|exact H
    have Ny134:=ak.mk EM;clear EM;obtain rfl:=Option.some.inj H
    go_wp2_with(first|((with_reducible refine bY (N:=19) rfl ?_);refine Kd.eZ Kd.string _ 9 ?hg (N:=19) ?hd (xs:=([a0] :List Bt)) (inner:=[.string a0]) (ok:=fun _=>True) (okp:=fun _=>True) ?hr ?hp (fun _ hk=>hk) trivial (Below.refl _ _) (Nat.le_refl _) (by simp) ?_;(case hd=>rfl);(case hg=>rfl);(case hr=>first|(go_simp;done)|(go_simp;rfl));(case hp=>exact(aY.one (show Kd.M Kd.string _ _ _ a0 [.string a0]from rfl) (aY.none _ _)));intro v135 w5 ho6 hb hg_ cu;clear hg_ cu;(first|rw[←Ny134.out]at ho6|(simp only[Int.reduceToNat]at ho6;rw[←Ny134.out]at ho6));have HO136:=ak.mk (Kd.bM ho6 (aJ bz));replace HB:=ak.mk (aN bz hb);clear hb ho6))
    go_ret;exact⟨_,by first|rfl|(simp[aQ,aT]<;>rfl)|(simp[*,aQ,aT]<;>rfl),by(with_reducible repeat(first|apply Kd.aZ|apply Kd.bB|apply Kd.bq));exact HO136.out,bz⟩
   ·replace c4:=Bool.eq_false_iff.mpr c4
    subst c4
    have H1:(if a0.toList=([100,100] :List UInt8)then(some (([(⟨#[100,100]⟩:Bt),(⟨#[100,116]⟩:Bt)] :List Bt)))else(if a0.toList=([100,116] :List UInt8)then(some (([(⟨#[100,100]⟩:Bt),(⟨#[100,116]⟩:Bt)] :List Bt)))else(if a0.toList=([111,112,116,103,114,111,117,112] :List UInt8)then(some (([(⟨#[111,112,116,103,114,111,117,112]⟩:Bt),(⟨#[111,112,116,105,111,110]⟩:Bt)] :List Bt)))else(if a0.toList=([116,114] :List UInt8)then(some (([(⟨#[116,100]⟩:Bt),(⟨#[116,104]⟩:Bt),(⟨#[116,114]⟩:Bt)] :List Bt)))else(if a0.toList=([116,100] :List UInt8)then(some (([(⟨#[116,100]⟩:Bt),(⟨#[116,104]⟩:Bt)] :List Bt)))else(if a0.toList=([116,104] :List UInt8)then(some (([(⟨#[116,100]⟩:Bt),(⟨#[116,104]⟩:Bt)] :List Bt)))else((dM.f kj1 a0).bind fun t155=>(if t155=true then(some (([(⟨#[116,98,111,100,121]⟩:Bt),(⟨#[116,100]⟩:Bt),(⟨#[116,102,111,111,116]⟩:Bt),(⟨#[116,104]⟩:Bt),(⟨#[116,104,101,97,100]⟩:Bt),(⟨#[116,114]⟩:Bt)] :List Bt)))else((fB.f kj1 a0).bind fun t159=>(if t159=true then(some (([(⟨#[112]⟩:Bt)] :List Bt)))else(some ([] :List Bt))))))))))))=some r:=by rw[if_neg (show¬(false=true) by decide)]at H;first|exact H|(simp only[eq_self]at H⊢;exact H)|(simp only[eq_self,if_true]at H⊢;exact H)
    clear H;have H:=H1;clear H1
    by_cases c7:a0.toList=([100,100] :List UInt8)
    ·rw[if_pos c7]at H
     have wR:(a0.toList==([100,100] :List UInt8))=true:=beq_iff_eq.mpr c7;have c7b1:(a0.toList !=([100,100] :List UInt8))=false:=bne_eq_false_iff_eq.mpr c7;clear c7;obtain⟨y137,EN⟩:∃y_:List Bt,y_=(([(⟨#[100,100]⟩:Bt),(⟨#[100,116]⟩:Bt)] :List Bt)):=⟨_,rfl⟩
     replace H:(some y137)=some r:=by first|(rw[EN];with_reducible exact H)|(have H2_:=(Option.bind_some _ _).symm.trans H;rw[EN];with_reducible exact H2_)|(have H2_:=(Option.bind_some _ _).symm.trans H;with_reducible exact H2_)|with_reducible exact H|(rw[EN];exact H)|exact H
     have Ny137:=ak.mk EN;clear EN;obtain rfl:=Option.some.inj H
     go_wp2_with(first|((with_reducible refine bY (N:=20) rfl ?_);refine Kd.eZ Kd.string _ 9 ?hg (N:=20) ?hd (xs:=([(⟨#[100,100]⟩:Bt),(⟨#[100,116]⟩:Bt)] :List Bt)) (inner:=[.string (⟨#[100,100]⟩:Bt),.string (⟨#[100,116]⟩:Bt)]) (ok:=fun _=>True) (okp:=fun _=>True) ?hr ?hp (fun _ hk=>hk) trivial (Below.refl _ _) (Nat.le_refl _) (by simp) ?_;(case hd=>rfl);(case hg=>rfl);(case hr=>first|(go_simp;done)|(go_simp;rfl));(case hp=>exact(aY.one (show Kd.M Kd.string _ _ _ (⟨#[100,100]⟩:Bt) [.string (⟨#[100,100]⟩:Bt)]from rfl) (aY.one (show Kd.M Kd.string _ _ _ (⟨#[100,116]⟩:Bt) [.string (⟨#[100,116]⟩:Bt)]from rfl) (aY.none _ _))));intro v138 w8 ho9 hb hg_ cu;clear hg_ cu;(first|rw[←Ny137.out]at ho9|(simp only[Int.reduceToNat]at ho9;rw[←Ny137.out]at ho9));have HO139:=ak.mk (Kd.bM ho9 (aJ bz));replace HB:=ak.mk (aN bz hb);clear hb ho9))
     go_ret;exact⟨_,by first|rfl|(simp[aQ,aT]<;>rfl)|(simp[*,aQ,aT]<;>rfl),by(with_reducible repeat(first|apply Kd.aZ|apply Kd.bB|apply Kd.bq));exact HO139.out,bz⟩
    ·rw[if_neg c7]at H
     have wR:(a0.toList==([100,100] :List UInt8))=false:=beq_eq_false_iff_ne.mpr c7;have c7b1:(a0.toList !=([100,100] :List UInt8))=true:=bne_iff_ne.mpr c7
     by_cases c10:a0.toList=([100,116] :List UInt8)
     ·rw[if_pos c10]at H
      have c10b0:(a0.toList==([100,116] :List UInt8))=true:=beq_iff_eq.mpr c10;have c10b1:(a0.toList !=([100,116] :List UInt8))=false:=bne_eq_false_iff_eq.mpr c10;clear c10;obtain⟨y140,EO⟩:∃y_:List Bt,y_=(([(⟨#[100,100]⟩:Bt),(⟨#[100,116]⟩:Bt)] :List Bt)):=⟨_,rfl⟩
      replace H:(some y140)=some r:=by first|(rw[EO];with_reducible exact H)|(have H2_:=(Option.bind_some _ _).symm.trans H;rw[EO];with_reducible exact H2_)|(have H2_:=(Option.bind_some _ _).symm.trans H;with_reducible exact H2_)|with_reducible exact H|(rw[EO];exact H)|exact H
      have Ny140:=ak.mk EO;clear EO;obtain rfl:=Option.some.inj H
      go_wp2_with(first|((with_reducible refine bY (N:=20) rfl ?_);refine Kd.eZ Kd.string _ 9 ?hg (N:=20) ?hd (xs:=([(⟨#[100,100]⟩:Bt),(⟨#[100,116]⟩:Bt)] :List Bt)) (inner:=[.string (⟨#[100,100]⟩:Bt),.string (⟨#[100,116]⟩:Bt)]) (ok:=fun _=>True) (okp:=fun _=>True) ?hr ?hp (fun _ hk=>hk) trivial (Below.refl _ _) (Nat.le_refl _) (by simp) ?_;(case hd=>rfl);(case hg=>rfl);(case hr=>first|(go_simp;done)|(go_simp;rfl));(case hp=>exact(aY.one (show Kd.M Kd.string _ _ _ (⟨#[100,100]⟩:Bt) [.string (⟨#[100,100]⟩:Bt)]from rfl) (aY.one (show Kd.M Kd.string _ _ _ (⟨#[100,116]⟩:Bt) [.string (⟨#[100,116]⟩:Bt)]from rfl) (aY.none _ _))));intro v141 w11 ho12 hb hg_ cu;clear hg_ cu;(first|rw[←Ny140.out]at ho12|(simp only[Int.reduceToNat]at ho12;rw[←Ny140.out]at ho12));have HO142:=ak.mk (Kd.bM ho12 (aJ bz));replace HB:=ak.mk (aN bz hb);clear hb ho12))
      go_ret;exact⟨_,by first|rfl|(simp[aQ,aT]<;>rfl)|(simp[*,aQ,aT]<;>rfl),by(with_reducible repeat(first|apply Kd.aZ|apply Kd.bB|apply Kd.bq));exact HO142.out,bz⟩
     ·rw[if_neg c10]at H
      have c10b0:(a0.toList==([100,116] :List UInt8))=false:=beq_eq_false_iff_ne.mpr c10;have c10b1:(a0.toList !=([100,116] :List UInt8))=true:=bne_iff_ne.mpr c10
      by_cases c13:a0.toList=([111,112,116,103,114,111,117,112] :List UInt8)
      ·rw[if_pos c13]at H
       have c13b0:(a0.toList==([111,112,116,103,114,111,117,112] :List UInt8))=true:=beq_iff_eq.mpr c13;have c13b1:(a0.toList !=([111,112,116,103,114,111,117,112] :List UInt8))=false:=bne_eq_false_iff_eq.mpr c13;clear c13;obtain⟨y143,EP⟩:∃y_:List Bt,y_=(([(⟨#[111,112,116,103,114,111,117,112]⟩:Bt),(⟨#[111,112,116,105,111,110]⟩:Bt)] :List Bt)):=⟨_,rfl⟩
       replace H:(some y143)=some r:=by first|(rw[EP];with_reducible exact H)|(have H2_:=(Option.bind_some _ _).symm.trans H;rw[EP];with_reducible exact H2_)|(have H2_:=(Option.bind_some _ _).symm.trans H;with_reducible exact H2_)|with_reducible exact H|(rw[EP];exact H)|exact H
       have Ny143:=ak.mk EP;clear EP;obtain rfl:=Option.some.inj H
       go_wp2_with(first|((with_reducible refine bY (N:=21) rfl ?_);refine Kd.eZ Kd.string _ 9 ?hg (N:=21) ?hd (xs:=([(⟨#[111,112,116,103,114,111,117,112]⟩:Bt),(⟨#[111,112,116,105,111,110]⟩:Bt)] :List Bt)) (inner:=[.string (⟨#[111,112,116,103,114,111,117,112]⟩:Bt),.string (⟨#[111,112,116,105,111,110]⟩:Bt)]) (ok:=fun _=>True) (okp:=fun _=>True) ?hr ?hp (fun _ hk=>hk) trivial (Below.refl _ _) (Nat.le_refl _) (by simp) ?_;(case hd=>rfl);(case hg=>rfl);(case hr=>first|(go_simp;done)|(go_simp;rfl));(case hp=>exact(aY.one (show Kd.M Kd.string _ _ _ (⟨#[111,112,116,103,114,111,117,112]⟩:Bt) [.string (⟨#[111,112,116,103,114,111,117,112]⟩:Bt)]from rfl) (aY.one (show Kd.M Kd.string _ _ _ (⟨#[111,112,116,105,111,110]⟩:Bt) [.string (⟨#[111,112,116,105,111,110]⟩:Bt)]from rfl) (aY.none _ _))));intro v144 w14 zQ hb hg_ cu;clear hg_ cu;(first|rw[←Ny143.out]at zQ|(simp only[Int.reduceToNat]at zQ;rw[←Ny143.out]at zQ));have HO145:=ak.mk (Kd.bM zQ (aJ bz));replace HB:=ak.mk (aN bz hb);clear hb zQ))
       go_ret;exact⟨_,by first|rfl|(simp[aQ,aT]<;>rfl)|(simp[*,aQ,aT]<;>rfl),by(with_reducible repeat(first|apply Kd.aZ|apply Kd.bB|apply Kd.bq));exact HO145.out,bz⟩
      ·rw[if_neg c13]at H
       have c13b0:(a0.toList==([111,112,116,103,114,111,117,112] :List UInt8))=false:=beq_eq_false_iff_ne.mpr c13;have c13b1:(a0.toList !=([111,112,116,103,114,111,117,112] :List UInt8))=true:=bne_iff_ne.mpr c13
       by_cases c16:a0.toList=([116,114] :List UInt8)
       ·rw[if_pos c16]at H
        have c16b0:(a0.toList==([116,114] :List UInt8))=true:=beq_iff_eq.mpr c16;have c16b1:(a0.toList !=([116,114] :List UInt8))=false:=bne_eq_false_iff_eq.mpr c16;clear c16;obtain⟨y146,ER⟩:∃y_:List Bt,y_=(([(⟨#[116,100]⟩:Bt),(⟨#[116,104]⟩:Bt),(⟨#[116,114]⟩:Bt)] :List Bt)):=⟨_,rfl⟩
        replace H:(some y146)=some r:=by first|(rw[ER];with_reducible exact H)|(have H2_:=(Option.bind_some _ _).symm.trans H;rw[ER];with_reducible exact H2_)|(have H2_:=(Option.bind_some _ _).symm.trans H;with_reducible exact H2_)|with_reducible exact H|(rw[ER];exact H)|exact H
        have Ny146:=ak.mk ER;clear ER;obtain rfl:=Option.some.inj H
        go_wp2_with(first|((with_reducible refine bY (N:=22) rfl ?_);refine Kd.eZ Kd.string _ 9 ?hg (N:=22) ?hd (xs:=([(⟨#[116,100]⟩:Bt),(⟨#[116,104]⟩:Bt),(⟨#[116,114]⟩:Bt)] :List Bt)) (inner:=[.string (⟨#[116,100]⟩:Bt),.string (⟨#[116,104]⟩:Bt),.string (⟨#[116,114]⟩:Bt)]) (ok:=fun _=>True) (okp:=fun _=>True) ?hr ?hp (fun _ hk=>hk) trivial (Below.refl _ _) (Nat.le_refl _) (by simp) ?_;(case hd=>rfl);(case hg=>rfl);(case hr=>first|(go_simp;done)|(go_simp;rfl));(case hp=>exact(aY.one (show Kd.M Kd.string _ _ _ (⟨#[116,100]⟩:Bt) [.string (⟨#[116,100]⟩:Bt)]from rfl) (aY.one (show Kd.M Kd.string _ _ _ (⟨#[116,104]⟩:Bt) [.string (⟨#[116,104]⟩:Bt)]from rfl) (aY.one (show Kd.M Kd.string _ _ _ (⟨#[116,114]⟩:Bt) [.string (⟨#[116,114]⟩:Bt)]from rfl) (aY.none _ _)))));intro v147 w17 rC hb hg_ cu;clear hg_ cu;(first|rw[←Ny146.out]at rC|(simp only[Int.reduceToNat]at rC;rw[←Ny146.out]at rC));have HO148:=ak.mk (Kd.bM rC (aJ bz));replace HB:=ak.mk (aN bz hb);clear hb rC))
        go_ret;exact⟨_,by first|rfl|(simp[aQ,aT]<;>rfl)|(simp[*,aQ,aT]<;>rfl),by(with_reducible repeat(first|apply Kd.aZ|apply Kd.bB|apply Kd.bq));exact HO148.out,bz⟩
       ·rw[if_neg c16]at H
        have c16b0:(a0.toList==([116,114] :List UInt8))=false:=beq_eq_false_iff_ne.mpr c16;have c16b1:(a0.toList !=([116,114] :List UInt8))=true:=bne_iff_ne.mpr c16
        by_cases c19:a0.toList=([116,100] :List UInt8)
        ·rw[if_pos c19]at H
         have xL:(a0.toList==([116,100] :List UInt8))=true:=beq_iff_eq.mpr c19;have c19b1:(a0.toList !=([116,100] :List UInt8))=false:=bne_eq_false_iff_eq.mpr c19;clear c19;obtain⟨y149,ES⟩:∃y_:List Bt,y_=(([(⟨#[116,100]⟩:Bt),(⟨#[116,104]⟩:Bt)] :List Bt)):=⟨_,rfl⟩
         replace H:(some y149)=some r:=by first|(rw[ES];with_reducible exact H)|(have H2_:=(Option.bind_some _ _).symm.trans H;rw[ES];with_reducible exact H2_)|(have H2_:=(Option.bind_some _ _).symm.trans H;with_reducible exact H2_)|with_reducible exact H|(rw[ES];exact H)|exact H
         have Ny149:=ak.mk ES;clear ES;obtain rfl:=Option.some.inj H
         go_wp2_with(first|((with_reducible refine bY (N:=23) rfl ?_);refine Kd.eZ Kd.string _ 9 ?hg (N:=23) ?hd (xs:=([(⟨#[116,100]⟩:Bt),(⟨#[116,104]⟩:Bt)] :List Bt)) (inner:=[.string (⟨#[116,100]⟩:Bt),.string (⟨#[116,104]⟩:Bt)]) (ok:=fun _=>True) (okp:=fun _=>True) ?hr ?hp (fun _ hk=>hk) trivial (Below.refl _ _) (Nat.le_refl _) (by simp) ?_;(case hd=>rfl);(case hg=>rfl);(case hr=>first|(go_simp;done)|(go_simp;rfl));(case hp=>exact(aY.one (show Kd.M Kd.string _ _ _ (⟨#[116,100]⟩:Bt) [.string (⟨#[116,100]⟩:Bt)]from rfl) (aY.one (show Kd.M Kd.string _ _ _ (⟨#[116,104]⟩:Bt) [.string (⟨#[116,104]⟩:Bt)]from rfl) (aY.none _ _))));intro v150 w20 qc hb hg_ cu;clear hg_ cu;(first|rw[←Ny149.out]at qc|(simp only[Int.reduceToNat]at qc;rw[←Ny149.out]at qc));have HO151:=ak.mk (Kd.bM qc (aJ bz));replace HB:=ak.mk (aN bz hb);clear hb qc))
         go_ret;exact⟨_,by first|rfl|(simp[aQ,aT]<;>rfl)|(simp[*,aQ,aT]<;>rfl),by(with_reducible repeat(first|apply Kd.aZ|apply Kd.bB|apply Kd.bq));exact HO151.out,bz⟩
        ·rw[if_neg c19]at H
         have xL:(a0.toList==([116,100] :List UInt8))=false:=beq_eq_false_iff_ne.mpr c19;have c19b1:(a0.toList !=([116,100] :List UInt8))=true:=bne_iff_ne.mpr c19
         by_cases c22:a0.toList=([116,104] :List UInt8)
         ·rw[if_pos c22]at H
          have c22b0:(a0.toList==([116,104] :List UInt8))=true:=beq_iff_eq.mpr c22;have c22b1:(a0.toList !=([116,104] :List UInt8))=false:=bne_eq_false_iff_eq.mpr c22;clear c22;obtain⟨y152,hy152⟩:∃y_:List Bt,y_=(([(⟨#[116,100]⟩:Bt),(⟨#[116,104]⟩:Bt)] :List Bt)):=⟨_,rfl⟩
          replace H:(some y152)=some r:=by first|(rw[hy152];with_reducible exact H)|(have H2_:=(Option.bind_some _ _).symm.trans H;rw[hy152];with_reducible exact H2_)|(have H2_:=(Option.bind_some _ _).symm.trans H;with_reducible exact H2_)|with_reducible exact H|(rw[hy152];exact H)|exact H
          have Ny152:=ak.mk hy152;clear hy152;obtain rfl:=Option.some.inj H
          go_wp2_with(first|((with_reducible refine bY (N:=23) rfl ?_);refine Kd.eZ Kd.string _ 9 ?hg (N:=23) ?hd (xs:=([(⟨#[116,100]⟩:Bt),(⟨#[116,104]⟩:Bt)] :List Bt)) (inner:=[.string (⟨#[116,100]⟩:Bt),.string (⟨#[116,104]⟩:Bt)]) (ok:=fun _=>True) (okp:=fun _=>True) ?hr ?hp (fun _ hk=>hk) trivial (Below.refl _ _) (Nat.le_refl _) (by simp) ?_;(case hd=>rfl);(case hg=>rfl);(case hr=>first|(go_simp;done)|(go_simp;rfl));(case hp=>exact(aY.one (show Kd.M Kd.string _ _ _ (⟨#[116,100]⟩:Bt) [.string (⟨#[116,100]⟩:Bt)]from rfl) (aY.one (show Kd.M Kd.string _ _ _ (⟨#[116,104]⟩:Bt) [.string (⟨#[116,104]⟩:Bt)]from rfl) (aY.none _ _))));intro v153 w23 ho24 hb hg_ cu;clear hg_ cu;(first|rw[←Ny152.out]at ho24|(simp only[Int.reduceToNat]at ho24;rw[←Ny152.out]at ho24));have HO154:=ak.mk (Kd.bM ho24 (aJ bz));replace HB:=ak.mk (aN bz hb);clear hb ho24))
          go_ret;exact⟨_,by first|rfl|(simp[aQ,aT]<;>rfl)|(simp[*,aQ,aT]<;>rfl),by(with_reducible repeat(first|apply Kd.aZ|apply Kd.bB|apply Kd.bq));exact HO154.out,bz⟩
         ·rw[if_neg c22]at H
          have c22b0:(a0.toList==([116,104] :List UInt8))=false:=beq_eq_false_iff_ne.mpr c22;have c22b1:(a0.toList !=([116,104] :List UInt8))=true:=bne_iff_ne.mpr c22;replace H:=Option.bind_eq_some_iff.mp H;obtain⟨t155,A250,H⟩:=H;replace H:(if t155=true then(some (([(⟨#[116,98,111,100,121]⟩:Bt),(⟨#[116,100]⟩:Bt),(⟨#[116,102,111,111,116]⟩:Bt),(⟨#[116,104]⟩:Bt),(⟨#[116,104,101,97,100]⟩:Bt),(⟨#[116,114]⟩:Bt)] :List Bt)))else((fB.f kj1 a0).bind fun t159=>(if t159=true then(some (([(⟨#[112]⟩:Bt)] :List Bt)))else(some ([] :List Bt)))))=some r:=H;have A25:=ak.mk A250;clear A250
          by_cases c26:t155=true
          ·subst c26
           have H1:(some (([(⟨#[116,98,111,100,121]⟩:Bt),(⟨#[116,100]⟩:Bt),(⟨#[116,102,111,111,116]⟩:Bt),(⟨#[116,104]⟩:Bt),(⟨#[116,104,101,97,100]⟩:Bt),(⟨#[116,114]⟩:Bt)] :List Bt)))=some r:=by rw[if_pos rfl]at H;exact H
           clear H;have H:=H1;clear H1;obtain⟨y156,ET⟩:∃y_:List Bt,y_=(([(⟨#[116,98,111,100,121]⟩:Bt),(⟨#[116,100]⟩:Bt),(⟨#[116,102,111,111,116]⟩:Bt),(⟨#[116,104]⟩:Bt),(⟨#[116,104,101,97,100]⟩:Bt),(⟨#[116,114]⟩:Bt)] :List Bt)):=⟨_,rfl⟩
           replace H:(some y156)=some r:=by first|(rw[ET];with_reducible exact H)|(have H2_:=(Option.bind_some _ _).symm.trans H;rw[ET];with_reducible exact H2_)|(have H2_:=(Option.bind_some _ _).symm.trans H;with_reducible exact H2_)|with_reducible exact H|(rw[ET];exact H)|exact H
           have Ny156:=ak.mk ET;clear ET;obtain rfl:=Option.some.inj H
           go_wp2_with(first|((with_reducible refine bC (f:=82) rfl ?_);refine dH (some 25) rfl rfl Tryz.func82 (by kernel_rfl) rfl #[.string a0] rfl q'a ?_;(with_reducible refine(dM.calls kj1 a0 true _ A25.out).mono ?_);rintro e w27 ⟨rfl,hb⟩;refine⟨_,rfl,?_⟩;replace HB:=ak.mk (aN bz hb);(try clear hb);(try clear hb2);(try clear hk);(try clear hi))|((with_reducible refine bY (N:=26) rfl ?_);refine Kd.eZ Kd.string _ 9 ?hg (N:=26) ?hd (xs:=([(⟨#[116,98,111,100,121]⟩:Bt),(⟨#[116,100]⟩:Bt),(⟨#[116,102,111,111,116]⟩:Bt),(⟨#[116,104]⟩:Bt),(⟨#[116,104,101,97,100]⟩:Bt),(⟨#[116,114]⟩:Bt)] :List Bt)) (inner:=[.string (⟨#[116,98,111,100,121]⟩:Bt),.string (⟨#[116,100]⟩:Bt),.string (⟨#[116,102,111,111,116]⟩:Bt),.string (⟨#[116,104]⟩:Bt),.string (⟨#[116,104,101,97,100]⟩:Bt),.string (⟨#[116,114]⟩:Bt)]) (ok:=fun _=>True) (okp:=fun _=>True) ?hr ?hp (fun _ hk=>hk) trivial (Below.refl _ _) (Nat.le_refl _) (by simp) ?_;(case hd=>rfl);(case hg=>rfl);(case hr=>first|(go_simp;done)|(go_simp;rfl));(case hp=>exact(aY.one (show Kd.M Kd.string _ _ _ (⟨#[116,98,111,100,121]⟩:Bt) [.string (⟨#[116,98,111,100,121]⟩:Bt)]from rfl) (aY.one (show Kd.M Kd.string _ _ _ (⟨#[116,100]⟩:Bt) [.string (⟨#[116,100]⟩:Bt)]from rfl) (aY.one (show Kd.M Kd.string _ _ _ (⟨#[116,102,111,111,116]⟩:Bt) [.string (⟨#[116,102,111,111,116]⟩:Bt)]from rfl) (aY.one (show Kd.M Kd.string _ _ _ (⟨#[116,104]⟩:Bt) [.string (⟨#[116,104]⟩:Bt)]from rfl) (aY.one (show Kd.M Kd.string _ _ _ (⟨#[116,104,101,97,100]⟩:Bt) [.string (⟨#[116,104,101,97,100]⟩:Bt)]from rfl) (aY.one (show Kd.M Kd.string _ _ _ (⟨#[116,114]⟩:Bt) [.string (⟨#[116,114]⟩:Bt)]from rfl) (aY.none _ _))))))));intro v157 w28 ho29 hb hg_ cu;clear hg_ cu;(first|rw[←Ny156.out]at ho29|(simp only[Int.reduceToNat]at ho29;rw[←Ny156.out]at ho29));have HO158:=ak.mk (Kd.bM ho29 (aJ bz));replace HB:=ak.mk (aN bz hb);clear hb ho29))
           go_ret;exact⟨_,by first|rfl|(simp[aQ,aT]<;>rfl)|(simp[*,aQ,aT]<;>rfl),by(with_reducible repeat(first|apply Kd.aZ|apply Kd.bB|apply Kd.bq));exact HO158.out,bz⟩
          ·replace c26:=Bool.eq_false_iff.mpr c26
           subst c26;have H1:((fB.f kj1 a0).bind fun t159=>(if t159=true then(some (([(⟨#[112]⟩:Bt)] :List Bt)))else(some ([] :List Bt))))=some r:=by rw[if_neg (show¬(false=true) by decide)]at H;first|exact H|(simp only[eq_self]at H⊢;exact H)|(simp only[eq_self,if_true]at H⊢;exact H)
           clear H;have H:=H1;clear H1;replace H:=Option.bind_eq_some_iff.mp H;obtain⟨t159,A300,H⟩:=H;replace H:(if t159=true then(some (([(⟨#[112]⟩:Bt)] :List Bt)))else(some ([] :List Bt)))=some r:=H;have A30:=ak.mk A300;clear A300
           by_cases c31:t159=true
           ·subst c31
            have H1:(some (([(⟨#[112]⟩:Bt)] :List Bt)))=some r:=by rw[if_pos rfl]at H;exact H
            clear H;have H:=H1;clear H1;obtain⟨y160,hy160⟩:∃y_:List Bt,y_=(([(⟨#[112]⟩:Bt)] :List Bt)):=⟨_,rfl⟩
            replace H:(some y160)=some r:=by first|(rw[hy160];with_reducible exact H)|(have H2_:=(Option.bind_some _ _).symm.trans H;rw[hy160];with_reducible exact H2_)|(have H2_:=(Option.bind_some _ _).symm.trans H;with_reducible exact H2_)|with_reducible exact H|(rw[hy160];exact H)|exact H
            have Ny160:=ak.mk hy160;clear hy160;obtain rfl:=Option.some.inj H
            go_wp2_with(first|((with_reducible refine bC (f:=82) rfl ?_);refine dH (some 25) rfl rfl Tryz.func82 (by kernel_rfl) rfl #[.string a0] rfl q'a ?_;(with_reducible refine(dM.calls kj1 a0 false _ A25.out).mono ?_);rintro e w32 ⟨rfl,hb⟩;refine⟨_,rfl,?_⟩;replace HB:=ak.mk (aN bz hb);(try clear hb);(try clear hb2);(try clear hk);(try clear hi))|((with_reducible refine bC (f:=83) rfl ?_);refine dH (some 28) rfl rfl Tryz.func83 (by kernel_rfl) rfl #[.string a0] rfl q'a ?_;(with_reducible refine(fB.calls kj1 a0 true _ A30.out).mono ?_);rintro e w33 ⟨rfl,hb⟩;refine⟨_,rfl,?_⟩;replace HB:=ak.mk (aN bz hb);(try clear hb);(try clear hb2);(try clear hk);(try clear hi))|((with_reducible refine bY (N:=29) rfl ?_);refine Kd.eZ Kd.string _ 9 ?hg (N:=29) ?hd (xs:=([(⟨#[112]⟩:Bt)] :List Bt)) (inner:=[.string (⟨#[112]⟩:Bt)]) (ok:=fun _=>True) (okp:=fun _=>True) ?hr ?hp (fun _ hk=>hk) trivial (Below.refl _ _) (Nat.le_refl _) (by simp) ?_;(case hd=>rfl);(case hg=>rfl);(case hr=>first|(go_simp;done)|(go_simp;rfl));(case hp=>exact(aY.one (show Kd.M Kd.string _ _ _ (⟨#[112]⟩:Bt) [.string (⟨#[112]⟩:Bt)]from rfl) (aY.none _ _)));intro v161 w34 ho35 hb hg_ cu;clear hg_ cu;(first|rw[←Ny160.out]at ho35|(simp only[Int.reduceToNat]at ho35;rw[←Ny160.out]at ho35));have HO162:=ak.mk (Kd.bM ho35 (aJ bz));replace HB:=ak.mk (aN bz hb);clear hb ho35))
            go_ret;exact⟨_,by first|rfl|(simp[aQ,aT]<;>rfl)|(simp[*,aQ,aT]<;>rfl),by(with_reducible repeat(first|apply Kd.aZ|apply Kd.bB|apply Kd.bq));exact HO162.out,bz⟩
           ·replace c31:=Bool.eq_false_iff.mpr c31
            subst c31;have H1:(some ([] :List Bt))=some r:=by rw[if_neg (show¬(false=true) by decide)]at H;first|exact H|(simp only[eq_self]at H⊢;exact H)|(simp only[eq_self,if_true]at H⊢;exact H)
            clear H;have H:=H1;clear H1;obtain rfl:=Option.some.inj H
            go_wp2_with(first|((with_reducible refine bC (f:=82) rfl ?_);refine dH (some 25) rfl rfl Tryz.func82 (by kernel_rfl) rfl #[.string a0] rfl q'a ?_;(with_reducible refine(dM.calls kj1 a0 false _ A25.out).mono ?_);rintro e w36 ⟨rfl,hb⟩;refine⟨_,rfl,?_⟩;replace HB:=ak.mk (aN bz hb);(try clear hb);(try clear hb2);(try clear hk);(try clear hi))|((with_reducible refine bC (f:=83) rfl ?_);refine dH (some 28) rfl rfl Tryz.func83 (by kernel_rfl) rfl #[.string a0] rfl q'a ?_;(with_reducible refine(fB.calls kj1 a0 false _ A30.out).mono ?_);rintro e w37 ⟨rfl,hb⟩;refine⟨_,rfl,?_⟩;replace HB:=ak.mk (aN bz hb);(try clear hb);(try clear hb2);(try clear hk);(try clear hi)))
            go_ret;exact⟨_,by first|rfl|(simp[aQ,aT]<;>rfl)|(simp[*,aQ,aT]<;>rfl),by first|exact Kd.iJ _ _ _ _ _|exact Kd.uU _ _ _ _ _|exact Kd.uV _ _ _ _ _|exact Kd.uW _ _ _ _ _|exact Kd.uX _ _ _ _ _,bz⟩
end Go.Proofs.aj.W7
