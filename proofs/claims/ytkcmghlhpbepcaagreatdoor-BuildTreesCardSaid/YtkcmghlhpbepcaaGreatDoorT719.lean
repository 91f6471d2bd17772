/- Lemmas and walks, part 19. -/
import Derived.Test.YtkcmghlhpbepcaaGreatDoorT712
import Derived.Test.YtkcmghlhpbepcaaGreatDoorT717
set_option linter.unusedVariables false
set_option linter.unusedSimpArgs false
set_option maxHeartbeats 8000000
set_option maxRecDepth 100000
namespace Go.Proofs.aj.W7
open Go.RowKit Go.Proofs.ah.aG Go.Proofs.ah.bX Go.Proofs.ah.dN
attribute [local go_sem] dZ d9 eU eX dS dU eu eB
mutual
def aV.j0:Nat→Bt→Bool→Option (List Bt)
 |0,_,_=>none
 |k+1,x0,x11=>if x11=true then(some (([(⟨#[100,108]⟩:Bt),(⟨#[116,101,109,112,108,97,116,101]⟩:Bt)] :List Bt)))else(if x0.toList=([111,112,116,105,111,110] :List UInt8)then(aV.j1 k x0 true)else(aV.j1 k x0 (x0.toList==([111,112,116,103,114,111,117,112] :List UInt8))))
def aV.j1:Nat→Bt→Bool→Option (List Bt)
 |0,_,_=>none
 |k+1,x0,x18=>if x18=true then(some (([(⟨#[115,101,108,101,99,116]⟩:Bt),(⟨#[116,101,109,112,108,97,116,101]⟩:Bt)] :List Bt)))else((bN.f).bind fun z8=>((aM.f k z8 x0).bind fun t281=>(if t281=true then(some (([(⟨#[116,97,98,108,101]⟩:Bt),(⟨#[116,101,109,112,108,97,116,101]⟩:Bt)] :List Bt)))else(some (([(⟨#[98,117,116,116,111,110]⟩:Bt),(⟨#[99,97,112,116,105,111,110]⟩:Bt),(⟨#[116,97,98,108,101]⟩:Bt),(⟨#[116,100]⟩:Bt),(⟨#[116,101,109,112,108,97,116,101]⟩:Bt),(⟨#[116,104]⟩:Bt)] :List Bt))))))
end
def aV.f(k:Nat)(a0:Bt):Option (List Bt):=if a0.toList=([108,105] :List UInt8)then(some (([(⟨#[109,101,110,117]⟩:Bt),(⟨#[111,108]⟩:Bt),(⟨#[116,101,109,112,108,97,116,101]⟩:Bt),(⟨#[117,108]⟩:Bt)] :List Bt)))else(if a0.toList=([100,100] :List UInt8)then(aV.j0 k a0 true)else(aV.j0 k a0 (a0.toList==([100,116] :List UInt8))))
theorem aV.calls(k:Nat)(a0:Bt)(r:List Bt)(w:World)(h:aV.f k a0=some r):
 Calls Tryz.prog 108 #[.string a0] w fun e w'=>∃v0_:Value,e=.returned (v0_)∧Kd.R Kd.string 9 w' w.heap.size (fun _=>True) v0_ r∧Below w.heap.size w w':=by
 have HB:=ak.mk (Below.refl w.heap.size w);have H:(if a0.toList=([108,105] :List UInt8)then(some (([(⟨#[109,101,110,117]⟩:Bt),(⟨#[111,108]⟩:Bt),(⟨#[116,101,109,112,108,97,116,101]⟩:Bt),(⟨#[117,108]⟩:Bt)] :List Bt)))else(if a0.toList=([100,100] :List UInt8)then(aV.j0 k a0 true)else(aV.j0 k a0 (a0.toList==([100,116] :List UInt8)))))=some r:=h;clear h
 by_cases c2:a0.toList=([108,105] :List UInt8)
 ·rw[if_pos c2]at H
  have c2b0:(a0.toList==([108,105] :List UInt8))=true:=beq_iff_eq.mpr c2;have c2b1:(a0.toList !=([108,105] :List UInt8))=false:=bne_eq_false_iff_eq.mpr c2;clear c2;obtain⟨y269,FB⟩:∃y_:List Bt,y_=(([(⟨#[109,101,110,117]⟩:Bt),(⟨#[111,108]⟩:Bt),(⟨#[116,101,109,112,108,97,116,101]⟩:Bt),(⟨#[117,108]⟩:Bt)] :List Bt)):=⟨_,rfl⟩
  replace H:(some y269)=some r:=by first|(rw[FB];with_reducible exact H)|(have H2_:=(Option.bind_some _ _).symm.trans H;rw[FB];with_reducible exact H2_)|(have H2_:=(Option.bind_some _ _).symm.trans H;with_reducible exact H2_)|with_reducible exact H|(rw[FB];exact H)|exact H
  have Ny269:=ak.mk FB;clear FB;obtain rfl:=Option.some.inj H;go_enter Tryz.func108,Tryz.ntmps108
  go_wp2_with(first|((with_reducible refine bY (N:=5) rfl ?_);refine Kd.eZ Kd.string _ 9 ?hg (N:=5) ?hd (xs:=([(⟨#[109,101,110,117]⟩:Bt),(⟨#[111,108]⟩:Bt),(⟨#[116,101,109,112,108,97,116,101]⟩:Bt),(⟨#[117,108]⟩:Bt)] :List Bt)) (inner:=[.string (⟨#[109,101,110,117]⟩:Bt),.string (⟨#[111,108]⟩:Bt),.string (⟨#[116,101,109,112,108,97,116,101]⟩:Bt),.string (⟨#[117,108]⟩:Bt)]) (ok:=fun _=>True) (okp:=fun _=>True) ?hr ?hp (fun _ hk=>hk) trivial (Below.refl _ _) (Nat.le_refl _) (by simp) ?_;(case hd=>rfl);(case hg=>rfl);(case hr=>first|(go_simp;done)|(go_simp;rfl));(case hp=>exact(aY.one (show Kd.M Kd.string _ _ _ (⟨#[109,101,110,117]⟩:Bt) [.string (⟨#[109,101,110,117]⟩:Bt)]from rfl) (aY.one (show Kd.M Kd.string _ _ _ (⟨#[111,108]⟩:Bt) [.string (⟨#[111,108]⟩:Bt)]from rfl) (aY.one (show Kd.M Kd.string _ _ _ (⟨#[116,101,109,112,108,97,116,101]⟩:Bt) [.string (⟨#[116,101,109,112,108,97,116,101]⟩:Bt)]from rfl) (aY.one (show Kd.M Kd.string _ _ _ (⟨#[117,108]⟩:Bt) [.string (⟨#[117,108]⟩:Bt)]from rfl) (aY.none _ _))))));intro v270 w3 ho4 hb hg_ cu;clear hg_ cu;(first|rw[←Ny269.out]at ho4|(simp only[Int.reduceToNat]at ho4;rw[←Ny269.out]at ho4));have HO271:=ak.mk (Kd.bM ho4 (aJ bz));replace HB:=ak.mk (aN bz hb);clear hb ho4))
  go_ret;exact⟨_,by first|rfl|(simp[aQ,aT]<;>rfl)|(simp[*,aQ,aT]<;>rfl),by(with_reducible repeat(first|apply Kd.aZ|apply Kd.bB|apply Kd.bq));exact HO271.out,bz⟩
 ·rw[if_neg c2]at H
  have c2b0:(a0.toList==([108,105] :List UInt8))=false:=beq_eq_false_iff_ne.mpr c2;have c2b1:(a0.toList !=([108,105] :List UInt8))=true:=bne_iff_ne.mpr c2;have HC5:=ak.mk H;clear H;go_enter Tryz.func108,Tryz.ntmps108
  go_upto_region 3 with(fail)
  go_cut [11] (fun v11 wc=>∃(kq:Nat) (x11_4:Bool),v11=.bool x11_4∧ak (aV.j0 kq a0 x11_4=some r)∧ak (kq≤k)∧ak (Below w.heap.size w wc))
  case first=>
   have H:=HC5.out;clear HC5
   by_cases c6:a0.toList=([100,100] :List UInt8)
   ·rw[if_pos c6]at H
    have mo:(a0.toList==([100,100] :List UInt8))=true:=beq_iff_eq.mpr c6;have c6b1:(a0.toList !=([100,100] :List UInt8))=false:=bne_eq_false_iff_eq.mpr c6;clear c6
    (first|rw[mo] |(simp only[gM,gX];rw[mo])|skip)
    have H':=ak.mk H;clear H;go_wp2
    go_meet
    case rel=>exact⟨_,(true),q'c,H',⟨by first|omega|exact Nat.le_refl _⟩,⟨bz⟩⟩
   ·rw[if_neg c6]at H
    have mo:(a0.toList==([100,100] :List UInt8))=false:=beq_eq_false_iff_ne.mpr c6;have c6b1:(a0.toList !=([100,100] :List UInt8))=true:=bne_iff_ne.mpr c6
    (first|rw[mo] |(simp only[gM,gX];rw[mo])|skip)
    have H':=ak.mk H;clear H;go_wp2
    go_meet
    case rel=>exact⟨_,((a0.toList==([100,116] :List UInt8))),q'c,H',⟨by first|omega|exact Nat.le_refl _⟩,⟨bz⟩⟩
  case rest=>
   clear HC5
   try clear c1
   try clear c2
   try clear c2b0
   try clear c2b1
   try clear p2
   try clear c6
   try clear mo
   try clear c6b1
   obtain⟨kq,x11_4,rfl,HA,HJ4,HB⟩:=hcut;cases kq with
   |zero=>exact absurd HA.out (by simp[aV.j0])
   |succ kj4=>
    have H:=HA.out;clear HA;simp only[aV.j0]at H
    by_cases c7:x11_4=true
    ·subst c7
     have H1:(some (([(⟨#[100,108]⟩:Bt),(⟨#[116,101,109,112,108,97,116,101]⟩:Bt)] :List Bt)))=some r:=by rw[if_pos rfl]at H;exact H
     clear H;have H:=H1;clear H1;obtain⟨y272,FC⟩:∃y_:List Bt,y_=(([(⟨#[100,108]⟩:Bt),(⟨#[116,101,109,112,108,97,116,101]⟩:Bt)] :List Bt)):=⟨_,rfl⟩
     replace H:(some y272)=some r:=by first|(rw[FC];with_reducible exact H)|(have H2_:=(Option.bind_some _ _).symm.trans H;rw[FC];with_reducible exact H2_)|(have H2_:=(Option.bind_some _ _).symm.trans H;with_reducible exact H2_)|with_reducible exact H|(rw[FC];exact H)|exact H
     have Ny272:=ak.mk FC;clear FC;obtain rfl:=Option.some.inj H
     go_wp2_with(first|((with_reducible refine bY (N:=12) rfl ?_);refine Kd.eZ Kd.string _ 9 ?hg (N:=12) ?hd (xs:=([(⟨#[100,108]⟩:Bt),(⟨#[116,101,109,112,108,97,116,101]⟩:Bt)] :List Bt)) (inner:=[.string (⟨#[100,108]⟩:Bt),.string (⟨#[116,101,109,112,108,97,116,101]⟩:Bt)]) (ok:=fun _=>True) (okp:=fun _=>True) ?hr ?hp (fun _ hk=>hk) trivial (Below.refl _ _) (Nat.le_refl _) (by simp) ?_;(case hd=>rfl);(case hg=>rfl);(case hr=>first|(go_simp;done)|(go_simp;rfl));(case hp=>exact(aY.one (show Kd.M Kd.string _ _ _ (⟨#[100,108]⟩:Bt) [.string (⟨#[100,108]⟩:Bt)]from rfl) (aY.one (show Kd.M Kd.string _ _ _ (⟨#[116,101,109,112,108,97,116,101]⟩:Bt) [.string (⟨#[116,101,109,112,108,97,116,101]⟩:Bt)]from rfl) (aY.none _ _))));intro v273 w8 ho9 hb hg_ cu;clear hg_ cu;(first|rw[←Ny272.out]at ho9|(simp only[Int.reduceToNat]at ho9;rw[←Ny272.out]at ho9));have HO274:=ak.mk (Kd.bM ho9 (aJ bz));replace HB:=ak.mk (aN bz hb);clear hb ho9))
     go_ret;exact⟨_,by first|rfl|(simp[aQ,aT]<;>rfl)|(simp[*,aQ,aT]<;>rfl),by(with_reducible repeat(first|apply Kd.aZ|apply Kd.bB|apply Kd.bq));exact HO274.out,bz⟩
    ·replace c7:=Bool.eq_false_iff.mpr c7
     subst c7;have H1:(if a0.toList=([111,112,116,105,111,110] :List UInt8)then(aV.j1 kj4 a0 true)else(aV.j1 kj4 a0 (a0.toList==([111,112,116,103,114,111,117,112] :List UInt8))))=some r:=by rw[if_neg (show¬(false=true) by decide)]at H;first|exact H|(simp only[eq_self]at H⊢;exact H)|(simp only[eq_self,if_true]at H⊢;exact H)
     clear H;have H:=H1;clear H1;have HC10:=ak.mk H;clear H
     go_upto_region 5 with(fail)
     go_cut [18] (fun v18 wc=>∃(kq:Nat) (x18_9:Bool),v18=.bool x18_9∧ak (aV.j1 kq a0 x18_9=some r)∧ak (kq≤kj4)∧ak (Below w.heap.size w wc))
     case first=>
      have H:=HC10.out;clear HC10
      by_cases c11:a0.toList=([111,112,116,105,111,110] :List UInt8)
      ·rw[if_pos c11]at H
       have mQ:(a0.toList==([111,112,116,105,111,110] :List UInt8))=true:=beq_iff_eq.mpr c11;have vD:(a0.toList !=([111,112,116,105,111,110] :List UInt8))=false:=bne_eq_false_iff_eq.mpr c11;clear c11
       (first|rw[mQ] |(simp only[gM,gX];rw[mQ])|skip)
       have H':=ak.mk H;clear H;go_wp2
       go_meet
       case rel=>exact⟨_,(true),q'c,H',⟨by have:=HJ4.out;first|omega|exact Nat.le_refl _⟩,⟨bz⟩⟩
      ·rw[if_neg c11]at H
       have mQ:(a0.toList==([111,112,116,105,111,110] :List UInt8))=false:=beq_eq_false_iff_ne.mpr c11;have vD:(a0.toList !=([111,112,116,105,111,110] :List UInt8))=true:=bne_iff_ne.mpr c11
       (first|rw[mQ] |(simp only[gM,gX];rw[mQ])|skip)
       have H':=ak.mk H;clear H;go_wp2
       go_meet
       case rel=>exact⟨_,((a0.toList==([111,112,116,103,114,111,117,112] :List UInt8))),q'c,H',⟨by have:=HJ4.out;first|omega|exact Nat.le_refl _⟩,⟨bz⟩⟩
     case rest=>
      clear HC10
      try clear c1
      try clear c2
      try clear c2b0
      try clear c2b1
      try clear p2
      try clear c6
      try clear mo
      try clear c6b1
      try clear c7
      try clear c10
      try clear c11
      try clear mQ
      try clear vD
      try clear p2
      obtain⟨kq,x18_9,rfl,HA,HJ9,HB⟩:=hcut;cases kq with
      |zero=>exact absurd HA.out (by simp[aV.j1])
      |succ kj9=>
       have H:=HA.out;clear HA;simp only[aV.j1]at H
       by_cases c12:x18_9=true
       ·subst c12
        have H1:(some (([(⟨#[115,101,108,101,99,116]⟩:Bt),(⟨#[116,101,109,112,108,97,116,101]⟩:Bt)] :List Bt)))=some r:=by rw[if_pos rfl]at H;exact H
        clear H;have H:=H1;clear H1;obtain⟨y275,FD⟩:∃y_:List Bt,y_=(([(⟨#[115,101,108,101,99,116]⟩:Bt),(⟨#[116,101,109,112,108,97,116,101]⟩:Bt)] :List Bt)):=⟨_,rfl⟩
        replace H:(some y275)=some r:=by first|(rw[FD];with_reducible exact H)|(have H2_:=(Option.bind_some _ _).symm.trans H;rw[FD];with_reducible exact H2_)|(have H2_:=(Option.bind_some _ _).symm.trans H;with_reducible exact H2_)|with_reducible exact H|(rw[FD];exact H)|exact H
        have Ny275:=ak.mk FD;clear FD;obtain rfl:=Option.some.inj H
        go_wp2_with(first|((with_reducible refine bY (N:=19) rfl ?_);refine Kd.eZ Kd.string _ 9 ?hg (N:=19) ?hd (xs:=([(⟨#[115,101,108,101,99,116]⟩:Bt),(⟨#[116,101,109,112,108,97,116,101]⟩:Bt)] :List Bt)) (inner:=[.string (⟨#[115,101,108,101,99,116]⟩:Bt),.string (⟨#[116,101,109,112,108,97,116,101]⟩:Bt)]) (ok:=fun _=>True) (okp:=fun _=>True) ?hr ?hp (fun _ hk=>hk) trivial (Below.refl _ _) (Nat.le_refl _) (by simp) ?_;(case hd=>rfl);(case hg=>rfl);(case hr=>first|(go_simp;done)|(go_simp;rfl));(case hp=>exact(aY.one (show Kd.M Kd.string _ _ _ (⟨#[115,101,108,101,99,116]⟩:Bt) [.string (⟨#[115,101,108,101,99,116]⟩:Bt)]from rfl) (aY.one (show Kd.M Kd.string _ _ _ (⟨#[116,101,109,112,108,97,116,101]⟩:Bt) [.string (⟨#[116,101,109,112,108,97,116,101]⟩:Bt)]from rfl) (aY.none _ _))));intro v276 w13 zZ hb hg_ cu;clear hg_ cu;(first|rw[←Ny275.out]at zZ|(simp only[Int.reduceToNat]at zZ;rw[←Ny275.out]at zZ));have HO277:=ak.mk (Kd.bM zZ (aJ bz));replace HB:=ak.mk (aN bz hb);clear hb zZ))
        go_ret;exact⟨_,by first|rfl|(simp[aQ,aT]<;>rfl)|(simp[*,aQ,aT]<;>rfl),by(with_reducible repeat(first|apply Kd.aZ|apply Kd.bB|apply Kd.bq));exact HO277.out,bz⟩
       ·replace c12:=Bool.eq_false_iff.mpr c12
        subst c12;have H1:((bN.f).bind fun z8=>((aM.f kj9 z8 a0).bind fun t281=>(if t281=true then(some (([(⟨#[116,97,98,108,101]⟩:Bt),(⟨#[116,101,109,112,108,97,116,101]⟩:Bt)] :List Bt)))else(some (([(⟨#[98,117,116,116,111,110]⟩:Bt),(⟨#[99,97,112,116,105,111,110]⟩:Bt),(⟨#[116,97,98,108,101]⟩:Bt),(⟨#[116,100]⟩:Bt),(⟨#[116,101,109,112,108,97,116,101]⟩:Bt),(⟨#[116,104]⟩:Bt)] :List Bt))))))=some r:=by rw[if_neg (show¬(false=true) by decide)]at H;first|exact H|(simp only[eq_self]at H⊢;exact H)|(simp only[eq_self,if_true]at H⊢;exact H)
        clear H;have H:=H1;clear H1;replace H:=Option.bind_eq_some_iff.mp H;obtain⟨z8,A150,H⟩:=H;replace H:((aM.f kj9 z8 a0).bind fun t281=>(if t281=true then(some (([(⟨#[116,97,98,108,101]⟩:Bt),(⟨#[116,101,109,112,108,97,116,101]⟩:Bt)] :List Bt)))else(some (([(⟨#[98,117,116,116,111,110]⟩:Bt),(⟨#[99,97,112,116,105,111,110]⟩:Bt),(⟨#[116,97,98,108,101]⟩:Bt),(⟨#[116,100]⟩:Bt),(⟨#[116,101,109,112,108,97,116,101]⟩:Bt),(⟨#[116,104]⟩:Bt)] :List Bt)))))=some r:=H;have A15:=ak.mk A150;clear A150;replace H:=Option.bind_eq_some_iff.mp H;obtain⟨t281,A160,H⟩:=H;replace H:(if t281=true then(some (([(⟨#[116,97,98,108,101]⟩:Bt),(⟨#[116,101,109,112,108,97,116,101]⟩:Bt)] :List Bt)))else(some (([(⟨#[98,117,116,116,111,110]⟩:Bt),(⟨#[99,97,112,116,105,111,110]⟩:Bt),(⟨#[116,97,98,108,101]⟩:Bt),(⟨#[116,100]⟩:Bt),(⟨#[116,101,109,112,108,97,116,101]⟩:Bt),(⟨#[116,104]⟩:Bt)] :List Bt))))=some r:=H;have A16:=ak.mk A160;clear A160
        by_cases c17:t281=true
        ·subst c17
         have H1:(some (([(⟨#[116,97,98,108,101]⟩:Bt),(⟨#[116,101,109,112,108,97,116,101]⟩:Bt)] :List Bt)))=some r:=by rw[if_pos rfl]at H;exact H
         clear H;have H:=H1;clear H1;obtain⟨y282,FE⟩:∃y_:List Bt,y_=(([(⟨#[116,97,98,108,101]⟩:Bt),(⟨#[116,101,109,112,108,97,116,101]⟩:Bt)] :List Bt)):=⟨_,rfl⟩
         replace H:(some y282)=some r:=by first|(rw[FE];with_reducible exact H)|(have H2_:=(Option.bind_some _ _).symm.trans H;rw[FE];with_reducible exact H2_)|(have H2_:=(Option.bind_some _ _).symm.trans H;with_reducible exact H2_)|with_reducible exact H|(rw[FE];exact H)|exact H
         have Ny282:=ak.mk FE;clear FE;obtain rfl:=Option.some.inj H
         go_wp2_with(first|((with_reducible refine bC (f:=110) rfl ?_);refine dH (some 20) rfl rfl Tryz.func110 (by kernel_rfl) rfl #[] rfl q'a ?_;(with_reducible refine(bN.calls z8 _ A15.out).mono ?_);rintro e w18 ⟨v279,rfl,ho0,hb⟩;refine⟨_,rfl,?_⟩;have nT:=ak.mk (Kd.bM ho0 (aJ bz));replace HB:=ak.mk (aN bz hb);(try clear hb);(try clear hb2);(try clear hk);(try clear hi);(try clear ho0);obtain⟨Ao19,co19,eo19⟩:=Kd.bF nT.out;subst eo19)|((with_reducible refine bC (f:=57) rfl ?_);refine dH (some 22) rfl rfl Tryz.func57 (by kernel_rfl) rfl #[.slice Ao19 z8.length co19,.string a0] rfl q'a ?_;(with_reducible refine(aM.calls kj9 _ _ z8 a0 true _ ?dB ?dD A16.out).mono ?_);(case dB=>exact cz (Kd.aI nT.out).2.2);(case dD=>exact(Kd.aI nT.out).2.1);rintro e w' ⟨rfl,⟨nd,rfl⟩⟩;refine⟨_,rfl,?_⟩)|((with_reducible refine bY (N:=23) rfl ?_);refine Kd.eZ Kd.string _ 9 ?hg (N:=23) ?hd (xs:=([(⟨#[116,97,98,108,101]⟩:Bt),(⟨#[116,101,109,112,108,97,116,101]⟩:Bt)] :List Bt)) (inner:=[.string (⟨#[116,97,98,108,101]⟩:Bt),.string (⟨#[116,101,109,112,108,97,116,101]⟩:Bt)]) (ok:=fun _=>True) (okp:=fun _=>True) ?hr ?hp (fun _ hk=>hk) trivial (Below.refl _ _) (Nat.le_refl _) (by simp) ?_;(case hd=>rfl);(case hg=>rfl);(case hr=>first|(go_simp;done)|(go_simp;rfl));(case hp=>exact(aY.one (show Kd.M Kd.string _ _ _ (⟨#[116,97,98,108,101]⟩:Bt) [.string (⟨#[116,97,98,108,101]⟩:Bt)]from rfl) (aY.one (show Kd.M Kd.string _ _ _ (⟨#[116,101,109,112,108,97,116,101]⟩:Bt) [.string (⟨#[116,101,109,112,108,97,116,101]⟩:Bt)]from rfl) (aY.none _ _))));intro v283 w20 qc hb hg_ cu;clear hg_ cu;(first|rw[←Ny282.out]at qc|(simp only[Int.reduceToNat]at qc;rw[←Ny282.out]at qc));have HO284:=ak.mk (Kd.bM (Kd.dw qc (Kd.fu (rz nT.out))) (aJ bz));replace nT:=ak.mk (Kd.bP (rz nT.out) (Kd.cK qc) hb);replace HB:=ak.mk (aN bz hb);clear hb qc))
         go_ret;exact⟨_,by first|rfl|(simp[aQ,aT]<;>rfl)|(simp[*,aQ,aT]<;>rfl),by(with_reducible repeat(first|apply Kd.aZ|apply Kd.bB|apply Kd.bq));exact Kd.dz HO284.out (fun _ hk=>trivial),bz⟩
        ·replace c17:=Bool.eq_false_iff.mpr c17
         subst c17;have H1:(some (([(⟨#[98,117,116,116,111,110]⟩:Bt),(⟨#[99,97,112,116,105,111,110]⟩:Bt),(⟨#[116,97,98,108,101]⟩:Bt),(⟨#[116,100]⟩:Bt),(⟨#[116,101,109,112,108,97,116,101]⟩:Bt),(⟨#[116,104]⟩:Bt)] :List Bt)))=some r:=by rw[if_neg (show¬(false=true) by decide)]at H;first|exact H|(simp only[eq_self]at H⊢;exact H)|(simp only[eq_self,if_true]at H⊢;exact H)
         clear H;have H:=H1;clear H1;obtain⟨y285,FH⟩:∃y_:List Bt,y_=(([(⟨#[98,117,116,116,111,110]⟩:Bt),(⟨#[99,97,112,116,105,111,110]⟩:Bt),(⟨#[116,97,98,108,101]⟩:Bt),(⟨#[116,100]⟩:Bt),(⟨#[116,101,109,112,108,97,116,101]⟩:Bt),(⟨#[116,104]⟩:Bt)] :List Bt)):=⟨_,rfl⟩
         replace H:(some y285)=some r:=by first|(rw[FH];with_reducible exact H)|(have H2_:=(Option.bind_some _ _).symm.trans H;rw[FH];with_reducible exact H2_)|(have H2_:=(Option.bind_some _ _).symm.trans H;with_reducible exact H2_)|with_reducible exact H|(rw[FH];exact H)|exact H
         have Ny285:=ak.mk FH;clear FH;obtain rfl:=Option.some.inj H
         go_wp2_with(first|((with_reducible refine bC (f:=110) rfl ?_);refine dH (some 20) rfl rfl Tryz.func110 (by kernel_rfl) rfl #[] rfl q'a ?_;(with_reducible refine(bN.calls z8 _ A15.out).mono ?_);rintro e w22 ⟨v279,rfl,ho0,hb⟩;refine⟨_,rfl,?_⟩;have nT:=ak.mk (Kd.bM ho0 (aJ bz));replace HB:=ak.mk (aN bz hb);(try clear hb);(try clear hb2);(try clear hk);(try clear hi);(try clear ho0);obtain⟨Ao23,co23,eo23⟩:=Kd.bF nT.out;subst eo23)|((with_reducible refine bC (f:=57) rfl ?_);refine dH (some 22) rfl rfl Tryz.func57 (by kernel_rfl) rfl #[.slice Ao23 z8.length co23,.string a0] rfl q'a ?_;(with_reducible refine(aM.calls kj9 _ _ z8 a0 false _ ?dB ?dD A16.out).mono ?_);(case dB=>exact cz (Kd.aI nT.out).2.2);(case dD=>exact(Kd.aI nT.out).2.1);rintro e w' ⟨rfl,⟨nd,rfl⟩⟩;refine⟨_,rfl,?_⟩)|((with_reducible refine bY (N:=24) rfl ?_);refine Kd.eZ Kd.string _ 9 ?hg (N:=24) ?hd (xs:=([(⟨#[98,117,116,116,111,110]⟩:Bt),(⟨#[99,97,112,116,105,111,110]⟩:Bt),(⟨#[116,97,98,108,101]⟩:Bt),(⟨#[116,100]⟩:Bt),(⟨#[116,101,109,112,108,97,116,101]⟩:Bt),(⟨#[116,104]⟩:Bt)] :List Bt)) (inner:=[.string (⟨#[98,117,116,116,111,110]⟩:Bt),.string (⟨#[99,97,112,116,105,111,110]⟩:Bt),.string (⟨#[116,97,98,108,101]⟩:Bt),.string (⟨#[116,100]⟩:Bt),.string (⟨#[116,101,109,112,108,97,116,101]⟩:Bt),.string (⟨#[116,104]⟩:Bt)]) (ok:=fun _=>True) (okp:=fun _=>True) ?hr ?hp (fun _ hk=>hk) trivial (Below.refl _ _) (Nat.le_refl _) (by simp) ?_;(case hd=>rfl);(case hg=>rfl);(case hr=>first|(go_simp;done)|(go_simp;rfl));(case hp=>exact(aY.one (show Kd.M Kd.string _ _ _ (⟨#[98,117,116,116,111,110]⟩:Bt) [.string (⟨#[98,117,116,116,111,110]⟩:Bt)]from rfl) (aY.one (show Kd.M Kd.string _ _ _ (⟨#[99,97,112,116,105,111,110]⟩:Bt) [.string (⟨#[99,97,112,116,105,111,110]⟩:Bt)]from rfl) (aY.one (show Kd.M Kd.string _ _ _ (⟨#[116,97,98,108,101]⟩:Bt) [.string (⟨#[116,97,98,108,101]⟩:Bt)]from rfl) (aY.one (show Kd.M Kd.string _ _ _ (⟨#[116,100]⟩:Bt) [.string (⟨#[116,100]⟩:Bt)]from rfl) (aY.one (show Kd.M Kd.string _ _ _ (⟨#[116,101,109,112,108,97,116,101]⟩:Bt) [.string (⟨#[116,101,109,112,108,97,116,101]⟩:Bt)]from rfl) (aY.one (show Kd.M Kd.string _ _ _ (⟨#[116,104]⟩:Bt) [.string (⟨#[116,104]⟩:Bt)]from rfl) (aY.none _ _))))))));intro v286 w24 yc hb hg_ cu;clear hg_ cu;(first|rw[←Ny285.out]at yc|(simp only[Int.reduceToNat]at yc;rw[←Ny285.out]at yc));have HO287:=ak.mk (Kd.bM (Kd.dw yc (Kd.fu (rz nT.out))) (aJ bz));replace nT:=ak.mk (Kd.bP (rz nT.out) (Kd.cK yc) hb);replace HB:=ak.mk (aN bz hb);clear hb yc))
         go_ret;exact⟨_,by first|rfl|(simp[aQ,aT]<;>rfl)|(simp[*,aQ,aT]<;>rfl),by(with_reducible repeat(first|apply Kd.aZ|apply Kd.bB|apply Kd.bq));exact Kd.dz HO287.out (fun _ hk=>trivial),bz⟩
def fF.f(a0:Bt):Option (Bool):=if a0.toList=([108,105] :List UInt8)then(some true)else(if a0.toList=([100,100] :List UInt8)then(some true)else(some (a0.toList==([100,116] :List UInt8))))
theorem fF.calls(a0:Bt)(r:Bool)(w:World)(h:fF.f a0=some r):
 Calls Tryz.prog 109 #[.string a0] w fun e w'=>e=.returned (.bool r)∧dK w w':=by
 have H:(if a0.toList=([108,105] :List UInt8)then(some true)else(if a0.toList=([100,100] :List UInt8)then(some true)else(some (a0.toList==([100,116] :List UInt8)))))=some r:=h;clear h
 by_cases c2:a0.toList=([108,105] :List UInt8)
 ·rw[if_pos c2]at H
  have c2b0:(a0.toList==([108,105] :List UInt8))=true:=beq_iff_eq.mpr c2;have c2b1:(a0.toList !=([108,105] :List UInt8))=false:=bne_eq_false_iff_eq.mpr c2;clear c2;obtain rfl:=Option.some.inj H;go_enter Tryz.func109,Tryz.ntmps109;go_wp2;go_ret;exact⟨q'c,by repeat(first|exact dK.refl _|apply dK.step)⟩
 ·rw[if_neg c2]at H
  have c2b0:(a0.toList==([108,105] :List UInt8))=false:=beq_eq_false_iff_ne.mpr c2;have c2b1:(a0.toList !=([108,105] :List UInt8))=true:=bne_iff_ne.mpr c2
  by_cases c3:a0.toList=([100,100] :List UInt8)
  ·rw[if_pos c3]at H
   have lI:(a0.toList==([100,100] :List UInt8))=true:=beq_iff_eq.mpr c3;have tu:(a0.toList !=([100,100] :List UInt8))=false:=bne_eq_false_iff_eq.mpr c3;clear c3;obtain rfl:=Option.some.inj H;go_enter Tryz.func109,Tryz.ntmps109;go_wp2;go_ret;exact⟨q'c,by repeat(first|exact dK.refl _|apply dK.step)⟩
  ·rw[if_neg c3]at H
   have lI:(a0.toList==([100,100] :List UInt8))=false:=beq_eq_false_iff_ne.mpr c3;have tu:(a0.toList !=([100,100] :List UInt8))=true:=bne_iff_ne.mpr c3;obtain rfl:=Option.some.inj H;go_enter Tryz.func109,Tryz.ntmps109;go_wp2;go_ret;exact⟨q'c,by repeat(first|exact dK.refl _|apply dK.step)⟩
end Go.Proofs.aj.W7
