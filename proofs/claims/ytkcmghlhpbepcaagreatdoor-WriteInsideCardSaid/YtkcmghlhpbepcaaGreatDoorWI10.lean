/- Lemmas and walks, part 10. -/
import Derived.Test.YtkcmghlhpbepcaaGreatDoorWI9
set_option linter.unusedVariables false
set_option linter.unusedSimpArgs false
set_option maxHeartbeats 8000000
set_option maxRecDepth 100000
namespace Go.Proofs.aj.W7
open Go.RowKit ah.aD ah.bH ah.bU
attribute [local go_sem] dB dD dW dX bZ cu dF dG
def oo.f(k:Nat)(a0:Bt)(l1:List Bt):Option (Bool):=(gD.f a0).bind fun t191=>(if t191=true then((fF.f k (⟨#[112]⟩:Bt)).bind fun t195=>((gZ.f l1 (([(⟨#[112]⟩:Bt)] :List Bt)) t195).bind fun t198=>(if t198≥0 then(some false)else((dZ.f k a0).bind fun t199=>((fF.f k a0).bind fun t202=>((gZ.f l1 t199 t202).bind fun t205=>(some (decide (t205<0)))))))))else((dZ.f k a0).bind fun t206=>((fF.f k a0).bind fun t209=>((gZ.f l1 t206 t209).bind fun t212=>(some (decide (t212<0)))))))
theorem oo.calls(k:Nat)(a0:Bt)(A1:Option Addr)(c1:Nat)(l1:List Bt)(r:Bool)(w:World)(hr1:Kd.C Kd.string w A1 l1.length l1)(hc1:l1.length≤c1)(h:oo.f k a0 l1=some r):
 Calls Tryz.prog 27 #[.string a0,.slice A1 l1.length c1] w fun e w'=>e=.returned (.bool r)∧Below w.heap.size w w':=by
 have HR1:=ak.mk hr1;have HC1:=ak.mk hc1;clear hr1 hc1;have HB:=ak.mk (Below.refl w.heap.size w);have H:((gD.f a0).bind fun t191=>(if t191=true then((fF.f k (⟨#[112]⟩:Bt)).bind fun t195=>((gZ.f l1 (([(⟨#[112]⟩:Bt)] :List Bt)) t195).bind fun t198=>(if t198≥0 then(some false)else((dZ.f k a0).bind fun t199=>((fF.f k a0).bind fun t202=>((gZ.f l1 t199 t202).bind fun t205=>(some (decide (t205<0)))))))))else((dZ.f k a0).bind fun t206=>((fF.f k a0).bind fun t209=>((gZ.f l1 t206 t209).bind fun t212=>(some (decide (t212<0))))))))=some r:=h;clear h;replace H:=Option.bind_eq_some_iff.mp H;obtain⟨t191,A30,H⟩:=H
 try dsimp only at H
 have A3:=ak.mk A30;clear A30
 by_cases c4:t191=true
 ·subst c4
  rw[if_pos rfl]at H
  try dsimp only at H
  obtain⟨y192,NA⟩:∃y_:List Bt,y_=(([(⟨#[112]⟩:Bt)] :List Bt)):=⟨_,rfl⟩
  replace H:((fF.f k (⟨#[112]⟩:Bt)).bind fun t195=>((gZ.f l1 y192 t195).bind fun t198=>(if t198≥0 then(some false)else((dZ.f k a0).bind fun t199=>((fF.f k a0).bind fun t202=>((gZ.f l1 t199 t202).bind fun t205=>(some (decide (t205<0)))))))))=some r:=by first|(rw[NA];with_reducible exact H)|(have H2_:=(Option.bind_some _ _).symm.trans H;rw[NA];with_reducible exact H2_)|(have H2_:=(Option.bind_some _ _).symm.trans H;with_reducible exact H2_)|with_reducible exact H|(rw[NA];exact H)|exact H
  have Ny192:=ak.mk NA;clear NA;replace H:=Option.bind_eq_some_iff.mp H;obtain⟨t195,A50,H⟩:=H
  try dsimp only at H
  have A5:=ak.mk A50;clear A50;replace H:=Option.bind_eq_some_iff.mp H;obtain⟨t198,A60,H⟩:=H
  try dsimp only at H
  have A6:=ak.mk A60;clear A60
  by_cases c7:t198≥0
  ·rw[if_pos c7]at H
   have GI:=decide_eq_true c7;clear c7;obtain rfl:=Option.some.inj H;go_enter Tryz.func27,Tryz.ntmps27
   go_wp2_with(first|((with_reducible refine bC (f:=76) rfl ?_);refine eG (some 7) rfl rfl Tryz.func76 (by kernel_rfl) rfl #[.string a0] rfl q'a ?_;(with_reducible refine(gD.calls a0 true _ A3.out).mono ?_);rintro e w' ⟨rfl,⟨nd,rfl⟩⟩;refine⟨_,rfl,?_⟩)|((with_reducible refine cB (N:=10) rfl ?_);(try(refine qK (by rfl) ?_;dsimp only));refine Kd.kg Kd.string _ 9 ?hg (N:=10) ?hd (xs:=([(⟨#[112]⟩:Bt)] :List Bt)) (inner:=[.string (⟨#[112]⟩:Bt)]) (ok:=fun _=>True) (okp:=fun _=>True) ?hr ?hp (fun _ hk=>hk) trivial (Below.refl _ _) (Nat.le_refl _) (by simp) ?_;(case hd=>rfl);(case hg=>rfl);(case hr=>first|(go_simp;done)|(go_simp;rfl));(case hp=>exact(bM.one (show Kd.M Kd.string _ _ _ (⟨#[112]⟩:Bt) [.string (⟨#[112]⟩:Bt)]from rfl) (bM.none _ _)));intro v193 w8 ho9 hb hg_ gq;clear hg_ gq;(first|rw[←Ny192.out]at ho9|(simp only[Int.reduceToNat]at ho9;rw[←Ny192.out]at ho9));have kF:=ak.mk (Kd.dU ho9 (aU bz));replace HB:=ak.mk (aG bz hb);clear hb ho9)|(go_at_call 78;(fail_if_success (have zz_:=Ao12));(with_reducible refine(fF.calls k (⟨#[112]⟩:Bt) t195 _ A5.out).mono ?_);rintro e w10 ⟨v196,rfl,ho0,hb⟩;have nC:=ak.mk (Kd.dU (Kd.iD ho0 (Kd.nk (rz kF.out))) (aU bz));replace kF:=ak.mk (Kd.gV (rz kF.out) (Kd.jH ho0) hb);replace HB:=ak.mk (aG bz hb);(try clear hb);(try clear hb2);(try clear hk);(try clear hi);(try clear ho0);obtain⟨GR,GU,eo11⟩:=Kd.cK kF.out;subst eo11;obtain⟨Ao12,co12,eo12⟩:=Kd.cK nC.out;subst eo12)|(go_at_call 77;(with_reducible refine(gZ.calls _ _ l1 _ _ y192 _ _ t195 t198 _ ?dI ?dJ ?oI ?oJ ?GV ?GX A6.out).mono ?_);(case dI=>exact cz (Kd.bT HR1.out HB.out));(case dJ=>exact HC1.out);(case oI=>exact cz (Kd.bg kF.out).2.2);(case oJ=>exact(Kd.bg kF.out).2.1);(case GV=>exact cz (Kd.bg nC.out).2.2);(case GX=>exact(Kd.bg nC.out).2.1);rintro e w13 ⟨rfl,hb⟩;replace kF:=ak.mk (Kd.bK (rz kF.out) hb);replace nC:=ak.mk (Kd.bK (rz nC.out) hb);replace HB:=ak.mk (aG bz hb);(try clear hb);(try clear hb2);(try clear hk);(try clear hi)))
   go_ret;exact⟨by first|rfl|(simp[aI,aJ]<;>rfl)|(simp[*,aI,aJ]<;>rfl),bz⟩
  ·rw[if_neg c7]at H
   have GI:=decide_eq_false c7;clear c7;replace H:=Option.bind_eq_some_iff.mp H;obtain⟨t199,A140,H⟩:=H
   try dsimp only at H
   have A14:=ak.mk A140;clear A140;replace H:=Option.bind_eq_some_iff.mp H;obtain⟨t202,A150,H⟩:=H
   try dsimp only at H
   have A15:=ak.mk A150;clear A150;replace H:=Option.bind_eq_some_iff.mp H;obtain⟨t205,A160,H⟩:=H
   try dsimp only at H
   have A16:=ak.mk A160;clear A160;obtain rfl:=Option.some.inj H;go_enter Tryz.func27,Tryz.ntmps27
   go_wp2_with(first|((with_reducible refine bC (f:=76) rfl ?_);refine eG (some 7) rfl rfl Tryz.func76 (by kernel_rfl) rfl #[.string a0] rfl q'a ?_;(with_reducible refine(gD.calls a0 true _ A3.out).mono ?_);rintro e w' ⟨rfl,⟨nd,rfl⟩⟩;refine⟨_,rfl,?_⟩)|((with_reducible refine cB (N:=10) rfl ?_);(try(refine qK (by rfl) ?_;dsimp only));refine Kd.kg Kd.string _ 9 ?hg (N:=10) ?hd (xs:=([(⟨#[112]⟩:Bt)] :List Bt)) (inner:=[.string (⟨#[112]⟩:Bt)]) (ok:=fun _=>True) (okp:=fun _=>True) ?hr ?hp (fun _ hk=>hk) trivial (Below.refl _ _) (Nat.le_refl _) (by simp) ?_;(case hd=>rfl);(case hg=>rfl);(case hr=>first|(go_simp;done)|(go_simp;rfl));(case hp=>exact(bM.one (show Kd.M Kd.string _ _ _ (⟨#[112]⟩:Bt) [.string (⟨#[112]⟩:Bt)]from rfl) (bM.none _ _)));intro v193 w17 yN hb hg_ gq;clear hg_ gq;(first|rw[←Ny192.out]at yN|(simp only[Int.reduceToNat]at yN;rw[←Ny192.out]at yN));have kF:=ak.mk (Kd.dU yN (aU bz));replace HB:=ak.mk (aG bz hb);clear hb yN)|(go_at_call 78;(fail_if_success (have zz_:=Ao21));(with_reducible refine(fF.calls k (⟨#[112]⟩:Bt) t195 _ A5.out).mono ?_);rintro e w19 ⟨v196,rfl,ho0,hb⟩;have nC:=ak.mk (Kd.dU (Kd.iD ho0 (Kd.nk (rz kF.out))) (aU bz));replace kF:=ak.mk (Kd.gV (rz kF.out) (Kd.jH ho0) hb);replace HB:=ak.mk (aG bz hb);(try clear hb);(try clear hb2);(try clear hk);(try clear hi);(try clear ho0);obtain⟨Ao20,co20,eo20⟩:=Kd.cK kF.out;subst eo20;obtain⟨Ao21,co21,eo21⟩:=Kd.cK nC.out;subst eo21)|(go_at_call 77;(with_reducible refine(gZ.calls _ _ l1 _ _ y192 _ _ t195 t198 _ ?dI ?dJ ?oI ?oJ ?GV ?GX A6.out).mono ?_);(case dI=>exact cz (Kd.bT HR1.out HB.out));(case dJ=>exact HC1.out);(case oI=>exact cz (Kd.bg kF.out).2.2);(case oJ=>exact(Kd.bg kF.out).2.1);(case GV=>exact cz (Kd.bg nC.out).2.2);(case GX=>exact(Kd.bg nC.out).2.1);rintro e w22 ⟨rfl,hb⟩;replace kF:=ak.mk (Kd.bK (rz kF.out) hb);replace nC:=ak.mk (Kd.bK (rz nC.out) hb);replace HB:=ak.mk (aG bz hb);(try clear hb);(try clear hb2);(try clear hk);(try clear hi))|(go_at_call 35;(with_reducible refine(dZ.calls k a0 t199 _ A14.out).mono ?_);rintro e w23 ⟨v200,rfl,ho0,hb⟩;have Ai:=ak.mk (Kd.dU (Kd.iD (Kd.iD ho0 (Kd.nk (rz kF.out))) (Kd.nk (rz nC.out))) (aU bz));replace kF:=ak.mk (Kd.gV (rz kF.out) (Kd.jH ho0) hb);replace nC:=ak.mk (Kd.gV (rz nC.out) (Kd.jH ho0) hb);replace HB:=ak.mk (aG bz hb);(try clear hb);(try clear hb2);(try clear hk);(try clear hi);(try clear ho0))|(go_at_call 78;(fail_if_success (have zz_:=Ao26));(with_reducible refine(fF.calls k a0 t202 _ A15.out).mono ?_);rintro e w24 ⟨v203,rfl,ho0,hb⟩;have Jy:=ak.mk (Kd.dU (Kd.iD (Kd.iD (Kd.iD ho0 (Kd.nk (rz kF.out))) (Kd.nk (rz nC.out))) (Kd.nk (rz Ai.out))) (aU bz));replace kF:=ak.mk (Kd.gV (rz kF.out) (Kd.jH ho0) hb);replace nC:=ak.mk (Kd.gV (rz nC.out) (Kd.jH ho0) hb);replace Ai:=ak.mk (Kd.gV (rz Ai.out) (Kd.jH ho0) hb);replace HB:=ak.mk (aG bz hb);(try clear hb);(try clear hb2);(try clear hk);(try clear hi);(try clear ho0);obtain⟨Ao25,co25,eo25⟩:=Kd.cK Ai.out;subst eo25;obtain⟨Ao26,co26,eo26⟩:=Kd.cK Jy.out;subst eo26)|(go_at_call 77;(with_reducible refine(gZ.calls _ _ l1 _ _ t199 _ _ t202 t205 _ ?dI ?dJ ?oI ?oJ ?GV ?GX A16.out).mono ?_);(case dI=>exact cz (Kd.bT HR1.out HB.out));(case dJ=>exact HC1.out);(case oI=>exact cz (Kd.bg Ai.out).2.2);(case oJ=>exact(Kd.bg Ai.out).2.1);(case GV=>exact cz (Kd.bg Jy.out).2.2);(case GX=>exact(Kd.bg Jy.out).2.1);rintro e w27 ⟨rfl,hb⟩;replace kF:=ak.mk (Kd.bK (rz kF.out) hb);replace nC:=ak.mk (Kd.bK (rz nC.out) hb);replace Ai:=ak.mk (Kd.bK (rz Ai.out) hb);replace Jy:=ak.mk (Kd.bK (rz Jy.out) hb);replace HB:=ak.mk (aG bz hb);(try clear hb);(try clear hb2);(try clear hk);(try clear hi)))
   go_ret;exact⟨by first|rfl|(simp[aI,aJ]<;>rfl)|(simp[*,aI,aJ]<;>rfl),bz⟩
 ·replace c4:=Bool.eq_false_iff.mpr c4
  subst c4;have H1:((dZ.f k a0).bind fun t206=>((fF.f k a0).bind fun t209=>((gZ.f l1 t206 t209).bind fun t212=>(some (decide (t212<0))))))=some r:=by rw[if_neg (show¬(false=true) by decide)]at H;first|exact H|(simp only[eq_self]at H⊢;exact H)|(simp only[eq_self,if_true]at H⊢;exact H)
  clear H;have H:=H1;clear H1;replace H:=Option.bind_eq_some_iff.mp H;obtain⟨t206,A280,H⟩:=H
  try dsimp only at H
  have A28:=ak.mk A280;clear A280;replace H:=Option.bind_eq_some_iff.mp H;obtain⟨t209,A290,H⟩:=H
  try dsimp only at H
  have A29:=ak.mk A290;clear A290;replace H:=Option.bind_eq_some_iff.mp H;obtain⟨t212,GN,H⟩:=H
  try dsimp only at H
  have A30:=ak.mk GN;clear GN;obtain rfl:=Option.some.inj H;go_enter Tryz.func27,Tryz.ntmps27
  go_wp2_with(first|((with_reducible refine bC (f:=76) rfl ?_);refine eG (some 7) rfl rfl Tryz.func76 (by kernel_rfl) rfl #[.string a0] rfl q'a ?_;(with_reducible refine(gD.calls a0 false _ A3.out).mono ?_);rintro e w' ⟨rfl,⟨nd,rfl⟩⟩;refine⟨_,rfl,?_⟩)|(go_at_call 35;(with_reducible refine(dZ.calls k a0 t206 _ A28.out).mono ?_);rintro e w31 ⟨v207,rfl,ho0,hb⟩;have Aj:=ak.mk (Kd.dU ho0 (aU bz));replace HB:=ak.mk (aG bz hb);(try clear hb);(try clear hb2);(try clear hk);(try clear hi);(try clear ho0))|(go_at_call 78;(fail_if_success (have zz_:=Ao34));(with_reducible refine(fF.calls k a0 t209 _ A29.out).mono ?_);rintro e w32 ⟨v210,rfl,ho0,hb⟩;have Jz:=ak.mk (Kd.dU (Kd.iD ho0 (Kd.nk (rz Aj.out))) (aU bz));replace Aj:=ak.mk (Kd.gV (rz Aj.out) (Kd.jH ho0) hb);replace HB:=ak.mk (aG bz hb);(try clear hb);(try clear hb2);(try clear hk);(try clear hi);(try clear ho0);obtain⟨Ao33,co33,eo33⟩:=Kd.cK Aj.out;subst eo33;obtain⟨Ao34,co34,eo34⟩:=Kd.cK Jz.out;subst eo34)|(go_at_call 77;(with_reducible refine(gZ.calls _ _ l1 _ _ t206 _ _ t209 t212 _ ?dI ?dJ ?oI ?oJ ?GV ?GX A30.out).mono ?_);(case dI=>exact cz (Kd.bT HR1.out HB.out));(case dJ=>exact HC1.out);(case oI=>exact cz (Kd.bg Aj.out).2.2);(case oJ=>exact(Kd.bg Aj.out).2.1);(case GV=>exact cz (Kd.bg Jz.out).2.2);(case GX=>exact(Kd.bg Jz.out).2.1);rintro e w35 ⟨rfl,hb⟩;replace Aj:=ak.mk (Kd.bK (rz Aj.out) hb);replace Jz:=ak.mk (Kd.bK (rz Jz.out) hb);replace HB:=ak.mk (aG bz hb);(try clear hb);(try clear hb2);(try clear hk);(try clear hi)))
  go_ret;exact⟨by first|rfl|(simp[aI,aJ]<;>rfl)|(simp[*,aI,aJ]<;>rfl),bz⟩
def iN.f:Option (List Bt):=some (([(⟨#[116,98,111,100,121]⟩:Bt),(⟨#[116,100]⟩:Bt),(⟨#[116,102,111,111,116]⟩:Bt),(⟨#[116,104]⟩:Bt),(⟨#[116,104,101,97,100]⟩:Bt),(⟨#[116,114]⟩:Bt)] :List Bt))
def tC.f:Option (List Bt):=some (([(⟨#[97,100,100,114,101,115,115]⟩:Bt),(⟨#[97,114,116,105,99,108,101]⟩:Bt),(⟨#[97,115,105,100,101]⟩:Bt),(⟨#[98,108,111,99,107,113,117,111,116,101]⟩:Bt),(⟨#[99,101,110,116,101,114]⟩:Bt),(⟨#[100,100]⟩:Bt),(⟨#[100,101,116,97,105,108,115]⟩:Bt),(⟨#[100,105,97,108,111,103]⟩:Bt),(⟨#[100,105,114]⟩:Bt),(⟨#[100,105,118]⟩:Bt),(⟨#[100,108]⟩:Bt),(⟨#[100,116]⟩:Bt),(⟨#[102,105,101,108,100,115,101,116]⟩:Bt),(⟨#[102,105,103,99,97,112,116,105,111,110]⟩:Bt),(⟨#[102,105,103,117,114,101]⟩:Bt),(⟨#[102,111,111,116,101,114]⟩:Bt),(⟨#[102,111,114,109]⟩:Bt),(⟨#[104,49]⟩:Bt),(⟨#[104,50]⟩:Bt),(⟨#[104,51]⟩:Bt),(⟨#[104,52]⟩:Bt),(⟨#[104,53]⟩:Bt),(⟨#[104,54]⟩:Bt),(⟨#[104,101,97,100,101,114]⟩:Bt),(⟨#[104,103,114,111,117,112]⟩:Bt),(⟨#[104,114]⟩:Bt),(⟨#[108,105]⟩:Bt),(⟨#[109,97,105,110]⟩:Bt),(⟨#[109,101,110,117]⟩:Bt),(⟨#[110,97,118]⟩:Bt),(⟨#[111,108]⟩:Bt),(⟨#[112]⟩:Bt),(⟨#[112,114,101]⟩:Bt),(⟨#[115,101,99,116,105,111,110]⟩:Bt),(⟨#[115,117,109,109,97,114,121]⟩:Bt),(⟨#[116,97,98,108,101]⟩:Bt),(⟨#[117,108]⟩:Bt),(⟨#[120,109,112]⟩:Bt)] :List Bt))
mutual
def jF.j0:Nat→Bt→Bool→Option (List Bt)
 |0,_,_=>none
 |k+1,x0,x8=>if x8=true then(some (([x0] :List Bt)))else(if x0.toList=([100,100] :List UInt8)then(jF.j1 k x0 true)else(jF.j1 k x0 (x0.toList==([100,116] :List UInt8))))
def jF.j1:Nat→Bt→Bool→Option (List Bt)
 |0,_,_=>none
 |k+1,x0,x16=>if x16=true then(some (([(⟨#[100,100]⟩:Bt),(⟨#[100,116]⟩:Bt)] :List Bt)))else(if x0.toList=([111,112,116,103,114,111,117,112] :List UInt8)then(some (([(⟨#[111,112,116,103,114,111,117,112]⟩:Bt),(⟨#[111,112,116,105,111,110]⟩:Bt)] :List Bt)))else(if x0.toList=([116,114] :List UInt8)then(some (([(⟨#[116,100]⟩:Bt),(⟨#[116,104]⟩:Bt),(⟨#[116,114]⟩:Bt)] :List Bt)))else(if x0.toList=([116,100] :List UInt8)then(jF.j2 k x0 true)else(jF.j2 k x0 (x0.toList==([116,104] :List UInt8))))))
def jF.j2:Nat→Bt→Bool→Option (List Bt)
 |0,_,_=>none
 |k+1,x0,x29=>if x29=true then(some (([(⟨#[116,100]⟩:Bt),(⟨#[116,104]⟩:Bt)] :List Bt)))else((iN.f).bind fun t252=>((kJ.f k t252 x0).bind fun t255=>(if t255=true then((iN.f).bind fun t256=>(some t256))else((tC.f).bind fun t259=>((kJ.f k t259 x0).bind fun t262=>(if t262=true then(some (([(⟨#[112]⟩:Bt)] :List Bt)))else(some (([] :List Bt)))))))))
end
mutual
def o7.j0:Nat→Bt→Bool→Option (List Bt)
 |0,_,_=>none
 |k+1,x0,x11=>if x11=true then(some (([(⟨#[100,108]⟩:Bt),(⟨#[116,101,109,112,108,97,116,101]⟩:Bt)] :List Bt)))else(if x0.toList=([111,112,116,105,111,110] :List UInt8)then(o7.j1 k x0 true)else(o7.j1 k x0 (x0.toList==([111,112,116,103,114,111,117,112] :List UInt8))))
def o7.j1:Nat→Bt→Bool→Option (List Bt)
 |0,_,_=>none
 |k+1,x0,x18=>if x18=true then(some (([(⟨#[115,101,108,101,99,116]⟩:Bt),(⟨#[116,101,109,112,108,97,116,101]⟩:Bt)] :List Bt)))else((iN.f).bind fun t278=>((kJ.f k t278 x0).bind fun t281=>(if t281=true then(some (([(⟨#[116,97,98,108,101]⟩:Bt),(⟨#[116,101,109,112,108,97,116,101]⟩:Bt)] :List Bt)))else(some (([(⟨#[98,117,116,116,111,110]⟩:Bt),(⟨#[99,97,112,116,105,111,110]⟩:Bt),(⟨#[116,97,98,108,101]⟩:Bt),(⟨#[116,100]⟩:Bt),(⟨#[116,101,109,112,108,97,116,101]⟩:Bt),(⟨#[116,104]⟩:Bt)] :List Bt))))))
end
end Go.Proofs.aj.W7
namespace Go.Proofs.aj.W7
open Go.RowKit Go.Proofs aj YtkcmghlhpbepcaaGreatDoor ah.aD
def tabR:List Bt:=(iN.f).getD []
theorem Tv(s:Bt)(k:Nat)(hk:20≤k):ig.f k s=some (pW tabR s):=by
 unfold ig.f;rw[uX _ _ _ (by simp) (by simp;omega),Option.bind_some]
 congr 1
 show pW _ s=pW ((iN.f).getD []) s;simp only[iN.f,Option.getD_some,pW,List.any_cons,List.any_nil,Bool.or_false]
 ac_rfl
def blkR:List Bt:=(tC.f).getD []
theorem block_f(s:Bt)(k:Nat)(hk:90≤k):lD.f k s=some (pW blkR s):=by
 unfold lD.f;rw[uX _ _ _ (by simp) (by simp;omega),Option.bind_some];rfl
theorem Il(l:List Bt)(s:Bt):pW l s=Lib.containsS l s:=by
 rw[Bool.eq_iff_iff,Lib.containsS_iff];simp only[pW,List.any_eq_true,beq_iff_eq];constructor
 ·rintro⟨x,hx,e⟩
  obtain⟨⟨a⟩⟩:=x;obtain⟨⟨b⟩⟩:=s;simp only at e;subst e;exact hx
 ·intro h
  exact⟨s,h,rfl⟩
theorem JU(xs some_ walls:List Bt):∀k,-1≤dS xs some_ walls k∧dS xs some_ walls k<k
 |0=>by simp[dS]
 |k+1=>by
  have:=JU xs some_ walls k;simp only[dS]
  split
  ·omega
  ·split<;>omega
theorem OG(s:Bt)(k:Nat)(hk:101≤k):∃c,dZ.f k s=some c∧c.length<1000:=by
 obtain⟨k,rfl⟩:∃m,k=m+1:=⟨k - 1,by omega⟩
 have h:∀b,∃c,dZ.j0 (k+1) s s b=some c∧c.length<1000:=by
  intro b;simp only[dZ.j0];rw[Tv _ _ (by omega),Option.bind_some,block_f _ _ (by omega),Option.bind_some]
  repeat' split
  all_goals exact⟨_,rfl,by simp⟩
 unfold dZ.f
 split
 ·exact h _
 ·exact h _
theorem Qt(s:Bt)(k:Nat)(hk:101≤k):∃c,fF.f k s=some c∧c.length<1000:=by
 unfold fF.f;rw[uX _ _ _ (by simp) (by simp;omega),Option.bind_some,uX _ _ _ (by simp) (by simp;omega),Option.bind_some,Tv _ _ (by omega),Option.bind_some]
 repeat' split
 all_goals exact⟨_,rfl,by simp⟩
theorem par_some(s:Bt):∃p,gD.f s=some p:=by
 unfold gD.f
 repeat' split
 all_goals exact⟨_,rfl⟩
end Go.Proofs.aj.W7
namespace Go.Proofs.aj.W7
open Go.RowKit Go.Proofs YtkcmghlhpbepcaaGreatDoor
abbrev Rw:=S34
theorem Kr{w:World}{a:Addr}{v:Value}(h:w.cell? a=some v):a=⟨a.block,a.off,none⟩:=by
 obtain⟨b,o,s⟩:=a;cases s with
 |none=>rfl
 |some s=>
  unfold World.cell? at h
  split at h<;>simp at h
theorem Kt(b o n:Nat):Addr.add ⟨b,o,none⟩ n=⟨b,o+n,none⟩:=by
 unfold Addr.add
 split<;>simp_all
theorem wS{w:World}{A:Option Addr}{xs:List Rw}(h:k34.C w A xs.length xs)(i:Nat)(hi:i<xs.length):
 ∃g o A4 c4,A=some ⟨g,o,none⟩∧w.cell? ⟨g,o+i * 5,none⟩=some (.int .i64 xs[i].f0)∧w.cell? ⟨g,o+i * 5+1,none⟩=some (.int .i64 xs[i].f1)∧w.cell? ⟨g,o+i * 5+2,none⟩=some (.string xs[i].f2)∧w.cell? ⟨g,o+i * 5+3,none⟩=some (.string xs[i].f3)∧w.cell? ⟨g,o+i * 5+4,none⟩=some (.slice A4 xs[i].f4.length c4)∧xs[i].f4.length≤c4∧k36.C w A4 xs[i].f4.length xs[i].f4:=by
 obtain⟨ad0,_,_,e0,z0,_⟩:=iM h 0 (by omega) (by omega);have hs:=Kr (a:=ad0) (by simpa [Addr.add]using z0);obtain⟨ad,A4,c4,e,c0,c1,c2,c3,c4',l4,g4⟩:=iM h i (by omega) (by omega);obtain rfl:ad0=ad:=Option.some.inj (e0.symm.trans e);simp only[Int.toNat_natCast]at c0 c1 c2 c3 c4';rw[hs,Kt]at c0 c1 c2 c3 c4';have er:au xs i=xs[i]:=by simp[au,hi]
 rw[er]at c0 c1 c2 c3 c4' l4 g4;exact⟨ad0.block,ad0.off,A4,c4,by rw[e0,←hs],c0,c1,c2,c3,c4',l4,g4⟩
theorem big1_c(d k:Int)(n t:ByteArray)(a:Option Addr)(l c:Nat)(w:World):
 Calls Tryz.prog 130 #[.agg #[.int .i64 d,.int .i64 k,.string n,.string t,.slice a l c]] w fun e w'=>e=.returned (.bool (decide (60≤d)))∧Below w.heap.size w w':=by
 go_enter Tryz.func130,Tryz.ntmps130;go_wp2;go_ret;exact⟨rfl,(Below.refl _ w).alloc (Nat.le_refl _) _⟩
def Cz(x:Rw):Bool:=decide (60≤x.f0)
theorem idx_big(xs:List Rw)(A:Option Addr)(c:Nat)(w:World)(hr:k34.C w A xs.length xs)(b:Bool)(hb:xs.any Cz=b):
 Calls Tryz.prog 173 #[.slice A xs.length c,.func (.func 130) #[] #[]] w fun e w'=>∃n:Int,e=.returned (.int .i64 n)∧(decide (0≤n)=b)∧Below w.heap.size w w':=by
 have hxl:=hr.2.1;go_enter Tryz.func173,Tryz.ntmps173;go_wp2
 go_loopw [5,8] (fun _ v wr=>∃(k:Nat),v=.int .i64 k∧k≤xs.length∧Hid (∀j (h:j<xs.length),j<k→Cz xs[j]=false)∧Below w.heap.size w wr) (fun _ v _=>xs.length - (intOf v).toNat)
 case atStart=>exact⟨0,rfl,by omega,fun j _ h=>by omega,Below.refl _ _⟩
 case round=>
  obtain⟨k,rfl,hk,hno,hB⟩:=hrel
  by_cases hlt:k<xs.length
  ·obtain⟨g,o,A4,c4,rfl,z0,z1,z2,z3,z4,_,_⟩:=wS (ah.aD.Kd.bT hr hB) k hlt
   have hyes:Hid (Cz xs[k]=true→b=true):=fun h=>by rw[←hb,List.any_eq_true];exact⟨_,List.getElem_mem hlt,h⟩
   have oZ:Hid (Cz xs[k]=false→∀j (h:j<xs.length),j<k+1→Cz xs[j]=false):=fun h j hj hjk=>by
    by_cases e:j=k
    ·subst e;exact h
    ·exact hno.out j hj (by omega)
   have hdef:Hid (Cz xs[k]=decide (60≤xs[k].f0)):=rfl;generalize Cz xs[k]=dk at *;generalize xs[k]=x at *;obtain⟨d,kd,nm,dt,at'⟩:=x;simp only at z0 z1 z2 z3 z4 hdef;have hc1:=Lib.hid (fun W=>big1_c d kd nm dt A4 at'.length c4 W);have hdef2:=hdef.out;clear hno hb
   by_cases h60:60≤d
   ·have hdk:dk=true:=by rw[hdef2];exact decide_eq_true h60
    have hbt:=hyes.out hdk;rw[decide_eq_true h60]at hc1;clear hyes oZ hdef hdef2 hdk;subst hbt
    go_wp2_with(go_at_call 130;((with_reducible refine(hc1.out _).mono ?_);rintro e w1 ⟨rfl,hb1⟩;have hB1:=bB hB hB.size hb1))
    go_ret;exact⟨_,rfl,decide_eq_true (by omega),hB1⟩
   ·have hdk:dk=false:=by rw[hdef2];exact decide_eq_false h60
    have hno3:Hid _:=oZ.out hdk;rw[decide_eq_false h60]at hc1;clear hyes oZ hdef hdef2 hdk
    go_wp2_with(go_at_call 130;((with_reducible refine(hc1.out _).mono ?_);rintro e w1 ⟨rfl,hb1⟩;have hB1:=bB hB hB.size hb1))
    exact⟨⟨k+1,rfl,by omega,hno3,hB1⟩,by simp[intOf];omega⟩
  ·have hbf:b=false:=by
    rw[←hb,List.any_eq_false];intro x hx;obtain⟨j,hj,rfl⟩:=List.getElem_of_mem hx;rw[hno.out j hj (by omega)];simp
   subst hbf;clear hno hb;go_wp2;go_ret;exact⟨-1,rfl,by decide,hB⟩
theorem LQ(xs:List Rw)(A:Option Addr)(c:Nat)(w:World)(hr:k34.C w A xs.length xs)(b:Bool)(hb:xs.any Cz=b):
 Calls Tryz.prog 129 #[.slice A xs.length c,.func (.func 130) #[] #[]] w fun e w'=>e=.returned (.bool b)∧Below w.heap.size w w':=by
 have hi:=Lib.hid (idx_big xs A c w hr b hb);clear hb;go_enter Tryz.func129,Tryz.ntmps129
 go_wp2_with(go_at_call 173;((with_reducible refine hi.out.mono ?_);rintro e w1 ⟨n,rfl,hn,hb1⟩))
 go_ret;exact⟨rfl,hb1⟩
def tF.f(l0:List Rw):Option Bool:=some (decide (4096<l0.length)||l0.any Cz)
theorem tF.calls(A0:Option Addr)(c0:Nat)(l0:List Rw)(r:Bool)(w:World)(hr0:k34.C w A0 l0.length l0)(hc0:l0.length≤c0)(h:tF.f l0=some r):
 Calls Tryz.prog 84 #[.slice A0 l0.length c0] w fun e w'=>e=.returned (.bool r)∧Below w.heap.size w w':=by
 have hl:=hr0.2.1;have hi:=Lib.hid (LQ l0 A0 c0 w hr0 _ rfl);replace h:=Option.some.inj h
 by_cases h1:4096<l0.length
 ·have hI:(4096:Int)<l0.length:=by omega
  have hr:r=true:=by rw[←h,decide_eq_true h1];rfl
  subst hr;clear h hi;go_enter Tryz.func84,Tryz.ntmps84;go_wp2;go_ret;exact⟨rfl,Below.refl _ _⟩
 ·have hI:¬(4096:Int)<l0.length:=by omega
  rw[decide_eq_false h1,Bool.false_or]at h;rw[h]at hi;clear h;go_enter Tryz.func84,Tryz.ntmps84
  go_wp2_with(go_at_call 129;((with_reducible refine hi.out.mono ?_);rintro e w1 ⟨rfl,hb1⟩))
  go_ret;exact⟨rfl,hb1⟩
end Go.Proofs.aj.W7
namespace Go.Proofs.aj.W7
open Go.RowKit ah.aD ah.bH ah.bU
def vS.f(l0:List S36):Option (List S36):=if l0.length * 32≤140737488355328 then some l0 else none
theorem vS.calls(A0:Option Addr)(c0:Nat)(l0 r:List S36)(w:World)(hr0:Kd.C k36 w A0 l0.length l0)(hc0:l0.length≤c0)(h:vS.f l0=some r):
 Calls Tryz.prog 132 #[.slice A0 l0.length c0] w fun e w'=>∃v0_:Value,e=.returned (v0_)∧Kd.R k36 36 w' w.heap.size (fun _=>True) v0_ r∧Below w.heap.size w w':=by
 unfold vS.f at h
 split at h
 ·rename_i hz
  obtain rfl:=Option.some.inj h;clear h;have HR0:=ak.mk hr0;have HC0:=ak.mk hc0;clear hr0 hc0;have HB:=ak.mk (Below.refl w.heap.size w);have hu:=Tryz.underlying32;have q22:∀(w:World) (a:Option Addr) (n c n' c':Nat),(binOp .eql 32 (.slice a n c) (.slice none n' c')).run Tryz.prog w=.ok (.bool a.isNone) w:=fun w a n c n' c'=>Lib.run_eql_slice_nil w _ _ a n c n' c' hu
  cases A0 with
  |none=>
   have hnil:l0=[]:=by
    cases l0 with
    |nil=>rfl
    |cons x xs=>obtain⟨ad,e,_⟩:=HR0.out.2.2 (by simp);cases e
   subst hnil;go_enter Tryz.func132,Tryz.ntmps132;go_wp2;go_ret;exact⟨_,rfl,Kd.oz _ _ _ _ _,HB.out⟩
  |some ad=>
   go_enter Tryz.func132,Tryz.ntmps132
   go_wp2_with(first|((with_reducible refine cB (N:=5) rfl ?_);refine Kd.kg k36 _ 36 ?hg (N:=5) ?hd (xs:=([] :List (S36))) (inner:=[]) (ok:=fun _=>True) (okp:=fun _=>True) ?hr ?hp (fun _ hk=>hk) trivial (Below.refl _ _) (Nat.le_refl _) (by simp) ?_;(case hd=>rfl);(case hg=>rfl);(case hr=>first|(go_simp;done)|(go_simp;rfl));(case hp=>exact(bM.none _ _));intro v5 w5 ho5 hb5 hg_ gq;clear hg_ gq;have HO5:=ak.mk ho5;have HB5:=ak.mk hb5;clear ho5 hb5)|((with_reducible refine pY (b:=.append) (xs:=#[.tmp 5,.tmp 6]) rfl ?_);at_builtin;refine Kd.Ah k36 (w0:=w) w.heap.size rfl (.tmp 5) (.tmp 6) 32 36 (.agg #[(.string ⟨#[]⟩),(.string ⟨#[]⟩)]) 32 rfl Tryz.underlying32 Ku rfl (by decide) (by omega) v5 [] l0 _ _ _ (fun _=>True) (fun _=>False) rfl rfl HO5.out (Kd.bT HR0.out HB5.out) (fun _ _ h=>h) (fun _ h=>h.elim) (fun _ _=>trivial) HB5.out HB5.out.size (by simpa using hz) ?_;intro v7 w7 ho7 hb7 hg_ hat_))
   go_ret;exact⟨_,rfl,by simpa using ho7,hb7⟩
 ·cases h
end Go.Proofs.aj.W7
namespace Go.Proofs.aj.W7
open Go.RowKit ah.aD ah.bH ah.bU
attribute [local go_sem] dB dD dW dX bZ cu dF dG
def jf.l0:Nat→Int→List (S34)→List (S34)→Int→Int→Option ((List (S34)))
 |0,_,_,_,_,_=>none
 |k+1,x1,x5,x8,x9,x10=>if x10<x9 then(if 0≤x10 then(if x10<(x8.length:Int)then((vS.f ((au x8 x10).f4)).bind fun zu=>(if x5.length<1954687338268 then(jf.l0 k x1 (x5++[(⟨wrap64 (((au x8 x10).f0)+x1),(au x8 x10).f1,(au x8 x10).f2,(au x8 x10).f3,zu⟩:S34)]) x8 x9 (wrap64 (x10+1)))else(none)))else(none))else(none))else(some x5)
def jf.f(k:Nat)(l0:List (S34))(a1:Int):Option ((List (S34))):=jf.l0 k a1 ([] :List (S34)) l0 (l0.length:Int) 0
theorem jf.calls(k:Nat)(A0:Option Addr)(c0:Nat)(l0:List (S34))(a1:Int)(r:List (S34))(w:World)(hr0:Kd.C k34 w A0 l0.length l0)(hc0:l0.length≤c0)(h:jf.f k l0 a1=some r):
 Calls Tryz.prog 89 #[.slice A0 l0.length c0,.int .i64 a1] w fun e w'=>∃v0_:Value,e=.returned (v0_)∧Kd.R k34 34 w' w.heap.size (fun _=>True) v0_ r∧Below w.heap.size w w':=by
 have hu34:=Tryz.underlying34;have HR0:=ak.mk hr0;have HC0:=ak.mk hc0;clear hr0 hc0;have HB:=ak.mk (Below.refl w.heap.size w);have H:(jf.l0 k a1 ([] :List (S34)) l0 (l0.length:Int) 0)=some r:=h;clear h;have H':=ak.mk H;clear H;go_enter Tryz.func89,Tryz.ntmps89;go_wp2
 go_loopg [5,10] k (fun kq v5 v10 w'=>∃(jh:List (S34)) (fu:Int),v10=.int .i64 fu∧ak (jf.l0 kq a1 jh l0 (l0.length:Int) fu=some r)∧ak (kq≤k)∧ak (Kd.R k34 34 w' w.heap.size (fun _=>True) v5 jh)∧ak (Below w.heap.size w w'))
 case atStart=>exact⟨(([] :List (S34))),(0),q'c,H',⟨Nat.le_refl _⟩,⟨by first|exact Kd.oz _ _ _ _ _|exact Kd.N_nil _ _ _ _ _|exact Kd.V_nil _ _ _ _ _|exact Kd.Q_nil _ _ _ _ _|exact Kd.S_nil _ _ _ _ _⟩,⟨bz⟩⟩
 case round=>
  clear H'
  try clear p2
  obtain⟨jh,fu,rfl,HA,HK1,dN,HB⟩:=hrel;cases gk with
  |zero=>exact absurd HA.out (by simp[jf.l0])
  |succ k1=>
   have H:=HA.out;clear HA;simp only[jf.l0]at H
   by_cases c3:fu<(l0.length:Int)
   ·rw[if_pos c3]at H
    have oD:=decide_eq_true c3;clear c3
    by_cases c4:0≤fu
    ·rw[if_pos c4]at H
     have lY:=decide_eq_true c4;clear c4
     by_cases c5:fu<(l0.length:Int)
     ·rw[if_pos c5]at H
      have tX:=decide_eq_true c5;clear c5;replace H:=Option.bind_eq_some_iff.mp H;obtain⟨zu,A60,H⟩:=H
      try dsimp only at H
      have A6:=ak.mk A60;clear A60
      by_cases c7:jh.length<1954687338268
      ·rw[if_pos c7]at H
       have LMc7:=ak.mk c7;clear c7;obtain⟨y118,N9⟩:∃y_:List (S34),y_=(jh++[(⟨wrap64 (((au l0 fu).f0)+a1),(au l0 fu).f1,(au l0 fu).f2,(au l0 fu).f3,zu⟩:S34)]):=⟨_,rfl⟩
       replace H:(jf.l0 k1 a1 y118 l0 (l0.length:Int) (wrap64 (fu+1)))=some r:=by first|(rw[N9];with_reducible exact H)|(have H2_:=(Option.bind_some _ _).symm.trans H;rw[N9];with_reducible exact H2_)|(have H2_:=(Option.bind_some _ _).symm.trans H;with_reducible exact H2_)|with_reducible exact H|(rw[N9];exact H)|exact H
       have Ny118:=ak.mk N9;clear N9;have H':=ak.mk H;clear H;have p113:0≤(fu:Int):=q'b;have q113:fu<(l0.length:Int):=q'b;obtain⟨ad113,DV,DW,e113,LH,LJ,LK,LM,LP,SL,SN⟩:=iM HR0.out fu p113 q113;cases e113;replace LH:=(HB.out.cell (World.block_lt_of_cell? w _ LH)).trans LH;replace LJ:=(HB.out.cell (World.block_lt_of_cell? w _ LJ)).trans LJ;replace LK:=(HB.out.cell (World.block_lt_of_cell? w _ LK)).trans LK;replace LM:=(HB.out.cell (World.block_lt_of_cell? w _ LM)).trans LM;replace LP:=(HB.out.cell (World.block_lt_of_cell? w _ LP)).trans LP;have HR113_4:=ak.mk SN;have HC113_4:=ak.mk SL;clear SN SL;replace p113:=eq_true p113;replace q113:=eq_true q113
       go_wp2_with(first|((with_reducible refine cB (N:=7) rfl ?_);refine fH ?hg (N:=7) ?hd (cs:=#[.int .i64 0,.int .i64 0,.string (⟨#[]⟩:Bt),.string (⟨#[]⟩:Bt),.slice none 0 0]) (t:=34) ?hr ?_;(case hd=>rfl);(case hg=>rfl);(case hr=>first|(go_simp;done)|(go_simp;rfl));intro jP hg w8 gG hb;have jm:=ak.mk (gG);have GW114:=ak.mk ((by rw[hg];exact(aU bz):w.heap.size≤jP));have Hq:=ak.mk ((by rw[hg];exact(aU bz):w.heap.size≤jP));replace dN:=ak.mk (Kd.bK (Kd.NQ (rz dN.out) jP (Nat.le_of_eq hg.symm)) hb);replace HB:=ak.mk (aG bz hb);clear hb gG hg;have xC:w8.cell? ⟨jP,0,none⟩=some (.int .i64 0):=(aC jm.out 0).trans rfl;have xD:w8.cell? ⟨jP,1,none⟩=some (.int .i64 0):=(aC jm.out 1).trans rfl;have xE:w8.cell? ⟨jP,2,none⟩=some (.string (⟨#[]⟩:Bt)):=(aC jm.out 2).trans rfl;have xF:w8.cell? ⟨jP,3,none⟩=some (.string (⟨#[]⟩:Bt)):=(aC jm.out 3).trans rfl;have xG:w8.cell? ⟨jP,4,none⟩=some (.slice none 0 0):=(aC jm.out 4).trans rfl;have xH:=ay jm.out 0;have xI:=ay jm.out 1;have xJ:=ay jm.out 2;have xK:=ay jm.out 3;have xL:=ay jm.out 4)|((with_reducible refine bC (f:=132) rfl ?_);refine eG (some 21) rfl rfl Tryz.func132 (by kernel_rfl) rfl #[.slice DV ((au l0 fu).f4).length DW] rfl q'a ?_;(with_reducible refine(vS.calls _ _ ((au l0 fu).f4) zu _ ?dI ?dJ A6.out).mono ?_);(case dI=>exact Kd.bT HR113_4.out (bs Hq.out));(case dJ=>exact HC113_4.out);rintro e w10 ⟨v116,rfl,ho0,hb⟩;refine⟨_,rfl,?_⟩;have JF:=ak.mk (Kd.dU ho0 (aU (bs Hq.out)));replace dN:=ak.mk (Kd.gV (by(with_reducible repeat(first|apply Kd.eZ|apply Kd.fG|apply Kd.dR));exact(Kd.gM (Kd.gK (p:=⟨jP,0,none⟩) (Kd.gK (p:=⟨jP,4,none⟩) (Kd.gK (p:=⟨jP,3,none⟩) (Kd.gK (p:=⟨jP,2,none⟩) (Kd.gK (p:=⟨jP,1,none⟩) (Kd.gK (p:=⟨jP,0,none⟩) (Kd.gM dN.out (fun k_ hk=>(⟨hk,hk.2⟩:_∧k_≠jP))) (fun _ hk=>hk.2) (.int .i64 ((au l0 fu).f0))) (fun _ hk=>hk.2) (.int .i64 ((au l0 fu).f1))) (fun _ hk=>hk.2) (.string ((au l0 fu).f2))) (fun _ hk=>hk.2) (.string ((au l0 fu).f3))) (fun _ hk=>hk.2) (.slice DV ((au l0 fu).f4).length DW)) (fun _ hk=>hk.2) (.int .i64 (wrap64 (((au l0 fu).f0)+a1)))) (fun _ h_=>h_.1))) (Kd.jH ho0) hb);replace jm:=ak.mk (dK (g:=jP) (o:=.cells #[.int .i64 (wrap64 (((au l0 fu).f0)+a1)),.int .i64 ((au l0 fu).f1),.string ((au l0 fu).f2),.string ((au l0 fu).f3),.slice DV ((au l0 fu).f4).length DW] 34 (0,0)) (by(with_reducible repeat(first|refine aY ?_ _|refine bq ?_ |refine aZ ?_ _));refine bQ (cs:=#[.int .i64 ((au l0 fu).f0),.int .i64 ((au l0 fu).f1),.string ((au l0 fu).f2),.string ((au l0 fu).f3),.slice DV ((au l0 fu).f4).length DW]) ?_ 0 _ rfl;(with_reducible repeat(first|refine aY ?_ _|refine bq ?_ |refine aZ ?_ _));refine bQ (cs:=#[.int .i64 ((au l0 fu).f0),.int .i64 ((au l0 fu).f1),.string ((au l0 fu).f2),.string ((au l0 fu).f3),.slice none 0 0]) ?_ 4 _ rfl;(with_reducible repeat(first|refine aY ?_ _|refine bq ?_ |refine aZ ?_ _));refine bQ (cs:=#[.int .i64 ((au l0 fu).f0),.int .i64 ((au l0 fu).f1),.string ((au l0 fu).f2),.string (⟨#[]⟩:Bt),.slice none 0 0]) ?_ 3 _ rfl;(with_reducible repeat(first|refine aY ?_ _|refine bq ?_ |refine aZ ?_ _));refine bQ (cs:=#[.int .i64 ((au l0 fu).f0),.int .i64 ((au l0 fu).f1),.string (⟨#[]⟩:Bt),.string (⟨#[]⟩:Bt),.slice none 0 0]) ?_ 2 _ rfl;(with_reducible repeat(first|refine aY ?_ _|refine bq ?_ |refine aZ ?_ _));refine bQ (cs:=#[.int .i64 ((au l0 fu).f0),.int .i64 0,.string (⟨#[]⟩:Bt),.string (⟨#[]⟩:Bt),.slice none 0 0]) ?_ 1 _ rfl;(with_reducible repeat(first|refine aY ?_ _|refine bq ?_ |refine aZ ?_ _));refine bQ (cs:=#[.int .i64 0,.int .i64 0,.string (⟨#[]⟩:Bt),.string (⟨#[]⟩:Bt),.slice none 0 0]) ?_ 0 _ rfl;(with_reducible repeat(first|refine aY ?_ _|refine bq ?_ |refine aZ ?_ _));exact jm.out) hb);replace HB:=ak.mk (aG (bs Hq.out) hb);(try clear hb);(try clear hb2);(try clear hk);(try clear hi);(try clear ho0);obtain⟨GR,GU,eo11⟩:=Kd.cK JF.out;subst eo11;have hcz12_0:w10.cell? ⟨jP,0,none⟩=some (.int .i64 (wrap64 (((au l0 fu).f0)+a1))):=(aC jm.out 0).trans rfl;have hcz12_1:w10.cell? ⟨jP,1,none⟩=some (.int .i64 ((au l0 fu).f1)):=(aC jm.out 1).trans rfl;have hcz12_2:w10.cell? ⟨jP,2,none⟩=some (.string ((au l0 fu).f2)):=(aC jm.out 2).trans rfl;have hcz12_3:w10.cell? ⟨jP,3,none⟩=some (.string ((au l0 fu).f3)):=(aC jm.out 3).trans rfl;have hcz12_4:w10.cell? ⟨jP,4,none⟩=some (.slice DV ((au l0 fu).f4).length DW):=(aC jm.out 4).trans rfl;have hfz12_0:=ay jm.out 0;have hfz12_1:=ay jm.out 1;have hfz12_2:=ay jm.out 2;have hfz12_3:=ay jm.out 3;have hfz12_4:=ay jm.out 4)|((with_reducible refine lN (t:=32) (p:=22) rfl ?_);refine kH (t:=32) (p:=22) (v:=?vo_w13) (w1:=(w10.setCell ⟨jP,4,none⟩ (.slice GR zu.length GU))) ?hg ?ho ?hn ?hr ?_;(case ho=>rfl);(case hg=>rfl);(case hn=>rfl);(case hr=>first|(go_simp;done)|(go_simp;rfl));intro w13 hw;have n0_:ak (Kd.R k34 34 w13 w.heap.size (fun k_=>some k_≠(.slice GR zu.length GU:Value).ownBlock∧k_≠jP) u5 jh):=⟨(by rw[hw];exact(by(with_reducible repeat(first|apply Kd.eZ|apply Kd.fG|apply Kd.dR));exact Kd.gM (Kd.gK (p:=⟨jP,4,none⟩) (Kd.gM dN.out (fun k_ hk=>(⟨hk,hk.1.2⟩:_∧k_≠jP))) (fun _ hk=>hk.2) (.slice GR zu.length GU)) (fun _ hk=>⟨hk.1.2,hk.1.1.2⟩)))⟩;have n1_:ak (Kd.R k36 36 w13 w.heap.size (fun _=>True) (.slice GR zu.length GU) zu):=⟨(by rw[hw];exact(by(with_reducible repeat(first|apply Kd.eZ|apply Kd.fG|apply Kd.dR));exact Kd.gM (Kd.gK (p:=⟨jP,4,none⟩) (Kd.om JF.out jm.out (by decide)) (fun _ hk=>hk.2) (.slice GR zu.length GU)) (fun _ hk=>trivial)))⟩;have n2_:ak (w13.heap[jP]?=some (.cells #[.int .i64 (wrap64 (((au l0 fu).f0)+a1)),.int .i64 ((au l0 fu).f1),.string ((au l0 fu).f2),.string ((au l0 fu).f3),.slice GR zu.length GU] 34 (0,0))):=⟨(by rw[hw];exact(by(with_reducible repeat(first|refine aY ?_ _|refine bq ?_ |refine aZ ?_ _));refine bQ (cs:=#[.int .i64 (wrap64 (((au l0 fu).f0)+a1)),.int .i64 ((au l0 fu).f1),.string ((au l0 fu).f2),.string ((au l0 fu).f3),.slice DV ((au l0 fu).f4).length DW]) ?_ 4 _ rfl;(with_reducible repeat(first|refine aY ?_ _|refine bq ?_ |refine aZ ?_ _));exact jm.out))⟩;have n3_:ak (Below w.heap.size w w13):=⟨(by rw[hw];exact(bs Hq.out))⟩;clear hw;clear dN;clear JF;clear jm;clear HB;have dN:=n0_;have JF:=n1_;have jm:=n2_;have HB:=n3_;clear n0_ n1_ n2_ n3_;have xM:w13.cell? ⟨jP,0,none⟩=some (.int .i64 (wrap64 (((au l0 fu).f0)+a1))):=(aC jm.out 0).trans rfl;have xO:w13.cell? ⟨jP,1,none⟩=some (.int .i64 ((au l0 fu).f1)):=(aC jm.out 1).trans rfl;have xP:w13.cell? ⟨jP,2,none⟩=some (.string ((au l0 fu).f2)):=(aC jm.out 2).trans rfl;have xQ:w13.cell? ⟨jP,3,none⟩=some (.string ((au l0 fu).f3)):=(aC jm.out 3).trans rfl;have xR:w13.cell? ⟨jP,4,none⟩=some (.slice GR zu.length GU):=(aC jm.out 4).trans rfl;have xS:=ay jm.out 0;have xU:=ay jm.out 1;have xV:=ay jm.out 2;have xW:=ay jm.out 3;have xX:=ay jm.out 4)|((with_reducible refine pY (b:=.append) (xs:=#[.tmp 23,.tmp 25]) rfl ?_);at_builtin;refine Kd.mV k34 (w0:=w) w.heap.size rfl (.tmp 23) (.tmp 25) 22 34 (.agg #[(.int .i64 0),(.int .i64 0),(.string ⟨#[]⟩),(.string ⟨#[]⟩),(.slice none 0 0)]) 72 rfl Tryz.underlying22 qI rfl (by decide) (by omega) u5 jh (⟨wrap64 (((au l0 fu).f0)+a1),(au l0 fu).f1,(au l0 fu).f2,(au l0 fu).f3,zu⟩:S34) [.int .i64 (wrap64 (((au l0 fu).f0)+a1)),.int .i64 ((au l0 fu).f1),.string ((au l0 fu).f2),.string ((au l0 fu).f3),.slice GR zu.length GU] (fun k_=>k_≠jP) (fun k_=>((fun k_=>k_≠jP)) k_∧some k_≠(u5:Value).ownBlock) rfl rfl ?aP (fun _ hk=>hk) ?aF ?aO ?aB ?aS ?aL ?_;(case aP=>exact wP _ _ _ (⟨wrap64 (((au l0 fu).f0)+a1),(au l0 fu).f1,(au l0 fu).f2,(au l0 fu).f3,zu⟩:S34) (Kd.gM (Kd.om (Kd.NR (JF.out) (Kd.E9 dN.out) (by decide)) jm.out (by decide)) (fun k_ hk=>⟨hk.2,hk.1.2⟩)));(case aB=>exact(bs Hq.out));(case aF=>exact(fun k_ hk=>Kd.freshB (g:=jP) (o:=.cells #[.int .i64 (wrap64 (((au l0 fu).f0)+a1)),.int .i64 ((au l0 fu).f1),.string ((au l0 fu).f2),.string ((au l0 fu).f3),.slice GR zu.length GU] 34 (0,0)) (kz jm.out) k_ hk));(case aO=>exact(by(with_reducible repeat(first|apply Kd.eZ|apply Kd.fG|apply Kd.dR));exact Kd.gM dN.out (fun _ hk=>hk.2)));(case aS=>exact(aU (bs Hq.out)));(case aL=>have:=LMc7.out;omega);intro v119 w15 ho hb hg hat;rw[←Ny118.out]at ho;have HO120:=ak.mk (ho);replace jm:=ak.mk (qH (g:=jP) (o:=.cells #[.int .i64 (wrap64 (((au l0 fu).f0)+a1)),.int .i64 ((au l0 fu).f1),.string ((au l0 fu).f2),.string ((au l0 fu).f3),.slice GR zu.length GU] 34 (0,0)) (kz jm.out) hg (Kd.R_away dN.out (fun _ hk=>hk.2)));replace HB:=ak.mk (hb);clear dN JF;clear ho hb hg hat))
       go_roundg k1
       case measure=>have:=HK1.out;omega
       case rel=>exact⟨(y118),(wrap64 (fu+1)),q'c,H',⟨lz HK1.out⟩,⟨by(with_reducible repeat(first|apply Kd.eZ|apply Kd.fG|apply Kd.dR));exact Kd.gM HO120.out (fun _ hk=>trivial)⟩,⟨bs Hq.out⟩⟩
      ·rw[if_neg c7]at H
       exact absurd H (by simp)
     ·rw[if_neg c5]at H
      exact absurd H (by simp)
    ·rw[if_neg c4]at H
     exact absurd H (by simp)
   ·rw[if_neg c3]at H
    have oD:=decide_eq_false c3;clear c3;obtain rfl:=Option.some.inj H;go_wp2;go_ret;exact⟨_,by first|rfl|(simp[aI,aJ]<;>rfl)|(simp[*,aI,aJ]<;>rfl),by(with_reducible repeat(first|apply Kd.eZ|apply Kd.fG|apply Kd.dR));exact dN.out,bz⟩
end Go.Proofs.aj.W7
