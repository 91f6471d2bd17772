/- Lemmas and walks, part 17. -/
import Derived.Test.YtkcmghlhpbepcaaGreatDoorWS15
import Derived.Test.YtkcmghlhpbepcaaGreatDoorWS16
set_option linter.unusedVariables false
set_option linter.unusedSimpArgs false
set_option maxHeartbeats 8000000
set_option maxRecDepth 100000
namespace Go.Proofs.aj.W7
open Go.RowKit Go.Proofs.ah.aD Go.Proofs.ah.bG Go.Proofs.ah.bR
attribute [local go_sem] dD dF dV dW bU bV dG dH
def jm.f(k:Nat)(a0:Bt)(l1:List Bt):Option (Bool):=(fG.f a0).bind fun t191=>(if t191=true then((dQ.f k (⟨#[112]⟩:Bt)).bind fun zI=>((dZ.f l1 (([(⟨#[112]⟩:Bt)] :List Bt)) zI).bind fun t198=>(if t198≥0 then(some false)else((dB.f k a0).bind fun xC=>((dQ.f k a0).bind fun vw=>((dZ.f l1 xC vw).bind fun uj=>(some (decide (uj<0)))))))))else((dB.f k a0).bind fun t206=>((dQ.f k a0).bind fun Ck=>((dZ.f l1 t206 Ck).bind fun t212=>(some (decide (t212<0)))))))
theorem jm.calls(k:Nat)(a0:Bt)(A1:Option Addr)(c1:Nat)(l1:List Bt)(r:Bool)(w:World)(hr1:Kd.C Kd.string w A1 l1.length l1)(hc1:l1.length≤c1)(h:jm.f k a0 l1=some r):
 Calls Tryz.prog 27 #[.string a0,.slice A1 l1.length c1] w fun e w'=>e=.returned (.bool r)∧Below w.heap.size w w':=by
 have HR1:=ak.mk hr1;have HC1:=ak.mk hc1;clear hr1 hc1;have HB:=ak.mk (Below.refl w.heap.size w);have H:((fG.f a0).bind fun t191=>(if t191=true then((dQ.f k (⟨#[112]⟩:Bt)).bind fun zI=>((dZ.f l1 (([(⟨#[112]⟩:Bt)] :List Bt)) zI).bind fun t198=>(if t198≥0 then(some false)else((dB.f k a0).bind fun xC=>((dQ.f k a0).bind fun vw=>((dZ.f l1 xC vw).bind fun uj=>(some (decide (uj<0)))))))))else((dB.f k a0).bind fun t206=>((dQ.f k a0).bind fun Ck=>((dZ.f l1 t206 Ck).bind fun t212=>(some (decide (t212<0))))))))=some r:=h;clear h;replace H:=Option.bind_eq_some_iff.mp H;obtain⟨t191,A30,H⟩:=H;replace H:(if t191=true then((dQ.f k (⟨#[112]⟩:Bt)).bind fun zI=>((dZ.f l1 (([(⟨#[112]⟩:Bt)] :List Bt)) zI).bind fun t198=>(if t198≥0 then(some false)else((dB.f k a0).bind fun xC=>((dQ.f k a0).bind fun vw=>((dZ.f l1 xC vw).bind fun uj=>(some (decide (uj<0)))))))))else((dB.f k a0).bind fun t206=>((dQ.f k a0).bind fun Ck=>((dZ.f l1 t206 Ck).bind fun t212=>(some (decide (t212<0)))))))=some r:=H;have A3:=ak.mk A30;clear A30
 by_cases c4:t191=true
 ·subst c4
  have H1:((dQ.f k (⟨#[112]⟩:Bt)).bind fun zI=>((dZ.f l1 (([(⟨#[112]⟩:Bt)] :List Bt)) zI).bind fun t198=>(if t198≥0 then(some false)else((dB.f k a0).bind fun xC=>((dQ.f k a0).bind fun vw=>((dZ.f l1 xC vw).bind fun uj=>(some (decide (uj<0)))))))))=some r:=by rw[if_pos rfl]at H;exact H
  clear H;have H:=H1;clear H1;obtain⟨y192,LD⟩:∃y_:List Bt,y_=(([(⟨#[112]⟩:Bt)] :List Bt)):=⟨_,rfl⟩
  replace H:((dQ.f k (⟨#[112]⟩:Bt)).bind fun zI=>((dZ.f l1 y192 zI).bind fun t198=>(if t198≥0 then(some false)else((dB.f k a0).bind fun xC=>((dQ.f k a0).bind fun vw=>((dZ.f l1 xC vw).bind fun uj=>(some (decide (uj<0)))))))))=some r:=by first|(rw[LD];with_reducible exact H)|(have H2_:=(Option.bind_some _ _).symm.trans H;rw[LD];with_reducible exact H2_)|(have H2_:=(Option.bind_some _ _).symm.trans H;with_reducible exact H2_)|with_reducible exact H|(rw[LD];exact H)|exact H
  have Ny192:=ak.mk LD;clear LD;replace H:=Option.bind_eq_some_iff.mp H;obtain⟨zI,A50,H⟩:=H;replace H:((dZ.f l1 y192 zI).bind fun t198=>(if t198≥0 then(some false)else((dB.f k a0).bind fun xC=>((dQ.f k a0).bind fun vw=>((dZ.f l1 xC vw).bind fun uj=>(some (decide (uj<0))))))))=some r:=H;have A5:=ak.mk A50;clear A50;replace H:=Option.bind_eq_some_iff.mp H;obtain⟨t198,A60,H⟩:=H;replace H:(if t198≥0 then(some false)else((dB.f k a0).bind fun xC=>((dQ.f k a0).bind fun vw=>((dZ.f l1 xC vw).bind fun uj=>(some (decide (uj<0)))))))=some r:=H;have A6:=ak.mk A60;clear A60
  by_cases c7:t198≥0
  ·rw[if_pos c7]at H
   have c7b0:decide (0≤t198)=true:=decide_eq_true c7;clear c7;obtain rfl:=Option.some.inj H;go_enter Tryz.func27,Tryz.ntmps27
   go_wp2_with(first|((with_reducible refine aZ (f:=76) rfl ?_);refine dO (some 7) rfl rfl Tryz.func76 (by kernel_rfl) rfl #[.string a0] rfl q'a ?_;(with_reducible refine(fG.calls a0 true _ A3.out).mono ?_);rintro e w' ⟨rfl,⟨nd,rfl⟩⟩;refine⟨_,rfl,?_⟩)|((with_reducible refine cu (N:=10) rfl ?_);(try(refine pJ (by rfl) ?_;dsimp only));refine Kd.kr Kd.string _ 9 ?hg (N:=10) ?hd (xs:=([(⟨#[112]⟩:Bt)] :List Bt)) (inner:=[.string (⟨#[112]⟩:Bt)]) (ok:=fun _=>True) (okp:=fun _=>True) ?hr ?hp (fun _ hk=>hk) trivial (Below.refl _ _) (Nat.le_refl _) (by simp) ?_;(case hd=>rfl);(case hg=>rfl);(case hr=>first|(go_simp;done)|(go_simp;rfl));(case hp=>exact(bJ.one (show Kd.M Kd.string _ _ _ (⟨#[112]⟩:Bt) [.string (⟨#[112]⟩:Bt)]from rfl) (bJ.none _ _)));intro v193 w8 ho9 hb hg_ fP;clear hg_ fP;(first|rw[←Ny192.out]at ho9|(simp only[Int.reduceToNat]at ho9;rw[←Ny192.out]at ho9));have jX:=ak.mk (Kd.dR ho9 (aU bz));replace HB:=ak.mk (aG bz hb);clear hb ho9)|(go_at_call 78;(fail_if_success (have zz_:=Ao12));(with_reducible refine(dQ.calls k (⟨#[112]⟩:Bt) zI _ A5.out).mono ?_);rintro e w10 ⟨v196,rfl,ho0,hb⟩;have mD:=ak.mk (Kd.dR (Kd.kH ho0 (Kd.rU (rz jX.out))) (aU bz));replace jX:=ak.mk (Kd.ig (rz jX.out) (Kd.jT ho0) hb);replace HB:=ak.mk (aG bz hb);(try clear hb);(try clear hb2);(try clear hk);(try clear hi);(try clear ho0);obtain⟨EO,EP,eo11⟩:=Kd.cK jX.out;subst eo11;obtain⟨Ao12,co12,eo12⟩:=Kd.cK mD.out;subst eo12)|(go_at_call 77;(with_reducible refine(dZ.calls _ _ l1 _ _ y192 _ _ zI t198 _ ?dz ?dA ?mX ?mY ?ER ?ES A6.out).mono ?_);(case dz=>exact cz (Kd.eF HR1.out HB.out));(case dA=>exact HC1.out);(case mX=>exact cz (Kd.bq jX.out).2.2);(case mY=>exact(Kd.bq jX.out).2.1);(case ER=>exact cz (Kd.bq mD.out).2.2);(case ES=>exact(Kd.bq mD.out).2.1);rintro e w13 ⟨rfl,hb⟩;replace jX:=ak.mk (Kd.bZ (rz jX.out) hb);replace mD:=ak.mk (Kd.bZ (rz mD.out) hb);replace HB:=ak.mk (aG bz hb);(try clear hb);(try clear hb2);(try clear hk);(try clear hi)))
   go_ret;exact⟨by first|rfl|(simp[aJ,aM]<;>rfl)|(simp[*,aJ,aM]<;>rfl),bz⟩
  ·rw[if_neg c7]at H
   have c7b0:decide (0≤t198)=false:=decide_eq_false c7;clear c7;replace H:=Option.bind_eq_some_iff.mp H;obtain⟨xC,A140,H⟩:=H;replace H:((dQ.f k a0).bind fun vw=>((dZ.f l1 xC vw).bind fun uj=>(some (decide (uj<0)))))=some r:=H;have A14:=ak.mk A140;clear A140;replace H:=Option.bind_eq_some_iff.mp H;obtain⟨vw,A150,H⟩:=H;replace H:((dZ.f l1 xC vw).bind fun uj=>(some (decide (uj<0))))=some r:=H;have A15:=ak.mk A150;clear A150;replace H:=Option.bind_eq_some_iff.mp H;obtain⟨uj,A160,H⟩:=H;replace H:(some (decide (uj<0)))=some r:=H;have A16:=ak.mk A160;clear A160;obtain rfl:=Option.some.inj H;go_enter Tryz.func27,Tryz.ntmps27
   go_wp2_with(first|((with_reducible refine aZ (f:=76) rfl ?_);refine dO (some 7) rfl rfl Tryz.func76 (by kernel_rfl) rfl #[.string a0] rfl q'a ?_;(with_reducible refine(fG.calls a0 true _ A3.out).mono ?_);rintro e w' ⟨rfl,⟨nd,rfl⟩⟩;refine⟨_,rfl,?_⟩)|((with_reducible refine cu (N:=10) rfl ?_);(try(refine pJ (by rfl) ?_;dsimp only));refine Kd.kr Kd.string _ 9 ?hg (N:=10) ?hd (xs:=([(⟨#[112]⟩:Bt)] :List Bt)) (inner:=[.string (⟨#[112]⟩:Bt)]) (ok:=fun _=>True) (okp:=fun _=>True) ?hr ?hp (fun _ hk=>hk) trivial (Below.refl _ _) (Nat.le_refl _) (by simp) ?_;(case hd=>rfl);(case hg=>rfl);(case hr=>first|(go_simp;done)|(go_simp;rfl));(case hp=>exact(bJ.one (show Kd.M Kd.string _ _ _ (⟨#[112]⟩:Bt) [.string (⟨#[112]⟩:Bt)]from rfl) (bJ.none _ _)));intro v193 w17 xA hb hg_ fP;clear hg_ fP;(first|rw[←Ny192.out]at xA|(simp only[Int.reduceToNat]at xA;rw[←Ny192.out]at xA));have jX:=ak.mk (Kd.dR xA (aU bz));replace HB:=ak.mk (aG bz hb);clear hb xA)|(go_at_call 78;(fail_if_success (have zz_:=Ao21));(with_reducible refine(dQ.calls k (⟨#[112]⟩:Bt) zI _ A5.out).mono ?_);rintro e w19 ⟨v196,rfl,ho0,hb⟩;have mD:=ak.mk (Kd.dR (Kd.kH ho0 (Kd.rU (rz jX.out))) (aU bz));replace jX:=ak.mk (Kd.ig (rz jX.out) (Kd.jT ho0) hb);replace HB:=ak.mk (aG bz hb);(try clear hb);(try clear hb2);(try clear hk);(try clear hi);(try clear ho0);obtain⟨Ao20,co20,eo20⟩:=Kd.cK jX.out;subst eo20;obtain⟨Ao21,co21,eo21⟩:=Kd.cK mD.out;subst eo21)|(go_at_call 77;(with_reducible refine(dZ.calls _ _ l1 _ _ y192 _ _ zI t198 _ ?dz ?dA ?mX ?mY ?ER ?ES A6.out).mono ?_);(case dz=>exact cz (Kd.eF HR1.out HB.out));(case dA=>exact HC1.out);(case mX=>exact cz (Kd.bq jX.out).2.2);(case mY=>exact(Kd.bq jX.out).2.1);(case ER=>exact cz (Kd.bq mD.out).2.2);(case ES=>exact(Kd.bq mD.out).2.1);rintro e w22 ⟨rfl,hb⟩;replace jX:=ak.mk (Kd.bZ (rz jX.out) hb);replace mD:=ak.mk (Kd.bZ (rz mD.out) hb);replace HB:=ak.mk (aG bz hb);(try clear hb);(try clear hb2);(try clear hk);(try clear hi))|(go_at_call 35;(with_reducible refine(dB.calls k a0 xC _ A14.out).mono ?_);rintro e w23 ⟨v200,rfl,ho0,hb⟩;have zo:=ak.mk (Kd.dR (Kd.kH (Kd.kH ho0 (Kd.rU (rz jX.out))) (Kd.rU (rz mD.out))) (aU bz));replace jX:=ak.mk (Kd.ig (rz jX.out) (Kd.jT ho0) hb);replace mD:=ak.mk (Kd.ig (rz mD.out) (Kd.jT ho0) hb);replace HB:=ak.mk (aG bz hb);(try clear hb);(try clear hb2);(try clear hk);(try clear hi);(try clear ho0))|(go_at_call 78;(fail_if_success (have zz_:=Ao26));(with_reducible refine(dQ.calls k a0 vw _ A15.out).mono ?_);rintro e w24 ⟨v203,rfl,ho0,hb⟩;have GQ:=ak.mk (Kd.dR (Kd.kH (Kd.kH (Kd.kH ho0 (Kd.rU (rz jX.out))) (Kd.rU (rz mD.out))) (Kd.rU (rz zo.out))) (aU bz));replace jX:=ak.mk (Kd.ig (rz jX.out) (Kd.jT ho0) hb);replace mD:=ak.mk (Kd.ig (rz mD.out) (Kd.jT ho0) hb);replace zo:=ak.mk (Kd.ig (rz zo.out) (Kd.jT ho0) hb);replace HB:=ak.mk (aG bz hb);(try clear hb);(try clear hb2);(try clear hk);(try clear hi);(try clear ho0);obtain⟨Ao25,co25,eo25⟩:=Kd.cK zo.out;subst eo25;obtain⟨Ao26,co26,eo26⟩:=Kd.cK GQ.out;subst eo26)|(go_at_call 77;(with_reducible refine(dZ.calls _ _ l1 _ _ xC _ _ vw uj _ ?dz ?dA ?mX ?mY ?ER ?ES A16.out).mono ?_);(case dz=>exact cz (Kd.eF HR1.out HB.out));(case dA=>exact HC1.out);(case mX=>exact cz (Kd.bq zo.out).2.2);(case mY=>exact(Kd.bq zo.out).2.1);(case ER=>exact cz (Kd.bq GQ.out).2.2);(case ES=>exact(Kd.bq GQ.out).2.1);rintro e w27 ⟨rfl,hb⟩;replace jX:=ak.mk (Kd.bZ (rz jX.out) hb);replace mD:=ak.mk (Kd.bZ (rz mD.out) hb);replace zo:=ak.mk (Kd.bZ (rz zo.out) hb);replace GQ:=ak.mk (Kd.bZ (rz GQ.out) hb);replace HB:=ak.mk (aG bz hb);(try clear hb);(try clear hb2);(try clear hk);(try clear hi)))
   go_ret;exact⟨by first|rfl|(simp[aJ,aM]<;>rfl)|(simp[*,aJ,aM]<;>rfl),bz⟩
 ·replace c4:=Bool.eq_false_iff.mpr c4
  subst c4;have H1:((dB.f k a0).bind fun t206=>((dQ.f k a0).bind fun Ck=>((dZ.f l1 t206 Ck).bind fun t212=>(some (decide (t212<0))))))=some r:=by rw[if_neg (show¬(false=true) by decide)]at H;first|exact H|(simp only[eq_self]at H⊢;exact H)|(simp only[eq_self,if_true]at H⊢;exact H)
  clear H;have H:=H1;clear H1;replace H:=Option.bind_eq_some_iff.mp H;obtain⟨t206,A280,H⟩:=H;replace H:((dQ.f k a0).bind fun Ck=>((dZ.f l1 t206 Ck).bind fun t212=>(some (decide (t212<0)))))=some r:=H;have A28:=ak.mk A280;clear A280;replace H:=Option.bind_eq_some_iff.mp H;obtain⟨Ck,A290,H⟩:=H;replace H:((dZ.f l1 t206 Ck).bind fun t212=>(some (decide (t212<0))))=some r:=H;have A29:=ak.mk A290;clear A290;replace H:=Option.bind_eq_some_iff.mp H;obtain⟨t212,A300,H⟩:=H;replace H:(some (decide (t212<0)))=some r:=H;have A30:=ak.mk A300;clear A300;obtain rfl:=Option.some.inj H;go_enter Tryz.func27,Tryz.ntmps27
  go_wp2_with(first|((with_reducible refine aZ (f:=76) rfl ?_);refine dO (some 7) rfl rfl Tryz.func76 (by kernel_rfl) rfl #[.string a0] rfl q'a ?_;(with_reducible refine(fG.calls a0 false _ A3.out).mono ?_);rintro e w' ⟨rfl,⟨nd,rfl⟩⟩;refine⟨_,rfl,?_⟩)|(go_at_call 35;(with_reducible refine(dB.calls k a0 t206 _ A28.out).mono ?_);rintro e w31 ⟨v207,rfl,ho0,hb⟩;have zq:=ak.mk (Kd.dR ho0 (aU bz));replace HB:=ak.mk (aG bz hb);(try clear hb);(try clear hb2);(try clear hk);(try clear hi);(try clear ho0))|(go_at_call 78;(fail_if_success (have zz_:=Ao34));(with_reducible refine(dQ.calls k a0 Ck _ A29.out).mono ?_);rintro e w32 ⟨v210,rfl,ho0,hb⟩;have GR:=ak.mk (Kd.dR (Kd.kH ho0 (Kd.rU (rz zq.out))) (aU bz));replace zq:=ak.mk (Kd.ig (rz zq.out) (Kd.jT ho0) hb);replace HB:=ak.mk (aG bz hb);(try clear hb);(try clear hb2);(try clear hk);(try clear hi);(try clear ho0);obtain⟨Ao33,co33,eo33⟩:=Kd.cK zq.out;subst eo33;obtain⟨Ao34,co34,eo34⟩:=Kd.cK GR.out;subst eo34)|(go_at_call 77;(with_reducible refine(dZ.calls _ _ l1 _ _ t206 _ _ Ck t212 _ ?dz ?dA ?mX ?mY ?ER ?ES A30.out).mono ?_);(case dz=>exact cz (Kd.eF HR1.out HB.out));(case dA=>exact HC1.out);(case mX=>exact cz (Kd.bq zq.out).2.2);(case mY=>exact(Kd.bq zq.out).2.1);(case ER=>exact cz (Kd.bq GR.out).2.2);(case ES=>exact(Kd.bq GR.out).2.1);rintro e w35 ⟨rfl,hb⟩;replace zq:=ak.mk (Kd.bZ (rz zq.out) hb);replace GR:=ak.mk (Kd.bZ (rz GR.out) hb);replace HB:=ak.mk (aG bz hb);(try clear hb);(try clear hb2);(try clear hk);(try clear hi)))
  go_ret;exact⟨by first|rfl|(simp[aJ,aM]<;>rfl)|(simp[*,aJ,aM]<;>rfl),bz⟩
def iZ.l0:Nat→List Bt→List Bt→List Bt→Int→Option (Int)
 |0,_,_,_,_=>none
 |k+1,x0,x1,x2,x7=>if x7≥0 then(if 0≤x7 then(if x7<(x0.length:Int)then((iC.f k x1 (xw ByteArray.empty x0 x7)).bind fun t215=>(if t215=true then(some x7)else((iC.f k x2 (xw ByteArray.empty x0 x7)).bind fun t217=>(if t217=true then(some (-1))else(iZ.l0 k x0 x1 x2 (wrap64 (x7 - 1)))))))else(none))else(none))else(some (-1))
def iZ.f(k:Nat)(l0 l1 l2:List Bt):Option (Int):=iZ.l0 k l0 l1 l2 (wrap64 ((l0.length:Int) - 1))
def jS.l0:Nat→List Bt→List Bt→List Bt→Int→Option (List Bt)
 |0,_,_,_,_=>none
 |k+1,x0,x1,x2,x7=>if x7≥0 then(if 0≤x7 then(if x7≤(x0.length:Int)then((some (x0.take (x7:Int).toNat:List Bt)).bind fun y219=>((iZ.f k y219 x1 x2).bind fun t224=>(jS.l0 k y219 x1 x2 t224)))else(none))else(none))else((some (([] :List Bt):List Bt)).bind fun y225=>(if y225.length+x0.length<8796093022208 then(some (y225++x0))else(none)))
def jS.f(k:Nat)(l0 l1 l2:List Bt):Option (List Bt):=(iZ.f k l0 l1 l2).bind fun t218=>(jS.l0 k l0 l1 l2 t218)
def gJ.f:Option (List Bt):=some (([(⟨#[116,98,111,100,121]⟩:Bt),(⟨#[116,100]⟩:Bt),(⟨#[116,102,111,111,116]⟩:Bt),(⟨#[116,104]⟩:Bt),(⟨#[116,104,101,97,100]⟩:Bt),(⟨#[116,114]⟩:Bt)] :List Bt))
def rF.f:Option (List Bt):=some (([(⟨#[97,100,100,114,101,115,115]⟩:Bt),(⟨#[97,114,116,105,99,108,101]⟩:Bt),(⟨#[97,115,105,100,101]⟩:Bt),(⟨#[98,108,111,99,107,113,117,111,116,101]⟩:Bt),(⟨#[99,101,110,116,101,114]⟩:Bt),(⟨#[100,100]⟩:Bt),(⟨#[100,101,116,97,105,108,115]⟩:Bt),(⟨#[100,105,97,108,111,103]⟩:Bt),(⟨#[100,105,114]⟩:Bt),(⟨#[100,105,118]⟩:Bt),(⟨#[100,108]⟩:Bt),(⟨#[100,116]⟩:Bt),(⟨#[102,105,101,108,100,115,101,116]⟩:Bt),(⟨#[102,105,103,99,97,112,116,105,111,110]⟩:Bt),(⟨#[102,105,103,117,114,101]⟩:Bt),(⟨#[102,111,111,116,101,114]⟩:Bt),(⟨#[102,111,114,109]⟩:Bt),(⟨#[104,49]⟩:Bt),(⟨#[104,50]⟩:Bt),(⟨#[104,51]⟩:Bt),(⟨#[104,52]⟩:Bt),(⟨#[104,53]⟩:Bt),(⟨#[104,54]⟩:Bt),(⟨#[104,101,97,100,101,114]⟩:Bt),(⟨#[104,103,114,111,117,112]⟩:Bt),(⟨#[104,114]⟩:Bt),(⟨#[108,105]⟩:Bt),(⟨#[109,97,105,110]⟩:Bt),(⟨#[109,101,110,117]⟩:Bt),(⟨#[110,97,118]⟩:Bt),(⟨#[111,108]⟩:Bt),(⟨#[112]⟩:Bt),(⟨#[112,114,101]⟩:Bt),(⟨#[115,101,99,116,105,111,110]⟩:Bt),(⟨#[115,117,109,109,97,114,121]⟩:Bt),(⟨#[116,97,98,108,101]⟩:Bt),(⟨#[117,108]⟩:Bt),(⟨#[120,109,112]⟩:Bt)] :List Bt))
mutual
def fM.j0:Nat→Bt→Bool→Option (List Bt)
 |0,_,_=>none
 |k+1,x0,x8=>if x8=true then(some (([x0] :List Bt)))else(if x0.toList=([100,100] :List UInt8)then(fM.j1 k x0 true)else(fM.j1 k x0 (x0.toList==([100,116] :List UInt8))))
def fM.j1:Nat→Bt→Bool→Option (List Bt)
 |0,_,_=>none
 |k+1,x0,x16=>if x16=true then(some (([(⟨#[100,100]⟩:Bt),(⟨#[100,116]⟩:Bt)] :List Bt)))else(if x0.toList=([111,112,116,103,114,111,117,112] :List UInt8)then(some (([(⟨#[111,112,116,103,114,111,117,112]⟩:Bt),(⟨#[111,112,116,105,111,110]⟩:Bt)] :List Bt)))else(if x0.toList=([116,114] :List UInt8)then(some (([(⟨#[116,100]⟩:Bt),(⟨#[116,104]⟩:Bt),(⟨#[116,114]⟩:Bt)] :List Bt)))else(if x0.toList=([116,100] :List UInt8)then(fM.j2 k x0 true)else(fM.j2 k x0 (x0.toList==([116,104] :List UInt8))))))
def fM.j2:Nat→Bt→Bool→Option (List Bt)
 |0,_,_=>none
 |k+1,x0,x29=>if x29=true then(some (([(⟨#[116,100]⟩:Bt),(⟨#[116,104]⟩:Bt)] :List Bt)))else((gJ.f).bind fun t252=>((iC.f k t252 x0).bind fun t255=>(if t255=true then((gJ.f).bind fun t256=>(some t256))else((rF.f).bind fun t259=>((iC.f k t259 x0).bind fun t262=>(if t262=true then(some (([(⟨#[112]⟩:Bt)] :List Bt)))else(some (([] :List Bt)))))))))
end
def fM.f(k:Nat)(a0:Bt):Option (List Bt):=if a0.toList=([108,105] :List UInt8)then(fM.j0 k a0 true)else(fM.j0 k a0 (a0.toList==([111,112,116,105,111,110] :List UInt8)))
mutual
def fZ.j0:Nat→Bt→Bool→Option (List Bt)
 |0,_,_=>none
 |k+1,x0,x11=>if x11=true then(some (([(⟨#[100,108]⟩:Bt),(⟨#[116,101,109,112,108,97,116,101]⟩:Bt)] :List Bt)))else(if x0.toList=([111,112,116,105,111,110] :List UInt8)then(fZ.j1 k x0 true)else(fZ.j1 k x0 (x0.toList==([111,112,116,103,114,111,117,112] :List UInt8))))
def fZ.j1:Nat→Bt→Bool→Option (List Bt)
 |0,_,_=>none
 |k+1,x0,x18=>if x18=true then(some (([(⟨#[115,101,108,101,99,116]⟩:Bt),(⟨#[116,101,109,112,108,97,116,101]⟩:Bt)] :List Bt)))else((gJ.f).bind fun t278=>((iC.f k t278 x0).bind fun t281=>(if t281=true then(some (([(⟨#[116,97,98,108,101]⟩:Bt),(⟨#[116,101,109,112,108,97,116,101]⟩:Bt)] :List Bt)))else(some (([(⟨#[98,117,116,116,111,110]⟩:Bt),(⟨#[99,97,112,116,105,111,110]⟩:Bt),(⟨#[116,97,98,108,101]⟩:Bt),(⟨#[116,100]⟩:Bt),(⟨#[116,101,109,112,108,97,116,101]⟩:Bt),(⟨#[116,104]⟩:Bt)] :List Bt))))))
end
def fZ.f(k:Nat)(a0:Bt):Option (List Bt):=if a0.toList=([108,105] :List UInt8)then(some (([(⟨#[109,101,110,117]⟩:Bt),(⟨#[111,108]⟩:Bt),(⟨#[116,101,109,112,108,97,116,101]⟩:Bt),(⟨#[117,108]⟩:Bt)] :List Bt)))else(if a0.toList=([100,100] :List UInt8)then(fZ.j0 k a0 true)else(fZ.j0 k a0 (a0.toList==([100,116] :List UInt8))))
def AB.f(a0:Bt):Option (Bool):=if a0.toList=([108,105] :List UInt8)then(some true)else(if a0.toList=([100,100] :List UInt8)then(some true)else(some (a0.toList==([100,116] :List UInt8))))
def zi.f(k:Nat)(l0:List Bt)(a1:Bt):Option (List Bt):=(fM.f k a1).bind fun t288=>((fZ.f k a1).bind fun t291=>((jS.f k l0 t288 t291).bind fun t294=>((AB.f a1).bind fun t297=>(if t297=true then((fZ.f k (⟨#[112]⟩:Bt)).bind fun t301=>((jS.f k t294 (([(⟨#[112]⟩:Bt)] :List Bt)) t301).bind fun t304=>(some t304)))else(some t294)))))
def Nl.f(k:Nat)(a0:Bt)(l1:List Bt):Option (Bool):=(zi.f k l1 a0).bind fun t307=>(some ((t307.length:Int)==(l1.length:Int)))
end Go.Proofs.aj.W7
namespace Go.Proofs.aj.W7
open Go.RowKit Go.Proofs Go.Proofs.aj Go.Proofs.YtkcmghlhpbepcaaGreatDoor Go.Proofs.ah.aD
def tabR:List Bt:=(gJ.f).getD []
theorem QI(s:Bt)(k:Nat)(hk:20≤k):fT.f k s=some (oZ tabR s):=by
 unfold fT.f;rw[sJ _ _ _ (by simp) (by simp;omega),Option.bind_some]
 congr 1
 show oZ _ s=oZ ((gJ.f).getD []) s;simp only[gJ.f,Option.getD_some,oZ,List.any_cons,List.any_nil,Bool.or_false]
 ac_rfl
def blkR:List Bt:=(rF.f).getD []
theorem block_f(s:Bt)(k:Nat)(hk:90≤k):jW.f k s=some (oZ blkR s):=by
 unfold jW.f;rw[sJ _ _ _ (by simp) (by simp;omega),Option.bind_some];rfl
theorem FH(l:List Bt)(s:Bt):oZ l s=Lib.containsS l s:=by
 rw[Bool.eq_iff_iff,Lib.containsS_iff];simp only[oZ,List.any_eq_true,beq_iff_eq];constructor
 ·rintro⟨x,hx,e⟩
  obtain⟨⟨a⟩⟩:=x;obtain⟨⟨b⟩⟩:=s;simp only at e;subst e;exact hx
 ·intro h
  exact⟨s,h,rfl⟩
theorem Hu(xs some_ walls:List Bt):∀k,-1≤dU xs some_ walls k∧dU xs some_ walls k<k
 |0=>by simp[dU]
 |k+1=>by
  have:=Hu xs some_ walls k;simp only[dU]
  split
  ·omega
  ·split<;>omega
def closeR(a b:List Bt):Nat→List Bt→List Bt
 |0,op=>op
 |n+1,op=>if dU op a b op.length<0 then op else closeR a b n (op.take (dU op a b op.length).toNat)
theorem MG(s:Bt)(k:Nat)(hk:101≤k):∃c,dB.f k s=some c∧c.length<1000:=by
 obtain⟨k,rfl⟩:∃m,k=m+1:=⟨k - 1,by omega⟩
 have h:∀b,∃c,dB.j0 (k+1) s s b=some c∧c.length<1000:=by
  intro b;simp only[dB.j0];rw[QI _ _ (by omega),Option.bind_some,block_f _ _ (by omega),Option.bind_some]
  repeat' split
  all_goals exact⟨_,rfl,by simp⟩
 unfold dB.f
 split
 ·exact h _
 ·exact h _
theorem Oj(s:Bt)(k:Nat)(hk:101≤k):∃c,dQ.f k s=some c∧c.length<1000:=by
 unfold dQ.f;rw[sJ _ _ _ (by simp) (by simp;omega),Option.bind_some,sJ _ _ _ (by simp) (by simp;omega),Option.bind_some,QI _ _ (by omega),Option.bind_some]
 repeat' split
 all_goals exact⟨_,rfl,by simp⟩
theorem par_some(s:Bt):∃p,fG.f s=some p:=by
 unfold fG.f
 repeat' split
 all_goals exact⟨_,rfl⟩
end Go.Proofs.aj.W7
namespace Go.Proofs.aj.W7
open Go.RowKit Go.Proofs Go.Proofs.YtkcmghlhpbepcaaGreatDoor
abbrev Rw:=S34
theorem Iz{w:World}{a:Addr}{v:Value}(h:w.cell? a=some v):a=⟨a.block,a.off,none⟩:=by
 obtain⟨b,o,s⟩:=a;cases s with
 |none=>rfl
 |some s=>
  unfold World.cell? at h
  split at h<;>simp at h
theorem IB(b o n:Nat):Addr.add ⟨b,o,none⟩ n=⟨b,o+n,none⟩:=by
 unfold Addr.add
 split<;>simp_all
theorem uY{w:World}{A:Option Addr}{xs:List Rw}(h:k34.C w A xs.length xs)(i:Nat)(hi:i<xs.length):
 ∃g o A4 c4,A=some ⟨g,o,none⟩∧w.cell? ⟨g,o+i * 5,none⟩=some (.int .i64 xs[i].f0)∧w.cell? ⟨g,o+i * 5+1,none⟩=some (.int .i64 xs[i].f1)∧w.cell? ⟨g,o+i * 5+2,none⟩=some (.string xs[i].f2)∧w.cell? ⟨g,o+i * 5+3,none⟩=some (.string xs[i].f3)∧w.cell? ⟨g,o+i * 5+4,none⟩=some (.slice A4 xs[i].f4.length c4)∧xs[i].f4.length≤c4∧k36.C w A4 xs[i].f4.length xs[i].f4:=by
 obtain⟨ad0,_,_,e0,z0,_⟩:=lg h 0 (by omega) (by omega);have hs:=Iz (a:=ad0) (by simpa [Addr.add]using z0);obtain⟨ad,A4,c4,e,c0,c1,c2,c3,c4',l4,g4⟩:=lg h i (by omega) (by omega);obtain rfl:ad0=ad:=Option.some.inj (e0.symm.trans e);simp only[Int.toNat_natCast]at c0 c1 c2 c3 c4';rw[hs,IB]at c0 c1 c2 c3 c4';have er:au xs i=xs[i]:=by simp[au,hi]
 rw[er]at c0 c1 c2 c3 c4' l4 g4;exact⟨ad0.block,ad0.off,A4,c4,by rw[e0,←hs],c0,c1,c2,c3,c4',l4,g4⟩
theorem big1_c(d k:Int)(n t:ByteArray)(a:Option Addr)(l c:Nat)(w:World):
 Calls Tryz.prog 130 #[.agg #[.int .i64 d,.int .i64 k,.string n,.string t,.slice a l c]] w fun e w'=>e=.returned (.bool (decide (60≤d)))∧Below w.heap.size w w':=by
 go_enter Tryz.func130,Tryz.ntmps130;go_wp2;go_ret;exact⟨rfl,(Below.refl _ w).alloc (Nat.le_refl _) _⟩
def Bj(x:Rw):Bool:=decide (60≤x.f0)
theorem idx_big(xs:List Rw)(A:Option Addr)(c:Nat)(w:World)(hr:k34.C w A xs.length xs)(b:Bool)(hb:xs.any Bj=b):
 Calls Tryz.prog 173 #[.slice A xs.length c,.func (.func 130) #[] #[]] w fun e w'=>∃n:Int,e=.returned (.int .i64 n)∧(decide (0≤n)=b)∧Below w.heap.size w w':=by
 have hxl:=hr.2.1;go_enter Tryz.func173,Tryz.ntmps173;go_wp2
 go_loopw [5,8] (fun _ v wr=>∃(k:Nat),v=.int .i64 k∧k≤xs.length∧Hid (∀j (h:j<xs.length),j<k→Bj xs[j]=false)∧Below w.heap.size w wr) (fun _ v _=>xs.length - (intOf v).toNat)
 case atStart=>exact⟨0,rfl,by omega,fun j _ h=>by omega,Below.refl _ _⟩
 case round=>
  obtain⟨k,rfl,hk,hno,hB⟩:=hrel
  by_cases hlt:k<xs.length
  ·obtain⟨g,o,A4,c4,rfl,z0,z1,z2,z3,z4,_,_⟩:=uY (Go.Proofs.ah.aD.Kd.eF hr hB) k hlt
   have hyes:Hid (Bj xs[k]=true→b=true):=fun h=>by rw[←hb,List.any_eq_true];exact⟨_,List.getElem_mem hlt,h⟩
   have oh:Hid (Bj xs[k]=false→∀j (h:j<xs.length),j<k+1→Bj xs[j]=false):=fun h j hj hjk=>by
    by_cases e:j=k
    ·subst e;exact h
    ·exact hno.out j hj (by omega)
   have hdef:Hid (Bj xs[k]=decide (60≤xs[k].f0)):=rfl;generalize Bj xs[k]=dk at *;generalize xs[k]=x at *;obtain⟨d,kd,nm,dt,at'⟩:=x;simp only at z0 z1 z2 z3 z4 hdef;have hc1:=Lib.hid (fun W=>big1_c d kd nm dt A4 at'.length c4 W);have hdef2:=hdef.out;clear hno hb
   by_cases h60:60≤d
   ·have hdk:dk=true:=by rw[hdef2];exact decide_eq_true h60
    have hbt:=hyes.out hdk;rw[decide_eq_true h60]at hc1;clear hyes oh hdef hdef2 hdk;subst hbt
    go_wp2_with(go_at_call 130;((with_reducible refine(hc1.out _).mono ?_);rintro e w1 ⟨rfl,hb1⟩;have hB1:=bC hB hB.size hb1))
    go_ret;exact⟨_,rfl,decide_eq_true (by omega),hB1⟩
   ·have hdk:dk=false:=by rw[hdef2];exact decide_eq_false h60
    have hno3:Hid _:=oh.out hdk;rw[decide_eq_false h60]at hc1;clear hyes oh hdef hdef2 hdk
    go_wp2_with(go_at_call 130;((with_reducible refine(hc1.out _).mono ?_);rintro e w1 ⟨rfl,hb1⟩;have hB1:=bC hB hB.size hb1))
    exact⟨⟨k+1,rfl,by omega,hno3,hB1⟩,by simp[intOf];omega⟩
  ·have hbf:b=false:=by
    rw[←hb,List.any_eq_false];intro x hx;obtain⟨j,hj,rfl⟩:=List.getElem_of_mem hx;rw[hno.out j hj (by omega)];simp
   subst hbf;clear hno hb;go_wp2;go_ret;exact⟨-1,rfl,by decide,hB⟩
theorem J3(xs:List Rw)(A:Option Addr)(c:Nat)(w:World)(hr:k34.C w A xs.length xs)(b:Bool)(hb:xs.any Bj=b):
 Calls Tryz.prog 129 #[.slice A xs.length c,.func (.func 130) #[] #[]] w fun e w'=>e=.returned (.bool b)∧Below w.heap.size w w':=by
 have hi:=Lib.hid (idx_big xs A c w hr b hb);clear hb;go_enter Tryz.func129,Tryz.ntmps129
 go_wp2_with(go_at_call 173;((with_reducible refine hi.out.mono ?_);rintro e w1 ⟨n,rfl,hn,hb1⟩))
 go_ret;exact⟨rfl,hb1⟩
def rG.f(l0:List Rw):Option Bool:=some (decide (4096<l0.length)||l0.any Bj)
theorem rG.calls(A0:Option Addr)(c0:Nat)(l0:List Rw)(r:Bool)(w:World)(hr0:k34.C w A0 l0.length l0)(hc0:l0.length≤c0)(h:rG.f l0=some r):
 Calls Tryz.prog 84 #[.slice A0 l0.length c0] w fun e w'=>e=.returned (.bool r)∧Below w.heap.size w w':=by
 have hl:=hr0.2.1;have hi:=Lib.hid (J3 l0 A0 c0 w hr0 _ rfl);replace h:=Option.some.inj h
 by_cases h1:4096<l0.length
 ·have hI:(4096:Int)<l0.length:=by omega
  have hr:r=true:=by rw[←h,decide_eq_true h1];rfl
  subst hr;clear h hi;go_enter Tryz.func84,Tryz.ntmps84;go_wp2;go_ret;exact⟨rfl,Below.refl _ _⟩
 ·have hI:¬(4096:Int)<l0.length:=by omega
  rw[decide_eq_false h1,Bool.false_or]at h;rw[h]at hi;clear h;go_enter Tryz.func84,Tryz.ntmps84
  go_wp2_with(go_at_call 129;((with_reducible refine hi.out.mono ?_);rintro e w1 ⟨rfl,hb1⟩))
  go_ret;exact⟨rfl,hb1⟩
end Go.Proofs.aj.W7
namespace Go.Proofs.aj.W7
open Go.RowKit Go.Proofs.ah.aD Go.Proofs.ah.bG Go.Proofs.ah.bR
def tY.f(l0:List S36):Option (List S36):=if l0.length * 32≤140737488355328 then some l0 else none
theorem tY.calls(A0:Option Addr)(c0:Nat)(l0 r:List S36)(w:World)(hr0:Kd.C k36 w A0 l0.length l0)(hc0:l0.length≤c0)(h:tY.f l0=some r):
 Calls Tryz.prog 132 #[.slice A0 l0.length c0] w fun e w'=>∃v0_:Value,e=.returned (v0_)∧Kd.R k36 36 w' w.heap.size (fun _=>True) v0_ r∧Below w.heap.size w w':=by
 unfold tY.f at h
 split at h
 ·rename_i hz
  obtain rfl:=Option.some.inj h;clear h;have HR0:=ak.mk hr0;have HC0:=ak.mk hc0;clear hr0 hc0;have HB:=ak.mk (Below.refl w.heap.size w);have hu:=Tryz.underlying32;have q22:∀(w:World) (a:Option Addr) (n c n' c':Nat),(binOp .eql 32 (.slice a n c) (.slice none n' c')).run Tryz.prog w=.ok (.bool a.isNone) w:=fun w a n c n' c'=>Lib.run_eql_slice_nil w _ _ a n c n' c' hu
  cases A0 with
  |none=>
   have hnil:l0=[]:=by
    cases l0 with
    |nil=>rfl
    |cons x xs=>obtain⟨ad,e,_⟩:=HR0.out.2.2 (by simp);cases e
   subst hnil;go_enter Tryz.func132,Tryz.ntmps132;go_wp2;go_ret;exact⟨_,rfl,Kd.nI _ _ _ _ _,HB.out⟩
  |some ad=>
   go_enter Tryz.func132,Tryz.ntmps132
   go_wp2_with(first|((with_reducible refine cu (N:=5) rfl ?_);refine Kd.kr k36 _ 36 ?hg (N:=5) ?hd (xs:=([] :List (S36))) (inner:=[]) (ok:=fun _=>True) (okp:=fun _=>True) ?hr ?hp (fun _ hk=>hk) trivial (Below.refl _ _) (Nat.le_refl _) (by simp) ?_;(case hd=>rfl);(case hg=>rfl);(case hr=>first|(go_simp;done)|(go_simp;rfl));(case hp=>exact(bJ.none _ _));intro v5 w5 ho5 hb5 hg_ fP;clear hg_ fP;have HO5:=ak.mk ho5;have HB5:=ak.mk hb5;clear ho5 hb5)|((with_reducible refine uX (b:=.append) (xs:=#[.tmp 5,.tmp 6]) rfl ?_);at_builtin;refine Kd.Gu k36 (w0:=w) w.heap.size rfl (.tmp 5) (.tmp 6) 32 36 (.agg #[(.string ⟨#[]⟩),(.string ⟨#[]⟩)]) 32 rfl Tryz.underlying32 Nu rfl (by decide) (by omega) v5 [] l0 _ _ _ (fun _=>True) (fun _=>False) rfl rfl HO5.out (Kd.eF HR0.out HB5.out) (fun _ _ h=>h) (fun _ h=>h.elim) (fun _ _=>trivial) HB5.out HB5.out.size (by simpa using hz) ?_;intro v7 w7 ho7 hb7 hg_ hat_))
   go_ret;exact⟨_,rfl,by simpa using ho7,hb7⟩
 ·cases h
end Go.Proofs.aj.W7
