/- Lemmas and walks, part 17. -/
import Derived.Test.YtkcmghlhpbepcaaGreatDoorNB15
import Derived.Test.YtkcmghlhpbepcaaGreatDoorNB16
set_option linter.unusedVariables false
set_option linter.unusedSimpArgs false
set_option maxHeartbeats 8000000
set_option maxRecDepth 100000
namespace Go.Proofs.aj.W7
open Go.RowKit Go.Proofs.ah.aD Go.Proofs.ah.bJ Go.Proofs.ah.bW
attribute [local go_sem] dB dD dR dS bZ cu dF dG
def gG.f(k:Nat)(a0:Bt)(l1:List Bt):Option (Bool):=(eX.f a0).bind fun t191=>(if t191=true then((cB.f k (⟨#[112]⟩:Bt)).bind fun zK=>((dP.f l1 (([(⟨#[112]⟩:Bt)] :List Bt)) zK).bind fun t198=>(if t198≥0 then(some false)else((bH.f k a0).bind fun xA=>((cB.f k a0).bind fun vL=>((dP.f l1 xA vL).bind fun uI=>(some (decide (uI<0)))))))))else((bH.f k a0).bind fun t206=>((cB.f k a0).bind fun BS=>((dP.f l1 t206 BS).bind fun t212=>(some (decide (t212<0)))))))
theorem gG.calls(k:Nat)(a0:Bt)(A1:Option Addr)(c1:Nat)(l1:List Bt)(r:Bool)(w:World)(hr1:Kd.C Kd.string w A1 l1.length l1)(hc1:l1.length≤c1)(h:gG.f k a0 l1=some r):
 Calls Tryz.prog 27 #[.string a0,.slice A1 l1.length c1] w fun e w'=>e=.returned (.bool r)∧Below w.heap.size w w':=by
 have HR1:=ak.mk hr1;have HC1:=ak.mk hc1;clear hr1 hc1;have HB:=ak.mk (Below.refl w.heap.size w);have H:((eX.f a0).bind fun t191=>(if t191=true then((cB.f k (⟨#[112]⟩:Bt)).bind fun zK=>((dP.f l1 (([(⟨#[112]⟩:Bt)] :List Bt)) zK).bind fun t198=>(if t198≥0 then(some false)else((bH.f k a0).bind fun xA=>((cB.f k a0).bind fun vL=>((dP.f l1 xA vL).bind fun uI=>(some (decide (uI<0)))))))))else((bH.f k a0).bind fun t206=>((cB.f k a0).bind fun BS=>((dP.f l1 t206 BS).bind fun t212=>(some (decide (t212<0))))))))=some r:=h;clear h;replace H:=Option.bind_eq_some_iff.mp H;obtain⟨t191,A30,H⟩:=H;replace H:(if t191=true then((cB.f k (⟨#[112]⟩:Bt)).bind fun zK=>((dP.f l1 (([(⟨#[112]⟩:Bt)] :List Bt)) zK).bind fun t198=>(if t198≥0 then(some false)else((bH.f k a0).bind fun xA=>((cB.f k a0).bind fun vL=>((dP.f l1 xA vL).bind fun uI=>(some (decide (uI<0)))))))))else((bH.f k a0).bind fun t206=>((cB.f k a0).bind fun BS=>((dP.f l1 t206 BS).bind fun t212=>(some (decide (t212<0)))))))=some r:=H;have A3:=ak.mk A30;clear A30
 by_cases c4:t191=true
 ·subst c4
  have H1:((cB.f k (⟨#[112]⟩:Bt)).bind fun zK=>((dP.f l1 (([(⟨#[112]⟩:Bt)] :List Bt)) zK).bind fun t198=>(if t198≥0 then(some false)else((bH.f k a0).bind fun xA=>((cB.f k a0).bind fun vL=>((dP.f l1 xA vL).bind fun uI=>(some (decide (uI<0)))))))))=some r:=by rw[if_pos rfl]at H;exact H
  clear H;have H:=H1;clear H1;obtain⟨y192,K8⟩:∃y_:List Bt,y_=(([(⟨#[112]⟩:Bt)] :List Bt)):=⟨_,rfl⟩
  replace H:((cB.f k (⟨#[112]⟩:Bt)).bind fun zK=>((dP.f l1 y192 zK).bind fun t198=>(if t198≥0 then(some false)else((bH.f k a0).bind fun xA=>((cB.f k a0).bind fun vL=>((dP.f l1 xA vL).bind fun uI=>(some (decide (uI<0)))))))))=some r:=by first|(rw[K8];with_reducible exact H)|(have H2_:=(Option.bind_some _ _).symm.trans H;rw[K8];with_reducible exact H2_)|(have H2_:=(Option.bind_some _ _).symm.trans H;with_reducible exact H2_)|with_reducible exact H|(rw[K8];exact H)|exact H
  have Ny192:=ak.mk K8;clear K8;replace H:=Option.bind_eq_some_iff.mp H;obtain⟨zK,A50,H⟩:=H;replace H:((dP.f l1 y192 zK).bind fun t198=>(if t198≥0 then(some false)else((bH.f k a0).bind fun xA=>((cB.f k a0).bind fun vL=>((dP.f l1 xA vL).bind fun uI=>(some (decide (uI<0))))))))=some r:=H;have A5:=ak.mk A50;clear A50;replace H:=Option.bind_eq_some_iff.mp H;obtain⟨t198,A60,H⟩:=H;replace H:(if t198≥0 then(some false)else((bH.f k a0).bind fun xA=>((cB.f k a0).bind fun vL=>((dP.f l1 xA vL).bind fun uI=>(some (decide (uI<0)))))))=some r:=H;have A6:=ak.mk A60;clear A60
  by_cases c7:t198≥0
  ·rw[if_pos c7]at H
   have c7b0:decide (0≤t198)=true:=decide_eq_true c7;clear c7;obtain rfl:=Option.some.inj H;go_enter Tryz.func27,Tryz.ntmps27
   go_wp2_with(first|((with_reducible refine aZ (f:=76) rfl ?_);refine dJ (some 7) rfl rfl Tryz.func76 (by kernel_rfl) rfl #[.string a0] rfl q'a ?_;(with_reducible refine(eX.calls a0 true _ A3.out).mono ?_);rintro e w' ⟨rfl,⟨nd,rfl⟩⟩;refine⟨_,rfl,?_⟩)|((with_reducible refine cO (N:=10) rfl ?_);(try(refine pI (by rfl) ?_;dsimp only));refine Kd.jR Kd.string _ 9 ?hg (N:=10) ?hd (xs:=([(⟨#[112]⟩:Bt)] :List Bt)) (inner:=[.string (⟨#[112]⟩:Bt)]) (ok:=fun _=>True) (okp:=fun _=>True) ?hr ?hp (fun _ hk=>hk) trivial (Below.refl _ _) (Nat.le_refl _) (by simp) ?_;(case hd=>rfl);(case hg=>rfl);(case hr=>first|(go_simp;done)|(go_simp;rfl));(case hp=>exact(bM.one (show Kd.M Kd.string _ _ _ (⟨#[112]⟩:Bt) [.string (⟨#[112]⟩:Bt)]from rfl) (bM.none _ _)));intro v193 w8 ho9 hb hg_ fJ;clear hg_ fJ;(first|rw[←Ny192.out]at ho9|(simp only[Int.reduceToNat]at ho9;rw[←Ny192.out]at ho9));have jS:=ak.mk (Kd.eB ho9 (aR bz));replace HB:=ak.mk (aG bz hb);clear hb ho9)|(go_at_call 78;(fail_if_success (have zz_:=Ao12));(with_reducible refine(cB.calls k (⟨#[112]⟩:Bt) zK _ A5.out).mono ?_);rintro e w10 ⟨v196,rfl,ho0,hb⟩;have mo:=ak.mk (Kd.eB (Kd.lZ ho0 (Kd.vK (rz jS.out))) (aR bz));replace jS:=ak.mk (Kd.jh (rz jS.out) (Kd.jL ho0) hb);replace HB:=ak.mk (aG bz hb);(try clear hb);(try clear hb2);(try clear hk);(try clear hi);(try clear ho0);obtain⟨ED,EF,eo11⟩:=Kd.dI jS.out;subst eo11;obtain⟨Ao12,co12,eo12⟩:=Kd.dI mo.out;subst eo12)|(go_at_call 77;(with_reducible refine(dP.calls _ _ l1 _ _ y192 _ _ zK t198 _ ?cZ ?dH ?nR ?nS ?EG ?EH A6.out).mono ?_);(case cZ=>exact cz (Kd.eF HR1.out HB.out));(case dH=>exact HC1.out);(case nR=>exact cz (Kd.bK jS.out).2.2);(case nS=>exact(Kd.bK jS.out).2.1);(case EG=>exact cz (Kd.bK mo.out).2.2);(case EH=>exact(Kd.bK mo.out).2.1);rintro e w13 ⟨rfl,hb⟩;replace jS:=ak.mk (Kd.dX (rz jS.out) hb);replace mo:=ak.mk (Kd.dX (rz mo.out) hb);replace HB:=ak.mk (aG bz hb);(try clear hb);(try clear hb2);(try clear hk);(try clear hi)))
   go_ret;exact⟨by first|rfl|(simp[aJ,aM]<;>rfl)|(simp[*,aJ,aM]<;>rfl),bz⟩
  ·rw[if_neg c7]at H
   have c7b0:decide (0≤t198)=false:=decide_eq_false c7;clear c7;replace H:=Option.bind_eq_some_iff.mp H;obtain⟨xA,A140,H⟩:=H;replace H:((cB.f k a0).bind fun vL=>((dP.f l1 xA vL).bind fun uI=>(some (decide (uI<0)))))=some r:=H;have A14:=ak.mk A140;clear A140;replace H:=Option.bind_eq_some_iff.mp H;obtain⟨vL,A150,H⟩:=H;replace H:((dP.f l1 xA vL).bind fun uI=>(some (decide (uI<0))))=some r:=H;have A15:=ak.mk A150;clear A150;replace H:=Option.bind_eq_some_iff.mp H;obtain⟨uI,A160,H⟩:=H;replace H:(some (decide (uI<0)))=some r:=H;have A16:=ak.mk A160;clear A160;obtain rfl:=Option.some.inj H;go_enter Tryz.func27,Tryz.ntmps27
   go_wp2_with(first|((with_reducible refine aZ (f:=76) rfl ?_);refine dJ (some 7) rfl rfl Tryz.func76 (by kernel_rfl) rfl #[.string a0] rfl q'a ?_;(with_reducible refine(eX.calls a0 true _ A3.out).mono ?_);rintro e w' ⟨rfl,⟨nd,rfl⟩⟩;refine⟨_,rfl,?_⟩)|((with_reducible refine cO (N:=10) rfl ?_);(try(refine pI (by rfl) ?_;dsimp only));refine Kd.jR Kd.string _ 9 ?hg (N:=10) ?hd (xs:=([(⟨#[112]⟩:Bt)] :List Bt)) (inner:=[.string (⟨#[112]⟩:Bt)]) (ok:=fun _=>True) (okp:=fun _=>True) ?hr ?hp (fun _ hk=>hk) trivial (Below.refl _ _) (Nat.le_refl _) (by simp) ?_;(case hd=>rfl);(case hg=>rfl);(case hr=>first|(go_simp;done)|(go_simp;rfl));(case hp=>exact(bM.one (show Kd.M Kd.string _ _ _ (⟨#[112]⟩:Bt) [.string (⟨#[112]⟩:Bt)]from rfl) (bM.none _ _)));intro v193 w17 xu hb hg_ fJ;clear hg_ fJ;(first|rw[←Ny192.out]at xu|(simp only[Int.reduceToNat]at xu;rw[←Ny192.out]at xu));have jS:=ak.mk (Kd.eB xu (aR bz));replace HB:=ak.mk (aG bz hb);clear hb xu)|(go_at_call 78;(fail_if_success (have zz_:=Ao21));(with_reducible refine(cB.calls k (⟨#[112]⟩:Bt) zK _ A5.out).mono ?_);rintro e w19 ⟨v196,rfl,ho0,hb⟩;have mo:=ak.mk (Kd.eB (Kd.lZ ho0 (Kd.vK (rz jS.out))) (aR bz));replace jS:=ak.mk (Kd.jh (rz jS.out) (Kd.jL ho0) hb);replace HB:=ak.mk (aG bz hb);(try clear hb);(try clear hb2);(try clear hk);(try clear hi);(try clear ho0);obtain⟨Ao20,co20,eo20⟩:=Kd.dI jS.out;subst eo20;obtain⟨Ao21,co21,eo21⟩:=Kd.dI mo.out;subst eo21)|(go_at_call 77;(with_reducible refine(dP.calls _ _ l1 _ _ y192 _ _ zK t198 _ ?cZ ?dH ?nR ?nS ?EG ?EH A6.out).mono ?_);(case cZ=>exact cz (Kd.eF HR1.out HB.out));(case dH=>exact HC1.out);(case nR=>exact cz (Kd.bK jS.out).2.2);(case nS=>exact(Kd.bK jS.out).2.1);(case EG=>exact cz (Kd.bK mo.out).2.2);(case EH=>exact(Kd.bK mo.out).2.1);rintro e w22 ⟨rfl,hb⟩;replace jS:=ak.mk (Kd.dX (rz jS.out) hb);replace mo:=ak.mk (Kd.dX (rz mo.out) hb);replace HB:=ak.mk (aG bz hb);(try clear hb);(try clear hb2);(try clear hk);(try clear hi))|(go_at_call 35;(with_reducible refine(bH.calls k a0 xA _ A14.out).mono ?_);rintro e w23 ⟨v200,rfl,ho0,hb⟩;have zq:=ak.mk (Kd.eB (Kd.lZ (Kd.lZ ho0 (Kd.vK (rz jS.out))) (Kd.vK (rz mo.out))) (aR bz));replace jS:=ak.mk (Kd.jh (rz jS.out) (Kd.jL ho0) hb);replace mo:=ak.mk (Kd.jh (rz mo.out) (Kd.jL ho0) hb);replace HB:=ak.mk (aG bz hb);(try clear hb);(try clear hb2);(try clear hk);(try clear hi);(try clear ho0))|(go_at_call 78;(fail_if_success (have zz_:=Ao26));(with_reducible refine(cB.calls k a0 vL _ A15.out).mono ?_);rintro e w24 ⟨v203,rfl,ho0,hb⟩;have Gt:=ak.mk (Kd.eB (Kd.lZ (Kd.lZ (Kd.lZ ho0 (Kd.vK (rz jS.out))) (Kd.vK (rz mo.out))) (Kd.vK (rz zq.out))) (aR bz));replace jS:=ak.mk (Kd.jh (rz jS.out) (Kd.jL ho0) hb);replace mo:=ak.mk (Kd.jh (rz mo.out) (Kd.jL ho0) hb);replace zq:=ak.mk (Kd.jh (rz zq.out) (Kd.jL ho0) hb);replace HB:=ak.mk (aG bz hb);(try clear hb);(try clear hb2);(try clear hk);(try clear hi);(try clear ho0);obtain⟨Ao25,co25,eo25⟩:=Kd.dI zq.out;subst eo25;obtain⟨Ao26,co26,eo26⟩:=Kd.dI Gt.out;subst eo26)|(go_at_call 77;(with_reducible refine(dP.calls _ _ l1 _ _ xA _ _ vL uI _ ?cZ ?dH ?nR ?nS ?EG ?EH A16.out).mono ?_);(case cZ=>exact cz (Kd.eF HR1.out HB.out));(case dH=>exact HC1.out);(case nR=>exact cz (Kd.bK zq.out).2.2);(case nS=>exact(Kd.bK zq.out).2.1);(case EG=>exact cz (Kd.bK Gt.out).2.2);(case EH=>exact(Kd.bK Gt.out).2.1);rintro e w27 ⟨rfl,hb⟩;replace jS:=ak.mk (Kd.dX (rz jS.out) hb);replace mo:=ak.mk (Kd.dX (rz mo.out) hb);replace zq:=ak.mk (Kd.dX (rz zq.out) hb);replace Gt:=ak.mk (Kd.dX (rz Gt.out) hb);replace HB:=ak.mk (aG bz hb);(try clear hb);(try clear hb2);(try clear hk);(try clear hi)))
   go_ret;exact⟨by first|rfl|(simp[aJ,aM]<;>rfl)|(simp[*,aJ,aM]<;>rfl),bz⟩
 ·replace c4:=Bool.eq_false_iff.mpr c4
  subst c4;have H1:((bH.f k a0).bind fun t206=>((cB.f k a0).bind fun BS=>((dP.f l1 t206 BS).bind fun t212=>(some (decide (t212<0))))))=some r:=by rw[if_neg (show¬(false=true) by decide)]at H;first|exact H|(simp only[eq_self]at H⊢;exact H)|(simp only[eq_self,if_true]at H⊢;exact H)
  clear H;have H:=H1;clear H1;replace H:=Option.bind_eq_some_iff.mp H;obtain⟨t206,A280,H⟩:=H;replace H:((cB.f k a0).bind fun BS=>((dP.f l1 t206 BS).bind fun t212=>(some (decide (t212<0)))))=some r:=H;have A28:=ak.mk A280;clear A280;replace H:=Option.bind_eq_some_iff.mp H;obtain⟨BS,A290,H⟩:=H;replace H:((dP.f l1 t206 BS).bind fun t212=>(some (decide (t212<0))))=some r:=H;have A29:=ak.mk A290;clear A290;replace H:=Option.bind_eq_some_iff.mp H;obtain⟨t212,A300,H⟩:=H;replace H:(some (decide (t212<0)))=some r:=H;have A30:=ak.mk A300;clear A300;obtain rfl:=Option.some.inj H;go_enter Tryz.func27,Tryz.ntmps27
  go_wp2_with(first|((with_reducible refine aZ (f:=76) rfl ?_);refine dJ (some 7) rfl rfl Tryz.func76 (by kernel_rfl) rfl #[.string a0] rfl q'a ?_;(with_reducible refine(eX.calls a0 false _ A3.out).mono ?_);rintro e w' ⟨rfl,⟨nd,rfl⟩⟩;refine⟨_,rfl,?_⟩)|(go_at_call 35;(with_reducible refine(bH.calls k a0 t206 _ A28.out).mono ?_);rintro e w31 ⟨v207,rfl,ho0,hb⟩;have zu:=ak.mk (Kd.eB ho0 (aR bz));replace HB:=ak.mk (aG bz hb);(try clear hb);(try clear hb2);(try clear hk);(try clear hi);(try clear ho0))|(go_at_call 78;(fail_if_success (have zz_:=Ao34));(with_reducible refine(cB.calls k a0 BS _ A29.out).mono ?_);rintro e w32 ⟨v210,rfl,ho0,hb⟩;have Gu:=ak.mk (Kd.eB (Kd.lZ ho0 (Kd.vK (rz zu.out))) (aR bz));replace zu:=ak.mk (Kd.jh (rz zu.out) (Kd.jL ho0) hb);replace HB:=ak.mk (aG bz hb);(try clear hb);(try clear hb2);(try clear hk);(try clear hi);(try clear ho0);obtain⟨Ao33,co33,eo33⟩:=Kd.dI zu.out;subst eo33;obtain⟨Ao34,co34,eo34⟩:=Kd.dI Gu.out;subst eo34)|(go_at_call 77;(with_reducible refine(dP.calls _ _ l1 _ _ t206 _ _ BS t212 _ ?cZ ?dH ?nR ?nS ?EG ?EH A30.out).mono ?_);(case cZ=>exact cz (Kd.eF HR1.out HB.out));(case dH=>exact HC1.out);(case nR=>exact cz (Kd.bK zu.out).2.2);(case nS=>exact(Kd.bK zu.out).2.1);(case EG=>exact cz (Kd.bK Gu.out).2.2);(case EH=>exact(Kd.bK Gu.out).2.1);rintro e w35 ⟨rfl,hb⟩;replace zu:=ak.mk (Kd.dX (rz zu.out) hb);replace Gu:=ak.mk (Kd.dX (rz Gu.out) hb);replace HB:=ak.mk (aG bz hb);(try clear hb);(try clear hb2);(try clear hk);(try clear hi)))
  go_ret;exact⟨by first|rfl|(simp[aJ,aM]<;>rfl)|(simp[*,aJ,aM]<;>rfl),bz⟩
def iV.l0:Nat→List Bt→List Bt→List Bt→Int→Option (Int)
 |0,_,_,_,_=>none
 |k+1,x0,x1,x2,x7=>if x7≥0 then(if 0≤x7 then(if x7<(x0.length:Int)then((iB.f k x1 (xq ByteArray.empty x0 x7)).bind fun t215=>(if t215=true then(some x7)else((iB.f k x2 (xq ByteArray.empty x0 x7)).bind fun t217=>(if t217=true then(some (-1))else(iV.l0 k x0 x1 x2 (wrap64 (x7 - 1)))))))else(none))else(none))else(some (-1))
def iV.f(k:Nat)(l0 l1 l2:List Bt):Option (Int):=iV.l0 k l0 l1 l2 (wrap64 ((l0.length:Int) - 1))
def jM.l0:Nat→List Bt→List Bt→List Bt→Int→Option (List Bt)
 |0,_,_,_,_=>none
 |k+1,x0,x1,x2,x7=>if x7≥0 then(if 0≤x7 then(if x7≤(x0.length:Int)then((some (x0.take (x7:Int).toNat:List Bt)).bind fun y219=>((iV.f k y219 x1 x2).bind fun t224=>(jM.l0 k y219 x1 x2 t224)))else(none))else(none))else((some (([] :List Bt):List Bt)).bind fun y225=>(if y225.length+x0.length<8796093022208 then(some (y225++x0))else(none)))
def jM.f(k:Nat)(l0 l1 l2:List Bt):Option (List Bt):=(iV.f k l0 l1 l2).bind fun t218=>(jM.l0 k l0 l1 l2 t218)
def gK.f:Option (List Bt):=some (([(⟨#[116,98,111,100,121]⟩:Bt),(⟨#[116,100]⟩:Bt),(⟨#[116,102,111,111,116]⟩:Bt),(⟨#[116,104]⟩:Bt),(⟨#[116,104,101,97,100]⟩:Bt),(⟨#[116,114]⟩:Bt)] :List Bt))
def rF.f:Option (List Bt):=some (([(⟨#[97,100,100,114,101,115,115]⟩:Bt),(⟨#[97,114,116,105,99,108,101]⟩:Bt),(⟨#[97,115,105,100,101]⟩:Bt),(⟨#[98,108,111,99,107,113,117,111,116,101]⟩:Bt),(⟨#[99,101,110,116,101,114]⟩:Bt),(⟨#[100,100]⟩:Bt),(⟨#[100,101,116,97,105,108,115]⟩:Bt),(⟨#[100,105,97,108,111,103]⟩:Bt),(⟨#[100,105,114]⟩:Bt),(⟨#[100,105,118]⟩:Bt),(⟨#[100,108]⟩:Bt),(⟨#[100,116]⟩:Bt),(⟨#[102,105,101,108,100,115,101,116]⟩:Bt),(⟨#[102,105,103,99,97,112,116,105,111,110]⟩:Bt),(⟨#[102,105,103,117,114,101]⟩:Bt),(⟨#[102,111,111,116,101,114]⟩:Bt),(⟨#[102,111,114,109]⟩:Bt),(⟨#[104,49]⟩:Bt),(⟨#[104,50]⟩:Bt),(⟨#[104,51]⟩:Bt),(⟨#[104,52]⟩:Bt),(⟨#[104,53]⟩:Bt),(⟨#[104,54]⟩:Bt),(⟨#[104,101,97,100,101,114]⟩:Bt),(⟨#[104,103,114,111,117,112]⟩:Bt),(⟨#[104,114]⟩:Bt),(⟨#[108,105]⟩:Bt),(⟨#[109,97,105,110]⟩:Bt),(⟨#[109,101,110,117]⟩:Bt),(⟨#[110,97,118]⟩:Bt),(⟨#[111,108]⟩:Bt),(⟨#[112]⟩:Bt),(⟨#[112,114,101]⟩:Bt),(⟨#[115,101,99,116,105,111,110]⟩:Bt),(⟨#[115,117,109,109,97,114,121]⟩:Bt),(⟨#[116,97,98,108,101]⟩:Bt),(⟨#[117,108]⟩:Bt),(⟨#[120,109,112]⟩:Bt)] :List Bt))
mutual
def fM.j0:Nat→Bt→Bool→Option (List Bt)
 |0,_,_=>none
 |k+1,x0,x8=>if x8=true then(some (([x0] :List Bt)))else(if x0.toList=([100,100] :List UInt8)then(fM.j1 k x0 true)else(fM.j1 k x0 (x0.toList==([100,116] :List UInt8))))
def fM.j1:Nat→Bt→Bool→Option (List Bt)
 |0,_,_=>none
 |k+1,x0,x16=>if x16=true then(some (([(⟨#[100,100]⟩:Bt),(⟨#[100,116]⟩:Bt)] :List Bt)))else(if x0.toList=([111,112,116,103,114,111,117,112] :List UInt8)then(some (([(⟨#[111,112,116,103,114,111,117,112]⟩:Bt),(⟨#[111,112,116,105,111,110]⟩:Bt)] :List Bt)))else(if x0.toList=([116,114] :List UInt8)then(some (([(⟨#[116,100]⟩:Bt),(⟨#[116,104]⟩:Bt),(⟨#[116,114]⟩:Bt)] :List Bt)))else(if x0.toList=([116,100] :List UInt8)then(fM.j2 k x0 true)else(fM.j2 k x0 (x0.toList==([116,104] :List UInt8))))))
def fM.j2:Nat→Bt→Bool→Option (List Bt)
 |0,_,_=>none
 |k+1,x0,x29=>if x29=true then(some (([(⟨#[116,100]⟩:Bt),(⟨#[116,104]⟩:Bt)] :List Bt)))else((gK.f).bind fun t252=>((iB.f k t252 x0).bind fun t255=>(if t255=true then((gK.f).bind fun t256=>(some t256))else((rF.f).bind fun t259=>((iB.f k t259 x0).bind fun t262=>(if t262=true then(some (([(⟨#[112]⟩:Bt)] :List Bt)))else(some (([] :List Bt)))))))))
end
def fM.f(k:Nat)(a0:Bt):Option (List Bt):=if a0.toList=([108,105] :List UInt8)then(fM.j0 k a0 true)else(fM.j0 k a0 (a0.toList==([111,112,116,105,111,110] :List UInt8)))
mutual
def fU.j0:Nat→Bt→Bool→Option (List Bt)
 |0,_,_=>none
 |k+1,x0,x11=>if x11=true then(some (([(⟨#[100,108]⟩:Bt),(⟨#[116,101,109,112,108,97,116,101]⟩:Bt)] :List Bt)))else(if x0.toList=([111,112,116,105,111,110] :List UInt8)then(fU.j1 k x0 true)else(fU.j1 k x0 (x0.toList==([111,112,116,103,114,111,117,112] :List UInt8))))
def fU.j1:Nat→Bt→Bool→Option (List Bt)
 |0,_,_=>none
 |k+1,x0,x18=>if x18=true then(some (([(⟨#[115,101,108,101,99,116]⟩:Bt),(⟨#[116,101,109,112,108,97,116,101]⟩:Bt)] :List Bt)))else((gK.f).bind fun t278=>((iB.f k t278 x0).bind fun t281=>(if t281=true then(some (([(⟨#[116,97,98,108,101]⟩:Bt),(⟨#[116,101,109,112,108,97,116,101]⟩:Bt)] :List Bt)))else(some (([(⟨#[98,117,116,116,111,110]⟩:Bt),(⟨#[99,97,112,116,105,111,110]⟩:Bt),(⟨#[116,97,98,108,101]⟩:Bt),(⟨#[116,100]⟩:Bt),(⟨#[116,101,109,112,108,97,116,101]⟩:Bt),(⟨#[116,104]⟩:Bt)] :List Bt))))))
end
def fU.f(k:Nat)(a0:Bt):Option (List Bt):=if a0.toList=([108,105] :List UInt8)then(some (([(⟨#[109,101,110,117]⟩:Bt),(⟨#[111,108]⟩:Bt),(⟨#[116,101,109,112,108,97,116,101]⟩:Bt),(⟨#[117,108]⟩:Bt)] :List Bt)))else(if a0.toList=([100,100] :List UInt8)then(fU.j0 k a0 true)else(fU.j0 k a0 (a0.toList==([100,116] :List UInt8))))
def Az.f(a0:Bt):Option (Bool):=if a0.toList=([108,105] :List UInt8)then(some true)else(if a0.toList=([100,100] :List UInt8)then(some true)else(some (a0.toList==([100,116] :List UInt8))))
def zi.f(k:Nat)(l0:List Bt)(a1:Bt):Option (List Bt):=(fM.f k a1).bind fun t288=>((fU.f k a1).bind fun t291=>((jM.f k l0 t288 t291).bind fun t294=>((Az.f a1).bind fun t297=>(if t297=true then((fU.f k (⟨#[112]⟩:Bt)).bind fun t301=>((jM.f k t294 (([(⟨#[112]⟩:Bt)] :List Bt)) t301).bind fun t304=>(some t304)))else(some t294)))))
def MK.f(k:Nat)(a0:Bt)(l1:List Bt):Option (Bool):=(zi.f k l1 a0).bind fun t307=>(some ((t307.length:Int)==(l1.length:Int)))
end Go.Proofs.aj.W7
namespace Go.Proofs.aj.W7
open Go.RowKit Go.Proofs Go.Proofs.aj Go.Proofs.YtkcmghlhpbepcaaGreatDoor Go.Proofs.ah.aD
def tabR:List Bt:=(gK.f).getD []
theorem Qs(s:Bt)(k:Nat)(hk:20≤k):dQ.f k s=some (nP tabR s):=by
 unfold dQ.f;rw[oV _ _ _ (by simp) (by simp;omega),Option.bind_some]
 congr 1
 show nP _ s=nP ((gK.f).getD []) s;simp only[gK.f,Option.getD_some,nP,List.any_cons,List.any_nil,Bool.or_false]
 ac_rfl
def blkR:List Bt:=(rF.f).getD []
theorem block_f(s:Bt)(k:Nat)(hk:90≤k):fK.f k s=some (nP blkR s):=by
 unfold fK.f;rw[oV _ _ _ (by simp) (by simp;omega),Option.bind_some];rfl
theorem Fv(l:List Bt)(s:Bt):nP l s=Lib.containsS l s:=by
 rw[Bool.eq_iff_iff,Lib.containsS_iff];simp only[nP,List.any_eq_true,beq_iff_eq];constructor
 ·rintro⟨x,hx,e⟩
  obtain⟨⟨a⟩⟩:=x;obtain⟨⟨b⟩⟩:=s;simp only at e;subst e;exact hx
 ·intro h
  exact⟨s,h,rfl⟩
def closeR(a b:List Bt):Nat→List Bt→List Bt
 |0,op=>op
 |n+1,op=>if fT op a b op.length<0 then op else closeR a b n (op.take (fT op a b op.length).toNat)
theorem L6(s:Bt)(k:Nat)(hk:101≤k):∃c,bH.f k s=some c∧c.length<1000:=by
 obtain⟨k,rfl⟩:∃m,k=m+1:=⟨k - 1,by omega⟩
 have h:∀b,∃c,bH.j0 (k+1) s s b=some c∧c.length<1000:=by
  intro b;simp only[bH.j0];rw[Qs _ _ (by omega),Option.bind_some,block_f _ _ (by omega),Option.bind_some]
  repeat' split
  all_goals exact⟨_,rfl,by simp⟩
 unfold bH.f
 split
 ·exact h _
 ·exact h _
theorem Nt(s:Bt)(k:Nat)(hk:101≤k):∃c,cB.f k s=some c∧c.length<1000:=by
 unfold cB.f;rw[oV _ _ _ (by simp) (by simp;omega),Option.bind_some,oV _ _ _ (by simp) (by simp;omega),Option.bind_some,Qs _ _ (by omega),Option.bind_some]
 repeat' split
 all_goals exact⟨_,rfl,by simp⟩
theorem par_some(s:Bt):∃p,eX.f s=some p:=by
 unfold eX.f
 repeat' split
 all_goals exact⟨_,rfl⟩
end Go.Proofs.aj.W7
namespace Go.Proofs.aj.W7
open Go.RowKit Go.Proofs Go.Proofs.YtkcmghlhpbepcaaGreatDoor
abbrev Rw:=S34
theorem Hy{w:World}{a:Addr}{v:Value}(h:w.cell? a=some v):a=⟨a.block,a.off,none⟩:=by
 obtain⟨b,o,s⟩:=a;cases s with
 |none=>rfl
 |some s=>
  unfold World.cell? at h
  split at h<;>simp at h
theorem Hz(b o n:Nat):Addr.add ⟨b,o,none⟩ n=⟨b,o+n,none⟩:=by
 unfold Addr.add
 split<;>simp_all
theorem vI{w:World}{A:Option Addr}{xs:List Rw}(h:k34.C w A xs.length xs)(i:Nat)(hi:i<xs.length):
 ∃g o A4 c4,A=some ⟨g,o,none⟩∧w.cell? ⟨g,o+i * 5,none⟩=some (.int .i64 xs[i].f0)∧w.cell? ⟨g,o+i * 5+1,none⟩=some (.int .i64 xs[i].f1)∧w.cell? ⟨g,o+i * 5+2,none⟩=some (.string xs[i].f2)∧w.cell? ⟨g,o+i * 5+3,none⟩=some (.string xs[i].f3)∧w.cell? ⟨g,o+i * 5+4,none⟩=some (.slice A4 xs[i].f4.length c4)∧xs[i].f4.length≤c4∧k36.C w A4 xs[i].f4.length xs[i].f4:=by
 obtain⟨ad0,_,_,e0,z0,_⟩:=kQ h 0 (by omega) (by omega);have hs:=Hy (a:=ad0) (by simpa [Addr.add]using z0);obtain⟨ad,A4,c4,e,c0,c1,c2,c3,c4',l4,g4⟩:=kQ h i (by omega) (by omega);obtain rfl:ad0=ad:=Option.some.inj (e0.symm.trans e);simp only[Int.toNat_natCast]at c0 c1 c2 c3 c4';rw[hs,Hz]at c0 c1 c2 c3 c4';have er:au xs i=xs[i]:=by simp[au,hi]
 rw[er]at c0 c1 c2 c3 c4' l4 g4;exact⟨ad0.block,ad0.off,A4,c4,by rw[e0,←hs],c0,c1,c2,c3,c4',l4,g4⟩
theorem big1_c(d k:Int)(n t:ByteArray)(a:Option Addr)(l c:Nat)(w:World):
 Calls Tryz.prog 130 #[.agg #[.int .i64 d,.int .i64 k,.string n,.string t,.slice a l c]] w fun e w'=>e=.returned (.bool (decide (60≤d)))∧Below w.heap.size w w':=by
 go_enter Tryz.func130,Tryz.ntmps130;go_wp2;go_ret;exact⟨rfl,(Below.refl _ w).alloc (Nat.le_refl _) _⟩
def wX(x:Rw):Bool:=decide (60≤x.f0)
theorem idx_big(xs:List Rw)(A:Option Addr)(c:Nat)(w:World)(hr:k34.C w A xs.length xs)(b:Bool)(hb:xs.any wX=b):
 Calls Tryz.prog 173 #[.slice A xs.length c,.func (.func 130) #[] #[]] w fun e w'=>∃n:Int,e=.returned (.int .i64 n)∧(decide (0≤n)=b)∧Below w.heap.size w w':=by
 have hxl:=hr.2.1;go_enter Tryz.func173,Tryz.ntmps173;go_wp2
 go_loopw [5,8] (fun _ v wr=>∃(k:Nat),v=.int .i64 k∧k≤xs.length∧Hid (∀j (h:j<xs.length),j<k→wX xs[j]=false)∧Below w.heap.size w wr) (fun _ v _=>xs.length - (intOf v).toNat)
 case atStart=>exact⟨0,rfl,by omega,fun j _ h=>by omega,Below.refl _ _⟩
 case round=>
  obtain⟨k,rfl,hk,hno,hB⟩:=hrel
  by_cases hlt:k<xs.length
  ·obtain⟨g,o,A4,c4,rfl,z0,z1,z2,z3,z4,_,_⟩:=vI (Go.Proofs.ah.aD.Kd.eF hr hB) k hlt
   have hyes:Hid (wX xs[k]=true→b=true):=fun h=>by rw[←hb,List.any_eq_true];exact⟨_,List.getElem_mem hlt,h⟩
   have oh:Hid (wX xs[k]=false→∀j (h:j<xs.length),j<k+1→wX xs[j]=false):=fun h j hj hjk=>by
    by_cases e:j=k
    ·subst e;exact h
    ·exact hno.out j hj (by omega)
   have hdef:Hid (wX xs[k]=decide (60≤xs[k].f0)):=rfl;generalize wX xs[k]=dk at *;generalize xs[k]=x at *;obtain⟨d,kd,nm,dt,at'⟩:=x;simp only at z0 z1 z2 z3 z4 hdef;have hc1:=Lib.hid (fun W=>big1_c d kd nm dt A4 at'.length c4 W);have hdef2:=hdef.out;clear hno hb
   by_cases h60:60≤d
   ·have hdk:dk=true:=by rw[hdef2];exact decide_eq_true h60
    have hbt:=hyes.out hdk;rw[decide_eq_true h60]at hc1;clear hyes oh hdef hdef2 hdk;subst hbt
    go_wp2_with(go_at_call 130;((with_reducible refine(hc1.out _).mono ?_);rintro e w1 ⟨rfl,hb1⟩;have hB1:=bD hB hB.size hb1))
    go_ret;exact⟨_,rfl,decide_eq_true (by omega),hB1⟩
   ·have hdk:dk=false:=by rw[hdef2];exact decide_eq_false h60
    have hno3:Hid _:=oh.out hdk;rw[decide_eq_false h60]at hc1;clear hyes oh hdef hdef2 hdk
    go_wp2_with(go_at_call 130;((with_reducible refine(hc1.out _).mono ?_);rintro e w1 ⟨rfl,hb1⟩;have hB1:=bD hB hB.size hb1))
    exact⟨⟨k+1,rfl,by omega,hno3,hB1⟩,by simp[intOf];omega⟩
  ·have hbf:b=false:=by
    rw[←hb,List.any_eq_false];intro x hx;obtain⟨j,hj,rfl⟩:=List.getElem_of_mem hx;rw[hno.out j hj (by omega)];simp
   subst hbf;clear hno hb;go_wp2;go_ret;exact⟨-1,rfl,by decide,hB⟩
theorem Jz(xs:List Rw)(A:Option Addr)(c:Nat)(w:World)(hr:k34.C w A xs.length xs)(b:Bool)(hb:xs.any wX=b):
 Calls Tryz.prog 129 #[.slice A xs.length c,.func (.func 130) #[] #[]] w fun e w'=>e=.returned (.bool b)∧Below w.heap.size w w':=by
 have hi:=Lib.hid (idx_big xs A c w hr b hb);clear hb;go_enter Tryz.func129,Tryz.ntmps129
 go_wp2_with(go_at_call 173;((with_reducible refine hi.out.mono ?_);rintro e w1 ⟨n,rfl,hn,hb1⟩))
 go_ret;exact⟨rfl,hb1⟩
def qw.f(l0:List Rw):Option Bool:=some (decide (4096<l0.length)||l0.any wX)
theorem qw.calls(A0:Option Addr)(c0:Nat)(l0:List Rw)(r:Bool)(w:World)(hr0:k34.C w A0 l0.length l0)(hc0:l0.length≤c0)(h:qw.f l0=some r):
 Calls Tryz.prog 84 #[.slice A0 l0.length c0] w fun e w'=>e=.returned (.bool r)∧Below w.heap.size w w':=by
 have hl:=hr0.2.1;have hi:=Lib.hid (Jz l0 A0 c0 w hr0 _ rfl);replace h:=Option.some.inj h
 by_cases h1:4096<l0.length
 ·have hI:(4096:Int)<l0.length:=by omega
  have hr:r=true:=by rw[←h,decide_eq_true h1];rfl
  subst hr;clear h hi;go_enter Tryz.func84,Tryz.ntmps84;go_wp2;go_ret;exact⟨rfl,Below.refl _ _⟩
 ·have hI:¬(4096:Int)<l0.length:=by omega
  rw[decide_eq_false h1,Bool.false_or]at h;rw[h]at hi;clear h;go_enter Tryz.func84,Tryz.ntmps84
  go_wp2_with(go_at_call 129;((with_reducible refine hi.out.mono ?_);rintro e w1 ⟨rfl,hb1⟩))
  go_ret;exact⟨rfl,hb1⟩
end Go.Proofs.aj.W7
namespace Go.Proofs.aj.W7
open Go.RowKit Go.Proofs.ah.aD Go.Proofs.ah.bJ Go.Proofs.ah.bW
def rA.f(l0:List S36):Option (List S36):=if l0.length * 32≤140737488355328 then some l0 else none
theorem rA.calls(A0:Option Addr)(c0:Nat)(l0 r:List S36)(w:World)(hr0:Kd.C k36 w A0 l0.length l0)(hc0:l0.length≤c0)(h:rA.f l0=some r):
 Calls Tryz.prog 132 #[.slice A0 l0.length c0] w fun e w'=>∃v0_:Value,e=.returned (v0_)∧Kd.R k36 36 w' w.heap.size (fun _=>True) v0_ r∧Below w.heap.size w w':=by
 unfold rA.f at h
 split at h
 ·rename_i hz
  obtain rfl:=Option.some.inj h;clear h;have HR0:=ak.mk hr0;have HC0:=ak.mk hc0;clear hr0 hc0;have HB:=ak.mk (Below.refl w.heap.size w);have hu:=Tryz.underlying32;have q22:∀(w:World) (a:Option Addr) (n c n' c':Nat),(binOp .eql 32 (.slice a n c) (.slice none n' c')).run Tryz.prog w=.ok (.bool a.isNone) w:=fun w a n c n' c'=>Lib.run_eql_slice_nil w _ _ a n c n' c' hu
  cases A0 with
  |none=>
   have hnil:l0=[]:=by
    cases l0 with
    |nil=>rfl
    |cons x xs=>obtain⟨ad,e,_⟩:=HR0.out.2.2 (by simp);cases e
   subst hnil;go_enter Tryz.func132,Tryz.ntmps132;go_wp2;go_ret;exact⟨_,rfl,Kd.nI _ _ _ _ _,HB.out⟩
  |some ad=>
   go_enter Tryz.func132,Tryz.ntmps132
   go_wp2_with(first|((with_reducible refine cO (N:=5) rfl ?_);refine Kd.jR k36 _ 36 ?hg (N:=5) ?hd (xs:=([] :List (S36))) (inner:=[]) (ok:=fun _=>True) (okp:=fun _=>True) ?hr ?hp (fun _ hk=>hk) trivial (Below.refl _ _) (Nat.le_refl _) (by simp) ?_;(case hd=>rfl);(case hg=>rfl);(case hr=>first|(go_simp;done)|(go_simp;rfl));(case hp=>exact(bM.none _ _));intro v5 w5 ho5 hb5 hg_ fJ;clear hg_ fJ;have HO5:=ak.mk ho5;have HB5:=ak.mk hb5;clear ho5 hb5)|((with_reducible refine qJ (b:=.append) (xs:=#[.tmp 5,.tmp 6]) rfl ?_);at_builtin;refine Kd.Gb k36 (w0:=w) w.heap.size rfl (.tmp 5) (.tmp 6) 32 36 (.agg #[(.string ⟨#[]⟩),(.string ⟨#[]⟩)]) 32 rfl Tryz.underlying32 HV rfl (by decide) (by omega) v5 [] l0 _ _ _ (fun _=>True) (fun _=>False) rfl rfl HO5.out (Kd.eF HR0.out HB5.out) (fun _ _ h=>h) (fun _ h=>h.elim) (fun _ _=>trivial) HB5.out HB5.out.size (by simpa using hz) ?_;intro v7 w7 ho7 hb7 hg_ hat_))
   go_ret;exact⟨_,rfl,by simpa using ho7,hb7⟩
 ·cases h
end Go.Proofs.aj.W7
