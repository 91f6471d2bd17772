/- Lemmas and walks, part 20. -/
import Derived.Test.YtkcmghlhpbepcaaGreatDoorT716
import Derived.Test.YtkcmghlhpbepcaaGreatDoorT718
import Derived.Test.YtkcmghlhpbepcaaGreatDoorT719
set_option linter.unusedVariables false
set_option linter.unusedSimpArgs false
set_option maxHeartbeats 8000000
set_option maxRecDepth 100000
namespace Go.Proofs.aj.W7
open Go.RowKit Go.Proofs.ah.aG Go.Proofs.ah.bX Go.Proofs.ah.dN
attribute [local go_sem] dZ d9 eU eX dS dU eu eB
def fD.f(k:Nat)(l0:List Bt)(a1:Bt):Option (List Bt):=(bA.f k a1).bind fun yj=>((aV.f k a1).bind fun wU=>((bK.f k l0 yj wU).bind fun mX=>((fF.f a1).bind fun yu=>(if yu=true then((aV.f k (⟨#[112]⟩:Bt)).bind fun qg=>((bK.f k mX (([(⟨#[112]⟩:Bt)] :List Bt)) qg).bind fun qh=>(some qh)))else(some mX)))))
theorem fD.calls(k:Nat)(A0:Option Addr)(c0:Nat)(l0:List Bt)(a1:Bt)(r:List Bt)(w:World)(hr0:Kd.C Kd.string w A0 l0.length l0)(hc0:l0.length≤c0)(h:fD.f k l0 a1=some r):
 Calls Tryz.prog 63 #[.slice A0 l0.length c0,.string a1] w fun e w'=>∃v0_:Value,e=.returned (v0_)∧Kd.R Kd.string 9 w' w.heap.size (fun _=>True) v0_ r∧Below w.heap.size w w':=by
 have HR0:=ak.mk hr0;have HC0:=ak.mk hc0;clear hr0 hc0;have HB:=ak.mk (Below.refl w.heap.size w);have H:((bA.f k a1).bind fun yj=>((aV.f k a1).bind fun wU=>((bK.f k l0 yj wU).bind fun mX=>((fF.f a1).bind fun yu=>(if yu=true then((aV.f k (⟨#[112]⟩:Bt)).bind fun qg=>((bK.f k mX (([(⟨#[112]⟩:Bt)] :List Bt)) qg).bind fun qh=>(some qh)))else(some mX))))))=some r:=h;clear h;replace H:=Option.bind_eq_some_iff.mp H;obtain⟨yj,A30,H⟩:=H;replace H:((aV.f k a1).bind fun wU=>((bK.f k l0 yj wU).bind fun mX=>((fF.f a1).bind fun yu=>(if yu=true then((aV.f k (⟨#[112]⟩:Bt)).bind fun qg=>((bK.f k mX (([(⟨#[112]⟩:Bt)] :List Bt)) qg).bind fun qh=>(some qh)))else(some mX)))))=some r:=H;have A3:=ak.mk A30;clear A30;replace H:=Option.bind_eq_some_iff.mp H;obtain⟨wU,A40,H⟩:=H;replace H:((bK.f k l0 yj wU).bind fun mX=>((fF.f a1).bind fun yu=>(if yu=true then((aV.f k (⟨#[112]⟩:Bt)).bind fun qg=>((bK.f k mX (([(⟨#[112]⟩:Bt)] :List Bt)) qg).bind fun qh=>(some qh)))else(some mX))))=some r:=H;have A4:=ak.mk A40;clear A40;replace H:=Option.bind_eq_some_iff.mp H;obtain⟨mX,A50,H⟩:=H
 replace H:((fF.f a1).bind fun yu=>(if yu=true then((aV.f k (⟨#[112]⟩:Bt)).bind fun qg=>((bK.f k mX (([(⟨#[112]⟩:Bt)] :List Bt)) qg).bind fun qh=>(some qh)))else(some mX)))=some r:=H;have A5:=ak.mk A50;clear A50;replace H:=Option.bind_eq_some_iff.mp H;obtain⟨yu,A60,H⟩:=H;replace H:(if yu=true then((aV.f k (⟨#[112]⟩:Bt)).bind fun qg=>((bK.f k mX (([(⟨#[112]⟩:Bt)] :List Bt)) qg).bind fun qh=>(some qh)))else(some mX))=some r:=H;have A6:=ak.mk A60;clear A60
 by_cases c7:yu=true
 ·subst c7
  have H1:((aV.f k (⟨#[112]⟩:Bt)).bind fun qg=>((bK.f k mX (([(⟨#[112]⟩:Bt)] :List Bt)) qg).bind fun qh=>(some qh)))=some r:=by rw[if_pos rfl]at H;exact H
  clear H;have H:=H1;clear H1;obtain⟨y298,FI⟩:∃y_:List Bt,y_=(([(⟨#[112]⟩:Bt)] :List Bt)):=⟨_,rfl⟩
  replace H:((aV.f k (⟨#[112]⟩:Bt)).bind fun qg=>((bK.f k mX y298 qg).bind fun qh=>(some qh)))=some r:=by first|(rw[FI];with_reducible exact H)|(have H2_:=(Option.bind_some _ _).symm.trans H;rw[FI];with_reducible exact H2_)|(have H2_:=(Option.bind_some _ _).symm.trans H;with_reducible exact H2_)|with_reducible exact H|(rw[FI];exact H)|exact H
  have Ny298:=ak.mk FI;clear FI;replace H:=Option.bind_eq_some_iff.mp H;obtain⟨qg,A80,H⟩:=H;replace H:((bK.f k mX y298 qg).bind fun qh=>(some qh))=some r:=H;have A8:=ak.mk A80;clear A80;replace H:=Option.bind_eq_some_iff.mp H;obtain⟨qh,A90,H⟩:=H;replace H:(some qh)=some r:=H;have A9:=ak.mk A90;clear A90;obtain rfl:=Option.some.inj H;go_enter Tryz.func63,Tryz.ntmps63
  go_wp2_with(first|((with_reducible refine bC (f:=107) rfl ?_);refine dH (some 7) rfl rfl Tryz.func107 (by kernel_rfl) rfl #[.string a1] rfl q'a ?_;(with_reducible refine(bA.calls k a1 yj _ A3.out).mono ?_);rintro e w10 ⟨v289,rfl,ho0,hb⟩;refine⟨_,rfl,?_⟩;have iB:=ak.mk (Kd.bM ho0 (aJ bz));replace HB:=ak.mk (aN bz hb);(try clear hb);(try clear hb2);(try clear hk);(try clear hi);(try clear ho0))|((with_reducible refine bC (f:=108) rfl ?_);refine dH (some 9) rfl rfl Tryz.func108 (by kernel_rfl) rfl #[.string a1] rfl q'a ?_;(with_reducible refine(aV.calls k a1 wU _ A4.out).mono ?_);rintro e w11 ⟨v292,rfl,ho0,hb⟩;refine⟨_,rfl,?_⟩;have jB:=ak.mk (Kd.bM (Kd.dw ho0 (Kd.fu (rz iB.out))) (aJ bz));replace iB:=ak.mk (Kd.bP (rz iB.out) (Kd.cK ho0) hb);replace HB:=ak.mk (aN bz hb);(try clear hb);(try clear hb2);(try clear hk);(try clear hi);(try clear ho0);obtain⟨Ao12,co12,eo12⟩:=Kd.bF iB.out;subst eo12;obtain⟨Ao13,co13,eo13⟩:=Kd.bF jB.out;subst eo13)|((with_reducible refine bC (f:=106) rfl ?_);refine dH (some 10) rfl rfl Tryz.func106 (by kernel_rfl) rfl #[.slice A0 l0.length c0,.slice Ao12 yj.length co12,.slice Ao13 wU.length co13] rfl q'a ?_;(with_reducible refine(bK.calls k (fun k_=>k_<w.heap.size) _ _ l0 _ _ yj _ _ wU mX _ ?dB ?dD ?jK ?jL ?jM A5.out).mono ?_);(case dB=>exact Kd.V_mk HC0.out (Kd.sP (Kd.C_F Kd.lF HR0.out) bz));(case dD=>exact cz (Kd.aI iB.out).2.2);(case jK=>exact(Kd.aI iB.out).2.1);(case jL=>exact cz (Kd.aI jB.out).2.2);(case jM=>exact(Kd.aI jB.out).2.1);rintro e w14 ⟨v295,rfl,ho0,hb⟩;refine⟨_,rfl,?_⟩;have ni:=ak.mk (Kd.bM (Kd.dw (Kd.dw (Kd.dz (ok':=fun k_=>True) ho0 (fun _ hk_=>trivial)) (Kd.fu (rz iB.out))) (Kd.fu (rz jB.out))) (aJ bz));replace iB:=ak.mk (Kd.bP (rz iB.out) (Kd.cK ho0) hb);replace jB:=ak.mk (Kd.bP (rz jB.out) (Kd.cK ho0) hb);replace HB:=ak.mk (aN bz hb);(try clear hb);(try clear hb2);(try clear hk);(try clear hi);(try clear ho0))|((with_reducible refine bC (f:=109) rfl ?_);refine dH (some 12) rfl rfl Tryz.func109 (by kernel_rfl) rfl #[.string a1] rfl q'a ?_;(with_reducible refine(fF.calls a1 true _ A6.out).mono ?_);rintro e w' ⟨rfl,⟨nd,rfl⟩⟩;refine⟨_,rfl,?_⟩)|((with_reducible refine bY (N:=14) rfl ?_);refine Kd.eZ Kd.string _ 9 ?hg (N:=14) ?hd (xs:=([(⟨#[112]⟩:Bt)] :List Bt)) (inner:=[.string (⟨#[112]⟩:Bt)]) (ok:=fun _=>True) (okp:=fun _=>True) ?hr ?hp (fun _ hk=>hk) trivial (Below.refl _ _) (Nat.le_refl _) (by simp) ?_;(case hd=>rfl);(case hg=>rfl);(case hr=>first|(go_simp;done)|(go_simp;rfl));(case hp=>exact(aY.one (show Kd.M Kd.string _ _ _ (⟨#[112]⟩:Bt) [.string (⟨#[112]⟩:Bt)]from rfl) (aY.none _ _)));intro v299 w15 ho16 hb hg_ cu;clear hg_ cu;(first|rw[←Ny298.out]at ho16|(simp only[Int.reduceToNat]at ho16;rw[←Ny298.out]at ho16));have rW:=ak.mk (Kd.bM (Kd.dw (Kd.dw (Kd.dw ho16 (Kd.fu (rz iB.out))) (Kd.fu (rz jB.out))) (Kd.fu (rz ni.out))) (aJ bz));replace iB:=ak.mk (Kd.bP (rz iB.out) (Kd.cK ho16) hb);replace jB:=ak.mk (Kd.bP (rz jB.out) (Kd.cK ho16) hb);replace ni:=ak.mk (Kd.bP (rz ni.out) (Kd.cK ho16) hb);replace HB:=ak.mk (aN bz hb);clear hb ho16)|((with_reducible refine bC (f:=108) rfl ?_);refine dH (some 15) rfl rfl Tryz.func108 (by kernel_rfl) rfl #[.string (⟨#[112]⟩:Bt)] rfl q'a ?_;(with_reducible refine(aV.calls k (⟨#[112]⟩:Bt) qg _ A8.out).mono ?_);rintro e w17 ⟨v302,rfl,ho0,hb⟩;refine⟨_,rfl,?_⟩;have Ab:=ak.mk (Kd.bM (Kd.dw (Kd.dw (Kd.dw (Kd.dw ho0 (Kd.fu (rz iB.out))) (Kd.fu (rz jB.out))) (Kd.fu (rz ni.out))) (Kd.fu (rz rW.out))) (aJ bz));replace iB:=ak.mk (Kd.bP (rz iB.out) (Kd.cK ho0) hb);replace jB:=ak.mk (Kd.bP (rz jB.out) (Kd.cK ho0) hb);replace ni:=ak.mk (Kd.bP (rz ni.out) (Kd.cK ho0) hb);replace rW:=ak.mk (Kd.bP (rz rW.out) (Kd.cK ho0) hb);replace HB:=ak.mk (aN bz hb);(try clear hb);(try clear hb2);(try clear hk);(try clear hi);(try clear ho0);obtain⟨Ao18,co18,eo18⟩:=Kd.bF ni.out;subst eo18;obtain⟨Ao19,co19,eo19⟩:=Kd.bF rW.out;subst eo19;obtain⟨Ao20,co20,eo20⟩:=Kd.bF Ab.out;subst eo20)|((with_reducible refine bC (f:=106) rfl ?_);refine dH (some 16) rfl rfl Tryz.func106 (by kernel_rfl) rfl #[.slice Ao18 mX.length co18,.slice Ao19 y298.length co19,.slice Ao20 qg.length co20] rfl q'a ?_;(with_reducible refine(bK.calls k (fun k_=>some k_=(.slice Ao18 mX.length co18:Value).ownBlock) _ _ mX _ _ y298 _ _ qg qh _ ?dB ?dD ?jK ?jL ?jM A9.out).mono ?_);(case dB=>exact Kd.R_V (Kd.CG rfl (ni.out)));(case dD=>exact cz (Kd.aI rW.out).2.2);(case jK=>exact(Kd.aI rW.out).2.1);(case jL=>exact cz (Kd.aI Ab.out).2.2);(case jM=>exact(Kd.aI Ab.out).2.1);rintro e w21 ⟨v305,rfl,ho0,hb⟩;refine⟨_,rfl,?_⟩;have HO306:=ak.mk (Kd.bM (Kd.dw (Kd.dw (Kd.dw (Kd.dw (Kd.dw (Kd.dz (ok':=fun k_=>True) ho0 (fun _ hk_=>trivial)) (Kd.fu (rz iB.out))) (Kd.fu (rz jB.out))) (Kd.fu (rz ni.out))) (Kd.fu (rz rW.out))) (Kd.fu (rz Ab.out))) (aJ bz));replace iB:=ak.mk (Kd.bP (rz iB.out) (Kd.cK ho0) hb);replace jB:=ak.mk (Kd.bP (rz jB.out) (Kd.cK ho0) hb);replace ni:=ak.mk (Kd.bP (rz ni.out) (Kd.cK ho0) hb);replace rW:=ak.mk (Kd.bP (rz rW.out) (Kd.cK ho0) hb);replace Ab:=ak.mk (Kd.bP (rz Ab.out) (Kd.cK ho0) hb);replace HB:=ak.mk (aN bz hb);(try clear hb);(try clear hb2);(try clear hk);(try clear hi);(try clear ho0)))
  go_ret;exact⟨_,by first|rfl|(simp[aQ,aT]<;>rfl)|(simp[*,aQ,aT]<;>rfl),by(with_reducible repeat(first|apply Kd.aZ|apply Kd.bB|apply Kd.bq));exact Kd.dz HO306.out (fun _ hk=>trivial),bz⟩
 ·replace c7:=Bool.eq_false_iff.mpr c7
  subst c7;have H1:(some mX)=some r:=by rw[if_neg (show¬(false=true) by decide)]at H;first|exact H|(simp only[eq_self]at H⊢;exact H)|(simp only[eq_self,if_true]at H⊢;exact H)
  clear H;have H:=H1;clear H1;obtain rfl:=Option.some.inj H;go_enter Tryz.func63,Tryz.ntmps63
  go_wp2_with(first|((with_reducible refine bC (f:=107) rfl ?_);refine dH (some 7) rfl rfl Tryz.func107 (by kernel_rfl) rfl #[.string a1] rfl q'a ?_;(with_reducible refine(bA.calls k a1 yj _ A3.out).mono ?_);rintro e w22 ⟨v289,rfl,ho0,hb⟩;refine⟨_,rfl,?_⟩;have iB:=ak.mk (Kd.bM ho0 (aJ bz));replace HB:=ak.mk (aN bz hb);(try clear hb);(try clear hb2);(try clear hk);(try clear hi);(try clear ho0))|((with_reducible refine bC (f:=108) rfl ?_);refine dH (some 9) rfl rfl Tryz.func108 (by kernel_rfl) rfl #[.string a1] rfl q'a ?_;(with_reducible refine(aV.calls k a1 wU _ A4.out).mono ?_);rintro e w23 ⟨v292,rfl,ho0,hb⟩;refine⟨_,rfl,?_⟩;have jB:=ak.mk (Kd.bM (Kd.dw ho0 (Kd.fu (rz iB.out))) (aJ bz));replace iB:=ak.mk (Kd.bP (rz iB.out) (Kd.cK ho0) hb);replace HB:=ak.mk (aN bz hb);(try clear hb);(try clear hb2);(try clear hk);(try clear hi);(try clear ho0);obtain⟨Ao24,co24,eo24⟩:=Kd.bF iB.out;subst eo24;obtain⟨Ao25,co25,eo25⟩:=Kd.bF jB.out;subst eo25)|((with_reducible refine bC (f:=106) rfl ?_);refine dH (some 10) rfl rfl Tryz.func106 (by kernel_rfl) rfl #[.slice A0 l0.length c0,.slice Ao24 yj.length co24,.slice Ao25 wU.length co25] rfl q'a ?_;(with_reducible refine(bK.calls k (fun k_=>k_<w.heap.size) _ _ l0 _ _ yj _ _ wU mX _ ?dB ?dD ?jK ?jL ?jM A5.out).mono ?_);(case dB=>exact Kd.V_mk HC0.out (Kd.sP (Kd.C_F Kd.lF HR0.out) bz));(case dD=>exact cz (Kd.aI iB.out).2.2);(case jK=>exact(Kd.aI iB.out).2.1);(case jL=>exact cz (Kd.aI jB.out).2.2);(case jM=>exact(Kd.aI jB.out).2.1);rintro e w26 ⟨v295,rfl,ho0,hb⟩;refine⟨_,rfl,?_⟩;have ni:=ak.mk (Kd.bM (Kd.dw (Kd.dw (Kd.dz (ok':=fun k_=>True) ho0 (fun _ hk_=>trivial)) (Kd.fu (rz iB.out))) (Kd.fu (rz jB.out))) (aJ bz));replace iB:=ak.mk (Kd.bP (rz iB.out) (Kd.cK ho0) hb);replace jB:=ak.mk (Kd.bP (rz jB.out) (Kd.cK ho0) hb);replace HB:=ak.mk (aN bz hb);(try clear hb);(try clear hb2);(try clear hk);(try clear hi);(try clear ho0))|((with_reducible refine bC (f:=109) rfl ?_);refine dH (some 12) rfl rfl Tryz.func109 (by kernel_rfl) rfl #[.string a1] rfl q'a ?_;(with_reducible refine(fF.calls a1 false _ A6.out).mono ?_);rintro e w' ⟨rfl,⟨nd,rfl⟩⟩;refine⟨_,rfl,?_⟩))
  go_ret;exact⟨_,by first|rfl|(simp[aQ,aT]<;>rfl)|(simp[*,aQ,aT]<;>rfl),by(with_reducible repeat(first|apply Kd.aZ|apply Kd.bB|apply Kd.bq));exact Kd.dz ni.out (fun _ hk=>trivial),bz⟩
def GD.f(k:Nat)(a0:Bt)(l1:List Bt):Option (Bool):=(fD.f k l1 a0).bind fun t307=>(some ((t307.length:Int)==(l1.length:Int)))
end Go.Proofs.aj.W7
namespace Go.Proofs.aj.W7
open Go.RowKit Go.Proofs Go.Proofs.aj Go.Proofs.YtkcmghlhpbepcaaGreatDoor Go.Proofs.ah.aG
def AQ:List Bt:=(bN.f).getD []
theorem zn(s:Bt)(k:Nat)(hk:20≤k):dM.f k s=some (mZ AQ s):=by
 unfold dM.f;rw[oW _ _ _ (by simp) (by simp;omega),Option.bind_some]
 congr 1
 show mZ _ s=mZ ((bN.f).getD []) s;simp only[bN.f,Option.getD_some,mZ,List.any_cons,List.any_nil,Bool.or_false]
 ac_rfl
theorem AU(s:Bt)(k:Nat)(hk:20≤k):aM.f k AQ s=some (mZ AQ s):=Cc s AQ k (by simp[AQ,bN.f]) (by simp[AQ,bN.f];omega)
theorem Jv(a b s:Bt):mZ [a,b] s=((a.data.toList==s.data.toList)||(b.data.toList==s.data.toList)):=by simp[mZ]
theorem zo{l m:List UInt8}(h:l≠m):(m==l)=false:=beq_eq_false_iff_ne.2 (Ne.symm h)
theorem walls_eq(s:Bt)(k:Nat)(hk:101≤k):aV.f k s=bV.f k s:=by
 obtain⟨k,rfl⟩:∃m,k=m+2:=⟨k - 2,by omega⟩
 unfold aV.f bV.f
 by_cases h1:s.toList=[108,105]
 ·rw[if_pos h1,if_pos h1]
 rw[if_neg h1,if_neg h1,oW _ _ _ (by simp) (by simp;omega),Option.bind_some,Jv]
 by_cases h2:s.toList=[100,100]
 ·rw[if_pos h2,←Lib.toList_data s,h2]
  simp only[aV.j0];rfl
 rw[if_neg h2]
 by_cases h3:s.toList=[100,116]
 ·rw[←Lib.toList_data s,h3]
  simp only[aV.j0];rfl
 have e2:((⟨#[100,100]⟩:Bt).data.toList==s.data.toList)=false:=by rw[←Lib.toList_data s];exact zo h2
 have e3:((⟨#[100,116]⟩:Bt).data.toList==s.data.toList)=false:=by rw[←Lib.toList_data s];exact zo h3
 rw[e2,e3,if_neg (by decide),oW _ _ _ (by simp) (by simp;omega),Option.bind_some,Jv,beq_eq_false_iff_ne.2 h3];simp only[aV.j0];rw[if_neg (by decide)]
 by_cases h4:s.toList=[111,112,116,105,111,110]
 ·rw[if_pos h4,←Lib.toList_data s,h4]
  simp only[aV.j1];rfl
 rw[if_neg h4]
 by_cases h5:s.toList=[111,112,116,103,114,111,117,112]
 ·rw[←Lib.toList_data s,h5]
  simp only[aV.j1];rfl
 have e4:((⟨#[111,112,116,105,111,110]⟩:Bt).data.toList==s.data.toList)=false:=by rw[←Lib.toList_data s];exact zo h4
 have e5:((⟨#[111,112,116,103,114,111,117,112]⟩:Bt).data.toList==s.data.toList)=false:=by rw[←Lib.toList_data s];exact zo h5
 rw[e4,e5,if_neg (by decide),zn _ _ (by omega),Option.bind_some,beq_eq_false_iff_ne.2 h5];simp only[aV.j1];rw[if_neg (by decide),show bN.f=some AQ from rfl,Option.bind_some,AU _ _ (by omega),Option.bind_some]
def blkR:List Bt:=(dX.f).getD []
theorem Jw(s:Bt)(k:Nat)(hk:90≤k):fB.f k s=some (mZ blkR s):=by
 unfold fB.f;rw[oW _ _ _ (by simp) (by simp;omega),Option.bind_some];rfl
theorem blockR_f(s:Bt)(k:Nat)(hk:90≤k):aM.f k blkR s=some (mZ blkR s):=Cc s blkR k (by simp[blkR,dX.f]) (by simp[blkR,dX.f];omega)
theorem J9(s:Bt)(k:Nat)(hk:101≤k):bA.f k s=bL.f k s:=by
 obtain⟨k,rfl⟩:∃m,k=m+3:=⟨k - 3,by omega⟩
 unfold bA.f bL.f
 by_cases h1:s.toList=[108,105]
 ·rw[if_pos h1,if_pos h1,beq_iff_eq.2 h1]
  simp only[bA.j0,bL.j0];rfl
 rw[if_neg h1,if_neg h1]
 by_cases h2:s.toList=[111,112,116,105,111,110]
 ·rw[beq_iff_eq.2 h2]
  simp only[bA.j0,bL.j0];rfl
 rw[beq_eq_false_iff_ne.2 h2];simp only[bA.j0,bL.j0];rw[if_neg (show¬(false=true) by decide),if_neg (show¬(false=true) by decide)]
 by_cases h3:s.toList=[100,100]
 ·rw[if_pos h3,if_pos h3]
  simp only[bA.j1];rfl
 rw[if_neg h3,if_neg h3];simp only[bA.j1]
 by_cases h4:s.toList=[100,116]
 ·rw[if_pos h4,if_pos (beq_iff_eq.2 h4)]
 rw[if_neg h4,if_neg (by rw[beq_eq_false_iff_ne.2 h4];decide)]
 by_cases h5:s.toList=[111,112,116,103,114,111,117,112]
 ·rw[if_pos h5,if_pos h5]
 rw[if_neg h5,if_neg h5]
 by_cases h6:s.toList=[116,114]
 ·rw[if_pos h6,if_pos h6]
 rw[if_neg h6,if_neg h6];simp only[bA.j2]
 by_cases h7:s.toList=[116,100]
 ·rw[if_pos h7,if_pos h7]
  rfl
 rw[if_neg h7,if_neg h7]
 by_cases h8:s.toList=[116,104]
 ·rw[if_pos h8,if_pos (beq_iff_eq.2 h8)]
 rw[if_neg h8,if_neg (by rw[beq_eq_false_iff_ne.2 h8];decide)];rw[show bN.f=some AQ from rfl,Option.bind_some,AU _ _ (by omega),Option.bind_some,zn _ _ (by omega),Option.bind_some,Option.bind_some];rw[show dX.f=some blkR from rfl,Option.bind_some,blockR_f _ _ (by omega),Option.bind_some,Jw _ _ (by omega),Option.bind_some];rfl
theorem oo(l:List Bt)(s:Bt):mZ l s=Lib.containsS l s:=by
 rw[Bool.eq_iff_iff,Lib.containsS_iff];simp only[mZ,List.any_eq_true,beq_iff_eq];constructor
 ·rintro⟨x,hx,e⟩
  obtain⟨⟨a⟩⟩:=x;obtain⟨⟨b⟩⟩:=s;simp only at e;subst e;exact hx
 ·intro h
  exact⟨s,h,rfl⟩
theorem wD{i:Nat}(h:i<1000000000):wrap64 ((i:Int) - 1)=(i:Int) - 1:=by unfold wrap64;omega
theorem Jy(xs a b:List Bt)(hx:xs.length<100000)(ha:a.length<1000)(hb:b.length<1000):∀(n k:Nat),n≤xs.length→1001+n≤k→bG.l0 k xs a b ((n:Int) - 1)=some (dW xs a b n)
 |0,k,_,hk=>by
  obtain⟨k,rfl⟩:∃m,k=m+1:=⟨k - 1,by omega⟩
  simp only[bG.l0,dW];rw[if_neg (by omega)]
 |n+1,k,hn,hk=>by
  obtain⟨k,rfl⟩:∃m,k=m+1:=⟨k - 1,by omega⟩
  have ih:=Jy xs a b hx ha hb n k (by omega) (by omega);rw[show(((n+1:Nat):Int) - 1)=(n:Int)from by omega];simp only[bG.l0,dW]
  have hr:lq ByteArray.empty xs (n:Int)=xs.getD n ⟨#[]⟩:=by
   rw[Ea xs n (by omega)];simp[show n<xs.length by omega]
  rw[if_pos (by omega),if_pos (by omega),if_pos (by omega),hr,Cc _ _ _ (by omega) (by omega),Option.bind_some,Cc _ _ _ (by omega) (by omega),oo,oo];cases Lib.containsS a (xs.getD n ⟨#[]⟩)with
  |true=>rw[if_pos rfl,if_pos rfl]
  |false=>
   rw[if_neg (show¬(false=true) by decide),if_neg (show¬(false=true) by decide)];cases Lib.containsS b (xs.getD n ⟨#[]⟩)with
   |true=>rw[Option.bind_some,if_pos rfl,if_pos rfl]
   |false=>rw[Option.bind_some,if_neg (show¬(false=true) by decide),if_neg (show¬(false=true) by decide),wD (by omega),ih]
theorem Eb(xs a b:List Bt)(hx:xs.length<100000)(ha:a.length<1000)(hb:b.length<1000)(k:Nat)(hk:1001+xs.length≤k):bG.f k xs a b=some (dW xs a b xs.length):=by
 unfold bG.f;rw[wD (by omega)];exact Jy xs a b hx ha hb xs.length k (Nat.le_refl _) hk
theorem xg(xs some_ walls:List Bt):∀k,-1≤dW xs some_ walls k∧dW xs some_ walls k<k
 |0=>by simp[dW]
 |k+1=>by
  have:=xg xs some_ walls k;simp only[dW]
  split
  ·omega
  ·split<;>omega
def xq(a b:List Bt):Nat→List Bt→List Bt
 |0,op=>op
 |n+1,op=>if dW op a b op.length<0 then op else xq a b n (op.take (dW op a b op.length).toNat)
theorem Gq(a b:List Bt)(ha:a.length<1000)(hb:b.length<1000):∀(n:Nat) (xs:List Bt) (k:Nat),xs.length<n→xs.length<10000→20000+n≤k→
 bK.l0 k xs a b (dW xs a b xs.length)=some (xq a b n xs)
 |0,xs,k,h,_,_=>absurd h (by omega)
 |n+1,xs,k,h,hx,hk=>by
  obtain⟨m,rfl⟩:∃m,k=m+1:=⟨k - 1,by omega⟩
  have hl:=xg xs a b xs.length;simp only[bK.l0,xq]
  by_cases hneg:dW xs a b xs.length<0
  ·rw[if_neg (by omega),if_pos hneg,Option.bind_some,if_pos (by simp;omega),List.nil_append]
  ·rw[if_pos (by omega),if_pos (by omega),if_pos (by omega),if_neg hneg,Option.bind_some]
   generalize hj:dW xs a b xs.length=j at *;have hlt:(xs.take j.toNat).length<n:=by rw[List.length_take];omega
   have hlt2:(xs.take j.toNat).length<10000:=by rw[List.length_take];omega
   rw[Eb _ _ _ (by omega) ha hb _ (by omega),Option.bind_some];exact Gq a b ha hb n (xs.take j.toNat) m hlt hlt2 (by omega)
theorem Gr(xs a b:List Bt)(hx:xs.length<10000)(ha:a.length<1000)(hb:b.length<1000)(k:Nat)(hk:40000≤k):bK.f k xs a b=some (xq a b (xs.length+1) xs):=by
 unfold bK.f;rw[Eb _ _ _ (by omega) ha hb _ (by omega),Option.bind_some];exact Gq a b ha hb (xs.length+1) xs k (by omega) hx (by omega)
theorem par_eq(s:Bt):fF.f s=eO.f s:=rfl
theorem xU(s:Bt)(k:Nat)(hk:101≤k):∃c,bL.f k s=some c∧c.length<1000:=by
 obtain⟨k,rfl⟩:∃m,k=m+1:=⟨k - 1,by omega⟩
 have h:∀b,∃c,bL.j0 (k+1) s s b=some c∧c.length<1000:=by
  intro b;simp only[bL.j0];rw[zn _ _ (by omega),Option.bind_some,Jw _ _ (by omega),Option.bind_some]
  repeat' split
  all_goals exact⟨_,rfl,by simp⟩
 unfold bL.f
 split
 ·exact h _
 ·exact h _
theorem AV(s:Bt)(k:Nat)(hk:101≤k):∃c,bV.f k s=some c∧c.length<1000:=by
 unfold bV.f;rw[oW _ _ _ (by simp) (by simp;omega),Option.bind_some,oW _ _ _ (by simp) (by simp;omega),Option.bind_some,zn _ _ (by omega),Option.bind_some]
 repeat' split
 all_goals exact⟨_,rfl,by simp⟩
theorem par_some(s:Bt):∃p,eO.f s=some p:=by
 unfold eO.f
 repeat' split
 all_goals exact⟨_,rfl⟩
end Go.Proofs.aj.W7
namespace Go.Proofs.aj.W7
open Go.RowKit Go.Proofs Go.Proofs.YtkcmghlhpbepcaaGreatDoor
abbrev Rw:=S34
theorem Cu{w:World}{a:Addr}{v:Value}(h:w.cell? a=some v):a=⟨a.block,a.off,none⟩:=by
 obtain⟨b,o,s⟩:=a;cases s with
 |none=>rfl
 |some s=>
  unfold World.cell? at h
  split at h<;>simp at h
theorem yD(b o n:Nat):Addr.add ⟨b,o,none⟩ n=⟨b,o+n,none⟩:=by
 unfold Addr.add
 split<;>simp_all
theorem row_at{w:World}{A:Option Addr}{xs:List Rw}(h:k34.C w A xs.length xs)(i:Nat)(hi:i<xs.length):
 ∃g o A4 c4,A=some ⟨g,o,none⟩∧w.cell? ⟨g,o+i * 5,none⟩=some (.int .i64 xs[i].f0)∧w.cell? ⟨g,o+i * 5+1,none⟩=some (.int .i64 xs[i].f1)∧w.cell? ⟨g,o+i * 5+2,none⟩=some (.string xs[i].f2)∧w.cell? ⟨g,o+i * 5+3,none⟩=some (.string xs[i].f3)∧w.cell? ⟨g,o+i * 5+4,none⟩=some (.slice A4 xs[i].f4.length c4)∧xs[i].f4.length≤c4∧k36.C w A4 xs[i].f4.length xs[i].f4:=by
 obtain⟨ad0,_,_,e0,z0,_⟩:=qH h 0 (by omega) (by omega);have hs:=Cu (a:=ad0) (by simpa [Addr.add]using z0);obtain⟨ad,A4,c4,e,c0,c1,c2,c3,c4',l4,g4⟩:=qH h i (by omega) (by omega);obtain rfl:ad0=ad:=Option.some.inj (e0.symm.trans e);simp only[Int.toNat_natCast]at c0 c1 c2 c3 c4';rw[hs,yD]at c0 c1 c2 c3 c4';have er:bJ xs i=xs[i]:=by simp[bJ,hi]
 rw[er]at c0 c1 c2 c3 c4' l4 g4;exact⟨ad0.block,ad0.off,A4,c4,by rw[e0,←hs],c0,c1,c2,c3,c4',l4,g4⟩
def deepB(x:Rw):Bool:=decide (60≤x.f0)
def rows_big.f(l0:List Rw):Option Bool:=some (decide (4096<l0.length)||l0.any deepB)
end Go.Proofs.aj.W7
namespace Go.Proofs.aj.W7
open Go.RowKit Go.Proofs.ah.aG Go.Proofs.ah.bX Go.Proofs.ah.dN
def pX.f(l0:List S36):Option (List S36):=if l0.length * 32≤140737488355328 then some l0 else none
theorem pX.calls(A0:Option Addr)(c0:Nat)(l0 r:List S36)(w:World)(hr0:Kd.C k36 w A0 l0.length l0)(hc0:l0.length≤c0)(h:pX.f l0=some r):
 Calls Tryz.prog 132 #[.slice A0 l0.length c0] w fun e w'=>∃v0_:Value,e=.returned (v0_)∧Kd.R k36 36 w' w.heap.size (fun _=>True) v0_ r∧Below w.heap.size w w':=by
 unfold pX.f at h
 split at h
 ·rename_i hz
  obtain rfl:=Option.some.inj h;clear h;have HR0:=ak.mk hr0;have HC0:=ak.mk hc0;clear hr0 hc0;have HB:=ak.mk (Below.refl w.heap.size w);have hu:=Tryz.underlying32;have q22:∀(w:World) (a:Option Addr) (n c n' c':Nat),(binOp .eql 32 (.slice a n c) (.slice none n' c')).run Tryz.prog w=.ok (.bool a.isNone) w:=fun w a n c n' c'=>Lib.run_eql_slice_nil w _ _ a n c n' c' hu
  cases A0 with
  |none=>
   have hnil:l0=[]:=by
    cases l0 with
    |nil=>rfl
    |cons x xs=>obtain⟨ad,e,_⟩:=HR0.out.2.2 (by simp);cases e
   subst hnil;go_enter Tryz.func132,Tryz.ntmps132;go_wp2;go_ret;exact⟨_,rfl,Kd.iJ _ _ _ _ _,HB.out⟩
  |some ad=>
   go_enter Tryz.func132,Tryz.ntmps132
   go_wp2_with(first|((with_reducible refine bY (N:=5) rfl ?_);refine Kd.eZ k36 _ 36 ?hg (N:=5) ?hd (xs:=([] :List (S36))) (inner:=[]) (ok:=fun _=>True) (okp:=fun _=>True) ?hr ?hp (fun _ hk=>hk) trivial (Below.refl _ _) (Nat.le_refl _) (by simp) ?_;(case hd=>rfl);(case hg=>rfl);(case hr=>first|(go_simp;done)|(go_simp;rfl));(case hp=>exact(aY.none _ _));intro v5 w5 ho5 hb5 hg_ cu;clear hg_ cu;have HO5:=ak.mk ho5;have HB5:=ak.mk hb5;clear ho5 hb5)|((with_reducible refine fG (b:=.append) (xs:=#[.tmp 5,.tmp 6]) rfl ?_);at_builtin;refine Kd.mI k36 (w0:=w) w.heap.size rfl (.tmp 5) (.tmp 6) 32 36 (.agg #[(.string ⟨#[]⟩),(.string ⟨#[]⟩)]) 32 rfl Tryz.underlying32 wJ rfl (by decide) (by omega) v5 [] l0 _ _ _ (fun _=>True) (fun _=>False) rfl rfl HO5.out (Kd.bS HR0.out HB5.out) (fun _ _ h=>h) (fun _ h=>h.elim) (fun _ _=>trivial) HB5.out HB5.out.size (by simpa using hz) ?_;intro v7 w7 ho7 hb7 hg_ hat_))
   go_ret;exact⟨_,rfl,by simpa using ho7,hb7⟩
 ·cases h
end Go.Proofs.aj.W7
