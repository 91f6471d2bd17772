/- Lemmas and walks, part 48. -/
import Derived.Test.YtkcmghlhpbepcaaGreatDoorNB47
import Derived.Deep.DeepWitnessRowRef
import Derived.Stop.LaidErr
import Derived.Lib.LaidIn
import Derived.Lib.LaidU8T
set_option linter.unusedVariables false
set_option linter.unusedSimpArgs false
set_option maxHeartbeats 8000000
set_option maxRecDepth 100000
namespace Go.Proofs.aj.W7
open Go.RowKit Go.Proofs.ah.aD Go.Proofs.ah.bJ Go.Proofs.ah.bW
attribute [local go_sem] dB dD dR dS bZ cu dF dG
def jg.f(k:Nat)(l0:List (S34)):Option (Bool):=(bQ.f k l0).bind fun kF=>((bF.f k kF).bind fun t653=>(if t653=true then((gU.f kF).bind fun nV=>(if(nV.size:Int)>65536 then((bS.f).bind fun AX=>(some AX))else((iK.f nV).bind fun qy=>(if qy.2=0 then((fG.f qy.1 kF).bind fun zm=>(if zm=true then((bS.f).bind fun uR=>(some uR))else(some false)))else(some false)))))else((bS.f).bind fun Dm=>(some Dm))))
theorem jg.calls(k:Nat)(A0:Option Addr)(c0:Nat)(l0:List (S34))(r:Bool)(w:World)(hr0:Kd.C k34 w A0 l0.length l0)(hc0:l0.length≤c0)(h:jg.f k l0=some r)(hS_:Go.Proofs.YtkcmghlhpbepcaaGreatDoor.Std w):
 Calls Tryz.prog 12 #[.slice A0 l0.length c0] w fun e w'=>e=.returned (.bool r)∧Below w.heap.size w w':=by
 have HS_:=ak.mk hS_;clear hS_;have HR0:=ak.mk hr0;have HC0:=ak.mk hc0;clear hr0 hc0;have HB:=ak.mk (Below.refl w.heap.size w);have H:((bQ.f k l0).bind fun kF=>((bF.f k kF).bind fun t653=>(if t653=true then((gU.f kF).bind fun nV=>(if(nV.size:Int)>65536 then((bS.f).bind fun AX=>(some AX))else((iK.f nV).bind fun qy=>(if qy.2=0 then((fG.f qy.1 kF).bind fun zm=>(if zm=true then((bS.f).bind fun uR=>(some uR))else(some false)))else(some false)))))else((bS.f).bind fun Dm=>(some Dm)))))=some r:=h;clear h;replace H:=Option.bind_eq_some_iff.mp H;obtain⟨kF,A20,H⟩:=H;replace H:((bF.f k kF).bind fun t653=>(if t653=true then((gU.f kF).bind fun nV=>(if(nV.size:Int)>65536 then((bS.f).bind fun AX=>(some AX))else((iK.f nV).bind fun qy=>(if qy.2=0 then((fG.f qy.1 kF).bind fun zm=>(if zm=true then((bS.f).bind fun uR=>(some uR))else(some false)))else(some false)))))else((bS.f).bind fun Dm=>(some Dm))))=some r:=H;have A2:=ak.mk A20;clear A20;replace H:=Option.bind_eq_some_iff.mp H;obtain⟨t653,A30,H⟩:=H
 replace H:(if t653=true then((gU.f kF).bind fun nV=>(if(nV.size:Int)>65536 then((bS.f).bind fun AX=>(some AX))else((iK.f nV).bind fun qy=>(if qy.2=0 then((fG.f qy.1 kF).bind fun zm=>(if zm=true then((bS.f).bind fun uR=>(some uR))else(some false)))else(some false)))))else((bS.f).bind fun Dm=>(some Dm)))=some r:=H;have A3:=ak.mk A30;clear A30
 by_cases c4:t653=true
 ·subst c4
  have H1:((gU.f kF).bind fun nV=>(if(nV.size:Int)>65536 then((bS.f).bind fun AX=>(some AX))else((iK.f nV).bind fun qy=>(if qy.2=0 then((fG.f qy.1 kF).bind fun zm=>(if zm=true then((bS.f).bind fun uR=>(some uR))else(some false)))else(some false)))))=some r:=by rw[if_pos rfl]at H;exact H
  clear H;have H:=H1;clear H1;replace H:=Option.bind_eq_some_iff.mp H;obtain⟨nV,A50,H⟩:=H;replace H:(if(nV.size:Int)>65536 then((bS.f).bind fun AX=>(some AX))else((iK.f nV).bind fun qy=>(if qy.2=0 then((fG.f qy.1 kF).bind fun zm=>(if zm=true then((bS.f).bind fun uR=>(some uR))else(some false)))else(some false))))=some r:=H;have A5:=ak.mk A50;clear A50
  by_cases c6:(nV.size:Int)>65536
  ·rw[if_pos c6]at H
   have zL:decide (65536<(nV.size:Int))=true:=decide_eq_true c6;have c6b1:decide (65536<nV.size)=true:=decide_eq_true (by omega);clear c6;replace H:=Option.bind_eq_some_iff.mp H;obtain⟨AX,A70,H⟩:=H;replace H:(some AX)=some r:=H;have A7:=ak.mk A70;clear A70;obtain rfl:=Option.some.inj H;go_enter Tryz.func12,Tryz.ntmps12
   go_wp2_with(first|((with_reducible refine aZ (f:=15) rfl ?_);refine dJ (some 7) rfl rfl Tryz.func15 (by kernel_rfl) rfl #[.slice A0 l0.length c0] rfl q'a ?_;(with_reducible refine(bQ.calls k (fun k_=>k_<w.heap.size) _ _ l0 kF _ ?cZ A2.out).mono ?_);(case cZ=>exact Kd.V_mk HC0.out (Kd.qQ (Kd.C_F xR HR0.out) bz));rintro e w8 ⟨v651,rfl,ho0,hb⟩;refine⟨_,rfl,?_⟩;have d9:=ak.mk (Kd.qP (Kd.oq (ok':=fun k_=>True) ho0 (fun k_ hk_=>trivial)) (aR bz));replace HB:=ak.mk (aG bz hb);(try clear hb);(try clear hb2);(try clear hk);(try clear hi);(try clear ho0);obtain⟨Ao9,co9,eo9⟩:=Kd.wS d9.out;subst eo9)|((with_reducible refine aZ (f:=17) rfl ?_);refine dJ (some 9) rfl rfl Tryz.func17 (by kernel_rfl) rfl #[.slice Ao9 kF.length co9] rfl q'a ?_;(with_reducible refine(bF.calls k _ _ kF true _ ?cZ ?dH A3.out (Go.Proofs.YtkcmghlhpbepcaaGreatDoor.Std.below HS_.out bz)).mono ?_);(case cZ=>exact cz (Kd.gI d9.out).2.2);(case dH=>exact(Kd.gI d9.out).2.1);rintro e w10 ⟨rfl,hb⟩;refine⟨_,rfl,?_⟩;replace d9:=ak.mk (Kd.jl (nz d9.out) hb);replace HB:=ak.mk (aG bz hb);(try clear hb);(try clear hb2);(try clear hk);(try clear hi))|((with_reducible refine aZ (f:=42) rfl ?_);refine dJ (some 13) rfl rfl Tryz.func42 (by kernel_rfl) rfl #[.slice Ao9 kF.length co9] rfl q'a ?_;(with_reducible refine(gU.calls _ _ kF nV _ ?cZ ?dH A5.out (Go.Proofs.YtkcmghlhpbepcaaGreatDoor.Std.below HS_.out bz)).mono ?_);(case cZ=>exact cz (Kd.gI d9.out).2.2);(case dH=>exact(Kd.gI d9.out).2.1);rintro e w11 ⟨rfl,hb⟩;refine⟨_,rfl,?_⟩;replace d9:=ak.mk (Kd.jl (nz d9.out) hb);replace HB:=ak.mk (aG bz hb);(try clear hb);(try clear hb2);(try clear hk);(try clear hi))|((with_reducible refine aZ (f:=16) rfl ?_);refine dJ (some 17) rfl rfl Tryz.func16 (by kernel_rfl) rfl #[] rfl q'a ?_;(with_reducible refine(bS.calls AX _ A7.out (Go.Proofs.YtkcmghlhpbepcaaGreatDoor.Std.below HS_.out bz)).mono ?_);rintro e w12 ⟨rfl,hb⟩;refine⟨_,rfl,?_⟩;replace d9:=ak.mk (Kd.jl (nz d9.out) hb);replace HB:=ak.mk (aG bz hb);(try clear hb);(try clear hb2);(try clear hk);(try clear hi)))
   go_ret;exact⟨by first|rfl|(simp[aJ,aM]<;>rfl)|(simp[*,aJ,aM]<;>rfl),bz⟩
  ·rw[if_neg c6]at H
   have zL:decide (65536<(nV.size:Int))=false:=decide_eq_false c6;have c6b1:decide (65536<nV.size)=false:=decide_eq_false (by omega);clear c6;replace H:=Option.bind_eq_some_iff.mp H;obtain⟨⟨t657,t658⟩,A130,H⟩:=H;replace H:(if t658=0 then((fG.f t657 kF).bind fun zm=>(if zm=true then((bS.f).bind fun uR=>(some uR))else(some false)))else(some false))=some r:=H;have A13:=ak.mk A130;clear A130
   by_cases c14:t658=0
   ·rw[if_pos c14]at H
    have c14b0:(t658==0)=true:=beq_iff_eq.mpr c14;have c14b1:(t658 !=0)=false:=bne_eq_false_iff_eq.mpr c14;clear c14;replace H:=Option.bind_eq_some_iff.mp H;obtain⟨zm,A150,H⟩:=H;replace H:(if zm=true then((bS.f).bind fun uR=>(some uR))else(some false))=some r:=H;have A15:=ak.mk A150;clear A150
    by_cases c16:zm=true
    ·subst c16
     have H1:((bS.f).bind fun uR=>(some uR))=some r:=by rw[if_pos rfl]at H;exact H
     clear H;have H:=H1;clear H1;replace H:=Option.bind_eq_some_iff.mp H;obtain⟨uR,A170,H⟩:=H;replace H:(some uR)=some r:=H;have A17:=ak.mk A170;clear A170;obtain rfl:=Option.some.inj H;go_enter Tryz.func12,Tryz.ntmps12
     go_wp2_with(first|((with_reducible refine aZ (f:=15) rfl ?_);refine dJ (some 7) rfl rfl Tryz.func15 (by kernel_rfl) rfl #[.slice A0 l0.length c0] rfl q'a ?_;(with_reducible refine(bQ.calls k (fun k_=>k_<w.heap.size) _ _ l0 kF _ ?cZ A2.out).mono ?_);(case cZ=>exact Kd.V_mk HC0.out (Kd.qQ (Kd.C_F xR HR0.out) bz));rintro e w18 ⟨v651,rfl,ho0,hb⟩;refine⟨_,rfl,?_⟩;have d9:=ak.mk (Kd.qP (Kd.oq (ok':=fun k_=>True) ho0 (fun k_ hk_=>trivial)) (aR bz));replace HB:=ak.mk (aG bz hb);(try clear hb);(try clear hb2);(try clear hk);(try clear hi);(try clear ho0);obtain⟨Ao19,co19,eo19⟩:=Kd.wS d9.out;subst eo19)|((with_reducible refine aZ (f:=17) rfl ?_);refine dJ (some 9) rfl rfl Tryz.func17 (by kernel_rfl) rfl #[.slice Ao19 kF.length co19] rfl q'a ?_;(with_reducible refine(bF.calls k _ _ kF true _ ?cZ ?dH A3.out (Go.Proofs.YtkcmghlhpbepcaaGreatDoor.Std.below HS_.out bz)).mono ?_);(case cZ=>exact cz (Kd.gI d9.out).2.2);(case dH=>exact(Kd.gI d9.out).2.1);rintro e w20 ⟨rfl,hb⟩;refine⟨_,rfl,?_⟩;replace d9:=ak.mk (Kd.jl (nz d9.out) hb);replace HB:=ak.mk (aG bz hb);(try clear hb);(try clear hb2);(try clear hk);(try clear hi))|((with_reducible refine aZ (f:=42) rfl ?_);refine dJ (some 13) rfl rfl Tryz.func42 (by kernel_rfl) rfl #[.slice Ao19 kF.length co19] rfl q'a ?_;(with_reducible refine(gU.calls _ _ kF nV _ ?cZ ?dH A5.out (Go.Proofs.YtkcmghlhpbepcaaGreatDoor.Std.below HS_.out bz)).mono ?_);(case cZ=>exact cz (Kd.gI d9.out).2.2);(case dH=>exact(Kd.gI d9.out).2.1);rintro e w21 ⟨rfl,hb⟩;refine⟨_,rfl,?_⟩;replace d9:=ak.mk (Kd.jl (nz d9.out) hb);replace HB:=ak.mk (aG bz hb);(try clear hb);(try clear hb2);(try clear hk);(try clear hi))|((with_reducible refine aZ (f:=26) rfl ?_);refine dJ (some 20) rfl rfl Tryz.func26 (by kernel_rfl) rfl #[.string nV] rfl q'a ?_;(with_reducible refine(iK.calls nV t657 t658 _ A13.out (Go.Proofs.YtkcmghlhpbepcaaGreatDoor.Std.below HS_.out bz)).mono ?_);rintro e w22 ⟨v659,rfl,ho0,hb⟩;refine⟨_,rfl,?_⟩;have qz:=ak.mk (Kd.qP (Kd.oq (ok':=fun k_=>some k_≠(.slice Ao19 kF.length co19:Value).ownBlock) (Kd.R_N (Kd.mY ho0)) (fun k_ hk_=>(Kd.fresh' (Kd.N_lt (nz d9.out)) k_ hk_.2.1))) (aR bz));replace d9:=ak.mk (Kd.EO (nz d9.out) (by first|exact Kd.Jq ho0|exact Kd.jL ho0) hb);replace HB:=ak.mk (aG bz hb);(try clear hb);(try clear hb2);(try clear hk);(try clear hi);(try clear ho0);obtain⟨Ao23,co23,eo23⟩:=Kd.wS qz.out;subst eo23)|(go_at_call 22;(with_reducible refine(fG.calls _ _ t657 _ _ kF true _ ?cZ ?dH ?nR ?nS A15.out).mono ?_);(case cZ=>exact cz (Kd.gI qz.out).2.2);(case dH=>exact(Kd.gI qz.out).2.1);(case nR=>exact cz (Kd.gI d9.out).2.2);(case nS=>exact(Kd.gI d9.out).2.1);rintro e w24 ⟨rfl,hb⟩;replace d9:=ak.mk (Kd.jl (nz d9.out) hb);replace qz:=ak.mk (Kd.jl (nz qz.out) hb);replace HB:=ak.mk (aG bz hb);(try clear hb);(try clear hb2);(try clear hk);(try clear hi))|(go_at_call 16;(with_reducible refine(bS.calls uR _ A17.out (Go.Proofs.YtkcmghlhpbepcaaGreatDoor.Std.below HS_.out bz)).mono ?_);rintro e w25 ⟨rfl,hb⟩;replace d9:=ak.mk (Kd.jl (nz d9.out) hb);replace qz:=ak.mk (Kd.jl (nz qz.out) hb);replace HB:=ak.mk (aG bz hb);(try clear hb);(try clear hb2);(try clear hk);(try clear hi)))
     go_ret;exact⟨by first|rfl|(simp[aJ,aM]<;>rfl)|(simp[*,aJ,aM]<;>rfl),bz⟩
    ·replace c16:=Bool.eq_false_iff.mpr c16
     subst c16;have H1:(some false)=some r:=by rw[if_neg (show¬(false=true) by decide)]at H;first|exact H|(simp only[eq_self]at H⊢;exact H)|(simp only[eq_self,if_true]at H⊢;exact H)
     clear H;have H:=H1;clear H1;obtain rfl:=Option.some.inj H;go_enter Tryz.func12,Tryz.ntmps12
     go_wp2_with(first|((with_reducible refine aZ (f:=15) rfl ?_);refine dJ (some 7) rfl rfl Tryz.func15 (by kernel_rfl) rfl #[.slice A0 l0.length c0] rfl q'a ?_;(with_reducible refine(bQ.calls k (fun k_=>k_<w.heap.size) _ _ l0 kF _ ?cZ A2.out).mono ?_);(case cZ=>exact Kd.V_mk HC0.out (Kd.qQ (Kd.C_F xR HR0.out) bz));rintro e w26 ⟨v651,rfl,ho0,hb⟩;refine⟨_,rfl,?_⟩;have d9:=ak.mk (Kd.qP (Kd.oq (ok':=fun k_=>True) ho0 (fun k_ hk_=>trivial)) (aR bz));replace HB:=ak.mk (aG bz hb);(try clear hb);(try clear hb2);(try clear hk);(try clear hi);(try clear ho0);obtain⟨Ao27,co27,eo27⟩:=Kd.wS d9.out;subst eo27)|((with_reducible refine aZ (f:=17) rfl ?_);refine dJ (some 9) rfl rfl Tryz.func17 (by kernel_rfl) rfl #[.slice Ao27 kF.length co27] rfl q'a ?_;(with_reducible refine(bF.calls k _ _ kF true _ ?cZ ?dH A3.out (Go.Proofs.YtkcmghlhpbepcaaGreatDoor.Std.below HS_.out bz)).mono ?_);(case cZ=>exact cz (Kd.gI d9.out).2.2);(case dH=>exact(Kd.gI d9.out).2.1);rintro e w28 ⟨rfl,hb⟩;refine⟨_,rfl,?_⟩;replace d9:=ak.mk (Kd.jl (nz d9.out) hb);replace HB:=ak.mk (aG bz hb);(try clear hb);(try clear hb2);(try clear hk);(try clear hi))|((with_reducible refine aZ (f:=42) rfl ?_);refine dJ (some 13) rfl rfl Tryz.func42 (by kernel_rfl) rfl #[.slice Ao27 kF.length co27] rfl q'a ?_;(with_reducible refine(gU.calls _ _ kF nV _ ?cZ ?dH A5.out (Go.Proofs.YtkcmghlhpbepcaaGreatDoor.Std.below HS_.out bz)).mono ?_);(case cZ=>exact cz (Kd.gI d9.out).2.2);(case dH=>exact(Kd.gI d9.out).2.1);rintro e w29 ⟨rfl,hb⟩;refine⟨_,rfl,?_⟩;replace d9:=ak.mk (Kd.jl (nz d9.out) hb);replace HB:=ak.mk (aG bz hb);(try clear hb);(try clear hb2);(try clear hk);(try clear hi))|((with_reducible refine aZ (f:=26) rfl ?_);refine dJ (some 20) rfl rfl Tryz.func26 (by kernel_rfl) rfl #[.string nV] rfl q'a ?_;(with_reducible refine(iK.calls nV t657 t658 _ A13.out (Go.Proofs.YtkcmghlhpbepcaaGreatDoor.Std.below HS_.out bz)).mono ?_);rintro e w30 ⟨v659,rfl,ho0,hb⟩;refine⟨_,rfl,?_⟩;have qz:=ak.mk (Kd.qP (Kd.oq (ok':=fun k_=>some k_≠(.slice Ao27 kF.length co27:Value).ownBlock) (Kd.R_N (Kd.mY ho0)) (fun k_ hk_=>(Kd.fresh' (Kd.N_lt (nz d9.out)) k_ hk_.2.1))) (aR bz));replace d9:=ak.mk (Kd.EO (nz d9.out) (by first|exact Kd.Jq ho0|exact Kd.jL ho0) hb);replace HB:=ak.mk (aG bz hb);(try clear hb);(try clear hb2);(try clear hk);(try clear hi);(try clear ho0);obtain⟨Ao31,co31,eo31⟩:=Kd.wS qz.out;subst eo31)|(go_at_call 22;(with_reducible refine(fG.calls _ _ t657 _ _ kF false _ ?cZ ?dH ?nR ?nS A15.out).mono ?_);(case cZ=>exact cz (Kd.gI qz.out).2.2);(case dH=>exact(Kd.gI qz.out).2.1);(case nR=>exact cz (Kd.gI d9.out).2.2);(case nS=>exact(Kd.gI d9.out).2.1);rintro e w32 ⟨rfl,hb⟩;replace d9:=ak.mk (Kd.jl (nz d9.out) hb);replace qz:=ak.mk (Kd.jl (nz qz.out) hb);replace HB:=ak.mk (aG bz hb);(try clear hb);(try clear hb2);(try clear hk);(try clear hi)))
     go_ret;exact⟨by first|rfl|(simp[aJ,aM]<;>rfl)|(simp[*,aJ,aM]<;>rfl),bz⟩
   ·rw[if_neg c14]at H
    have c14b0:(t658==0)=false:=beq_eq_false_iff_ne.mpr c14;have c14b1:(t658 !=0)=true:=bne_iff_ne.mpr c14;obtain rfl:=Option.some.inj H;go_enter Tryz.func12,Tryz.ntmps12
    go_wp2_with(first|((with_reducible refine aZ (f:=15) rfl ?_);refine dJ (some 7) rfl rfl Tryz.func15 (by kernel_rfl) rfl #[.slice A0 l0.length c0] rfl q'a ?_;(with_reducible refine(bQ.calls k (fun k_=>k_<w.heap.size) _ _ l0 kF _ ?cZ A2.out).mono ?_);(case cZ=>exact Kd.V_mk HC0.out (Kd.qQ (Kd.C_F xR HR0.out) bz));rintro e w33 ⟨v651,rfl,ho0,hb⟩;refine⟨_,rfl,?_⟩;have d9:=ak.mk (Kd.qP (Kd.oq (ok':=fun k_=>True) ho0 (fun k_ hk_=>trivial)) (aR bz));replace HB:=ak.mk (aG bz hb);(try clear hb);(try clear hb2);(try clear hk);(try clear hi);(try clear ho0);obtain⟨Ao34,co34,eo34⟩:=Kd.wS d9.out;subst eo34)|((with_reducible refine aZ (f:=17) rfl ?_);refine dJ (some 9) rfl rfl Tryz.func17 (by kernel_rfl) rfl #[.slice Ao34 kF.length co34] rfl q'a ?_;(with_reducible refine(bF.calls k _ _ kF true _ ?cZ ?dH A3.out (Go.Proofs.YtkcmghlhpbepcaaGreatDoor.Std.below HS_.out bz)).mono ?_);(case cZ=>exact cz (Kd.gI d9.out).2.2);(case dH=>exact(Kd.gI d9.out).2.1);rintro e w35 ⟨rfl,hb⟩;refine⟨_,rfl,?_⟩;replace d9:=ak.mk (Kd.jl (nz d9.out) hb);replace HB:=ak.mk (aG bz hb);(try clear hb);(try clear hb2);(try clear hk);(try clear hi))|((with_reducible refine aZ (f:=42) rfl ?_);refine dJ (some 13) rfl rfl Tryz.func42 (by kernel_rfl) rfl #[.slice Ao34 kF.length co34] rfl q'a ?_;(with_reducible refine(gU.calls _ _ kF nV _ ?cZ ?dH A5.out (Go.Proofs.YtkcmghlhpbepcaaGreatDoor.Std.below HS_.out bz)).mono ?_);(case cZ=>exact cz (Kd.gI d9.out).2.2);(case dH=>exact(Kd.gI d9.out).2.1);rintro e w36 ⟨rfl,hb⟩;refine⟨_,rfl,?_⟩;replace d9:=ak.mk (Kd.jl (nz d9.out) hb);replace HB:=ak.mk (aG bz hb);(try clear hb);(try clear hb2);(try clear hk);(try clear hi))|((with_reducible refine aZ (f:=26) rfl ?_);refine dJ (some 20) rfl rfl Tryz.func26 (by kernel_rfl) rfl #[.string nV] rfl q'a ?_;(with_reducible refine(iK.calls nV t657 t658 _ A13.out (Go.Proofs.YtkcmghlhpbepcaaGreatDoor.Std.below HS_.out bz)).mono ?_);rintro e w37 ⟨v659,rfl,ho0,hb⟩;refine⟨_,rfl,?_⟩;have qz:=ak.mk (Kd.qP (Kd.oq (ok':=fun k_=>some k_≠(.slice Ao34 kF.length co34:Value).ownBlock) (Kd.R_N (Kd.mY ho0)) (fun k_ hk_=>(Kd.fresh' (Kd.N_lt (nz d9.out)) k_ hk_.2.1))) (aR bz));replace d9:=ak.mk (Kd.EO (nz d9.out) (by first|exact Kd.Jq ho0|exact Kd.jL ho0) hb);replace HB:=ak.mk (aG bz hb);(try clear hb);(try clear hb2);(try clear hk);(try clear hi);(try clear ho0)))
    go_ret;exact⟨by first|rfl|(simp[aJ,aM]<;>rfl)|(simp[*,aJ,aM]<;>rfl),bz⟩
 ·replace c4:=Bool.eq_false_iff.mpr c4
  subst c4;have H1:((bS.f).bind fun Dm=>(some Dm))=some r:=by rw[if_neg (show¬(false=true) by decide)]at H;first|exact H|(simp only[eq_self]at H⊢;exact H)|(simp only[eq_self,if_true]at H⊢;exact H)
  clear H;have H:=H1;clear H1;replace H:=Option.bind_eq_some_iff.mp H;obtain⟨Dm,A380,H⟩:=H;replace H:(some Dm)=some r:=H;have A38:=ak.mk A380;clear A380;obtain rfl:=Option.some.inj H;go_enter Tryz.func12,Tryz.ntmps12
  go_wp2_with(first|((with_reducible refine aZ (f:=15) rfl ?_);refine dJ (some 7) rfl rfl Tryz.func15 (by kernel_rfl) rfl #[.slice A0 l0.length c0] rfl q'a ?_;(with_reducible refine(bQ.calls k (fun k_=>k_<w.heap.size) _ _ l0 kF _ ?cZ A2.out).mono ?_);(case cZ=>exact Kd.V_mk HC0.out (Kd.qQ (Kd.C_F xR HR0.out) bz));rintro e w39 ⟨v651,rfl,ho0,hb⟩;refine⟨_,rfl,?_⟩;have d9:=ak.mk (Kd.qP (Kd.oq (ok':=fun k_=>True) ho0 (fun k_ hk_=>trivial)) (aR bz));replace HB:=ak.mk (aG bz hb);(try clear hb);(try clear hb2);(try clear hk);(try clear hi);(try clear ho0);obtain⟨Ao40,co40,eo40⟩:=Kd.wS d9.out;subst eo40)|((with_reducible refine aZ (f:=17) rfl ?_);refine dJ (some 9) rfl rfl Tryz.func17 (by kernel_rfl) rfl #[.slice Ao40 kF.length co40] rfl q'a ?_;(with_reducible refine(bF.calls k _ _ kF false _ ?cZ ?dH A3.out (Go.Proofs.YtkcmghlhpbepcaaGreatDoor.Std.below HS_.out bz)).mono ?_);(case cZ=>exact cz (Kd.gI d9.out).2.2);(case dH=>exact(Kd.gI d9.out).2.1);rintro e w41 ⟨rfl,hb⟩;refine⟨_,rfl,?_⟩;replace d9:=ak.mk (Kd.jl (nz d9.out) hb);replace HB:=ak.mk (aG bz hb);(try clear hb);(try clear hb2);(try clear hk);(try clear hi))|((with_reducible refine aZ (f:=16) rfl ?_);refine dJ (some 11) rfl rfl Tryz.func16 (by kernel_rfl) rfl #[] rfl q'a ?_;(with_reducible refine(bS.calls Dm _ A38.out (Go.Proofs.YtkcmghlhpbepcaaGreatDoor.Std.below HS_.out bz)).mono ?_);rintro e w42 ⟨rfl,hb⟩;refine⟨_,rfl,?_⟩;replace d9:=ak.mk (Kd.jl (nz d9.out) hb);replace HB:=ak.mk (aG bz hb);(try clear hb);(try clear hb2);(try clear hk);(try clear hi)))
  go_ret;exact⟨by first|rfl|(simp[aJ,aM]<;>rfl)|(simp[*,aJ,aM]<;>rfl),bz⟩
end Go.Proofs.aj.W7
namespace Go.Proofs.aj.W7
open Go.RowKit Go.Proofs Go.Proofs.aj Go.Proofs.YtkcmghlhpbepcaaGreatDoor Go.Proofs.ah.aD
theorem wt_le{α:Type}(f:α→Nat):∀(l:List α) (a:α),a∈l→f a≤(l.map f).sum
 | [],_,h=>by cases h
 |b::l,a,h=>by
  rw[List.map_cons,List.sum_cons]
  rcases List.mem_cons.1 h with rfl|h
  ·omega
  ·have:=wt_le f l a h;omega
theorem szr_of(l:List Rw)(h:(l.map qD).sum≤2000000):∀x∈(l.take 40).map tY,SzR 2000000 x:=by
 intro x hx;obtain⟨y,hy,rfl⟩:=List.mem_map.1 hx;have h1:=wt_le qD l y (List.mem_of_mem_take hy);have h2:=QC y;have h3:=mn6' y.f4.length;have h4:∀a∈(tY y).f4,Av a≤((tY y).f4.map Av).sum:=fun a ha=>wt_le _ _ a ha
 have e2:((tY y).f4.map (fun x=>Av x)).sum=((tY y).f4.map Av).sum:=rfl;have e0:qD (tY y)≤2000000:=by omega
 generalize hz:tY y=z at *;have hfew:z.f4.length≤6:=by rw[←hz];simp only[tY,List.length_take];omega
 simp only[qD]at e0;refine⟨by omega,by omega,fun a ha=>?_,hfew⟩;have:=h4 a ha;simp only[Av]at this e2 e0;omega
theorem QF:∀(l:List Rw),sumS l≤(l.map qD).sum
 | []=>by simp[sumS]
 |x::l=>by
  have:=QF l;simp only[sumS,List.map_cons,List.sum_cons,qD]at *;omega
theorem sums_of(l:List Rw)(h:(l.map qD).sum≤2000000):sumS ((l.take 40).map tY)≤2000000:=by
 have h1:=QF ((l.take 40).map tY);have h2:=FP (l.take 40);have h3:=yZ qD l 40;omega
theorem len_of(l:List Rw):((l.take 40).map tY).length≤40:=by rw[List.length_map,List.length_take];omega
theorem RN(xs:List Rw)(h:zZ xs=true)(ha:∀x∈xs,x.f4.length≤6):FJ xs:=by
 unfold zZ at h;simp only[Bool.and_eq_true]at h;exact Ct xs ha h.1.1.2
theorem writeBack(l:List Rw)(h:(l.map qD).sum≤1048576):jg.f 1000000000 l=some true:=by
 have hl:=QD l;have hz:=size_of l (by omega);have hx:=szr_of l (by omega);have hss:=sums_of l (by omega);have hlen:=len_of l;unfold jg.f;rw[bound_f l (by omega) _ (by omega),Option.bind_some];generalize (l.take 40).map tY=xs at *;rw[legal_f xs 2000000 (by omega) (by omega) hx (by omega) 1000000000 (by omega),Option.bind_some];have hfx:bS.f=some true:=rfl;cases hL:zZ xs with
 |false=>rw[if_neg (by decide),hfx];rfl
 |true=>
  rw[if_pos rfl];have hp:=RN xs hL (fun x hm=>(hx x hm).few);unfold gU.f;rw[RH xs hz hp (-1) (.inl rfl),Option.bind_some,Option.bind_some];have hraw:C8 xs (-1)=false:=rfl;rw[hraw]
  by_cases hbig:(((⟨((jf xs (-1)).flatMap (nL xs xs.length false)).toArray⟩:Bt).size:Nat):Int)>65536
  ·rw[if_pos hbig,hfx];rfl
  ·rw[if_neg hbig,NI xs 2000000 (by omega) hx (by omega) hL _ rfl (by omega),Option.bind_some,if_pos rfl]
   unfold fG.f;rw[decide_eq_true rfl,Option.bind_some,if_pos rfl,hfx];rfl
end Go.Proofs.aj.W7
namespace Go.Proofs.YtkcmghlhpbepcaaGreatDoor
open Go.RowKit Go.Proofs Go.Proofs.aj Go.Proofs.aj.W7 Go.Proofs.ah.aD
theorem KF(A:Option Addr)(c:Nat)(l:List S34){W:World}(hr:k34.C W A l.length l)(hc:l.length≤c)(wf:∀x∈l,wf34 x)
 (hb:(l.map qD).sum≤1048576) (hS:Std W):
 Calls Tryz.prog 12 #[.slice A l.length c] W fun e w'=>e=.returned (.bool true)∧Below W.heap.size W w':=
 jg.calls 1000000000 A c l true W hr hc (writeBack l hb) hS
end Go.Proofs.YtkcmghlhpbepcaaGreatDoor
namespace Go.Proofs.YtkcmghlhpbepcaaGreatDoor
open Go.ChangeShapes Go.WideShapes Go.ChangeAt Go.RowKit
theorem own:ownKnob Tryz.prog.godebug=none:=by kernel_rfl
theorem gER:Tryz.prog.globalNamed "strconv.ErrRange" =some 4:=by kernel_rfl
theorem gERType:(Tryz.prog.globals[4]?).map (·.type)=some 109:=by kernel_rfl
theorem cellsES:Tryz.prog.cellsOf 199=1:=by kernel_rfl
theorem cellsStr:Tryz.prog.cellsOf 9=1:=by kernel_rfl
theorem starES: "*" ++ "errors.errorString" = "*errors.errorString" :=by decide
theorem rowES(u:TypeId)(h:Tryz.prog.typeName? 3 u=some "*errors.errorString"):u=197:=
 typeName_ptr_named (nm:= "errors.errorString") (by rw[starES];kernel_rfl) (by kernel_rfl) (by decide) u (by rw[starES];exact h)
def QM:DataW Unit→Value
 | .lit (.int k n)=>.int k n
 |_=>.bool false
def litCells:DataW Unit→List Value
 | .agg l=>l.map QM
 |d=>[QM d]
def vC:DataW Unit→Array Value
 | .agg l=>(l.flatMap litCells).toArray
 |_=>#[]
abbrev synS:Bt:={data:=#[105,110,118,97,108,105,100,32,115,121,110,116,97,120] }
abbrev rngS:Bt:={data:=#[118,97,108,117,101,32,111,117,116,32,111,102,32,114,97,110,103,101] }
noncomputable def low:Nat:=(World.holding Tryz.prog default ⟨#[],#[],[]⟩).heap.size
noncomputable def Ck(os:Os):World:=
 let w0:=World.holding Tryz.prog os ⟨#[.cells #[.string synS] 199,.cells #[.string rngS] 199],#[],[]⟩
 let put (h:Array Obj) (g:Nat) (cs:Array Value):Array Obj:=h.modify g fun
  | .cells _ t frozen=>.cells cs t frozen
  |o=>o
 let h1:=put w0.heap 6 (vC Rows.laid_math_bits_deBruijn32tab)
 let h2:=put h1 7 (vC Rows.laid_math_bits_deBruijn64tab)
 let h3:=put h2 5 (vC Rows.laid_internal_strconv_uint64pow10)
 let h4:=put h3 1 (vC Rows.laid_unicode_utf8_acceptRanges)
 let h5:=put h4 3 #[.iface 197 (.pointer (some ⟨low,0,none⟩))]
 let h6:=put h5 4 #[.iface 197 (.pointer (some ⟨low+1,0,none⟩))]
 let h7:=put h6 0 (vC Rows.laid_unicode_utf8_first)
 {w0 with heap:=h7 }
def listed:List (String×DataW Unit):=[("math/bits.deBruijn32tab",Rows.laid_math_bits_deBruijn32tab),("math/bits.deBruijn64tab",Rows.laid_math_bits_deBruijn64tab),("internal/strconv.uint64pow10",Rows.laid_internal_strconv_uint64pow10),("unicode/utf8.acceptRanges",Rows.laid_unicode_utf8_acceptRanges),("strconv.ErrRange",Rows.laid_strconv_ErrRange),("strconv.ErrSyntax",Rows.laid_strconv_ErrSyntax),("unicode/utf8.first",Rows.laid_unicode_utf8_first)]
theorem acc_eq:(Rows.laid_unicode_utf8_acceptRanges:DataW Unit)=Lib.acceptData:=by kernel_rfl
theorem fst_eq:(Rows.laid_unicode_utf8_first:DataW Unit)=Lib.firstData:=by kernel_rfl
theorem laid_met(os:Os)(args:Array Value):laidMet Tryz.prog listed ((Ck os).forCall (fun _ _=>0) ⟨#[],args,[]⟩).memory:=
 (LaidIn.of_run [6,7,5,1,4,3,low,low+1,0] 8 (by kernel_rfl) (by kernel_rfl) (by kernel_rfl) (by kernel_rfl)).met
theorem std_of{W:World}(hL:laidMetH Tryz.prog listed W)(hsh:W.ShapedOpen Tryz.prog):Std W:=by
 have h0:laidMet Tryz.prog listed W:=hL;have h3:=h0.tail.tail.tail.tail;obtain⟨a1,s1,hv1,-,-,-⟩:=laid_sentinel h3 gER gERType Tryz.underlying109 rowES Tryz.underlying197 Tryz.underlying199 rfl rfl Tryz.underlying9 cellsES cellsStr;refine⟨Go.Proofs.cell_of_shapedOpen_int (zero:=#[.int .i64 0]) (t:=3) hsh (of_decide_eq_true (by kernel_rfl)) (by kernel_rfl) rfl (by kernel_rfl) (by kernel_rfl) Tryz.underlying3,⟨_,_,by have h0:=World.var?_cell gER hv1 0;simpa using h0⟩,?_⟩;have h4:laidMet Tryz.prog listed W:=hL;unfold listed at h4;rw[acc_eq,fst_eq]at h4;exact utf8Tabs_of_readsT (U8Types.of196 Fu) ⟨by kernel_rfl,by kernel_rfl,by kernel_rfl,by kernel_rfl,by kernel_rfl,by kernel_rfl,by kernel_rfl⟩ (Lib.laidMet.reads h4 (.tail _ (.tail _ (.tail _ (.tail _ (.tail _ (.tail _ (.head _)))))))) (Lib.laidMet.reads h4 (.tail _ (.tail _ (.tail _ (.head _)))))
end Go.Proofs.YtkcmghlhpbepcaaGreatDoor
