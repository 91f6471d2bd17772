/- Lemmas and walks, part 43. -/
import Derived.Test.YtkcmghlhpbepcaaGreatDoorWS42
set_option linter.unusedVariables false
set_option linter.unusedSimpArgs false
set_option maxHeartbeats 8000000
set_option maxRecDepth 100000
namespace Go.Proofs.aj.W7
open Go.RowKit Go.Proofs.ah.aD Go.Proofs.ah.bG Go.Proofs.ah.bR
attribute [local go_sem] dD dF dV dW bU bV dG dH
def kT.f(a0:Bt):Option (Bool):=(dK.f a0).bind fun t603=>(if t603=true then((strings_Contains.f a0 (⟨#[45,45,62]⟩:Bt)).bind fun t604=>(if t604=true then(some false)else((strings_Contains.f a0 (⟨#[45,45,33,62]⟩:Bt)).bind fun AV=>(if AV=true then(some false)else((strings_HasPrefix.f a0 (⟨#[62]⟩:Bt)).bind fun xE=>(if xE=true then(some false)else((strings_HasPrefix.f a0 (⟨#[45,62]⟩:Bt)).bind fun rV=>(some (!rV)))))))))else(some false))
theorem kT.calls(a0:Bt)(r:Bool)(w:World)(h:kT.f a0=some r)(hS_:Go.Proofs.YtkcmghlhpbepcaaGreatDoor.Std w):
 Calls Tryz.prog 48 #[.string a0] w fun e w'=>e=.returned (.bool r)∧Below w.heap.size w w':=by
 have HS_:=ak.mk hS_;clear hS_;have HB:=ak.mk (Below.refl w.heap.size w);have H:((dK.f a0).bind fun t603=>(if t603=true then((strings_Contains.f a0 (⟨#[45,45,62]⟩:Bt)).bind fun t604=>(if t604=true then(some false)else((strings_Contains.f a0 (⟨#[45,45,33,62]⟩:Bt)).bind fun AV=>(if AV=true then(some false)else((strings_HasPrefix.f a0 (⟨#[62]⟩:Bt)).bind fun xE=>(if xE=true then(some false)else((strings_HasPrefix.f a0 (⟨#[45,62]⟩:Bt)).bind fun rV=>(some (!rV)))))))))else(some false)))=some r:=h;clear h;replace H:=Option.bind_eq_some_iff.mp H;obtain⟨t603,A20,H⟩:=H;replace H:(if t603=true then((strings_Contains.f a0 (⟨#[45,45,62]⟩:Bt)).bind fun t604=>(if t604=true then(some false)else((strings_Contains.f a0 (⟨#[45,45,33,62]⟩:Bt)).bind fun AV=>(if AV=true then(some false)else((strings_HasPrefix.f a0 (⟨#[62]⟩:Bt)).bind fun xE=>(if xE=true then(some false)else((strings_HasPrefix.f a0 (⟨#[45,62]⟩:Bt)).bind fun rV=>(some (!rV)))))))))else(some false))=some r:=H;have A2:=ak.mk A20;clear A20
 by_cases c3:t603=true
 ·subst c3
  have H1:((strings_Contains.f a0 (⟨#[45,45,62]⟩:Bt)).bind fun t604=>(if t604=true then(some false)else((strings_Contains.f a0 (⟨#[45,45,33,62]⟩:Bt)).bind fun AV=>(if AV=true then(some false)else((strings_HasPrefix.f a0 (⟨#[62]⟩:Bt)).bind fun xE=>(if xE=true then(some false)else((strings_HasPrefix.f a0 (⟨#[45,62]⟩:Bt)).bind fun rV=>(some (!rV)))))))))=some r:=by rw[if_pos rfl]at H;exact H
  clear H;have H:=H1;clear H1;replace H:=Option.bind_eq_some_iff.mp H;obtain⟨t604,A40,H⟩:=H;replace H:(if t604=true then(some false)else((strings_Contains.f a0 (⟨#[45,45,33,62]⟩:Bt)).bind fun AV=>(if AV=true then(some false)else((strings_HasPrefix.f a0 (⟨#[62]⟩:Bt)).bind fun xE=>(if xE=true then(some false)else((strings_HasPrefix.f a0 (⟨#[45,62]⟩:Bt)).bind fun rV=>(some (!rV))))))))=some r:=H;have A4:=ak.mk A40;clear A40
  by_cases c5:t604=true
  ·subst c5
   have H1:(some false)=some r:=by rw[if_pos rfl]at H;exact H
   clear H;have H:=H1;clear H1;obtain rfl:=Option.some.inj H;go_enter Tryz.func48,Tryz.ntmps48
   go_wp2_with(first|((with_reducible refine aZ (f:=47) rfl ?_);refine dO (some 4) rfl rfl Tryz.func47 (by kernel_rfl) rfl #[.string a0] rfl q'a ?_;(with_reducible refine(dK.calls a0 true _ A2.out (Go.Proofs.YtkcmghlhpbepcaaGreatDoor.Std.below HS_.out bz)).mono ?_);rintro e w6 ⟨rfl,hb⟩;refine⟨_,rfl,?_⟩;replace HB:=ak.mk (aG bz hb);(try clear hb);(try clear hb2);(try clear hk);(try clear hi))|(go_at_call 93;(with_reducible refine(strings_Contains.calls a0 (⟨#[45,45,62]⟩:Bt) true _ A4.out (Go.Proofs.YtkcmghlhpbepcaaGreatDoor.Std.below HS_.out bz)).mono ?_);rintro e w7 ⟨rfl,hb⟩;replace HB:=ak.mk (aG bz hb);(try clear hb);(try clear hb2);(try clear hk);(try clear hi)))
   go_ret;exact⟨by first|rfl|(simp[aJ,aM]<;>rfl)|(simp[*,aJ,aM]<;>rfl),bz⟩
  ·replace c5:=Bool.eq_false_iff.mpr c5
   subst c5;have H1:((strings_Contains.f a0 (⟨#[45,45,33,62]⟩:Bt)).bind fun AV=>(if AV=true then(some false)else((strings_HasPrefix.f a0 (⟨#[62]⟩:Bt)).bind fun xE=>(if xE=true then(some false)else((strings_HasPrefix.f a0 (⟨#[45,62]⟩:Bt)).bind fun rV=>(some (!rV)))))))=some r:=by rw[if_neg (show¬(false=true) by decide)]at H;first|exact H|(simp only[eq_self]at H⊢;exact H)|(simp only[eq_self,if_true]at H⊢;exact H)
   clear H;have H:=H1;clear H1;replace H:=Option.bind_eq_some_iff.mp H;obtain⟨AV,A80,H⟩:=H;replace H:(if AV=true then(some false)else((strings_HasPrefix.f a0 (⟨#[62]⟩:Bt)).bind fun xE=>(if xE=true then(some false)else((strings_HasPrefix.f a0 (⟨#[45,62]⟩:Bt)).bind fun rV=>(some (!rV))))))=some r:=H;have A8:=ak.mk A80;clear A80
   by_cases c9:AV=true
   ·subst c9
    have H1:(some false)=some r:=by rw[if_pos rfl]at H;exact H
    clear H;have H:=H1;clear H1;obtain rfl:=Option.some.inj H;go_enter Tryz.func48,Tryz.ntmps48
    go_wp2_with(first|((with_reducible refine aZ (f:=47) rfl ?_);refine dO (some 4) rfl rfl Tryz.func47 (by kernel_rfl) rfl #[.string a0] rfl q'a ?_;(with_reducible refine(dK.calls a0 true _ A2.out (Go.Proofs.YtkcmghlhpbepcaaGreatDoor.Std.below HS_.out bz)).mono ?_);rintro e w10 ⟨rfl,hb⟩;refine⟨_,rfl,?_⟩;replace HB:=ak.mk (aG bz hb);(try clear hb);(try clear hb2);(try clear hk);(try clear hi))|(go_at_call 93;(with_reducible refine(strings_Contains.calls a0 (⟨#[45,45,62]⟩:Bt) false _ A4.out (Go.Proofs.YtkcmghlhpbepcaaGreatDoor.Std.below HS_.out bz)).mono ?_);rintro e w11 ⟨rfl,hb⟩;replace HB:=ak.mk (aG bz hb);(try clear hb);(try clear hb2);(try clear hk);(try clear hi))|(go_at_call 93;(with_reducible refine(strings_Contains.calls a0 (⟨#[45,45,33,62]⟩:Bt) true _ A8.out (Go.Proofs.YtkcmghlhpbepcaaGreatDoor.Std.below HS_.out bz)).mono ?_);rintro e w12 ⟨rfl,hb⟩;replace HB:=ak.mk (aG bz hb);(try clear hb);(try clear hb2);(try clear hk);(try clear hi)))
    go_ret;exact⟨by first|rfl|(simp[aJ,aM]<;>rfl)|(simp[*,aJ,aM]<;>rfl),bz⟩
   ·replace c9:=Bool.eq_false_iff.mpr c9
    subst c9;have H1:((strings_HasPrefix.f a0 (⟨#[62]⟩:Bt)).bind fun xE=>(if xE=true then(some false)else((strings_HasPrefix.f a0 (⟨#[45,62]⟩:Bt)).bind fun rV=>(some (!rV)))))=some r:=by rw[if_neg (show¬(false=true) by decide)]at H;first|exact H|(simp only[eq_self]at H⊢;exact H)|(simp only[eq_self,if_true]at H⊢;exact H)
    clear H;have H:=H1;clear H1;replace H:=Option.bind_eq_some_iff.mp H;obtain⟨xE,A130,H⟩:=H;replace H:(if xE=true then(some false)else((strings_HasPrefix.f a0 (⟨#[45,62]⟩:Bt)).bind fun rV=>(some (!rV))))=some r:=H;have A13:=ak.mk A130;clear A130
    by_cases c14:xE=true
    ·subst c14
     have H1:(some false)=some r:=by rw[if_pos rfl]at H;exact H
     clear H;have H:=H1;clear H1;obtain rfl:=Option.some.inj H;go_enter Tryz.func48,Tryz.ntmps48
     go_wp2_with(first|((with_reducible refine aZ (f:=47) rfl ?_);refine dO (some 4) rfl rfl Tryz.func47 (by kernel_rfl) rfl #[.string a0] rfl q'a ?_;(with_reducible refine(dK.calls a0 true _ A2.out (Go.Proofs.YtkcmghlhpbepcaaGreatDoor.Std.below HS_.out bz)).mono ?_);rintro e w15 ⟨rfl,hb⟩;refine⟨_,rfl,?_⟩;replace HB:=ak.mk (aG bz hb);(try clear hb);(try clear hb2);(try clear hk);(try clear hi))|(go_at_call 93;(with_reducible refine(strings_Contains.calls a0 (⟨#[45,45,62]⟩:Bt) false _ A4.out (Go.Proofs.YtkcmghlhpbepcaaGreatDoor.Std.below HS_.out bz)).mono ?_);rintro e w16 ⟨rfl,hb⟩;replace HB:=ak.mk (aG bz hb);(try clear hb);(try clear hb2);(try clear hk);(try clear hi))|(go_at_call 93;(with_reducible refine(strings_Contains.calls a0 (⟨#[45,45,33,62]⟩:Bt) false _ A8.out (Go.Proofs.YtkcmghlhpbepcaaGreatDoor.Std.below HS_.out bz)).mono ?_);rintro e w17 ⟨rfl,hb⟩;replace HB:=ak.mk (aG bz hb);(try clear hb);(try clear hb2);(try clear hk);(try clear hi))|(go_at_call 94;(with_reducible refine(strings_HasPrefix.calls a0 (⟨#[62]⟩:Bt) true _ A13.out).mono ?_);rintro e w18 ⟨rfl,hb⟩;replace HB:=ak.mk (aG bz hb);(try clear hb);(try clear hb2);(try clear hk);(try clear hi)))
     go_ret;exact⟨by first|rfl|(simp[aJ,aM]<;>rfl)|(simp[*,aJ,aM]<;>rfl),bz⟩
    ·replace c14:=Bool.eq_false_iff.mpr c14
     subst c14;have H1:((strings_HasPrefix.f a0 (⟨#[45,62]⟩:Bt)).bind fun rV=>(some (!rV)))=some r:=by rw[if_neg (show¬(false=true) by decide)]at H;first|exact H|(simp only[eq_self]at H⊢;exact H)|(simp only[eq_self,if_true]at H⊢;exact H)
     clear H;have H:=H1;clear H1;replace H:=Option.bind_eq_some_iff.mp H;obtain⟨rV,A190,H⟩:=H;replace H:(some (!rV))=some r:=H;have A19:=ak.mk A190;clear A190;obtain rfl:=Option.some.inj H;go_enter Tryz.func48,Tryz.ntmps48
     go_wp2_with(first|((with_reducible refine aZ (f:=47) rfl ?_);refine dO (some 4) rfl rfl Tryz.func47 (by kernel_rfl) rfl #[.string a0] rfl q'a ?_;(with_reducible refine(dK.calls a0 true _ A2.out (Go.Proofs.YtkcmghlhpbepcaaGreatDoor.Std.below HS_.out bz)).mono ?_);rintro e w20 ⟨rfl,hb⟩;refine⟨_,rfl,?_⟩;replace HB:=ak.mk (aG bz hb);(try clear hb);(try clear hb2);(try clear hk);(try clear hi))|(go_at_call 93;(with_reducible refine(strings_Contains.calls a0 (⟨#[45,45,62]⟩:Bt) false _ A4.out (Go.Proofs.YtkcmghlhpbepcaaGreatDoor.Std.below HS_.out bz)).mono ?_);rintro e w21 ⟨rfl,hb⟩;replace HB:=ak.mk (aG bz hb);(try clear hb);(try clear hb2);(try clear hk);(try clear hi))|(go_at_call 93;(with_reducible refine(strings_Contains.calls a0 (⟨#[45,45,33,62]⟩:Bt) false _ A8.out (Go.Proofs.YtkcmghlhpbepcaaGreatDoor.Std.below HS_.out bz)).mono ?_);rintro e w22 ⟨rfl,hb⟩;replace HB:=ak.mk (aG bz hb);(try clear hb);(try clear hb2);(try clear hk);(try clear hi))|(go_at_call 94;(with_reducible refine(strings_HasPrefix.calls a0 (⟨#[62]⟩:Bt) false _ A13.out).mono ?_);rintro e w23 ⟨rfl,hb⟩;replace HB:=ak.mk (aG bz hb);(try clear hb);(try clear hb2);(try clear hk);(try clear hi))|(go_at_call 94;(with_reducible refine(strings_HasPrefix.calls a0 (⟨#[45,62]⟩:Bt) rV _ A19.out).mono ?_);rintro e w24 ⟨rfl,hb⟩;replace HB:=ak.mk (aG bz hb);(try clear hb);(try clear hb2);(try clear hk);(try clear hi)))
     go_ret;exact⟨by first|rfl|(simp[aJ,aM]<;>rfl)|(simp[*,aJ,aM]<;>rfl),bz⟩
 ·replace c3:=Bool.eq_false_iff.mpr c3
  subst c3;have H1:(some false)=some r:=by rw[if_neg (show¬(false=true) by decide)]at H;first|exact H|(simp only[eq_self]at H⊢;exact H)|(simp only[eq_self,if_true]at H⊢;exact H)
  clear H;have H:=H1;clear H1;obtain rfl:=Option.some.inj H;go_enter Tryz.func48,Tryz.ntmps48
  go_wp2_with(first|((with_reducible refine aZ (f:=47) rfl ?_);refine dO (some 4) rfl rfl Tryz.func47 (by kernel_rfl) rfl #[.string a0] rfl q'a ?_;(with_reducible refine(dK.calls a0 false _ A2.out (Go.Proofs.YtkcmghlhpbepcaaGreatDoor.Std.below HS_.out bz)).mono ?_);rintro e w25 ⟨rfl,hb⟩;refine⟨_,rfl,?_⟩;replace HB:=ak.mk (aG bz hb);(try clear hb);(try clear hb2);(try clear hk);(try clear hi)))
  go_ret;exact⟨by first|rfl|(simp[aJ,aM]<;>rfl)|(simp[*,aJ,aM]<;>rfl),bz⟩
def jc.f(a0:Int):Option (Bool):=if a0=32 then(some true)else(if a0=9 then(some true)else(if a0=10 then(some true)else(if a0=12 then(some true)else(some (a0==13)))))
theorem jc.calls(a0:Int)(r:Bool)(w:World)(h:jc.f a0=some r):
 Calls Tryz.prog 128 #[.int .u8 a0] w fun e w'=>e=.returned (.bool r)∧bK w w':=by
 have H:(if a0=32 then(some true)else(if a0=9 then(some true)else(if a0=10 then(some true)else(if a0=12 then(some true)else(some (a0==13))))))=some r:=h;clear h
 by_cases c2:a0=32
 ·rw[if_pos c2]at H
  have Dz:(a0==32)=true:=beq_iff_eq.mpr c2;have c2b1:(a0 !=32)=false:=bne_eq_false_iff_eq.mpr c2;clear c2;obtain rfl:=Option.some.inj H;go_enter Tryz.func128,Tryz.ntmps128;go_wp2;go_ret;exact⟨q'c,by repeat(first|exact bK.refl _|apply bK.step)⟩
 ·rw[if_neg c2]at H
  have Dz:(a0==32)=false:=beq_eq_false_iff_ne.mpr c2;have c2b1:(a0 !=32)=true:=bne_iff_ne.mpr c2
  by_cases c3:a0=9
  ·rw[if_pos c3]at H
   have nD:(a0==9)=true:=beq_iff_eq.mpr c3;have ze:(a0 !=9)=false:=bne_eq_false_iff_eq.mpr c3;clear c3;obtain rfl:=Option.some.inj H;go_enter Tryz.func128,Tryz.ntmps128;go_wp2;go_ret;exact⟨q'c,by repeat(first|exact bK.refl _|apply bK.step)⟩
  ·rw[if_neg c3]at H
   have nD:(a0==9)=false:=beq_eq_false_iff_ne.mpr c3;have ze:(a0 !=9)=true:=bne_iff_ne.mpr c3
   by_cases c4:a0=10
   ·rw[if_pos c4]at H
    have nN:(a0==10)=true:=beq_iff_eq.mpr c4;have zJ:(a0 !=10)=false:=bne_eq_false_iff_eq.mpr c4;clear c4;obtain rfl:=Option.some.inj H;go_enter Tryz.func128,Tryz.ntmps128;go_wp2;go_ret;exact⟨q'c,by repeat(first|exact bK.refl _|apply bK.step)⟩
   ·rw[if_neg c4]at H
    have nN:(a0==10)=false:=beq_eq_false_iff_ne.mpr c4;have zJ:(a0 !=10)=true:=bne_iff_ne.mpr c4
    by_cases c5:a0=12
    ·rw[if_pos c5]at H
     have xD:(a0==12)=true:=beq_iff_eq.mpr c5;have c5b1:(a0 !=12)=false:=bne_eq_false_iff_eq.mpr c5;clear c5;obtain rfl:=Option.some.inj H;go_enter Tryz.func128,Tryz.ntmps128;go_wp2;go_ret;exact⟨q'c,by repeat(first|exact bK.refl _|apply bK.step)⟩
    ·rw[if_neg c5]at H
     have xD:(a0==12)=false:=beq_eq_false_iff_ne.mpr c5;have c5b1:(a0 !=12)=true:=bne_iff_ne.mpr c5;obtain rfl:=Option.some.inj H;go_enter Tryz.func128,Tryz.ntmps128;go_wp2;go_ret;exact⟨q'c,by repeat(first|exact bK.refl _|apply bK.step)⟩
mutual
def cZ.l0:Nat→Bt→Bt→Int→Int→Option (Bool)
 |0,_,_,_,_=>none
 |k+1,x0,x1,x8,x9=>if x9<x8 then(if 0≤x9 then(if x9<(x0.size:Int)then((jc.f (bt x0 x9)).bind fun t366=>(if t366=true then(cZ.j1 k x0 x1 x9 x8 x9 true)else(if(bt x0 x9)≥65 then(if(bt x0 x9)≤90 then(cZ.j1 k x0 x1 x9 x8 x9 true)else(cZ.j1 k x0 x1 x9 x8 x9 ((bt x0 x9)==0)))else(cZ.j1 k x0 x1 x9 x8 x9 ((bt x0 x9)==0)))))else(none))else(none))else(some (x0.toList !=([] :List UInt8)))
def cZ.j1:Nat→Bt→Bt→Int→Int→Int→Bool→Option (Bool)
 |0,_,_,_,_,_,_=>none
 |k+1,x0,x1,x5,x8,x9,x33=>if x33=true then(some false)else(cZ.l1 k x0 x1 x5 x8 x9 (x1.size:Int) 0)
def cZ.l1:Nat→Bt→Bt→Int→Int→Int→Int→Int→Option (Bool)
 |0,_,_,_,_,_,_,_=>none
 |k+1,x0,x1,x5,x8,x9,x35,x36=>if x36<x35 then(if 0≤x5 then(if x5<(x0.size:Int)then(if 0≤x36 then(if x36<(x1.size:Int)then(if(bt x0 x5)=(bt x1 x36)then(some false)else(cZ.l1 k x0 x1 x5 x8 x9 x35 (wrap64 (x36+1))))else(none))else(none))else(none))else(none))else(cZ.l0 k x0 x1 x8 (wrap64 (x9+1)))
end
def cZ.f(k:Nat)(a0 a1:Bt):Option (Bool):=cZ.l0 k a0 a1 (a0.size:Int) 0
theorem cZ.calls(k:Nat)(a0 a1:Bt)(r:Bool)(w:World)(h:cZ.f k a0 a1=some r):
 Calls Tryz.prog 79 #[.string a0,.string a1] w fun e w'=>e=.returned (.bool r)∧bK w w':=by
 have H:(cZ.l0 k a0 a1 (a0.size:Int) 0)=some r:=h;clear h;have H':=ak.mk H;clear H;go_enter Tryz.func79,Tryz.ntmps79;go_wp2
 repeat(go_quiet (fail);try go_wp2)
 go_loopg [9] k (fun kq v9 w'=>∃(dn:Int),v9=.int .i64 dn∧ak (cZ.l0 kq a0 a1 (a0.size:Int) dn=some r)∧ak (kq≤k)∧bK w w')
 case atStart=>exact⟨(0),q'c,H',⟨Nat.le_refl _⟩,by repeat(first|exact bK.refl _|apply bK.step)⟩
 case round=>
  clear H'
  try clear p2
  obtain⟨dn,rfl,HA,HK1,⟨m1,rfl⟩⟩:=hrel;cases gk with
  |zero=>exact absurd HA.out (by simp[cZ.l0])
  |succ k1=>
   have H:=HA.out;clear HA;simp only[cZ.l0]at H
   by_cases c3:dn<(a0.size:Int)
   ·rw[if_pos c3]at H
    have nD:decide (dn<(a0.size:Int))=true:=decide_eq_true c3;clear c3;have HC4:=ak.mk H;clear H
    go_upto_region 4 with(fail)
    repeat(go_quiet (fail);go_upto_region 4 with(fail))
    go_cut [33] (fun v33 wc=>∃(kq:Nat) (x33_3:Bool),v33=.bool x33_3∧ak (cZ.j1 kq a0 a1 dn (a0.size:Int) dn x33_3=some r)∧ak (kq≤k1)∧bK w wc)
    case first=>
     have H:=HC4.out;clear HC4
     by_cases c5:0≤dn
     ·rw[if_pos c5]at H
      have xD:decide (0≤dn)=true:=decide_eq_true c5;clear c5
      (first|rw[xD] |(simp only[oO,oP];rw[xD])|skip)
      by_cases c6:dn<(a0.size:Int)
      ·rw[if_pos c6]at H
       have AA:decide (dn<(a0.size:Int))=true:=decide_eq_true c6;clear c6;replace H:=Option.bind_eq_some_iff.mp H;obtain⟨t366,A80,H⟩:=H;replace H:(if t366=true then(cZ.j1 k1 a0 a1 dn (a0.size:Int) dn true)else(if(bt a0 dn)≥65 then(if(bt a0 dn)≤90 then(cZ.j1 k1 a0 a1 dn (a0.size:Int) dn true)else(cZ.j1 k1 a0 a1 dn (a0.size:Int) dn ((bt a0 dn)==0)))else(cZ.j1 k1 a0 a1 dn (a0.size:Int) dn ((bt a0 dn)==0))))=some r:=H;have A8:=ak.mk A80;clear A80
       by_cases c9:t366=true
       ·subst c9
        have H1:(cZ.j1 k1 a0 a1 dn (a0.size:Int) dn true)=some r:=by rw[if_pos rfl]at H;exact H
        clear H;have H:=H1;clear H1;have H':=ak.mk H;clear H;have p7:0≤(dn:Int):=q'b;have q7:dn<(a0.size:Int):=q'b;have hx7:=kE a0 dn;replace p7:=eq_true p7;replace q7:=eq_true q7
        go_wp2_with(first|(go_at_call 128;(with_reducible refine(jc.calls (bt a0 dn) true _ A8.out).mono ?_);rintro e w' ⟨rfl,⟨nd,rfl⟩⟩;(try first|exact⟨rfl,_,World.drewN_drewN _ _ _⟩|exact⟨rfl,_,Eq.trans (World.drewN_drewN _ _ _) (congrArg (World.drewN _) (Nat.add_assoc _ _ _))⟩)))
        repeat(go_quiet (first|(go_at_call 128;(with_reducible refine(jc.calls (bt a0 dn) true _ A8.out).mono ?_);rintro e w' ⟨rfl,⟨nd,rfl⟩⟩;(try first|exact⟨rfl,_,World.drewN_drewN _ _ _⟩|exact⟨rfl,_,Eq.trans (World.drewN_drewN _ _ _) (congrArg (World.drewN _) (Nat.add_assoc _ _ _))⟩)));try go_wp2_with(first|(go_at_call 128;(with_reducible refine(jc.calls (bt a0 dn) true _ A8.out).mono ?_);rintro e w' ⟨rfl,⟨nd,rfl⟩⟩;(try first|exact⟨rfl,_,World.drewN_drewN _ _ _⟩|exact⟨rfl,_,Eq.trans (World.drewN_drewN _ _ _) (congrArg (World.drewN _) (Nat.add_assoc _ _ _))⟩))))
        go_meet
        case rel=>exact⟨_,(true),q'c,H',⟨by have:=HK1.out;first|omega|exact Nat.le_refl _⟩,by repeat(first|exact bK.refl _|apply bK.step)⟩
       ·replace c9:=Bool.eq_false_iff.mpr c9
        subst c9;have H1:(if(bt a0 dn)≥65 then(if(bt a0 dn)≤90 then(cZ.j1 k1 a0 a1 dn (a0.size:Int) dn true)else(cZ.j1 k1 a0 a1 dn (a0.size:Int) dn ((bt a0 dn)==0)))else(cZ.j1 k1 a0 a1 dn (a0.size:Int) dn ((bt a0 dn)==0)))=some r:=by rw[if_neg (show¬(false=true) by decide)]at H;first|exact H|(simp only[eq_self]at H⊢;exact H)|(simp only[eq_self,if_true]at H⊢;exact H)
        clear H;have H:=H1;clear H1
        by_cases c11:(bt a0 dn)≥65
        ·rw[if_pos c11]at H
         have c11b0:decide (65≤(bt a0 dn))=true:=decide_eq_true c11;clear c11
         by_cases c13:(bt a0 dn)≤90
         ·rw[if_pos c13]at H
          have uh:decide ((bt a0 dn)≤90)=true:=decide_eq_true c13;clear c13;have H':=ak.mk H;clear H;have p7:0≤(dn:Int):=q'b;have q7:dn<(a0.size:Int):=q'b;have hx7:=kE a0 dn;replace p7:=eq_true p7;replace q7:=eq_true q7
          go_wp2_with(first|(go_at_call 128;(with_reducible refine(jc.calls (bt a0 dn) false _ A8.out).mono ?_);rintro e w' ⟨rfl,⟨nd,rfl⟩⟩;(try first|exact⟨rfl,_,World.drewN_drewN _ _ _⟩|exact⟨rfl,_,Eq.trans (World.drewN_drewN _ _ _) (congrArg (World.drewN _) (Nat.add_assoc _ _ _))⟩);have p10:0≤(dn:Int):=q'b;have q10:dn<(a0.size:Int):=q'b;have hx10:=kE a0 dn;replace p10:=eq_true p10;replace q10:=eq_true q10;have p12:0≤(dn:Int):=q'b;have q12:dn<(a0.size:Int):=q'b;have hx12:=kE a0 dn;replace p12:=eq_true p12;replace q12:=eq_true q12))
          repeat(go_quiet (first|(go_at_call 128;(with_reducible refine(jc.calls (bt a0 dn) false _ A8.out).mono ?_);rintro e w' ⟨rfl,⟨nd,rfl⟩⟩;(try first|exact⟨rfl,_,World.drewN_drewN _ _ _⟩|exact⟨rfl,_,Eq.trans (World.drewN_drewN _ _ _) (congrArg (World.drewN _) (Nat.add_assoc _ _ _))⟩);have p10:0≤(dn:Int):=q'b;have q10:dn<(a0.size:Int):=q'b;have hx10:=kE a0 dn;replace p10:=eq_true p10;replace q10:=eq_true q10;have p12:0≤(dn:Int):=q'b;have q12:dn<(a0.size:Int):=q'b;have hx12:=kE a0 dn;replace p12:=eq_true p12;replace q12:=eq_true q12));try go_wp2_with(first|(go_at_call 128;(with_reducible refine(jc.calls (bt a0 dn) false _ A8.out).mono ?_);rintro e w' ⟨rfl,⟨nd,rfl⟩⟩;(try first|exact⟨rfl,_,World.drewN_drewN _ _ _⟩|exact⟨rfl,_,Eq.trans (World.drewN_drewN _ _ _) (congrArg (World.drewN _) (Nat.add_assoc _ _ _))⟩);have p10:0≤(dn:Int):=q'b;have q10:dn<(a0.size:Int):=q'b;have hx10:=kE a0 dn;replace p10:=eq_true p10;replace q10:=eq_true q10;have p12:0≤(dn:Int):=q'b;have q12:dn<(a0.size:Int):=q'b;have hx12:=kE a0 dn;replace p12:=eq_true p12;replace q12:=eq_true q12)))
          go_meet
          case rel=>exact⟨_,(true),q'c,H',⟨by have:=HK1.out;first|omega|exact Nat.le_refl _⟩,by repeat(first|exact bK.refl _|apply bK.step)⟩
         ·rw[if_neg c13]at H
          have uh:decide ((bt a0 dn)≤90)=false:=decide_eq_false c13;clear c13;have H':=ak.mk H;clear H;have p7:0≤(dn:Int):=q'b;have q7:dn<(a0.size:Int):=q'b;have hx7:=kE a0 dn;replace p7:=eq_true p7;replace q7:=eq_true q7
          go_wp2_with(first|(go_at_call 128;(with_reducible refine(jc.calls (bt a0 dn) false _ A8.out).mono ?_);rintro e w' ⟨rfl,⟨nd,rfl⟩⟩;(try first|exact⟨rfl,_,World.drewN_drewN _ _ _⟩|exact⟨rfl,_,Eq.trans (World.drewN_drewN _ _ _) (congrArg (World.drewN _) (Nat.add_assoc _ _ _))⟩);have p10:0≤(dn:Int):=q'b;have q10:dn<(a0.size:Int):=q'b;have hx10:=kE a0 dn;replace p10:=eq_true p10;replace q10:=eq_true q10;have p12:0≤(dn:Int):=q'b;have q12:dn<(a0.size:Int):=q'b;have hx12:=kE a0 dn;replace p12:=eq_true p12;replace q12:=eq_true q12;have p14:0≤(dn:Int):=q'b;have q14:dn<(a0.size:Int):=q'b;have hx14:=kE a0 dn;replace p14:=eq_true p14;replace q14:=eq_true q14))
          repeat(go_quiet (first|(go_at_call 128;(with_reducible refine(jc.calls (bt a0 dn) false _ A8.out).mono ?_);rintro e w' ⟨rfl,⟨nd,rfl⟩⟩;(try first|exact⟨rfl,_,World.drewN_drewN _ _ _⟩|exact⟨rfl,_,Eq.trans (World.drewN_drewN _ _ _) (congrArg (World.drewN _) (Nat.add_assoc _ _ _))⟩);have p10:0≤(dn:Int):=q'b;have q10:dn<(a0.size:Int):=q'b;have hx10:=kE a0 dn;replace p10:=eq_true p10;replace q10:=eq_true q10;have p12:0≤(dn:Int):=q'b;have q12:dn<(a0.size:Int):=q'b;have hx12:=kE a0 dn;replace p12:=eq_true p12;replace q12:=eq_true q12;have p14:0≤(dn:Int):=q'b;have q14:dn<(a0.size:Int):=q'b;have hx14:=kE a0 dn;replace p14:=eq_true p14;replace q14:=eq_true q14));try go_wp2_with(first|(go_at_call 128;(with_reducible refine(jc.calls (bt a0 dn) false _ A8.out).mono ?_);rintro e w' ⟨rfl,⟨nd,rfl⟩⟩;(try first|exact⟨rfl,_,World.drewN_drewN _ _ _⟩|exact⟨rfl,_,Eq.trans (World.drewN_drewN _ _ _) (congrArg (World.drewN _) (Nat.add_assoc _ _ _))⟩);have p10:0≤(dn:Int):=q'b;have q10:dn<(a0.size:Int):=q'b;have hx10:=kE a0 dn;replace p10:=eq_true p10;replace q10:=eq_true q10;have p12:0≤(dn:Int):=q'b;have q12:dn<(a0.size:Int):=q'b;have hx12:=kE a0 dn;replace p12:=eq_true p12;replace q12:=eq_true q12;have p14:0≤(dn:Int):=q'b;have q14:dn<(a0.size:Int):=q'b;have hx14:=kE a0 dn;replace p14:=eq_true p14;replace q14:=eq_true q14)))
          go_meet
          case rel=>exact⟨_,(((bt a0 dn)==0)),q'c,H',⟨by have:=HK1.out;first|omega|exact Nat.le_refl _⟩,by repeat(first|exact bK.refl _|apply bK.step)⟩
        ·rw[if_neg c11]at H
         have c11b0:decide (65≤(bt a0 dn))=false:=decide_eq_false c11;clear c11;have H':=ak.mk H;clear H;have p7:0≤(dn:Int):=q'b;have q7:dn<(a0.size:Int):=q'b;have hx7:=kE a0 dn;replace p7:=eq_true p7;replace q7:=eq_true q7
         go_wp2_with(first|(go_at_call 128;(with_reducible refine(jc.calls (bt a0 dn) false _ A8.out).mono ?_);rintro e w' ⟨rfl,⟨nd,rfl⟩⟩;(try first|exact⟨rfl,_,World.drewN_drewN _ _ _⟩|exact⟨rfl,_,Eq.trans (World.drewN_drewN _ _ _) (congrArg (World.drewN _) (Nat.add_assoc _ _ _))⟩);have p10:0≤(dn:Int):=q'b;have q10:dn<(a0.size:Int):=q'b;have hx10:=kE a0 dn;replace p10:=eq_true p10;replace q10:=eq_true q10;have p15:0≤(dn:Int):=q'b;have q15:dn<(a0.size:Int):=q'b;have hx15:=kE a0 dn;replace p15:=eq_true p15;replace q15:=eq_true q15))
         repeat(go_quiet (first|(go_at_call 128;(with_reducible refine(jc.calls (bt a0 dn) false _ A8.out).mono ?_);rintro e w' ⟨rfl,⟨nd,rfl⟩⟩;(try first|exact⟨rfl,_,World.drewN_drewN _ _ _⟩|exact⟨rfl,_,Eq.trans (World.drewN_drewN _ _ _) (congrArg (World.drewN _) (Nat.add_assoc _ _ _))⟩);have p10:0≤(dn:Int):=q'b;have q10:dn<(a0.size:Int):=q'b;have hx10:=kE a0 dn;replace p10:=eq_true p10;replace q10:=eq_true q10;have p15:0≤(dn:Int):=q'b;have q15:dn<(a0.size:Int):=q'b;have hx15:=kE a0 dn;replace p15:=eq_true p15;replace q15:=eq_true q15));try go_wp2_with(first|(go_at_call 128;(with_reducible refine(jc.calls (bt a0 dn) false _ A8.out).mono ?_);rintro e w' ⟨rfl,⟨nd,rfl⟩⟩;(try first|exact⟨rfl,_,World.drewN_drewN _ _ _⟩|exact⟨rfl,_,Eq.trans (World.drewN_drewN _ _ _) (congrArg (World.drewN _) (Nat.add_assoc _ _ _))⟩);have p10:0≤(dn:Int):=q'b;have q10:dn<(a0.size:Int):=q'b;have hx10:=kE a0 dn;replace p10:=eq_true p10;replace q10:=eq_true q10;have p15:0≤(dn:Int):=q'b;have q15:dn<(a0.size:Int):=q'b;have hx15:=kE a0 dn;replace p15:=eq_true p15;replace q15:=eq_true q15)))
         go_meet
         case rel=>exact⟨_,(((bt a0 dn)==0)),q'c,H',⟨by have:=HK1.out;first|omega|exact Nat.le_refl _⟩,by repeat(first|exact bK.refl _|apply bK.step)⟩
      ·rw[if_neg c6]at H
       exact absurd H (by simp)
     ·rw[if_neg c5]at H
      exact absurd H (by simp)
    case rest=>
     clear HC4
     try clear c1
     try clear p1
     try clear q1
     try clear hx1
     try clear p2
     try clear c3
     try clear nD
     try clear c5
     try clear xD
     try clear c6
     try clear AA
     try clear c7
     try clear p7
     try clear q7
     try clear hx7
     try clear c9
     try clear p10
     try clear q10
     try clear hx10
     try clear c11
     try clear c11b0
     try clear p12
     try clear q12
     try clear hx12
     try clear c13
     try clear uh
     try clear p14
     try clear q14
     try clear hx14
     try clear p15
     try clear q15
     try clear hx15
     try clear p10
     try clear p12
     try clear p14
     try clear p15
     try clear p2
     try clear p7
     try clear q10
     try clear q12
     try clear q14
     try clear q15
     try clear q7
     obtain⟨kq,x33_3,rfl,HA,HJ3,⟨mc3,rfl⟩⟩:=hcut;cases kq with
     |zero=>exact absurd HA.out (by simp[cZ.j1])
     |succ kj3=>
      have H:=HA.out;clear HA;simp only[cZ.j1]at H
      by_cases c16:x33_3=true
      ·subst c16
       have H1:(some false)=some r:=by rw[if_pos rfl]at H;exact H
       clear H;have H:=H1;clear H1;obtain rfl:=Option.some.inj H;go_wp2
       repeat(go_quiet (fail);try go_wp2)
       go_ret;exact⟨q'c,by repeat(first|exact bK.refl _|apply bK.step)⟩
      ·replace c16:=Bool.eq_false_iff.mpr c16
       subst c16;have H1:(cZ.l1 kj3 a0 a1 dn (a0.size:Int) dn (a1.size:Int) 0)=some r:=by rw[if_neg (show¬(false=true) by decide)]at H;first|exact H|(simp only[eq_self]at H⊢;exact H)|(simp only[eq_self,if_true]at H⊢;exact H)
       clear H;have H:=H1;clear H1;have H':=ak.mk H;clear H;go_wp2
       repeat(go_quiet (fail);try go_wp2)
       go_loopg [36] kj3 (fun kq v36 w'=>∃(nJ:Int),v36=.int .i64 nJ∧ak (cZ.l1 kq a0 a1 dn (a0.size:Int) dn (a1.size:Int) nJ=some r)∧ak (kq≤kj3)∧bK w w')
       case atStart=>exact⟨(0),q'c,H',⟨Nat.le_refl _⟩,by repeat(first|exact bK.refl _|apply bK.step)⟩
       case round=>
        clear H'
        try clear c1
        try clear p1
        try clear q1
        try clear hx1
        try clear p2
        try clear c3
        try clear nD
        try clear c5
        try clear xD
        try clear c6
        try clear AA
        try clear c7
        try clear p7
        try clear q7
        try clear hx7
        try clear c9
        try clear p10
        try clear q10
        try clear hx10
        try clear c11
        try clear c11b0
        try clear p12
        try clear q12
        try clear hx12
        try clear c13
        try clear uh
        try clear p14
        try clear q14
        try clear hx14
        try clear p15
        try clear q15
        try clear hx15
        try clear c16
        try clear p1
        try clear p10
        try clear p12
        try clear p14
        try clear p15
        try clear p2
        try clear p7
        try clear q1
        try clear q10
        try clear q12
        try clear q14
        try clear q15
        try clear q7
        obtain⟨nJ,rfl,HA,HK3,⟨m3,rfl⟩⟩:=hrel;cases gk with
        |zero=>exact absurd HA.out (by simp[cZ.l1])
        |succ k3=>
         have H:=HA.out;clear HA;simp only[cZ.l1]at H
         by_cases c17:nJ<(a1.size:Int)
         ·rw[if_pos c17]at H
          have c17b0:decide (nJ<(a1.size:Int))=true:=decide_eq_true c17;clear c17
          by_cases c18:0≤dn
          ·rw[if_pos c18]at H
           have c18b0:decide (0≤dn)=true:=decide_eq_true c18;clear c18
           by_cases c19:dn<(a0.size:Int)
           ·rw[if_pos c19]at H
            have EN:decide (dn<(a0.size:Int))=true:=decide_eq_true c19;clear c19
            by_cases c21:0≤nJ
            ·rw[if_pos c21]at H
             have c21b0:decide (0≤nJ)=true:=decide_eq_true c21;clear c21
             by_cases c22:nJ<(a1.size:Int)
             ·rw[if_pos c22]at H
              have c22b0:decide (nJ<(a1.size:Int))=true:=decide_eq_true c22;clear c22
              by_cases c24:(bt a0 dn)=(bt a1 nJ)
              ·rw[if_pos c24]at H
               have c24b0:((bt a0 dn)==(bt a1 nJ))=true:=beq_iff_eq.mpr c24;have c24b1:((bt a0 dn) !=(bt a1 nJ))=false:=bne_eq_false_iff_eq.mpr c24;clear c24;obtain rfl:=Option.some.inj H;have p20:0≤(dn:Int):=q'b;have q20:dn<(a0.size:Int):=q'b;have hx20:=kE a0 dn;replace p20:=eq_true p20;replace q20:=eq_true q20;have p23:0≤(nJ:Int):=q'b;have q23:nJ<(a1.size:Int):=q'b;have hx23:=kE a1 nJ;replace p23:=eq_true p23;replace q23:=eq_true q23;go_wp2
               repeat(go_quiet (fail);try go_wp2)
               go_ret;exact⟨q'c,by repeat(first|exact bK.refl _|apply bK.step)⟩
              ·rw[if_neg c24]at H
               have c24b0:((bt a0 dn)==(bt a1 nJ))=false:=beq_eq_false_iff_ne.mpr c24;have c24b1:((bt a0 dn) !=(bt a1 nJ))=true:=bne_iff_ne.mpr c24;have H':=ak.mk H;clear H;have p20:0≤(dn:Int):=q'b;have q20:dn<(a0.size:Int):=q'b;have hx20:=kE a0 dn;replace p20:=eq_true p20;replace q20:=eq_true q20;have p23:0≤(nJ:Int):=q'b;have q23:nJ<(a1.size:Int):=q'b;have hx23:=kE a1 nJ;replace p23:=eq_true p23;replace q23:=eq_true q23;go_wp2
               repeat(go_quiet (fail);try go_wp2)
               go_roundg k3
               case measure=>have:=HK1.out;have:=HJ3.out;have:=HK3.out;omega
               case rel=>exact⟨(wrap64 (nJ+1)),q'c,H',⟨by have:=HK1.out;have:=HJ3.out;have:=HK3.out;omega⟩,by repeat(first|exact bK.refl _|apply bK.step)⟩
             ·rw[if_neg c22]at H
              exact absurd H (by simp)
            ·rw[if_neg c21]at H
             exact absurd H (by simp)
           ·rw[if_neg c19]at H
            exact absurd H (by simp)
          ·rw[if_neg c18]at H
           exact absurd H (by simp)
         ·rw[if_neg c17]at H
          have c17b0:decide (nJ<(a1.size:Int))=false:=decide_eq_false c17;clear c17;have H':=ak.mk H;clear H;go_wp2
          repeat(go_quiet (fail);try go_wp2)
          go_roundg k3
          case measure=>have:=HK1.out;have:=HJ3.out;have:=HK3.out;omega
          case rel=>exact⟨(wrap64 (dn+1)),q'c,H',⟨by have:=HK1.out;have:=HJ3.out;have:=HK3.out;omega⟩,by repeat(first|exact bK.refl _|apply bK.step)⟩
   ·rw[if_neg c3]at H
    have nD:decide (dn<(a0.size:Int))=false:=decide_eq_false c3;clear c3;obtain rfl:=Option.some.inj H;go_wp2
    repeat(go_quiet (fail);try go_wp2)
    go_ret;exact⟨q'c,by repeat(first|exact bK.refl _|apply bK.step)⟩
end Go.Proofs.aj.W7
