/- Lemmas and walks, part 44. -/
import Derived.Test.YtkcmghlhpbepcaaGreatDoorWS43
set_option linter.unusedVariables false
set_option linter.unusedSimpArgs false
set_option maxHeartbeats 8000000
set_option maxRecDepth 100000
namespace Go.Proofs.aj.W7
open Go.RowKit Go.Proofs.ah.aD Go.Proofs.ah.bG Go.Proofs.ah.bR
attribute [local go_sem] dD dF dV dW bU bV dG dH
def mZ.f(a0:Int):Option (Bool):=if a0≥97 then(if a0≤122 then(some true)else(if a0≥65 then(some (decide (a0≤90)))else(some false)))else(if a0≥65 then(some (decide (a0≤90)))else(some false))
theorem mZ.calls(a0:Int)(r:Bool)(w:World)(h:mZ.f a0=some r):
 Calls Tryz.prog 80 #[.int .u8 a0] w fun e w'=>e=.returned (.bool r)∧bK w w':=by
 have H:(if a0≥97 then(if a0≤122 then(some true)else(if a0≥65 then(some (decide (a0≤90)))else(some false)))else(if a0≥65 then(some (decide (a0≤90)))else(some false)))=some r:=h;clear h
 by_cases c2:a0≥97
 ·rw[if_pos c2]at H
  have Dz:decide (97≤a0)=true:=decide_eq_true c2;clear c2
  by_cases c3:a0≤122
  ·rw[if_pos c3]at H
   have nD:decide (a0≤122)=true:=decide_eq_true c3;clear c3;obtain rfl:=Option.some.inj H;go_enter Tryz.func80,Tryz.ntmps80;go_wp2;go_ret;exact⟨q'c,by repeat(first|exact bK.refl _|apply bK.step)⟩
  ·rw[if_neg c3]at H
   have nD:decide (a0≤122)=false:=decide_eq_false c3;clear c3
   by_cases c4:a0≥65
   ·rw[if_pos c4]at H
    have nN:decide (65≤a0)=true:=decide_eq_true c4;clear c4;obtain rfl:=Option.some.inj H;go_enter Tryz.func80,Tryz.ntmps80;go_wp2;go_ret;exact⟨q'c,by repeat(first|exact bK.refl _|apply bK.step)⟩
   ·rw[if_neg c4]at H
    have nN:decide (65≤a0)=false:=decide_eq_false c4;clear c4;obtain rfl:=Option.some.inj H;go_enter Tryz.func80,Tryz.ntmps80;go_wp2;go_ret;exact⟨q'c,by repeat(first|exact bK.refl _|apply bK.step)⟩
 ·rw[if_neg c2]at H
  have Dz:decide (97≤a0)=false:=decide_eq_false c2;clear c2
  by_cases c5:a0≥65
  ·rw[if_pos c5]at H
   have xD:decide (65≤a0)=true:=decide_eq_true c5;clear c5;obtain rfl:=Option.some.inj H;go_enter Tryz.func80,Tryz.ntmps80;go_wp2;go_ret;exact⟨q'c,by repeat(first|exact bK.refl _|apply bK.step)⟩
  ·rw[if_neg c5]at H
   have xD:decide (65≤a0)=false:=decide_eq_false c5;clear c5;obtain rfl:=Option.some.inj H;go_enter Tryz.func80,Tryz.ntmps80;go_wp2;go_ret;exact⟨q'c,by repeat(first|exact bK.refl _|apply bK.step)⟩
def lF.f(k:Nat)(a0:Bt):Option (Bool):=(cZ.f k a0 (⟨#[47,62]⟩:Bt)).bind fun t367=>(if t367=true then(if 0<(a0.size:Int)then((mZ.f (bt a0 0)).bind fun t368=>(some t368))else(none))else(some false))
theorem lF.calls(k:Nat)(a0:Bt)(r:Bool)(w:World)(h:lF.f k a0=some r):
 Calls Tryz.prog 30 #[.string a0] w fun e w'=>e=.returned (.bool r)∧bK w w':=by
 have H:((cZ.f k a0 (⟨#[47,62]⟩:Bt)).bind fun t367=>(if t367=true then(if 0<(a0.size:Int)then((mZ.f (bt a0 0)).bind fun t368=>(some t368))else(none))else(some false)))=some r:=h;clear h;replace H:=Option.bind_eq_some_iff.mp H;obtain⟨t367,A20,H⟩:=H;replace H:(if t367=true then(if 0<(a0.size:Int)then((mZ.f (bt a0 0)).bind fun t368=>(some t368))else(none))else(some false))=some r:=H;have A2:=ak.mk A20;clear A20
 by_cases c3:t367=true
 ·subst c3
  have H1:(if 0<(a0.size:Int)then((mZ.f (bt a0 0)).bind fun t368=>(some t368))else(none))=some r:=by rw[if_pos rfl]at H;exact H
  clear H;have H:=H1;clear H1
  by_cases c4:0<(a0.size:Int)
  ·rw[if_pos c4]at H
   have nN:decide (0<(a0.size:Int))=true:=decide_eq_true c4;have zJ:decide (0<a0.size)=true:=decide_eq_true (by omega);clear c4;replace H:=Option.bind_eq_some_iff.mp H;obtain⟨t368,A60,H⟩:=H;replace H:(some t368)=some r:=H;have A6:=ak.mk A60;clear A60;obtain rfl:=Option.some.inj H;go_enter Tryz.func30,Tryz.ntmps30
   go_wp2_with(first|((with_reducible refine aZ (f:=79) rfl ?_);refine dO (some 4) rfl rfl Tryz.func79 (by kernel_rfl) rfl #[.string a0,.string (⟨#[47,62]⟩:Bt)] rfl q'a ?_;(with_reducible refine(cZ.calls k a0 (⟨#[47,62]⟩:Bt) true _ A2.out).mono ?_);rintro e w' ⟨rfl,⟨nd,rfl⟩⟩;refine⟨_,rfl,?_⟩;have p5:0≤(0:Int):=(by omega);have q5:0<a0.size:=(by have:(0:Int)<(a0.size:Int):=q'b;omega);have hx5:∀h:0<a0.size,((a0[0]'h).toNat:Int)=bt a0 0:=kE a0 0;clear p5;have qi5:(0<(a0.size:Int))=True:=eq_true (q'b);replace q5:=eq_true q5)|(go_at_call 80;(with_reducible refine(mZ.calls (bt a0 0) t368 _ A6.out).mono ?_);rintro e w' ⟨rfl,⟨nd,rfl⟩⟩))
   go_ret;exact⟨q'c,by repeat(first|exact bK.refl _|apply bK.step)⟩
  ·rw[if_neg c4]at H
   exact absurd H (by simp)
 ·replace c3:=Bool.eq_false_iff.mpr c3
  subst c3;have H1:(some false)=some r:=by rw[if_neg (show¬(false=true) by decide)]at H;first|exact H|(simp only[eq_self]at H⊢;exact H)|(simp only[eq_self,if_true]at H⊢;exact H)
  clear H;have H:=H1;clear H1;obtain rfl:=Option.some.inj H;go_enter Tryz.func30,Tryz.ntmps30
  go_wp2_with(first|((with_reducible refine aZ (f:=79) rfl ?_);refine dO (some 4) rfl rfl Tryz.func79 (by kernel_rfl) rfl #[.string a0,.string (⟨#[47,62]⟩:Bt)] rfl q'a ?_;(with_reducible refine(cZ.calls k a0 (⟨#[47,62]⟩:Bt) false _ A2.out).mono ?_);rintro e w' ⟨rfl,⟨nd,rfl⟩⟩;refine⟨_,rfl,?_⟩))
  go_ret;exact⟨q'c,by repeat(first|exact bK.refl _|apply bK.step)⟩
def oo.f(k:Nat)(a0:Bt):Option (Bool):=(cZ.f k a0 (⟨#[47,62,34,39,60,61]⟩:Bt)).bind fun t608=>(some t608)
theorem oo.calls(k:Nat)(a0:Bt)(r:Bool)(w:World)(h:oo.f k a0=some r):
 Calls Tryz.prog 95 #[.string a0] w fun e w'=>e=.returned (.bool r)∧bK w w':=by
 have H:((cZ.f k a0 (⟨#[47,62,34,39,60,61]⟩:Bt)).bind fun t608=>(some t608))=some r:=h;clear h;replace H:=Option.bind_eq_some_iff.mp H;obtain⟨t608,A20,H⟩:=H;replace H:(some t608)=some r:=H;have A2:=ak.mk A20;clear A20;obtain rfl:=Option.some.inj H;go_enter Tryz.func95,Tryz.ntmps95
 go_wp2_with(first|((with_reducible refine aZ (f:=79) rfl ?_);refine dO (some 4) rfl rfl Tryz.func79 (by kernel_rfl) rfl #[.string a0,.string (⟨#[47,62,34,39,60,61]⟩:Bt)] rfl q'a ?_;(with_reducible refine(cZ.calls k a0 (⟨#[47,62,34,39,60,61]⟩:Bt) t608 _ A2.out).mono ?_);rintro e w' ⟨rfl,⟨nd,rfl⟩⟩;refine⟨_,rfl,?_⟩))
 go_ret;exact⟨q'c,by repeat(first|exact bK.refl _|apply bK.step)⟩
end Go.Proofs.aj.W7
