/- Lemmas and walks, part 25. -/
import Derived.Test.YtkcmghlhpbepcaaGreatDoorWI24
set_option linter.unusedVariables false
set_option linter.unusedSimpArgs false
set_option maxHeartbeats 8000000
set_option maxRecDepth 100000
namespace Go.Proofs.aj.W7
open Go.RowKit ah.aD ah.bH ah.bU
attribute [local go_sem] dB dD dW dX bZ cu dF dG
attribute [local go_sem high] eqA36
def eF.l0:Nat→List (S36)→List (S36)→Int→Option (Bool)
 |0,_,_,_=>none
 |k+1,x0,x1,x5=>if x5<(x0.length:Int)then(if 0≤x5 then(if x5<(x1.length:Int)then(if(!((((bD x0 x5).f0).toList)==(((bD x1 x5).f0).toList))||(!((((bD x0 x5).f1).toList)==(((bD x1 x5).f1).toList))))=true then(some false)else(eF.l0 k x0 x1 (wrap64 (x5+1))))else(none))else(none))else(some true)
def eF.f(k:Nat)(l0 l1:List (S36)):Option (Bool):=if(l0.length:Int)=(l1.length:Int)then(eF.l0 k l0 l1 0)else(some false)
theorem eF.calls(k:Nat)(A0:Option Addr)(c0:Nat)(l0:List (S36))(A1:Option Addr)(c1:Nat)(l1:List (S36))(r:Bool)(w:World)(hr0:Kd.C k36 w A0 l0.length l0)(hc0:l0.length≤c0)(hr1:Kd.C k36 w A1 l1.length l1)(hc1:l1.length≤c1)(h:eF.f k l0 l1=some r):
 Calls Tryz.prog 71 #[.slice A0 l0.length c0,.slice A1 l1.length c1] w fun e w'=>e=.returned (.bool r)∧bJ w w':=by
 have hu36:=Tryz.underlying36;have HR0:=ak.mk hr0;have HC0:=ak.mk hc0;clear hr0 hc0;have HR1:=ak.mk hr1;have HC1:=ak.mk hc1;clear hr1 hc1;have H:(if(l0.length:Int)=(l1.length:Int)then(eF.l0 k l0 l1 0)else(some false))=some r:=h;clear h
 by_cases c3:(l0.length:Int)=(l1.length:Int)
 ·rw[if_pos c3]at H
  have oD:=beq_iff_eq.mpr c3;have AL:=bne_eq_false_iff_eq.mpr c3;have c3b2:(l0.length==l1.length)=true:=by first|simpa using c3|(simp at c3⊢;omega)
  clear c3;have H':=ak.mk H;clear H;go_enter Tryz.func71,Tryz.ntmps71;go_wp2
  repeat(go_quiet (fail);try go_wp2)
  go_loopg [5] k (fun kq v5 w'=>∃(jh:Int),v5=.int .i64 jh∧ak (eF.l0 kq l0 l1 jh=some r)∧ak (kq≤k)∧bJ w w')
  case atStart=>exact⟨(0),q'c,H',⟨Nat.le_refl _⟩,by repeat(first|exact bJ.refl _|apply bJ.step)⟩
  case round=>
   clear H'
   try clear c1
   try clear p2
   try clear c3
   try clear oD
   try clear AL
   try clear c3b2
   obtain⟨jh,rfl,HA,HK1,⟨m1,rfl⟩⟩:=hrel;cases gk with
   |zero=>exact absurd HA.out (by simp[eF.l0])
   |succ k1=>
    have H:=HA.out;clear HA;simp only[eF.l0]at H
    by_cases c4:jh<(l0.length:Int)
    ·rw[if_pos c4]at H
     have lY:=decide_eq_true c4;clear c4
     by_cases c5:0≤jh
     ·rw[if_pos c5]at H
      have tX:=decide_eq_true c5;clear c5
      by_cases c6:jh<(l1.length:Int)
      ·rw[if_pos c6]at H
       have AO:=decide_eq_true c6;clear c6
       by_cases c7:(!((((bD l0 jh).f0).toList)==(((bD l1 jh).f0).toList))||(!((((bD l0 jh).f1).toList)==(((bD l1 jh).f1).toList))))=true
       ·rw[if_pos c7]at H
        have GI:(!((((bD l0 jh).f0).toList)==(((bD l1 jh).f0).toList))||(!((((bD l0 jh).f1).toList)==(((bD l1 jh).f1).toList))))=true:=c7;clear c7;obtain rfl:=Option.some.inj H;have p106:0≤(jh:Int):=q'b;have q106:jh<(l0.length:Int):=q'b;obtain⟨ad106,e106,hx106_0,hx106_1⟩:=ni HR0.out jh p106 q106;cases e106;replace p106:=eq_true p106;replace q106:=eq_true q106;have p107:0≤(jh:Int):=q'b;have q107:jh<(l1.length:Int):=q'b;obtain⟨ad107,e107,hx107_0,hx107_1⟩:=ni HR1.out jh p107 q107;cases e107;replace p107:=eq_true p107;replace q107:=eq_true q107;go_wp2
        repeat(go_quiet (fail);try go_wp2)
        go_ret;exact⟨q'c,by repeat(first|exact bJ.refl _|apply bJ.step)⟩
       ·rw[if_neg c7]at H
        have GI:(!((((bD l0 jh).f0).toList)==(((bD l1 jh).f0).toList))||(!((((bD l0 jh).f1).toList)==(((bD l1 jh).f1).toList))))=false:=by simpa using c7
        clear c7;have H':=ak.mk H;clear H;have p106:0≤(jh:Int):=q'b;have q106:jh<(l0.length:Int):=q'b;obtain⟨ad106,e106,hx106_0,hx106_1⟩:=ni HR0.out jh p106 q106;cases e106;replace p106:=eq_true p106;replace q106:=eq_true q106;have p107:0≤(jh:Int):=q'b;have q107:jh<(l1.length:Int):=q'b;obtain⟨ad107,e107,hx107_0,hx107_1⟩:=ni HR1.out jh p107 q107;cases e107;replace p107:=eq_true p107;replace q107:=eq_true q107;go_wp2
        repeat(go_quiet (fail);try go_wp2)
        go_roundg k1
        case measure=>have:=HK1.out;omega
        case rel=>exact⟨(wrap64 (jh+1)),q'c,H',⟨lz HK1.out⟩,by repeat(first|exact bJ.refl _|apply bJ.step)⟩
      ·rw[if_neg c6]at H
       exact absurd H (by simp)
     ·rw[if_neg c5]at H
      exact absurd H (by simp)
    ·rw[if_neg c4]at H
     have lY:=decide_eq_false c4;clear c4;obtain rfl:=Option.some.inj H;go_wp2
     repeat(go_quiet (fail);try go_wp2)
     go_ret;exact⟨q'c,by repeat(first|exact bJ.refl _|apply bJ.step)⟩
 ·rw[if_neg c3]at H
  have oD:=beq_eq_false_iff_ne.mpr c3;have AL:=bne_iff_ne.mpr c3;have c3b2:(l0.length==l1.length)=false:=by first|simpa using c3|(simp at c3⊢;omega)
  obtain rfl:=Option.some.inj H;go_enter Tryz.func71,Tryz.ntmps71;go_wp2
  repeat(go_quiet (fail);try go_wp2)
  go_ret;exact⟨q'c,by repeat(first|exact bJ.refl _|apply bJ.step)⟩
end Go.Proofs.aj.W7
namespace Go.Proofs.aj.W7
open Go.RowKit Go.Proofs YtkcmghlhpbepcaaGreatDoor ah.aD
theorem M7(xs ys:List S36)(hl:xs.length=ys.length)(hx:xs.length≤9223372036854775807):∀(d i k:Nat),xs.length - i≤d→i≤xs.length→d<k→
 eF.l0 k xs ys i=some (decide ((xs.drop i).map prS=(ys.drop i).map prS)):=by
 intro d
 induction d with
 |zero=>
  intro i k hd hi hk;obtain⟨k,rfl⟩:∃m,k=m+1:=⟨k - 1,by omega⟩
  simp only[eF.l0];rw[if_neg (by omega),List.drop_of_length_le (by omega),List.drop_of_length_le (by omega)];rfl
 |succ d ih=>
  intro i k hd hi hk;obtain⟨k,rfl⟩:∃m,k=m+1:=⟨k - 1,by omega⟩
  by_cases hlt:i<xs.length
  ·have hyi:i<ys.length:=by omega
   have ex:bD xs i=xs[i]:=by simp[bD,hlt]
   have ey:bD ys i=ys[i]:=by simp[bD,hyi]
   simp only[eF.l0];rw[if_pos (by omega),if_pos (by omega),if_pos (by omega),ex,ey,bytes_beq,bytes_beq,List.drop_eq_getElem_cons hlt,List.drop_eq_getElem_cons hyi,List.map_cons,List.map_cons]
   by_cases he:prS xs[i]=prS ys[i]
   ·have h1:(xs[i].f0.data.toList==ys[i].f0.data.toList)=true:=by rw[beq_iff_eq];exact congrArg Prod.fst he
    have h2:(xs[i].f1.data.toList==ys[i].f1.data.toList)=true:=by rw[beq_iff_eq];exact congrArg Prod.snd he
    rw[h1,h2];simp only[Bool.not_true,Bool.or_self,Bool.false_eq_true,if_false];rw[show wrap64 ((i:Int)+1)=((i+1:Nat):Int)from by rw[w64 (by omega) (by omega)];omega,ih (i+1) k (by omega) (by omega) (by omega),he]
    congr 1
    simp
   ·have h1:(!(xs[i].f0.data.toList==ys[i].f0.data.toList)|| !(xs[i].f1.data.toList==ys[i].f1.data.toList))=true:=by
     by_cases h2:xs[i].f0.data.toList=ys[i].f0.data.toList
     ·have h3:¬xs[i].f1.data.toList=ys[i].f1.data.toList:=fun h3=>he (by unfold prS;rw[h2,h3])
      rw[Bool.or_eq_true];exact .inr (by rw[Bool.not_eq_true',beq_eq_false_iff_ne];exact h3)
     ·rw[Bool.or_eq_true];exact .inl (by rw[Bool.not_eq_true',beq_eq_false_iff_ne];exact h2)
    rw[if_pos h1,decide_eq_false (fun e=>he (List.cons.inj e).1)]
  ·simp only[eF.l0]
   rw[if_neg (by omega),List.drop_of_length_le (by omega),List.drop_of_length_le (by omega)];rfl
theorem PS(xs ys:List S36)(hx:xs.length≤9223372036854775807):eF.f (xs.length+1) xs ys=some (decide (xs.map prS=ys.map prS)):=by
 unfold eF.f
 by_cases h:xs.length=ys.length
 ·rw[if_pos (by omega)]
  exact M7 xs ys h hx xs.length 0 _ (by omega) (by omega) (by omega)
 ·rw[if_neg (by omega),decide_eq_false (fun e=>h (by simpa using congrArg List.length e))]
def gY.f(l0 l1:List Rw):Option Bool:=some (decide (l0.map nL=l1.map nL))
theorem QZ(w:World)(cs ds:Array Value)(t:TypeId)(W:World)(h:((w.alloc (.cells cs t)).alloc (.cells ds t)).drew=W):W.heap[w.heap.size]?=some (.cells cs t (0,0))∧W.heap[w.heap.size+1]?=some (.cells ds t (0,0))∧Below w.heap.size w W:=by
 subst h;have h1:=bP w cs t;have h2:=bP (w.alloc (.cells cs t)) ds t;rw[World.size_alloc]at h2;have hb:Below w.heap.size w ((w.alloc (.cells cs t)).alloc (.cells ds t)):=((Below.refl _ w).alloc (Nat.le_refl _) _).alloc (by simp) _;have h3:=aT h1 ((Below.refl _ (w.alloc (.cells cs t))).alloc (Nat.le_refl _) (.cells ds t));exact⟨h3,h2,ah.aD.cZ hb⟩
theorem Ay{a b:Bt}(h:a.data.toList=b.data.toList):a=b:=by
 obtain⟨x⟩:=a;obtain⟨y⟩:=b;have:x=y:=by simpa using h
 rw[this]
theorem gY.calls(A0:Option Addr)(c0:Nat)(l0:List Rw)(A1:Option Addr)(c1:Nat)(l1:List Rw)(r:Bool)(w:World)(hr0:k34.C w A0 l0.length l0)(hc0:l0.length≤c0)(hr1:k34.C w A1 l1.length l1)(hc1:l1.length≤c1)(h:gY.f l0 l1=some r):
 Calls Tryz.prog 22 #[.slice A0 l0.length c0,.slice A1 l1.length c1] w fun e w'=>e=.returned (.bool r)∧Below w.heap.size w w':=by
 have hd:decide (l0.map nL=l1.map nL)=r:=Option.some.inj h;clear h;have hxl:=hr0.2.1;have hyl:=hr1.2.1
 by_cases hlen:l0.length=l1.length
 case neg=>
  have e:decide (l0.map nL=l1.map nL)=false:=decide_eq_false (fun e=>hlen (by simpa using congrArg List.length e));obtain rfl:false=r:=e.symm.trans hd;clear hd e;have e1:((l0.length:Int)==(l1.length:Int))=false:=by rw[beq_eq_false_iff_ne];omega
  have e2:((l0.length:Int) !=(l1.length:Int))=true:=by rw[bne_iff_ne];omega
  go_enter Tryz.func22,Tryz.ntmps22;go_wp2;go_ret;exact⟨rfl,Below.refl _ _⟩
 replace hd:=Lib.hid hd;have hlb:((l0.length:Int)==(l1.length:Int))=true:=by rw[hlen,beq_self_eq_true]
 have hlb2:((l0.length:Int) !=(l1.length:Int))=false:=by rw[hlen,bne_self_eq_false]
 replace hlen:=Lib.hid hlen;go_enter Tryz.func22,Tryz.ntmps22;go_wp2
 go_loopw [5] (fun vi wr=>∃i:Nat,vi=.int .i64 i∧i≤l0.length∧Hid (decide ((l0.drop i).map nL=(l1.drop i).map nL)=r)∧Below w.heap.size w wr) (fun vi _=>l0.length - (intOf vi).toNat)
 case atStart=>exact⟨0,rfl,Nat.zero_le _,hd,Below.refl _ _⟩
 case round=>
  obtain⟨i,rfl,hi,hq,hB⟩:=hrel
  by_cases hlt:i<l0.length
  ·have hlt1:i<l1.length:=hlen.out▸hlt
   obtain⟨g,o,A4,c4,rfl,x0,x1,x2,x3,x4,lx,hax⟩:=wS (Kd.bT hr0 hB) i hlt;obtain⟨g',o',A5,c5,rfl,y0,y1,y2,y3,y4,ly,hay⟩:=wS (Kd.bT hr1 hB) i hlt1;rw[List.drop_eq_getElem_cons hlt,List.drop_eq_getElem_cons hlt1,List.map_cons,List.map_cons]at hq;generalize l0[i]=x at *;generalize l1[i]=y at *;obtain⟨xd,xk,xn,xt,xa⟩:=x;obtain⟨yd,yk,yn,yt,ya⟩:=y;simp only at x0 x1 x2 x3 x4 y0 y1 y2 y3 y4 lx ly hax hay;have hbd:Below wr.heap.size wr wr.drew:=ah.aD.cZ (Below.refl _ _)
   have K:=Lib.hid (fun(W:World) (h:Below wr.heap.size wr W)=>show(W.cell? ⟨g,o+i * 5,none⟩=some (.int .i64 xd)∧W.cell? ⟨g,o+i * 5+1,none⟩=some (.int .i64 xk)∧W.cell? ⟨g,o+i * 5+2,none⟩=some (.string xn)∧W.cell? ⟨g,o+i * 5+3,none⟩=some (.string xt)∧W.cell? ⟨g,o+i * 5+4,none⟩=some (.slice A4 xa.length c4))∧W.cell? ⟨g',o'+i * 5,none⟩=some (.int .i64 yd)∧W.cell? ⟨g',o'+i * 5+1,none⟩=some (.int .i64 yk)∧W.cell? ⟨g',o'+i * 5+2,none⟩=some (.string yn)∧W.cell? ⟨g',o'+i * 5+3,none⟩=some (.string yt)∧W.cell? ⟨g',o'+i * 5+4,none⟩=some (.slice A5 ya.length c5)from⟨⟨aV x0 h,aV x1 h,aV x2 h,aV x3 h,aV x4 h⟩,aV y0 h,aV y1 h,aV y2 h,aV y3 h,aV y4 h⟩);go_wp2
   go_region_held3 (fun W=>(W.cell? ⟨g,o+i * 5,none⟩=some (.int .i64 xd)∧W.cell? ⟨g,o+i * 5+1,none⟩=some (.int .i64 xk)∧W.cell? ⟨g,o+i * 5+2,none⟩=some (.string xn)∧W.cell? ⟨g,o+i * 5+3,none⟩=some (.string xt)∧W.cell? ⟨g,o+i * 5+4,none⟩=some (.slice A4 xa.length c4))∧W.cell? ⟨g',o'+i * 5,none⟩=some (.int .i64 yd)∧W.cell? ⟨g',o'+i * 5+1,none⟩=some (.int .i64 yk)∧W.cell? ⟨g',o'+i * 5+2,none⟩=some (.string yn)∧W.cell? ⟨g',o'+i * 5+3,none⟩=some (.string yt)∧W.cell? ⟨g',o'+i * 5+4,none⟩=some (.slice A5 ya.length c5)) ((refine K.out _ ?_;repeat(first|with_reducible exact Below.refl _ _|with_reducible refine ah.aD.cZ ?_ |(with_reducible refine Below.alloc ?_ (by first|exact Nat.le_refl _|(simp;done)|(simp;omega)) _)|(refine aH ?_ (by first|exact Nat.le_refl _|(simp;done)|(simp;omega)))))) (fail)
   all_goals(
    first
     |(generalize hW:World.drew (World.alloc (World.alloc wr (.cells #[.int .i64 xd,.int .i64 xk,.string xn,.string xt,.slice A4 xa.length c4] 34)) (.cells #[.int .i64 yd,.int .i64 yk,.string yn,.string yt,.slice A5 ya.length c5] 34))=W5;(fail_if_success (clear hW W5));obtain⟨hx,hy,hX⟩:=QZ wr _ _ _ _ hW)
     |(generalize hW:World.drew (World.alloc (World.alloc wr (.cells #[.int .i64 yd,.int .i64 yk,.string yn,.string yt,.slice A5 ya.length c5] 34)) (.cells #[.int .i64 xd,.int .i64 xk,.string xn,.string xt,.slice A4 xa.length c4] 34))=W5;(fail_if_success (clear hW W5));obtain⟨hy,hx,hX⟩:=QZ wr _ _ _ _ hW)
    clear hW K;obtain⟨⟨p0,p1,p2,p3,p4⟩,p5⟩:=aW hx;obtain⟨⟨q0,q1,q2,q3,q4⟩,q5⟩:=aW hy;have hX5:Below w.heap.size w W5:=hB.trans (hX.mono hB.size);have hat:=Lib.hid (eF.calls (xa.length+1) A4 c4 xa A5 c5 ya _ W5 (Kd.bT hax hX) lx (Kd.bT hay hX) ly (PS xa ya hax.2.1));have hne:¬nL ⟨xd,xk,xn,xt,xa⟩=nL ⟨yd,yk,yn,yt,ya⟩→false=r:=fun e=>(decide_eq_false (fun h=>e (List.cons.inj h).1)).symm.trans hq
    by_cases e0:xd=yd
    case neg=>
     have f1:(xd==yd)=false:=beq_eq_false_iff_ne.mpr e0;have f2:(xd !=yd)=true:=bne_iff_ne.mpr e0;obtain rfl:=hne (fun h=>e0 (congrArg Rr.depth h));clear hne hq;go_wp2;go_ret;exact⟨rfl,hX5⟩
    subst e0
    by_cases e1:xk=yk
    case neg=>
     have f1:(xk==yk)=false:=beq_eq_false_iff_ne.mpr e1;have f2:(xk !=yk)=true:=bne_iff_ne.mpr e1;obtain rfl:=hne (fun h=>e1 (congrArg Rr.kind h));clear hne hq;go_wp2;go_ret;exact⟨rfl,hX5⟩
    subst e1
    by_cases e2:xn=yn
    case neg=>
     have f0:¬xn.toList=yn.toList:=fun h=>e2 (Ay ((sJ _ _).1 h))
     have f1:(xn.toList==yn.toList)=false:=beq_eq_false_iff_ne.mpr f0;have f2:(xn.toList !=yn.toList)=true:=bne_iff_ne.mpr f0;obtain rfl:=hne (fun h=>e2 (Ay (congrArg Rr.name h)));clear hne hq;go_wp2;go_ret;exact⟨rfl,hX5⟩
    subst e2
    by_cases e3:xt=yt
    case neg=>
     have f0:¬xt.toList=yt.toList:=fun h=>e3 (Ay ((sJ _ _).1 h))
     have f1:(xt.toList==yt.toList)=false:=beq_eq_false_iff_ne.mpr f0;have f2:(xt.toList !=yt.toList)=true:=bne_iff_ne.mpr f0;obtain rfl:=hne (fun h=>e3 (Ay (congrArg Rr.data h)));clear hne hq;go_wp2;go_ret;exact⟨rfl,hX5⟩
    subst e3
    by_cases e4:xa.map prS=ya.map prS
    case neg=>
     rw[decide_eq_false e4]at hat;obtain rfl:=hne (fun h=>e4 (congrArg Rr.attrs h));clear hne hq
     go_wp2_with(go_at_call 71;((with_reducible refine hat.out.mono ?_);rintro e W6 ⟨rfl,⟨nd,rfl⟩⟩))
     go_ret;exact⟨rfl,ah.aD.bE hX5 nd⟩
    rw[decide_eq_true e4]at hat;have hrow:nL ⟨xd,xk,xn,xt,xa⟩=nL ⟨xd,xk,xn,xt,ya⟩:=by simp only[nL,e4]
    have hq2:Hid (decide ((l0.drop (i+1)).map nL=(l1.drop (i+1)).map nL)=r):=Lib.hid (by rw[←hq,hrow];simp);clear hq hne hrow
    go_wp2_with(go_at_call 71;((with_reducible refine hat.out.mono ?_);rintro e W6 ⟨rfl,⟨nd,rfl⟩⟩))
    exact⟨⟨i+1,rfl,by omega,hq2,ah.aD.bE hX5 nd⟩,by simp[intOf];omega⟩)
  ·obtain rfl:true=r:=by rw[←hq.out,List.drop_of_length_le (by omega),List.drop_of_length_le (by have:=hlen.out;omega)];rfl
   clear hd hq;go_wp2;go_ret;exact⟨rfl,hB⟩
end Go.Proofs.aj.W7
namespace Go.Proofs.aj.W7
open Go.RowKit Go.Proofs YtkcmghlhpbepcaaGreatDoor
def nS.f(a0:Bt):Option Bool:=if a0.size≤9223372036854775807 then some (Lib.validD a0.data.toList)else none
theorem nS.calls(a0:Bt)(r:Bool)(w:World)(h:nS.f a0=some r)(hS_:Gw w):
 Calls Tryz.prog 91 #[.string a0] w fun e w'=>e=.returned (.bool r)∧Below w.heap.size w w':=by
 unfold nS.f at h
 split at h
 ·rename_i hz
  have hv:=Lib.hid (valid_c a0 w hz hS_.tabs);rw[Option.some.inj h]at hv;clear h;go_enter Tryz.func91,Tryz.ntmps91
  go_wp2_with(go_at_call 139;((with_reducible refine hv.out.mono ?_);rintro e w1 ⟨rfl,hb⟩))
  go_ret;exact⟨rfl,hb⟩
 ·cases h
def strings_Contains.f(a0 a1:Bt):Option Bool:=if a0.size<4294967281 then some (Lib.contains a0.data.toList a1.data.toList)else none
theorem strings_Contains.calls(a0 a1:Bt)(r:Bool)(w:World)(h:strings_Contains.f a0 a1=some r)(hS_:Gw w):
 Calls Tryz.prog 93 #[.string a0,.string a1] w fun e w'=>e=.returned (.bool r)∧Below w.heap.size w w':=by
 unfold strings_Contains.f at h
 split at h
 ·rename_i hz
  obtain rfl:=Option.some.inj h;obtain⟨m,hm⟩:=hS_.maxLen;exact(Tryz.strings_Contains a0 a1 m w hz hm).mono (fun e w' h=>⟨h.1,by rw[h.2];exact Below.refl _ _⟩)
 ·cases h
def strings_HasPrefix.f(a0 a1:Bt):Option Bool:=some (Lib.hasPrefix a0.data.toList a1.data.toList)
theorem strings_HasPrefix.calls(a0 a1:Bt)(r:Bool)(w:World)(h:strings_HasPrefix.f a0 a1=some r):
 Calls Tryz.prog 94 #[.string a0,.string a1] w fun e w'=>e=.returned (.bool r)∧Below w.heap.size w w':=by
 obtain rfl:=Option.some.inj h;exact(Tryz.strings_HasPrefix a0 a1 w).mono (fun e w' h=>⟨h.1,by rw[h.2];exact Below.refl _ _⟩)
def strings_HasSuffix.f(a0 a1:Bt):Option Bool:=if a0.size≤9223372036854775807 then some (Lib.hasSuffix a0.data.toList a1.data.toList)else none
theorem strings_HasSuffix.calls(a0 a1:Bt)(r:Bool)(w:World)(h:strings_HasSuffix.f a0 a1=some r):
 Calls Tryz.prog 97 #[.string a0,.string a1] w fun e w'=>e=.returned (.bool r)∧Below w.heap.size w w':=by
 unfold strings_HasSuffix.f at h
 split at h
 ·rename_i hz
  obtain rfl:=Option.some.inj h;exact(Tryz.strings_HasSuffix a0 a1 w hz).mono (fun e w' h=>⟨h.1,by rw[h.2];exact Below.refl _ _⟩)
 ·cases h
end Go.Proofs.aj.W7
namespace Go.Proofs.YtkcmghlhpbepcaaGreatDoor
open Go.RowKit Go.Proofs
theorem PK(s:ByteArray)(i:Nat)(hi:i<s.size):
 ((s.get! i).toNat<128∧Utf8.decode s i=((s.get! i).toNat,1))∨
 (128≤(s.get! i).toNat∧128≤(Utf8.decode s i).1∧Utf8.valid (Utf8.decode s i).1=true∧1≤(Utf8.decode s i).2∧i+(Utf8.decode s i).2≤s.size∧∀k,k<(Utf8.decode s i).2→128≤(s.get! (i+k)).toNat):=by
 by_cases h0:(s.get! i).toNat<128
 ·refine .inl ⟨h0,?_⟩
  rw[Lib.decode_at];unfold Lib.decodeN;rw[if_pos h0]
 ·refine .inr ⟨by omega,?_⟩
  have hk:∀k,k<4→(k=0∨k=1∨k=2∨k=3):=by omega
  rw[Lib.decode_at]
  rcases Lib.decodeN_shape (s.size - i) (s.get! i).toNat (s.get! (i+1)).toNat (s.get! (i+2)).toNat (s.get! (i+3)).toNat with⟨c,e⟩|⟨c1,c2,c3,cv,e⟩|⟨c1,c2,c3,c4,cv,cs,e⟩|⟨c1,c2,c3,c4,c5,cv,cw,e⟩|e
  ·exact absurd c h0
  ·rw[e]
   refine⟨by simp only;omega,by simp only[Utf8.valid];simp;omega,by simp only;omega,by simp only;omega,fun k hk=>?_⟩;simp only at hk;obtain rfl|rfl:k=0∨k=1:=by omega
   ·rw[Nat.add_zero];omega
   ·omega
  ·rw[e]
   refine⟨by simp only;omega,by simp only[Utf8.valid];simp;omega,by simp only;omega,by simp only;omega,fun k hk=>?_⟩;simp only at hk;obtain rfl|rfl|rfl:k=0∨k=1∨k=2:=by omega
   ·rw[Nat.add_zero];omega
   ·omega
   ·omega
  ·rw[e]
   refine⟨by simp only;omega,by simp only[Utf8.valid];simp;omega,by simp only;omega,by simp only;omega,fun k hk=>?_⟩;simp only at hk;obtain rfl|rfl|rfl|rfl:k=0∨k=1∨k=2∨k=3:=by omega
   ·rw[Nat.add_zero];omega
   ·omega
   ·omega
   ·omega
  ·rw[e]
   refine⟨by simp only;omega,by decide,by simp only;omega,by simp only;omega,fun k hk=>?_⟩;simp only at hk;obtain rfl:k=0:=by omega
   rw[Nat.add_zero];omega
def jW:ByteArray:=⟨#[0,13]⟩
theorem PL(c:Nat)(h128:128≤c)(hv:Utf8.valid c=true)(w:World):
 Calls Tryz.prog 178 #[.string jW,.int .i32 c] w fun e w'=>e=.returned (.int .i64 (-1))∧Below w.heap.size w w':=by
 obtain⟨hf1,hf2,hf3⟩:=encode_facts (c:Int) hv (by omega)
 have hvr:Lib.validRune (c:Int)=true:=by
  unfold Lib.validRune;simp only[Utf8.valid]at hv;simp at hv⊢;omega
 have hlt:decide ((c:Int)<128)=false:=decide_eq_false (by omega);have h0:decide ((0:Int)≤(c:Int))=true:=decide_eq_true (by omega)
 by_cases he:c=65533
 ·subst he
  have hr00:∀(W:World) (ty:TypeId),(Instr.next (.pointer (some ⟨W.heap.size,0,none⟩)) true ty).run Tryz.prog (W.iter jW 0)=.ok (.tuple #[.bool true,.int .i64 0,.int .i32 0]) (W.iter jW 1):=fun W ty=>run_next_ascii W jW 0 ty (by decide) (by decide)
  have hr01:∀(W:World) (ty:TypeId),(Instr.next (.pointer (some ⟨W.heap.size,0,none⟩)) true ty).run Tryz.prog (W.iter jW 1)=.ok (.tuple #[.bool true,.int .i64 1,.int .i32 13]) (W.iter jW 2):=fun W ty=>run_next_ascii W jW 1 ty (by decide) (by decide)
  have hr02:∀(W:World) (ty:TypeId),(Instr.next (.pointer (some ⟨W.heap.size,0,none⟩)) true ty).run Tryz.prog (W.iter jW 2)=.ok (.tuple #[.bool false]) (W.iter jW 2):=fun W ty=>run_next_end W jW 2 ty (by decide)
  clear hf1 hf2 hf3 hv hvr h128;go_enter Tryz.func178,Tryz.ntmps178;go_wp2
  go_loopg [5,6] 2 (fun g _ _ wx=>∃i:Nat,i+g=2∧wx=w.iter jW i)
  case atStart=>exact⟨0,rfl,rfl⟩
  case round=>
   obtain⟨i,hig,rfl⟩:=hrel;cases gk with
   |zero=>
    obtain rfl:i=2:=by omega
    go_wp2;go_ret;exact⟨rfl,(Below.refl _ w).alloc (Nat.le_refl _) _⟩
   |succ g=>
    obtain rfl|rfl:i=0∨i=1:=by omega
    ·go_wp2
     go_roundg g
     case measure=>omega
     case rel=>exact⟨1,by omega,rfl⟩
    ·go_wp2
     go_roundg g
     case measure=>omega
     case rel=>exact⟨2,by omega,rfl⟩
 ·have hne:((c:Int)==65533)=false:=by rw[beq_eq_false_iff_ne];omega
  have u21:=Tryz.underlying21;have u9:=Tryz.underlying9;obtain⟨E,hE⟩:∃E,Utf8.encode (c:Int)=E:=⟨_,rfl⟩
  rw[hE]at hf1 hf2 hf3;have hsz:jW.size=2:=rfl
  by_cases h2:E.size=2
  ·obtain⟨a,b,rfl⟩:∃a b:UInt8,E=⟨#[a,b]⟩:=by
    obtain⟨⟨l⟩⟩:=E;change l.length=2 at h2
    match l,h2 with
    | [a,b],_=>exact⟨a,b,rfl⟩
   have hb:128≤b.toNat:=hf3 (show 1<2 by omega);clear hf2 hf3 h2;have hb1:(((jW[1]'(by decide)).toNat:Int) !=((b.toNat:Nat):Int))=true:=by rw[bne_iff_ne];intro e;have:(jW[1]'(by decide)).toNat=13:=rfl;omega
   have hib:∀c,Lib.indexByte ByteArray.empty.data.toList c= -1:=fun c=>rfl
   have hb2:((13:Int) !=((b.toNat:Nat):Int))=true:=by rw[bne_iff_ne];omega
   go_enter Tryz.func178,Tryz.ntmps178
   go_wp2_with(go_at_call 204;((with_reducible refine(Tryz.utf8_ValidRune _ _).mono ?_);rintro e w3 ⟨rfl,rfl⟩;rw[hvr]))
   go_step3;go_wp2
   go_loopw [9] (fun v wr=>v=.int .i64 1∧Below w3.heap.size w3 wr) (fun v _=>0)
   case atStart=>exact⟨rfl,Below.refl _ _⟩
   case round=>
    obtain⟨rfl,hB⟩:=hrel;go_wp2;go_step3;go_wp2;go_region;replace hib:=Lib.hid hib;clear hb1 hb2 hf1 hlt h0 hne hv hvr hE;generalize (jW[1]'(by decide)).toNat=z13;go_wp2
    go_region_with (go_at_call 203;((with_reducible refine(Tryz.strings_IndexByte _ _ _).mono ?_);rintro e w4 ⟨rfl,hw4⟩;rw[hib.out,hw4]))
    all_goals(
     go_wp2;rw[Exit.noGoto_ret];show Exit.noGoto (Exit.inBlock 0 _) Exit.ret _ _;rw[Exit.noGoto_ret];show bodyPost Tryz.prog Tryz.f178 (fun e w'=>e=.returned (.int .i64 (-1))∧Below w3.heap.size w3 w') Exit.ret _ _;go_ret;exact⟨rfl,(hB.drew).drew⟩)
  ·have hlast:¬((E.size:Int) - 1<2):=by omega
   go_enter Tryz.func178,Tryz.ntmps178
   go_wp2_with(go_at_call 204;((with_reducible refine(Tryz.utf8_ValidRune _ _).mono ?_);rintro e w3 ⟨rfl,rfl⟩;rw[hvr]))
   go_step3;go_wp2
   go_loopw [9] (fun v wr=>v=.int .i64 (E.size - 1)∧Below w3.heap.size w3 wr) (fun v _=>0)
   case atStart=>exact⟨rfl,Below.refl _ _⟩
   case round=>
    obtain⟨rfl,hB⟩:=hrel;clear hlt h0 hne hv hvr hE hf3;go_wp2;rw[Exit.noGoto_ret];show bodyPost Tryz.prog Tryz.f178 (fun e w'=>e=.returned (.int .i64 (-1))∧Below w3.heap.size w3 w') Exit.ret _ _;go_ret;exact⟨rfl,hB⟩
end Go.Proofs.YtkcmghlhpbepcaaGreatDoor
namespace Go.Proofs.aj.W7
open Go.RowKit Go.Proofs YtkcmghlhpbepcaaGreatDoor
theorem get_at(s:Bt)(i:Nat)(hi:i<s.size):s.get! i=s[i]'hi:=by
 obtain⟨d⟩:=s;show d[i]! =d[i];exact getElem!_pos d i hi
theorem M0(s:Bt)(i:Nat)(hi:i<s.size):s.data.toList[i]?=some (s.get! i):=by
 have:=Lib.data_getElem? s i hi;rw[this]
 congr 1
 exact(get_at s i hi).symm
theorem M4{l:List UInt8}{i k:Nat}(h:Lib.NoAny l jW.data.toList i)(hk:∀j b,i≤j→j<i+k→l[j]?=some b→128≤b.toNat):Lib.NoAny l jW.data.toList (i+k):=by
 intro j b hj hb
 by_cases hji:j<i
 ·exact h j b hji hb
 ·have h1:=hk j b (by omega) hj hb
  have:jW.data.toList=[0,13]:=rfl;rw[this];simp only[List.contains_cons,List.contains_nil,Bool.or_false,Bool.or_eq_false_iff,beq_eq_false_iff_ne];refine⟨?_,?_⟩<;> · rintro rfl;revert h1;decide
theorem below_iterAt{B:Nat}{w0 W:World}(h:Below B w0 W){k:Nat}(hk:B≤k)(s:Bt)(p:Nat):Below B w0 (W.iterAt k s p):=
 ⟨h.os,h.tape,h.output,by simp only[World.iterAt,Array.size_setIfInBounds];exact h.size,fun j hj=>by
  simp only[World.iterAt];rw[Array.getElem?_setIfInBounds_ne (by omega)];exact h.block j hj⟩
theorem Kw(s:Bt)(w:World)(h8:s.size≤8):
 Calls Tryz.prog 140 #[.string s,.string jW] w fun e w'=>e=.returned (.int .i64 (Lib.indexAny s.data.toList jW.data.toList))∧Below w.heap.size w w':=by
 have hemp:jW.toList.isEmpty=false:=by rw[Lib.toList_data];rfl
 have hn1:((jW.size:Int)==1)=false:=by decide
 have h8z:decide ((8:Int)<(s.size:Int))=false:=decide_eq_false (by omega);go_enter Tryz.func140,Tryz.ntmps140
 go_wp2_with(go_at_call 179;((with_reducible refine(Tryz.strings_shouldUseASCIISet _ _).mono ?_);rintro e w3 ⟨rfl,hw⟩;rw[h8z,hw]))
 go_loopg [9,10] s.size (fun g _ _ wx=>∃i:Nat,i≤s.size∧s.size≤i+g∧wx.heap[w.heap.size]?=some (.stringIter s i)∧Below w.heap.size w wx∧Hid (Lib.NoAny s.data.toList jW.data.toList i))
 case atStart=>exact⟨0,Nat.zero_le _,by omega,World.iter_heap _ _ _,(Below.refl _ w).alloc (Nat.le_refl _) _,Lib.NoAny.zero _ _⟩
 case round=>
  obtain⟨i,hi,hig,hit,hB,hno⟩:=hrel
  by_cases hlt:i<s.size
  ·obtain⟨g,rfl⟩:∃g,gk=g+1:=⟨gk - 1,by omega⟩
   have hnx:=fun ty=>Lib.run_next_any_at (P:=Tryz.prog) wr w.heap.size s i ty hit hlt
   have hit2:=Lib.iterAt_heap wr w.heap.size s i (i+(Utf8.decode s i).2) hit;have hB2:=below_iterAt hB (Nat.le_refl _) s (i+(Utf8.decode s i).2);have hgd:=M0 s i hlt
   rcases PK s i hlt with⟨hx,hd⟩|⟨hx,hc,hv,hw1,hw2,hby⟩
   ·rw[hd]at hnx hit2 hB2
    have hcon:=Lib.contains_iff_indexByte jW.data.toList (s.get! i);have hback:(((s.get! i).toNat:Int)).toNat.toUInt8=s.get! i:=by simp
    cases hin:jW.data.toList.contains (s.get! i)
    ·rw[hin]at hcon
     have hng:¬((0:Int)≤Lib.indexByte jW.data.toList (s.get! i)):=of_decide_eq_false hcon.symm;have oZ:=Lib.hid (hno.out.succ hgd hin);clear hcon hno hd hgd;generalize s.get! i=x at *
     go_wp2_with(go_at_call 178;((with_reducible refine(Tryz.strings_IndexRune_ascii _ _ _ (by omega) (by omega)).mono ?_);rintro e w4 ⟨rfl,hw4⟩;rw[hw4,hback]))
     go_roundg g
     case measure=>omega
     case rel=>exact⟨i+1,by omega,by omega,hit2,hB2,oZ⟩
    ·rw[hin]at hcon
     have hge:(0:Int)≤Lib.indexByte jW.data.toList (s.get! i):=of_decide_eq_true hcon.symm;have hres:=Lib.hid (Lib.indexAny_hit hno.out hgd hin);clear hcon hno hd hgd;generalize s.get! i=x at *
     go_wp2_with(go_at_call 178;((with_reducible refine(Tryz.strings_IndexRune_ascii _ _ _ (by omega) (by omega)).mono ?_);rintro e w4 ⟨rfl,hw4⟩;rw[hw4,hback]))
     go_ret;exact⟨by rw[hres.out];rfl,hB2⟩
   ·have oZ:=Lib.hid (M4 (k:=(Utf8.decode s i).2) hno.out (fun j b h1 h2 h3=>by
     have h4:=hby (j - i) (by omega);rw[show i+(j - i)=j from by omega]at h4;have h5:=M0 s j (by omega);rw[h3]at h5;rw[Option.some.inj h5];exact h4))
    have hid:=Lib.hid (fun W=>PL (Utf8.decode s i).1 hc hv W);clear hno hgd hby hv hx;generalize (Utf8.decode s i).1=c at *;generalize (Utf8.decode s i).2=q at *
    go_wp2_with(go_at_call 178;((with_reducible refine(hid.out _).mono ?_);rintro e w4 ⟨rfl,hb4⟩;have hB3:=bB hB2 hB2.size hb4;have hit3:=(hb4.block _ (Array.getElem?_eq_some_iff.1 hit2).1).trans hit2))
    go_roundg g
    case measure=>omega
    case rel=>exact⟨i+q,by omega,by omega,hit3,hB3,oZ⟩
  ·obtain rfl:i=s.size:=by omega
   have hnx:=fun ty=>Lib.run_next_end_at (P:=Tryz.prog) wr w.heap.size s s.size ty hit hlt
   go_wp2;go_ret;exact⟨by rw[Lib.indexAny_none (by rw[←Lib.size_eq];exact hno.out)];rfl,hB⟩
theorem set_zero:∀w,(zeroValue 144).run Tryz.prog w=.ok (.agg (Array.replicate 256 (.bool false))) w:=(zero_of_info (n:=256) (by kernel_rfl)).1
theorem idxAny_c(s:Bt)(w:World)(hs:s.size<4294967281):
 Calls Tryz.prog 140 #[.string s,.string jW] w fun e w'=>e=.returned (.int .i64 (Lib.indexAny s.data.toList jW.data.toList))∧Below w.heap.size w w':=by
 by_cases h8:s.size≤8
 ·exact Kw s w h8
 ·refine(Tryz.strings_IndexAny_long set_zero s jW w (show 2≤2 by omega) (by omega) hs (show 2<4294967281 by omega) (fun j b hb=>?_)).mono ?_
  ·have:jW.data.toList=[0,13]:=rfl
   rw[this]at hb
   match j,hb with
   |0,hb=>cases hb;decide
   |1,hb=>cases hb;decide
  ·rintro e w' ⟨rfl,rfl⟩
   exact⟨rfl,((Below.refl _ w).alloc (Nat.le_refl _) _).alloc (by rw[World.size_alloc];omega) _⟩
def strings_ContainsAny.f(a0 a1:Bt):Option Bool:=if a1=jW∧a0.size<4294967281 then some (Lib.containsAny a0.data.toList jW.data.toList)else none
theorem strings_ContainsAny.calls(a0 a1:Bt)(r:Bool)(w:World)(h:strings_ContainsAny.f a0 a1=some r)(hS_:Gw w):
 Calls Tryz.prog 92 #[.string a0,.string a1] w fun e w'=>e=.returned (.bool r)∧Below w.heap.size w w':=by
 unfold strings_ContainsAny.f at h
 split at h
 ·rename_i hz
  obtain⟨rfl,hz⟩:=hz;have hr:=Option.some.inj h;clear h;have hi:=Lib.hid (idxAny_c a0 w hz);unfold Lib.containsAny at hr;generalize Lib.indexAny a0.data.toList jW.data.toList=n at *;subst hr;go_enter Tryz.func92,Tryz.ntmps92
  go_wp2_with(go_at_call 140;((with_reducible refine hi.out.mono ?_);rintro e w1 ⟨rfl,hb⟩))
  go_ret;exact⟨rfl,hb⟩
 ·cases h
end Go.Proofs.aj.W7
namespace Go.Proofs.aj.W7
open Go.RowKit ah.aD ah.bH ah.bU
attribute [local go_sem] dB dD dW dX bZ cu dF dG
def fB.f(a0:Bt):Option (Bool):=(nS.f a0).bind fun t601=>(if t601=true then((strings_ContainsAny.f a0 (⟨#[0,13]⟩:Bt)).bind fun t602=>(some (!t602)))else(some false))
theorem fB.calls(a0:Bt)(r:Bool)(w:World)(h:fB.f a0=some r)(hS_:YtkcmghlhpbepcaaGreatDoor.Std w):
 Calls Tryz.prog 47 #[.string a0] w fun e w'=>e=.returned (.bool r)∧Below w.heap.size w w':=by
 have HS_:=ak.mk hS_;clear hS_;have HB:=ak.mk (Below.refl w.heap.size w);have H:((nS.f a0).bind fun t601=>(if t601=true then((strings_ContainsAny.f a0 (⟨#[0,13]⟩:Bt)).bind fun t602=>(some (!t602)))else(some false)))=some r:=h;clear h;replace H:=Option.bind_eq_some_iff.mp H;obtain⟨t601,A20,H⟩:=H
 try dsimp only at H
 have A2:=ak.mk A20;clear A20
 by_cases c3:t601=true
 ·subst c3
  rw[if_pos rfl]at H
  try dsimp only at H
  replace H:=Option.bind_eq_some_iff.mp H;obtain⟨t602,A40,H⟩:=H
  try dsimp only at H
  have A4:=ak.mk A40;clear A40;obtain rfl:=Option.some.inj H;go_enter Tryz.func47,Tryz.ntmps47
  go_wp2_with(first|((with_reducible refine bC (f:=91) rfl ?_);refine eG (some 4) rfl rfl Tryz.func91 (by kernel_rfl) rfl #[.string a0] rfl q'a ?_;(with_reducible refine(nS.calls a0 true _ A2.out (YtkcmghlhpbepcaaGreatDoor.Std.below HS_.out bz)).mono ?_);rintro e w5 ⟨rfl,hb⟩;refine⟨_,rfl,?_⟩;replace HB:=ak.mk (aG bz hb);(try clear hb);(try clear hb2);(try clear hk);(try clear hi))|(go_at_call 92;(with_reducible refine(strings_ContainsAny.calls a0 (⟨#[0,13]⟩:Bt) t602 _ A4.out (YtkcmghlhpbepcaaGreatDoor.Std.below HS_.out bz)).mono ?_);rintro e w6 ⟨rfl,hb⟩;replace HB:=ak.mk (aG bz hb);(try clear hb);(try clear hb2);(try clear hk);(try clear hi)))
  go_ret;exact⟨by first|rfl|(simp[aI,aJ]<;>rfl)|(simp[*,aI,aJ]<;>rfl),bz⟩
 ·replace c3:=Bool.eq_false_iff.mpr c3
  subst c3;have H1:(some false)=some r:=by rw[if_neg (show¬(false=true) by decide)]at H;first|exact H|(simp only[eq_self]at H⊢;exact H)|(simp only[eq_self,if_true]at H⊢;exact H)
  clear H;have H:=H1;clear H1;obtain rfl:=Option.some.inj H;go_enter Tryz.func47,Tryz.ntmps47
  go_wp2_with(first|((with_reducible refine bC (f:=91) rfl ?_);refine eG (some 4) rfl rfl Tryz.func91 (by kernel_rfl) rfl #[.string a0] rfl q'a ?_;(with_reducible refine(nS.calls a0 false _ A2.out (YtkcmghlhpbepcaaGreatDoor.Std.below HS_.out bz)).mono ?_);rintro e w7 ⟨rfl,hb⟩;refine⟨_,rfl,?_⟩;replace HB:=ak.mk (aG bz hb);(try clear hb);(try clear hb2);(try clear hk);(try clear hi)))
  go_ret;exact⟨by first|rfl|(simp[aI,aJ]<;>rfl)|(simp[*,aI,aJ]<;>rfl),bz⟩
def lQ.f(a0:Bt):Option (Bool):=(fB.f a0).bind fun t603=>(if t603=true then((strings_Contains.f a0 (⟨#[45,45,62]⟩:Bt)).bind fun t604=>(if t604=true then(some false)else((strings_Contains.f a0 (⟨#[45,45,33,62]⟩:Bt)).bind fun t605=>(if t605=true then(some false)else((strings_HasPrefix.f a0 (⟨#[62]⟩:Bt)).bind fun t606=>(if t606=true then(some false)else((strings_HasPrefix.f a0 (⟨#[45,62]⟩:Bt)).bind fun G6=>(some (!G6)))))))))else(some false))
theorem lQ.calls(a0:Bt)(r:Bool)(w:World)(h:lQ.f a0=some r)(hS_:YtkcmghlhpbepcaaGreatDoor.Std w):
 Calls Tryz.prog 48 #[.string a0] w fun e w'=>e=.returned (.bool r)∧Below w.heap.size w w':=by
 have HS_:=ak.mk hS_;clear hS_;have HB:=ak.mk (Below.refl w.heap.size w);have H:((fB.f a0).bind fun t603=>(if t603=true then((strings_Contains.f a0 (⟨#[45,45,62]⟩:Bt)).bind fun t604=>(if t604=true then(some false)else((strings_Contains.f a0 (⟨#[45,45,33,62]⟩:Bt)).bind fun t605=>(if t605=true then(some false)else((strings_HasPrefix.f a0 (⟨#[62]⟩:Bt)).bind fun t606=>(if t606=true then(some false)else((strings_HasPrefix.f a0 (⟨#[45,62]⟩:Bt)).bind fun G6=>(some (!G6)))))))))else(some false)))=some r:=h;clear h;replace H:=Option.bind_eq_some_iff.mp H;obtain⟨t603,A20,H⟩:=H
 try dsimp only at H
 have A2:=ak.mk A20;clear A20
 by_cases c3:t603=true
 ·subst c3
  rw[if_pos rfl]at H
  try dsimp only at H
  replace H:=Option.bind_eq_some_iff.mp H;obtain⟨t604,A40,H⟩:=H
  try dsimp only at H
  have A4:=ak.mk A40;clear A40
  by_cases c5:t604=true
  ·subst c5
   rw[if_pos rfl]at H
   try dsimp only at H
   obtain rfl:=Option.some.inj H;go_enter Tryz.func48,Tryz.ntmps48
   go_wp2_with(first|((with_reducible refine bC (f:=47) rfl ?_);refine eG (some 4) rfl rfl Tryz.func47 (by kernel_rfl) rfl #[.string a0] rfl q'a ?_;(with_reducible refine(fB.calls a0 true _ A2.out (YtkcmghlhpbepcaaGreatDoor.Std.below HS_.out bz)).mono ?_);rintro e w6 ⟨rfl,hb⟩;refine⟨_,rfl,?_⟩;replace HB:=ak.mk (aG bz hb);(try clear hb);(try clear hb2);(try clear hk);(try clear hi))|(go_at_call 93;(with_reducible refine(strings_Contains.calls a0 (⟨#[45,45,62]⟩:Bt) true _ A4.out (YtkcmghlhpbepcaaGreatDoor.Std.below HS_.out bz)).mono ?_);rintro e w7 ⟨rfl,hb⟩;replace HB:=ak.mk (aG bz hb);(try clear hb);(try clear hb2);(try clear hk);(try clear hi)))
   go_ret;exact⟨by first|rfl|(simp[aI,aJ]<;>rfl)|(simp[*,aI,aJ]<;>rfl),bz⟩
  ·replace c5:=Bool.eq_false_iff.mpr c5
   subst c5;have H1:((strings_Contains.f a0 (⟨#[45,45,33,62]⟩:Bt)).bind fun t605=>(if t605=true then(some false)else((strings_HasPrefix.f a0 (⟨#[62]⟩:Bt)).bind fun t606=>(if t606=true then(some false)else((strings_HasPrefix.f a0 (⟨#[45,62]⟩:Bt)).bind fun G6=>(some (!G6)))))))=some r:=by rw[if_neg (show¬(false=true) by decide)]at H;first|exact H|(simp only[eq_self]at H⊢;exact H)|(simp only[eq_self,if_true]at H⊢;exact H)
   clear H;have H:=H1;clear H1;replace H:=Option.bind_eq_some_iff.mp H;obtain⟨t605,A80,H⟩:=H
   try dsimp only at H
   have A8:=ak.mk A80;clear A80
   by_cases c9:t605=true
   ·subst c9
    rw[if_pos rfl]at H
    try dsimp only at H
    obtain rfl:=Option.some.inj H;go_enter Tryz.func48,Tryz.ntmps48
    go_wp2_with(first|((with_reducible refine bC (f:=47) rfl ?_);refine eG (some 4) rfl rfl Tryz.func47 (by kernel_rfl) rfl #[.string a0] rfl q'a ?_;(with_reducible refine(fB.calls a0 true _ A2.out (YtkcmghlhpbepcaaGreatDoor.Std.below HS_.out bz)).mono ?_);rintro e w10 ⟨rfl,hb⟩;refine⟨_,rfl,?_⟩;replace HB:=ak.mk (aG bz hb);(try clear hb);(try clear hb2);(try clear hk);(try clear hi))|(go_at_call 93;(with_reducible refine(strings_Contains.calls a0 (⟨#[45,45,62]⟩:Bt) false _ A4.out (YtkcmghlhpbepcaaGreatDoor.Std.below HS_.out bz)).mono ?_);rintro e w11 ⟨rfl,hb⟩;replace HB:=ak.mk (aG bz hb);(try clear hb);(try clear hb2);(try clear hk);(try clear hi))|(go_at_call 93;(with_reducible refine(strings_Contains.calls a0 (⟨#[45,45,33,62]⟩:Bt) true _ A8.out (YtkcmghlhpbepcaaGreatDoor.Std.below HS_.out bz)).mono ?_);rintro e w12 ⟨rfl,hb⟩;replace HB:=ak.mk (aG bz hb);(try clear hb);(try clear hb2);(try clear hk);(try clear hi)))
    go_ret;exact⟨by first|rfl|(simp[aI,aJ]<;>rfl)|(simp[*,aI,aJ]<;>rfl),bz⟩
   ·replace c9:=Bool.eq_false_iff.mpr c9
    subst c9;have H1:((strings_HasPrefix.f a0 (⟨#[62]⟩:Bt)).bind fun t606=>(if t606=true then(some false)else((strings_HasPrefix.f a0 (⟨#[45,62]⟩:Bt)).bind fun G6=>(some (!G6)))))=some r:=by rw[if_neg (show¬(false=true) by decide)]at H;first|exact H|(simp only[eq_self]at H⊢;exact H)|(simp only[eq_self,if_true]at H⊢;exact H)
    clear H;have H:=H1;clear H1;replace H:=Option.bind_eq_some_iff.mp H;obtain⟨t606,A130,H⟩:=H
    try dsimp only at H
    have A13:=ak.mk A130;clear A130
    by_cases c14:t606=true
    ·subst c14
     rw[if_pos rfl]at H
     try dsimp only at H
     obtain rfl:=Option.some.inj H;go_enter Tryz.func48,Tryz.ntmps48
     go_wp2_with(first|((with_reducible refine bC (f:=47) rfl ?_);refine eG (some 4) rfl rfl Tryz.func47 (by kernel_rfl) rfl #[.string a0] rfl q'a ?_;(with_reducible refine(fB.calls a0 true _ A2.out (YtkcmghlhpbepcaaGreatDoor.Std.below HS_.out bz)).mono ?_);rintro e w15 ⟨rfl,hb⟩;refine⟨_,rfl,?_⟩;replace HB:=ak.mk (aG bz hb);(try clear hb);(try clear hb2);(try clear hk);(try clear hi))|(go_at_call 93;(with_reducible refine(strings_Contains.calls a0 (⟨#[45,45,62]⟩:Bt) false _ A4.out (YtkcmghlhpbepcaaGreatDoor.Std.below HS_.out bz)).mono ?_);rintro e w16 ⟨rfl,hb⟩;replace HB:=ak.mk (aG bz hb);(try clear hb);(try clear hb2);(try clear hk);(try clear hi))|(go_at_call 93;(with_reducible refine(strings_Contains.calls a0 (⟨#[45,45,33,62]⟩:Bt) false _ A8.out (YtkcmghlhpbepcaaGreatDoor.Std.below HS_.out bz)).mono ?_);rintro e w17 ⟨rfl,hb⟩;replace HB:=ak.mk (aG bz hb);(try clear hb);(try clear hb2);(try clear hk);(try clear hi))|(go_at_call 94;(with_reducible refine(strings_HasPrefix.calls a0 (⟨#[62]⟩:Bt) true _ A13.out).mono ?_);rintro e w18 ⟨rfl,hb⟩;replace HB:=ak.mk (aG bz hb);(try clear hb);(try clear hb2);(try clear hk);(try clear hi)))
     go_ret;exact⟨by first|rfl|(simp[aI,aJ]<;>rfl)|(simp[*,aI,aJ]<;>rfl),bz⟩
    ·replace c14:=Bool.eq_false_iff.mpr c14
     subst c14;have H1:((strings_HasPrefix.f a0 (⟨#[45,62]⟩:Bt)).bind fun G6=>(some (!G6)))=some r:=by rw[if_neg (show¬(false=true) by decide)]at H;first|exact H|(simp only[eq_self]at H⊢;exact H)|(simp only[eq_self,if_true]at H⊢;exact H)
     clear H;have H:=H1;clear H1;replace H:=Option.bind_eq_some_iff.mp H;obtain⟨G6,A190,H⟩:=H
     try dsimp only at H
     have A19:=ak.mk A190;clear A190;obtain rfl:=Option.some.inj H;go_enter Tryz.func48,Tryz.ntmps48
     go_wp2_with(first|((with_reducible refine bC (f:=47) rfl ?_);refine eG (some 4) rfl rfl Tryz.func47 (by kernel_rfl) rfl #[.string a0] rfl q'a ?_;(with_reducible refine(fB.calls a0 true _ A2.out (YtkcmghlhpbepcaaGreatDoor.Std.below HS_.out bz)).mono ?_);rintro e w20 ⟨rfl,hb⟩;refine⟨_,rfl,?_⟩;replace HB:=ak.mk (aG bz hb);(try clear hb);(try clear hb2);(try clear hk);(try clear hi))|(go_at_call 93;(with_reducible refine(strings_Contains.calls a0 (⟨#[45,45,62]⟩:Bt) false _ A4.out (YtkcmghlhpbepcaaGreatDoor.Std.below HS_.out bz)).mono ?_);rintro e w21 ⟨rfl,hb⟩;replace HB:=ak.mk (aG bz hb);(try clear hb);(try clear hb2);(try clear hk);(try clear hi))|(go_at_call 93;(with_reducible refine(strings_Contains.calls a0 (⟨#[45,45,33,62]⟩:Bt) false _ A8.out (YtkcmghlhpbepcaaGreatDoor.Std.below HS_.out bz)).mono ?_);rintro e w22 ⟨rfl,hb⟩;replace HB:=ak.mk (aG bz hb);(try clear hb);(try clear hb2);(try clear hk);(try clear hi))|(go_at_call 94;(with_reducible refine(strings_HasPrefix.calls a0 (⟨#[62]⟩:Bt) false _ A13.out).mono ?_);rintro e w23 ⟨rfl,hb⟩;replace HB:=ak.mk (aG bz hb);(try clear hb);(try clear hb2);(try clear hk);(try clear hi))|(go_at_call 94;(with_reducible refine(strings_HasPrefix.calls a0 (⟨#[45,62]⟩:Bt) G6 _ A19.out).mono ?_);rintro e w24 ⟨rfl,hb⟩;replace HB:=ak.mk (aG bz hb);(try clear hb);(try clear hb2);(try clear hk);(try clear hi)))
     go_ret;exact⟨by first|rfl|(simp[aI,aJ]<;>rfl)|(simp[*,aI,aJ]<;>rfl),bz⟩
 ·replace c3:=Bool.eq_false_iff.mpr c3
  subst c3;have H1:(some false)=some r:=by rw[if_neg (show¬(false=true) by decide)]at H;first|exact H|(simp only[eq_self]at H⊢;exact H)|(simp only[eq_self,if_true]at H⊢;exact H)
  clear H;have H:=H1;clear H1;obtain rfl:=Option.some.inj H;go_enter Tryz.func48,Tryz.ntmps48
  go_wp2_with(first|((with_reducible refine bC (f:=47) rfl ?_);refine eG (some 4) rfl rfl Tryz.func47 (by kernel_rfl) rfl #[.string a0] rfl q'a ?_;(with_reducible refine(fB.calls a0 false _ A2.out (YtkcmghlhpbepcaaGreatDoor.Std.below HS_.out bz)).mono ?_);rintro e w25 ⟨rfl,hb⟩;refine⟨_,rfl,?_⟩;replace HB:=ak.mk (aG bz hb);(try clear hb);(try clear hb2);(try clear hk);(try clear hi)))
  go_ret;exact⟨by first|rfl|(simp[aI,aJ]<;>rfl)|(simp[*,aI,aJ]<;>rfl),bz⟩
def jo.f(a0:Int):Option (Bool):=if a0=32 then(some true)else(if a0=9 then(some true)else(if a0=10 then(some true)else(if a0=12 then(some true)else(some (a0==13)))))
theorem jo.calls(a0:Int)(r:Bool)(w:World)(h:jo.f a0=some r):
 Calls Tryz.prog 128 #[.int .u8 a0] w fun e w'=>e=.returned (.bool r)∧bJ w w':=by
 have H:(if a0=32 then(some true)else(if a0=9 then(some true)else(if a0=10 then(some true)else(if a0=12 then(some true)else(some (a0==13))))))=some r:=h;clear h
 by_cases c2:a0=32
 ·rw[if_pos c2]at H
  have EU:=beq_iff_eq.mpr c2;have c2b1:=bne_eq_false_iff_eq.mpr c2;clear c2;obtain rfl:=Option.some.inj H;go_enter Tryz.func128,Tryz.ntmps128;go_wp2;go_ret;exact⟨q'c,by repeat(first|exact bJ.refl _|apply bJ.step)⟩
 ·rw[if_neg c2]at H
  have EU:=beq_eq_false_iff_ne.mpr c2;have c2b1:=bne_iff_ne.mpr c2
  by_cases c3:a0=9
  ·rw[if_pos c3]at H
   have oD:=beq_iff_eq.mpr c3;have AL:=bne_eq_false_iff_eq.mpr c3;clear c3;obtain rfl:=Option.some.inj H;go_enter Tryz.func128,Tryz.ntmps128;go_wp2;go_ret;exact⟨q'c,by repeat(first|exact bJ.refl _|apply bJ.step)⟩
  ·rw[if_neg c3]at H
   have oD:=beq_eq_false_iff_ne.mpr c3;have AL:=bne_iff_ne.mpr c3
   by_cases c4:a0=10
   ·rw[if_pos c4]at H
    have lY:=beq_iff_eq.mpr c4;have Ab:=bne_eq_false_iff_eq.mpr c4;clear c4;obtain rfl:=Option.some.inj H;go_enter Tryz.func128,Tryz.ntmps128;go_wp2;go_ret;exact⟨q'c,by repeat(first|exact bJ.refl _|apply bJ.step)⟩
   ·rw[if_neg c4]at H
    have lY:=beq_eq_false_iff_ne.mpr c4;have Ab:=bne_iff_ne.mpr c4
    by_cases c5:a0=12
    ·rw[if_pos c5]at H
     have tX:=beq_iff_eq.mpr c5;have c5b1:=bne_eq_false_iff_eq.mpr c5;clear c5;obtain rfl:=Option.some.inj H;go_enter Tryz.func128,Tryz.ntmps128;go_wp2;go_ret;exact⟨q'c,by repeat(first|exact bJ.refl _|apply bJ.step)⟩
    ·rw[if_neg c5]at H
     have tX:=beq_eq_false_iff_ne.mpr c5;have c5b1:=bne_iff_ne.mpr c5;obtain rfl:=Option.some.inj H;go_enter Tryz.func128,Tryz.ntmps128;go_wp2;go_ret;exact⟨q'c,by repeat(first|exact bJ.refl _|apply bJ.step)⟩
end Go.Proofs.aj.W7
