/- Lemmas and walks, part 37. -/
import Derived.Test.YtkcmghlhpbepcaaGreatDoorT736
set_option linter.unusedVariables false
set_option linter.unusedSimpArgs false
set_option maxHeartbeats 8000000
set_option maxRecDepth 100000
namespace Go.Proofs.aj.W7
open Go.RowKit Go.Proofs.ah.aG Go.Proofs.ah.bX Go.Proofs.ah.dN
attribute [local go_sem] dZ d9 eU eX dS dU eu eB
def Ap.l0:Nat→List (S34)→Int→Int→Option (Int)
 |0,_,_,_=>none
 |k+1,x0,x1,x5=>if x5<(x0.length:Int)then(if 0≤x5 then(if 0≤x1 then(if x1<(x0.length:Int)then(if((bJ x0 x5).f0)>((bJ x0 x1).f0)then(Ap.l0 k x0 x1 (wrap64 (x5+1)))else(some x5))else(none))else(none))else(none))else(some x5)
def Ap.f(k:Nat)(l0:List (S34))(a1:Int):Option (Int):=(rows_is.f l0 a1).bind fun t110=>(if t110=true then(Ap.l0 k l0 a1 (wrap64 (a1+1)))else(some 0))
end Go.Proofs.aj.W7
namespace Go.Proofs.aj.W7
open Go.RowKit Go.Shelf Go.Proofs Go.Proofs.YtkcmghlhpbepcaaGreatDoor
attribute [local go_sem] Oper.semAt_some
def spanN(d:Int):List Rw→Nat
 | []=>0
 |y::ys=>if d<y.f0 then spanN d ys+1 else 0
def endN(xs:List Rw)(i:Nat):Nat:=i+1+spanN (bJ xs i).f0 (xs.drop (i+1))
theorem endN_gt(xs:List Rw)(i:Nat):i<endN xs i:=by unfold endN;omega
def kidsW(xs:List Rw)(t j:Nat):List Nat:=
 if h:j<t∧j<xs.length then j::kidsW xs t (endN xs j)else []
termination_by xs.length - j
decreasing_by have:=endN_gt xs j;omega
def kidsF(xs:List Rw)(i:Int):List Nat:=
 if i= -1 then kidsW xs xs.length 0 else if 0≤i∧i<xs.length then kidsW xs (endN xs i.toNat) (i.toNat+1)else []
def fromI(i:Int):Nat:=if i= -1 then 0 else i.toNat+1
def toI(xs:List Rw)(i:Int):Nat:=if i= -1 then xs.length else endN xs i.toNat
def KpK(n₀ B:Nat)(v:Value)(W W':World):Prop:=Below n₀ W W'∧(Boxed W B 22 v→Boxed W' B 22 v)
def rows_Kids.f(l0:List Rw)(a1:Int):Option (List Int):=if l0.length * 8≤140737488355328 then some ((kidsF l0 a1).map (fun x:Nat=>(x:Int)))else none
end Go.Proofs.aj.W7
namespace Go.Proofs.aj.W7
open Go.RowKit Go.Proofs.ah.aG Go.Proofs.ah.bX Go.Proofs.ah.dN
attribute [local go_sem] dZ d9 eU eX dS dU eu eB
attribute [local go_sem high] eqA36
def dJ.l0:Nat→List (S36)→List (S36)→Int→Option (Bool)
 |0,_,_,_=>none
 |k+1,x0,x1,x5=>if x5<(x0.length:Int)then(if 0≤x5 then(if x5<(x1.length:Int)then(if(!((((dV x0 x5).f0).toList)==(((dV x1 x5).f0).toList))||(!((((dV x0 x5).f1).toList)==(((dV x1 x5).f1).toList))))=true then(some false)else(dJ.l0 k x0 x1 (wrap64 (x5+1))))else(none))else(none))else(some true)
def dJ.f(k:Nat)(l0 l1:List (S36)):Option (Bool):=if(l0.length:Int)=(l1.length:Int)then(dJ.l0 k l0 l1 0)else(some false)
theorem dJ.calls(k:Nat)(A0:Option Addr)(c0:Nat)(l0:List (S36))(A1:Option Addr)(c1:Nat)(l1:List (S36))(r:Bool)(w:World)(hr0:Kd.C k36 w A0 l0.length l0)(hc0:l0.length≤c0)(hr1:Kd.C k36 w A1 l1.length l1)(hc1:l1.length≤c1)(h:dJ.f k l0 l1=some r):
 Calls Tryz.prog 71 #[.slice A0 l0.length c0,.slice A1 l1.length c1] w fun e w'=>e=.returned (.bool r)∧dK w w':=by
 have hu36:=Tryz.underlying36;have HR0:=ak.mk hr0;have HC0:=ak.mk hc0;clear hr0 hc0;have HR1:=ak.mk hr1;have HC1:=ak.mk hc1;clear hr1 hc1;have H:(if(l0.length:Int)=(l1.length:Int)then(dJ.l0 k l0 l1 0)else(some false))=some r:=h;clear h
 by_cases c3:(l0.length:Int)=(l1.length:Int)
 ·rw[if_pos c3]at H
  have lI:((l0.length:Int)==(l1.length:Int))=true:=beq_iff_eq.mpr c3;have tu:((l0.length:Int) !=(l1.length:Int))=false:=bne_eq_false_iff_eq.mpr c3;have c3b2:(l0.length==l1.length)=true:=by first|simpa using c3|(simp at c3⊢;omega)
  clear c3;have H':=ak.mk H;clear H;go_enter Tryz.func71,Tryz.ntmps71;go_wp2
  repeat(go_quiet (fail);try go_wp2)
  go_loopg [5] k (fun kq v5 w'=>∃(fC:Int),v5=.int .i64 fC∧ak (dJ.l0 kq l0 l1 fC=some r)∧ak (kq≤k)∧dK w w')
  case atStart=>exact⟨(0),q'c,H',⟨Nat.le_refl _⟩,by repeat(first|exact dK.refl _|apply dK.step)⟩
  case round=>
   clear H'
   try clear c1
   try clear p2
   try clear c3
   try clear lI
   try clear tu
   try clear c3b2
   obtain⟨fC,rfl,HA,HK1,⟨m1,rfl⟩⟩:=hrel;cases gk with
   |zero=>exact absurd HA.out (by simp[dJ.l0])
   |succ k1=>
    have H:=HA.out;clear HA;simp only[dJ.l0]at H
    by_cases c4:fC<(l0.length:Int)
    ·rw[if_pos c4]at H
     have zV:decide (fC<(l0.length:Int))=true:=decide_eq_true c4;clear c4
     by_cases c5:0≤fC
     ·rw[if_pos c5]at H
      have zW:decide (0≤fC)=true:=decide_eq_true c5;clear c5
      by_cases c6:fC<(l1.length:Int)
      ·rw[if_pos c6]at H
       have mo:decide (fC<(l1.length:Int))=true:=decide_eq_true c6;clear c6
       by_cases c7:(!((((dV l0 fC).f0).toList)==(((dV l1 fC).f0).toList))||(!((((dV l0 fC).f1).toList)==(((dV l1 fC).f1).toList))))=true
       ·rw[if_pos c7]at H
        have wR:(!((((dV l0 fC).f0).toList)==(((dV l1 fC).f0).toList))||(!((((dV l0 fC).f1).toList)==(((dV l1 fC).f1).toList))))=true:=c7;clear c7;obtain rfl:=Option.some.inj H;have p106:0≤(fC:Int):=q'b;have q106:fC<(l0.length:Int):=q'b;obtain⟨ad106,e106,hx106_0,hx106_1⟩:=o8 HR0.out fC p106 q106;cases e106;replace p106:=eq_true p106;replace q106:=eq_true q106;have p107:0≤(fC:Int):=q'b;have q107:fC<(l1.length:Int):=q'b;obtain⟨ad107,e107,hx107_0,hx107_1⟩:=o8 HR1.out fC p107 q107;cases e107;replace p107:=eq_true p107;replace q107:=eq_true q107;go_wp2
        repeat(go_quiet (fail);try go_wp2)
        go_ret;exact⟨q'c,by repeat(first|exact dK.refl _|apply dK.step)⟩
       ·rw[if_neg c7]at H
        have wR:(!((((dV l0 fC).f0).toList)==(((dV l1 fC).f0).toList))||(!((((dV l0 fC).f1).toList)==(((dV l1 fC).f1).toList))))=false:=by simpa using c7
        clear c7;have H':=ak.mk H;clear H;have p106:0≤(fC:Int):=q'b;have q106:fC<(l0.length:Int):=q'b;obtain⟨ad106,e106,hx106_0,hx106_1⟩:=o8 HR0.out fC p106 q106;cases e106;replace p106:=eq_true p106;replace q106:=eq_true q106;have p107:0≤(fC:Int):=q'b;have q107:fC<(l1.length:Int):=q'b;obtain⟨ad107,e107,hx107_0,hx107_1⟩:=o8 HR1.out fC p107 q107;cases e107;replace p107:=eq_true p107;replace q107:=eq_true q107;go_wp2
        repeat(go_quiet (fail);try go_wp2)
        go_roundg k1
        case measure=>have:=HK1.out;omega
        case rel=>exact⟨(wrap64 (fC+1)),q'c,H',⟨by have:=HK1.out;omega⟩,by repeat(first|exact dK.refl _|apply dK.step)⟩
      ·rw[if_neg c6]at H
       exact absurd H (by simp)
     ·rw[if_neg c5]at H
      exact absurd H (by simp)
    ·rw[if_neg c4]at H
     have zV:decide (fC<(l0.length:Int))=false:=decide_eq_false c4;clear c4;obtain rfl:=Option.some.inj H;go_wp2
     repeat(go_quiet (fail);try go_wp2)
     go_ret;exact⟨q'c,by repeat(first|exact dK.refl _|apply dK.step)⟩
 ·rw[if_neg c3]at H
  have lI:((l0.length:Int)==(l1.length:Int))=false:=beq_eq_false_iff_ne.mpr c3;have tu:((l0.length:Int) !=(l1.length:Int))=true:=bne_iff_ne.mpr c3;have c3b2:(l0.length==l1.length)=false:=by first|simpa using c3|(simp at c3⊢;omega)
  obtain rfl:=Option.some.inj H;go_enter Tryz.func71,Tryz.ntmps71;go_wp2
  repeat(go_quiet (fail);try go_wp2)
  go_ret;exact⟨q'c,by repeat(first|exact dK.refl _|apply dK.step)⟩
end Go.Proofs.aj.W7
namespace Go.Proofs.aj.W7
open Go.RowKit Go.Proofs Go.Proofs.YtkcmghlhpbepcaaGreatDoor Go.Proofs.ah.aG
theorem EB(xs ys:List S36)(hl:xs.length=ys.length)(hx:xs.length≤9223372036854775807):∀(d i k:Nat),xs.length - i≤d→i≤xs.length→d<k→
 dJ.l0 k xs ys i=some (decide ((xs.drop i).map prS=(ys.drop i).map prS)):=by
 intro d
 induction d with
 |zero=>
  intro i k hd hi hk;obtain⟨k,rfl⟩:∃m,k=m+1:=⟨k - 1,by omega⟩
  simp only[dJ.l0];rw[if_neg (by omega),List.drop_of_length_le (by omega),List.drop_of_length_le (by omega)];rfl
 |succ d ih=>
  intro i k hd hi hk;obtain⟨k,rfl⟩:∃m,k=m+1:=⟨k - 1,by omega⟩
  by_cases hlt:i<xs.length
  ·have hyi:i<ys.length:=by omega
   have ex:dV xs i=xs[i]:=by simp[dV,hlt]
   have ey:dV ys i=ys[i]:=by simp[dV,hyi]
   simp only[dJ.l0];rw[if_pos (by omega),if_pos (by omega),if_pos (by omega),ex,ey,bytes_beq,bytes_beq,List.drop_eq_getElem_cons hlt,List.drop_eq_getElem_cons hyi,List.map_cons,List.map_cons]
   by_cases he:prS xs[i]=prS ys[i]
   ·have h1:(xs[i].f0.data.toList==ys[i].f0.data.toList)=true:=by rw[beq_iff_eq];exact congrArg Prod.fst he
    have h2:(xs[i].f1.data.toList==ys[i].f1.data.toList)=true:=by rw[beq_iff_eq];exact congrArg Prod.snd he
    rw[h1,h2];simp only[Bool.not_true,Bool.or_self,Bool.false_eq_true,if_false];rw[show wrap64 ((i:Int)+1)=((i+1:Nat):Int)from by rw[w64 (by omega) (by omega)];omega,ih (i+1) k (by omega) (by omega) (by omega),he]
    congr 1
    simp
   ·have h1:(!(xs[i].f0.data.toList==ys[i].f0.data.toList)|| !(xs[i].f1.data.toList==ys[i].f1.data.toList))=true:=by
     by_cases h2:xs[i].f0.data.toList=ys[i].f0.data.toList
     ·have h3:¬xs[i].f1.data.toList=ys[i].f1.data.toList:=fun h3=>he (by unfold prS;rw[h2,h3])
      rw[Bool.or_eq_true];exact .inr (by rw[Bool.not_eq_true',beq_eq_false_iff_ne];exact h3)
     ·rw[Bool.or_eq_true];exact .inl (by rw[Bool.not_eq_true',beq_eq_false_iff_ne];exact h2)
    rw[if_pos h1,decide_eq_false (fun e=>he (List.cons.inj e).1)]
  ·simp only[dJ.l0]
   rw[if_neg (by omega),List.drop_of_length_le (by omega),List.drop_of_length_le (by omega)];rfl
theorem GY(xs ys:List S36)(hx:xs.length≤9223372036854775807):dJ.f (xs.length+1) xs ys=some (decide (xs.map prS=ys.map prS)):=by
 unfold dJ.f
 by_cases h:xs.length=ys.length
 ·rw[if_pos (by omega)]
  exact EB xs ys h hx xs.length 0 _ (by omega) (by omega) (by omega)
 ·rw[if_neg (by omega),decide_eq_false (fun e=>h (by simpa using congrArg List.length e))]
def fE.f(l0 l1:List Rw):Option Bool:=some (decide (l0.map rQ=l1.map rQ))
theorem Ij(w:World)(cs ds:Array Value)(t:TypeId)(W:World)(h:((w.alloc (.cells cs t)).alloc (.cells ds t)).drew=W):W.heap[w.heap.size]?=some (.cells cs t (0,0))∧W.heap[w.heap.size+1]?=some (.cells ds t (0,0))∧Below w.heap.size w W:=by
 subst h;have h1:=bR w cs t;have h2:=bR (w.alloc (.cells cs t)) ds t;rw[World.size_alloc]at h2;have hb:Below w.heap.size w ((w.alloc (.cells cs t)).alloc (.cells ds t)):=((Below.refl _ w).alloc (Nat.le_refl _) _).alloc (by simp) _;have h3:=bg h1 ((Below.refl _ (w.alloc (.cells cs t))).alloc (Nat.le_refl _) (.cells ds t));exact⟨h3,h2,Go.Proofs.ah.aG.bU hb⟩
theorem tZ{a b:Bt}(h:a.data.toList=b.data.toList):a=b:=by
 obtain⟨x⟩:=a;obtain⟨y⟩:=b;have:x=y:=by simpa using h
 rw[this]
theorem fE.calls(A0:Option Addr)(c0:Nat)(l0:List Rw)(A1:Option Addr)(c1:Nat)(l1:List Rw)(r:Bool)(w:World)(hr0:k34.C w A0 l0.length l0)(hc0:l0.length≤c0)(hr1:k34.C w A1 l1.length l1)(hc1:l1.length≤c1)(h:fE.f l0 l1=some r):
 Calls Tryz.prog 22 #[.slice A0 l0.length c0,.slice A1 l1.length c1] w fun e w'=>e=.returned (.bool r)∧Below w.heap.size w w':=by
 have hd:decide (l0.map rQ=l1.map rQ)=r:=Option.some.inj h;clear h;have hxl:=hr0.2.1;have hyl:=hr1.2.1
 by_cases hlen:l0.length=l1.length
 case neg=>
  have e:decide (l0.map rQ=l1.map rQ)=false:=decide_eq_false (fun e=>hlen (by simpa using congrArg List.length e));obtain rfl:false=r:=e.symm.trans hd;clear hd e;have e1:((l0.length:Int)==(l1.length:Int))=false:=by rw[beq_eq_false_iff_ne];omega
  have e2:((l0.length:Int) !=(l1.length:Int))=true:=by rw[bne_iff_ne];omega
  go_enter Tryz.func22,Tryz.ntmps22;go_wp2;go_ret;exact⟨rfl,Below.refl _ _⟩
 replace hd:=Lib.hid hd;have hlb:((l0.length:Int)==(l1.length:Int))=true:=by rw[hlen,beq_self_eq_true]
 have hlb2:((l0.length:Int) !=(l1.length:Int))=false:=by rw[hlen,bne_self_eq_false]
 replace hlen:=Lib.hid hlen;go_enter Tryz.func22,Tryz.ntmps22;go_wp2
 go_loopw [5] (fun vi wr=>∃i:Nat,vi=.int .i64 i∧i≤l0.length∧Hid (decide ((l0.drop i).map rQ=(l1.drop i).map rQ)=r)∧Below w.heap.size w wr) (fun vi _=>l0.length - (intOf vi).toNat)
 case atStart=>exact⟨0,rfl,Nat.zero_le _,hd,Below.refl _ _⟩
 case round=>
  obtain⟨i,rfl,hi,hq,hB⟩:=hrel
  by_cases hlt:i<l0.length
  ·have hlt1:i<l1.length:=hlen.out▸hlt
   obtain⟨g,o,A4,c4,rfl,x0,x1,x2,x3,x4,lx,hax⟩:=row_at (Kd.bS hr0 hB) i hlt;obtain⟨g',o',A5,c5,rfl,y0,y1,y2,y3,y4,ly,hay⟩:=row_at (Kd.bS hr1 hB) i hlt1;rw[List.drop_eq_getElem_cons hlt,List.drop_eq_getElem_cons hlt1,List.map_cons,List.map_cons]at hq;generalize l0[i]=x at *;generalize l1[i]=y at *;obtain⟨xd,xk,xn,xt,xa⟩:=x;obtain⟨yd,yk,yn,yt,ya⟩:=y;simp only at x0 x1 x2 x3 x4 y0 y1 y2 y3 y4 lx ly hax hay;have hbd:Below wr.heap.size wr wr.drew:=Go.Proofs.ah.aG.bU (Below.refl _ _)
   have K:=Lib.hid (fun(W:World) (h:Below wr.heap.size wr W)=>show(W.cell? ⟨g,o+i * 5,none⟩=some (.int .i64 xd)∧W.cell? ⟨g,o+i * 5+1,none⟩=some (.int .i64 xk)∧W.cell? ⟨g,o+i * 5+2,none⟩=some (.string xn)∧W.cell? ⟨g,o+i * 5+3,none⟩=some (.string xt)∧W.cell? ⟨g,o+i * 5+4,none⟩=some (.slice A4 xa.length c4))∧W.cell? ⟨g',o'+i * 5,none⟩=some (.int .i64 yd)∧W.cell? ⟨g',o'+i * 5+1,none⟩=some (.int .i64 yk)∧W.cell? ⟨g',o'+i * 5+2,none⟩=some (.string yn)∧W.cell? ⟨g',o'+i * 5+3,none⟩=some (.string yt)∧W.cell? ⟨g',o'+i * 5+4,none⟩=some (.slice A5 ya.length c5)from⟨⟨dG x0 h,dG x1 h,dG x2 h,dG x3 h,dG x4 h⟩,dG y0 h,dG y1 h,dG y2 h,dG y3 h,dG y4 h⟩);go_wp2
   go_region_held3 (fun W=>(W.cell? ⟨g,o+i * 5,none⟩=some (.int .i64 xd)∧W.cell? ⟨g,o+i * 5+1,none⟩=some (.int .i64 xk)∧W.cell? ⟨g,o+i * 5+2,none⟩=some (.string xn)∧W.cell? ⟨g,o+i * 5+3,none⟩=some (.string xt)∧W.cell? ⟨g,o+i * 5+4,none⟩=some (.slice A4 xa.length c4))∧W.cell? ⟨g',o'+i * 5,none⟩=some (.int .i64 yd)∧W.cell? ⟨g',o'+i * 5+1,none⟩=some (.int .i64 yk)∧W.cell? ⟨g',o'+i * 5+2,none⟩=some (.string yn)∧W.cell? ⟨g',o'+i * 5+3,none⟩=some (.string yt)∧W.cell? ⟨g',o'+i * 5+4,none⟩=some (.slice A5 ya.length c5)) ((refine K.out _ ?_;repeat(first|with_reducible exact Below.refl _ _|with_reducible refine Go.Proofs.ah.aG.bU ?_ |(with_reducible refine Below.alloc ?_ (by first|exact Nat.le_refl _|(simp;done)|(simp;omega)) _)|(refine aW ?_ (by first|exact Nat.le_refl _|(simp;done)|(simp;omega)))))) (fail)
   all_goals(
    first
     |(generalize hW:World.drew (World.alloc (World.alloc wr (.cells #[.int .i64 xd,.int .i64 xk,.string xn,.string xt,.slice A4 xa.length c4] 34)) (.cells #[.int .i64 yd,.int .i64 yk,.string yn,.string yt,.slice A5 ya.length c5] 34))=W5;(fail_if_success (clear hW W5));obtain⟨hx,hy,hX⟩:=Ij wr _ _ _ _ hW)
     |(generalize hW:World.drew (World.alloc (World.alloc wr (.cells #[.int .i64 yd,.int .i64 yk,.string yn,.string yt,.slice A5 ya.length c5] 34)) (.cells #[.int .i64 xd,.int .i64 xk,.string xn,.string xt,.slice A4 xa.length c4] 34))=W5;(fail_if_success (clear hW W5));obtain⟨hy,hx,hX⟩:=Ij wr _ _ _ _ hW)
    clear hW K;obtain⟨⟨p0,p1,p2,p3,p4⟩,p5⟩:=bE hx;obtain⟨⟨q0,q1,q2,q3,q4⟩,q5⟩:=bE hy;have hX5:Below w.heap.size w W5:=hB.trans (hX.mono hB.size);have hat:=Lib.hid (dJ.calls (xa.length+1) A4 c4 xa A5 c5 ya _ W5 (Kd.bS hax hX) lx (Kd.bS hay hX) ly (GY xa ya hax.2.1));have hne:¬rQ ⟨xd,xk,xn,xt,xa⟩=rQ ⟨yd,yk,yn,yt,ya⟩→false=r:=fun e=>(decide_eq_false (fun h=>e (List.cons.inj h).1)).symm.trans hq
    by_cases e0:xd=yd
    case neg=>
     have f1:(xd==yd)=false:=beq_eq_false_iff_ne.mpr e0;have f2:(xd !=yd)=true:=bne_iff_ne.mpr e0;obtain rfl:=hne (fun h=>e0 (congrArg Rr.depth h));clear hne hq;go_wp2;go_ret;exact⟨rfl,hX5⟩
    subst e0
    by_cases e1:xk=yk
    case neg=>
     have f1:(xk==yk)=false:=beq_eq_false_iff_ne.mpr e1;have f2:(xk !=yk)=true:=bne_iff_ne.mpr e1;obtain rfl:=hne (fun h=>e1 (congrArg Rr.kind h));clear hne hq;go_wp2;go_ret;exact⟨rfl,hX5⟩
    subst e1
    by_cases e2:xn=yn
    case neg=>
     have f0:¬xn.toList=yn.toList:=fun h=>e2 (tZ ((Bz _ _).1 h))
     have f1:(xn.toList==yn.toList)=false:=beq_eq_false_iff_ne.mpr f0;have f2:(xn.toList !=yn.toList)=true:=bne_iff_ne.mpr f0;obtain rfl:=hne (fun h=>e2 (tZ (congrArg Rr.name h)));clear hne hq;go_wp2;go_ret;exact⟨rfl,hX5⟩
    subst e2
    by_cases e3:xt=yt
    case neg=>
     have f0:¬xt.toList=yt.toList:=fun h=>e3 (tZ ((Bz _ _).1 h))
     have f1:(xt.toList==yt.toList)=false:=beq_eq_false_iff_ne.mpr f0;have f2:(xt.toList !=yt.toList)=true:=bne_iff_ne.mpr f0;obtain rfl:=hne (fun h=>e3 (tZ (congrArg Rr.data h)));clear hne hq;go_wp2;go_ret;exact⟨rfl,hX5⟩
    subst e3
    by_cases e4:xa.map prS=ya.map prS
    case neg=>
     rw[decide_eq_false e4]at hat;obtain rfl:=hne (fun h=>e4 (congrArg Rr.attrs h));clear hne hq
     go_wp2_with(go_at_call 71;((with_reducible refine hat.out.mono ?_);rintro e W6 ⟨rfl,⟨nd,rfl⟩⟩))
     go_ret;exact⟨rfl,Go.Proofs.ah.aG.eP hX5 nd⟩
    rw[decide_eq_true e4]at hat;have hrow:rQ ⟨xd,xk,xn,xt,xa⟩=rQ ⟨xd,xk,xn,xt,ya⟩:=by simp only[rQ,e4]
    have hq2:Hid (decide ((l0.drop (i+1)).map rQ=(l1.drop (i+1)).map rQ)=r):=Lib.hid (by rw[←hq,hrow];simp);clear hq hne hrow
    go_wp2_with(go_at_call 71;((with_reducible refine hat.out.mono ?_);rintro e W6 ⟨rfl,⟨nd,rfl⟩⟩))
    exact⟨⟨i+1,rfl,by omega,hq2,Go.Proofs.ah.aG.eP hX5 nd⟩,by simp[intOf];omega⟩)
  ·obtain rfl:true=r:=by rw[←hq.out,List.drop_of_length_le (by omega),List.drop_of_length_le (by have:=hlen.out;omega)];rfl
   clear hd hq;go_wp2;go_ret;exact⟨rfl,hB⟩
abbrev z7:Bt:=⟨#[]⟩
abbrev sA:Bt:=⟨#[97]⟩
abbrev sB:Bt:=⟨#[98]⟩
abbrev sC:Bt:=⟨#[99]⟩
abbrev sUl:Bt:=⟨#[117,108]⟩
abbrev sLi:Bt:=⟨#[108,105]⟩
abbrev sTd:Bt:=⟨#[116,100]⟩
abbrev elR(d:Int)(a:Bt):Rw:=⟨d,0,a,z7,[]⟩
abbrev txR(d:Int)(a:Bt):Rw:=⟨d,1,z7,a,[]⟩
abbrev x1:List Rw:=[elR 0 pN,txR 1 sA,elR 0 pN,txR 1 sB]
abbrev x2:List Rw:=[elR 0 sUl,elR 1 sLi,txR 2 sA,elR 1 sLi,txR 2 sB,txR 0 sC]
abbrev x3:List Rw:=[elR 0 pN]
abbrev x4:List Rw:=[txR 0 ⟨#[97,99]⟩]
abbrev x5:List Rw:=[txR 0 ⟨#[97,60,98,62]⟩]
set_option maxRecDepth 100000
theorem v1:iK.f ⟨#[60,112,62,97,60,112,62,98]⟩=some (x1,0):=by kernel_rfl
theorem v2:iK.f ⟨#[60,117,108,62,60,108,105,62,97,60,108,105,62,98,60,47,117,108,62,99]⟩=some (x2,0):=by kernel_rfl
theorem v3:iK.f ⟨#[60,47,112,62]⟩=some (x3,0):=by kernel_rfl
theorem v4:iK.f ⟨#[97,60,47,98,62,99]⟩=some (x4,0):=by kernel_rfl
theorem v5:nP.f ⟨#[97,60,98,62]⟩ ⟨#[115,116,121,108,101]⟩=some (x5,0):=by kernel_rfl
theorem n1:ku.f 100 pN [pN,sB]=some false:=by kernel_rfl
theorem n2:ku.f 100 pN [pN,sTd]=some true:=by kernel_rfl
def nQ(xs:List Rw):List Value:=xs.flatMap fun x=>[.int .i64 x.f0,.int .i64 x.f1,.string x.f2,.string x.f3,.slice none 0 0]
theorem qE:∀xs:List Rw,(nQ xs).length=xs.length * 5
 | []=>rfl
 |x::xs=>by
  show([_,_,_,_,_]++nQ xs).length=_;rw[List.length_append,qE xs];simp;omega
theorem nilC7(W:World):k36.C W none 0 []:=⟨rfl,by omega,fun h=>by omega⟩
theorem xJ(W:World):∀xs:List Rw,(∀x∈xs,x.f4=[])→aY (k34.K W) 5 xs (nQ xs)
 | [],_=>aY.none _ _
 |⟨a,b,c,d,e⟩::xs,h=>by
  obtain rfl:e=[]:=h _ List.mem_cons_self;exact aY.c5 (k34_mk _ ⟨a,b,c,d,[]⟩ (Nat.le_refl _) (nilC7 _)) (xJ W xs (fun x hx=>h x (List.mem_cons_of_mem _ hx)))
theorem rP(w:World)(xs:List Rw)(h:∀x∈xs,x.f4=[])(hl:xs.length≤100):k34.C (w.alloc (.cells (nQ xs).toArray 34)) (some ⟨w.heap.size,0,none⟩) xs.length xs:=by
 have ho:(w.alloc (.cells (nQ xs).toArray 34)).ownsRow w.heap.size 34 5 (.slice (some ⟨w.heap.size,0,none⟩) xs.length xs.length) xs.length (nQ xs):=by
  refine⟨qE xs,.inr ⟨w.heap.size,xs.length,_,rfl,Nat.le_refl _,bR w _ _,Nat.le_refl _,by unfold maxLen;omega,?_,?_⟩⟩
  ·simp[qE]
  ·simp
   exact List.take_of_length_le (Nat.le_of_eq (qE xs))
 obtain⟨A,c,e,hC⟩:=o9 ho (xJ _ xs h) rfl;cases e;exact hC
theorem el_c(d:Int)(a:Bt)(w:World):Calls Tryz.prog 37 #[.int .i64 d,.string a] w fun e w'=>e=.returned (.agg #[.int .i64 d,.int .i64 0,.string a,.string z7,.slice none 0 0])∧Below w.heap.size w w':=by
 go_enter Tryz.func37,Tryz.ntmps37;go_wp2;refine bodyPost_ret (results_cell_row rfl _ _ w.heap.size 34 #[.int .i64 d,.int .i64 0,.string a,.string z7,.slice none 0 0] (0,0) _ rfl (bR w _ _) Tryz.underlying34 rfl (by kernel_rfl)) rfl ?_;exact⟨rfl,(Below.refl _ w).alloc (Nat.le_refl _) _⟩
theorem tx_c(d:Int)(a:Bt)(w:World):Calls Tryz.prog 29 #[.int .i64 d,.string a] w fun e w'=>e=.returned (.agg #[.int .i64 d,.int .i64 1,.string z7,.string a,.slice none 0 0])∧Below w.heap.size w w':=by
 go_enter Tryz.func29,Tryz.ntmps29;go_wp2;refine bodyPost_ret (results_cell_row rfl _ _ w.heap.size 34 #[.int .i64 d,.int .i64 1,.string z7,.string a,.slice none 0 0] (0,0) _ rfl (bR w _ _) Tryz.underlying34 rfl (by kernel_rfl)) rfl ?_;exact⟨rfl,(Below.refl _ w).alloc (Nat.le_refl _) _⟩
theorem nD(xs:List Rw):fE.f xs xs=some true:=by unfold fE.f;simp
abbrev o1:Obj:=.cells #[.int .i64 0,.int .i64 0,.string pN,.string z7,.slice none 0 0,.int .i64 1,.int .i64 1,.string z7,.string sA,.slice none 0 0,.int .i64 0,.int .i64 0,.string pN,.string z7,.slice none 0 0,.int .i64 1,.int .i64 1,.string z7,.string sB,.slice none 0 0] 34
theorem s1(A:Option Addr)(c:Nat)(w:World)(hC:k34.C w A x1.length x1)(hc:x1.length≤c):Calls Tryz.prog 22 #[.slice A 4 c,.slice (some ⟨w.heap.size,0,none⟩) 4 4] (w.alloc o1) fun e w'=>e=.returned (.bool true)∧Below w.heap.size w w':=by
 have h2:=rP w x1 (by simp) (by decide);rw[show(Obj.cells (nQ x1).toArray 34)=o1 from rfl]at h2;have h1:=Kd.iV hC o1;have hb:=(Below.refl _ w).alloc (Nat.le_refl _) o1;have hz:w.heap.size≤(w.alloc o1).heap.size:=hb.size;generalize w.alloc o1=W at *;exact(fE.calls A c x1 (some ⟨w.heap.size,0,none⟩) 4 x1 true W h1 hc h2 (by decide) (nD x1)).mono fun e w' ⟨h,hb0⟩=>⟨h,hb.trans (hb0.mono hz)⟩
abbrev o2:Obj:=.cells #[.int .i64 0,.int .i64 0,.string sUl,.string z7,.slice none 0 0,.int .i64 1,.int .i64 0,.string sLi,.string z7,.slice none 0 0,.int .i64 2,.int .i64 1,.string z7,.string sA,.slice none 0 0,.int .i64 1,.int .i64 0,.string sLi,.string z7,.slice none 0 0,.int .i64 2,.int .i64 1,.string z7,.string sB,.slice none 0 0,.int .i64 0,.int .i64 1,.string z7,.string sC,.slice none 0 0] 34
theorem s2(A:Option Addr)(c:Nat)(w:World)(hC:k34.C w A x2.length x2)(hc:x2.length≤c):Calls Tryz.prog 22 #[.slice A 6 c,.slice (some ⟨w.heap.size,0,none⟩) 6 6] (w.alloc o2) fun e w'=>e=.returned (.bool true)∧Below w.heap.size w w':=by
 have h2:=rP w x2 (by simp) (by decide);rw[show(Obj.cells (nQ x2).toArray 34)=o2 from rfl]at h2;have h1:=Kd.iV hC o2;have hb:=(Below.refl _ w).alloc (Nat.le_refl _) o2;have hz:w.heap.size≤(w.alloc o2).heap.size:=hb.size;generalize w.alloc o2=W at *;exact(fE.calls A c x2 (some ⟨w.heap.size,0,none⟩) 6 x2 true W h1 hc h2 (by decide) (nD x2)).mono fun e w' ⟨h,hb0⟩=>⟨h,hb.trans (hb0.mono hz)⟩
abbrev o3:Obj:=.cells #[.int .i64 0,.int .i64 0,.string pN,.string z7,.slice none 0 0] 34
theorem s3(A:Option Addr)(c:Nat)(w:World)(hC:k34.C w A x3.length x3)(hc:x3.length≤c):Calls Tryz.prog 22 #[.slice A 1 c,.slice (some ⟨w.heap.size,0,none⟩) 1 1] (w.alloc o3) fun e w'=>e=.returned (.bool true)∧Below w.heap.size w w':=by
 have h2:=rP w x3 (by simp) (by decide);rw[show(Obj.cells (nQ x3).toArray 34)=o3 from rfl]at h2;have h1:=Kd.iV hC o3;have hb:=(Below.refl _ w).alloc (Nat.le_refl _) o3;have hz:w.heap.size≤(w.alloc o3).heap.size:=hb.size;generalize w.alloc o3=W at *;exact(fE.calls A c x3 (some ⟨w.heap.size,0,none⟩) 1 x3 true W h1 hc h2 (by decide) (nD x3)).mono fun e w' ⟨h,hb0⟩=>⟨h,hb.trans (hb0.mono hz)⟩
abbrev o4:Obj:=.cells #[.int .i64 0,.int .i64 1,.string z7,.string ⟨#[97,99]⟩,.slice none 0 0] 34
theorem s4(A:Option Addr)(c:Nat)(w:World)(hC:k34.C w A x4.length x4)(hc:x4.length≤c):Calls Tryz.prog 22 #[.slice A 1 c,.slice (some ⟨w.heap.size,0,none⟩) 1 1] (w.alloc o4) fun e w'=>e=.returned (.bool true)∧Below w.heap.size w w':=by
 have h2:=rP w x4 (by simp) (by decide);rw[show(Obj.cells (nQ x4).toArray 34)=o4 from rfl]at h2;have h1:=Kd.iV hC o4;have hb:=(Below.refl _ w).alloc (Nat.le_refl _) o4;have hz:w.heap.size≤(w.alloc o4).heap.size:=hb.size;generalize w.alloc o4=W at *;exact(fE.calls A c x4 (some ⟨w.heap.size,0,none⟩) 1 x4 true W h1 hc h2 (by decide) (nD x4)).mono fun e w' ⟨h,hb0⟩=>⟨h,hb.trans (hb0.mono hz)⟩
abbrev o5:Obj:=.cells #[.int .i64 0,.int .i64 1,.string z7,.string ⟨#[97,60,98,62]⟩,.slice none 0 0] 34
theorem s5(A:Option Addr)(c:Nat)(w:World)(hC:k34.C w A x5.length x5)(hc:x5.length≤c):Calls Tryz.prog 22 #[.slice A 1 c,.slice (some ⟨w.heap.size,0,none⟩) 1 1] (w.alloc o5) fun e w'=>e=.returned (.bool true)∧Below w.heap.size w w':=by
 have h2:=rP w x5 (by simp) (by decide);rw[show(Obj.cells (nQ x5).toArray 34)=o5 from rfl]at h2;have h1:=Kd.iV hC o5;have hb:=(Below.refl _ w).alloc (Nat.le_refl _) o5;have hz:w.heap.size≤(w.alloc o5).heap.size:=hb.size;generalize w.alloc o5=W at *;exact(fE.calls A c x5 (some ⟨w.heap.size,0,none⟩) 1 x5 true W h1 hc h2 (by decide) (nD x5)).mono fun e w' ⟨h,hb0⟩=>⟨h,hb.trans (hb0.mono hz)⟩
theorem lit2(W:World)(a b:Bt):Kd.string.C (W.alloc (.cells #[.string a,.string b] 9)) (some ⟨W.heap.size,0,none⟩) 2 [a,b]:=by
 have ho:(W.alloc (.cells #[.string a,.string b] 9)).ownsRow W.heap.size 9 1 (.slice (some ⟨W.heap.size,0,none⟩) 2 2) 2 [.string a,.string b]:=⟨rfl,.inr ⟨W.heap.size,2,_,rfl,Nat.le_refl _,bR W _ _,Nat.le_refl _,by unfold maxLen;omega,rfl,rfl⟩⟩;have hr:aY (Kd.string.K (W.alloc (.cells #[.string a,.string b] 9))) 1 [a,b] [.string a,.string b]:=aY.one (show Kd.K Kd.string _ a _ from rfl) (aY.one (show Kd.K Kd.string _ b _ from rfl) (aY.none _ _));obtain⟨A,c,e,hC⟩:=o9 ho hr rfl;cases e;exact hC
theorem nest_c(b:Bt)(r:Bool)(h:ku.f 100 pN [pN,b]=some r)(w:World):Calls Tryz.prog 27 #[.string pN,.slice (some ⟨w.heap.size,0,none⟩) 2 2] (w.alloc (.cells #[.string pN,.string b] 9)) fun e w'=>e=.returned (.bool r)∧Below w.heap.size w w':=by
 have h2:=lit2 w pN b;have hb:=(Below.refl _ w).alloc (Nat.le_refl _) (.cells #[.string pN,.string b] 9);have hz:w.heap.size≤(w.alloc (.cells #[.string pN,.string b] 9)).heap.size:=hb.size;generalize w.alloc (.cells #[.string pN,.string b] 9)=W at *;exact(ku.calls 100 pN _ 2 [pN,b] r W h2 (Nat.le_refl 2) h).mono fun e w' ⟨h,hb0⟩=>⟨h,hb.trans (hb0.mono hz)⟩
end Go.Proofs.aj.W7
