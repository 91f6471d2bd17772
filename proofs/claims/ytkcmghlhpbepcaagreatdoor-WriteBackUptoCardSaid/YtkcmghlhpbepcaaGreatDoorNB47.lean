/- Lemmas and walks, part 47. -/
import Derived.Test.YtkcmghlhpbepcaaGreatDoorNB46
set_option linter.unusedVariables false
set_option linter.unusedSimpArgs false
set_option maxHeartbeats 8000000
set_option maxRecDepth 100000
namespace Go.Proofs.aj.W7
open Go.RowKit Go.Proofs Go.Proofs.YtkcmghlhpbepcaaGreatDoor Go.Proofs.ah.aD
theorem KC(xs ys:List S36)(hl:xs.length=ys.length)(hx:xs.length≤9223372036854775807):∀(d i k:Nat),xs.length - i≤d→i≤xs.length→d<k→
 dW.l0 k xs ys i=some (decide ((xs.drop i).map prS=(ys.drop i).map prS)):=by
 intro d
 induction d with
 |zero=>
  intro i k hd hi hk;obtain⟨k,rfl⟩:∃m,k=m+1:=⟨k - 1,by omega⟩
  simp only[dW.l0];rw[if_neg (by omega),List.drop_of_length_le (by omega),List.drop_of_length_le (by omega)];rfl
 |succ d ih=>
  intro i k hd hi hk;obtain⟨k,rfl⟩:∃m,k=m+1:=⟨k - 1,by omega⟩
  by_cases hlt:i<xs.length
  ·have hyi:i<ys.length:=by omega
   have ex:bq xs i=xs[i]:=by simp[bq,hlt]
   have ey:bq ys i=ys[i]:=by simp[bq,hyi]
   simp only[dW.l0];rw[if_pos (by omega),if_pos (by omega),if_pos (by omega),ex,ey,bytes_beq,bytes_beq,List.drop_eq_getElem_cons hlt,List.drop_eq_getElem_cons hyi,List.map_cons,List.map_cons]
   by_cases he:prS xs[i]=prS ys[i]
   ·have h1:(xs[i].f0.data.toList==ys[i].f0.data.toList)=true:=by rw[beq_iff_eq];exact congrArg Prod.fst he
    have h2:(xs[i].f1.data.toList==ys[i].f1.data.toList)=true:=by rw[beq_iff_eq];exact congrArg Prod.snd he
    rw[h1,h2];simp only[Bool.not_true,Bool.or_self,Bool.false_eq_true,if_false];rw[show wrap64 ((i:Int)+1)=((i+1:Nat):Int)from by rw[w64 (by omega) (by omega)];omega,ih (i+1) k (by omega) (by omega) (by omega),he]
    congr 1
    simp
   ·have h1:(!(xs[i].f0.data.toList==ys[i].f0.data.toList)|| !(xs[i].f1.data.toList==ys[i].f1.data.toList))=true:=by
     by_cases h2:xs[i].f0.data.toList=ys[i].f0.data.toList
     ·have h3:¬xs[i].f1.data.toList=ys[i].f1.data.toList:=fun h3=>he (by unfold prS;rw[h2,h3])
      rw[Bool.or_eq_true];exact .inr (by rw[Bool.not_eq_true',beq_eq_false_iff_ne];exact h3)
     ·rw[Bool.or_eq_true];exact .inl (by rw[Bool.not_eq_true',beq_eq_false_iff_ne];exact h2)
    rw[if_pos h1,decide_eq_false (fun e=>he (List.cons.inj e).1)]
  ·simp only[dW.l0]
   rw[if_neg (by omega),List.drop_of_length_le (by omega),List.drop_of_length_le (by omega)];rfl
theorem M0(xs ys:List S36)(hx:xs.length≤9223372036854775807):dW.f (xs.length+1) xs ys=some (decide (xs.map prS=ys.map prS)):=by
 unfold dW.f
 by_cases h:xs.length=ys.length
 ·rw[if_pos (by omega)]
  exact KC xs ys h hx xs.length 0 _ (by omega) (by omega) (by omega)
 ·rw[if_neg (by omega),decide_eq_false (fun e=>h (by simpa using congrArg List.length e))]
def fG.f(l0 l1:List Rw):Option Bool:=some (decide (l0.map mH=l1.map mH))
theorem Oa(w:World)(cs ds:Array Value)(t:TypeId)(W:World)(h:((w.alloc (.cells cs t)).alloc (.cells ds t)).drew=W):W.heap[w.heap.size]?=some (.cells cs t (0,0))∧W.heap[w.heap.size+1]?=some (.cells ds t (0,0))∧Below w.heap.size w W:=by
 subst h;have h1:=bR w cs t;have h2:=bR (w.alloc (.cells cs t)) ds t;rw[World.size_alloc]at h2;have hb:Below w.heap.size w ((w.alloc (.cells cs t)).alloc (.cells ds t)):=((Below.refl _ w).alloc (Nat.le_refl _) _).alloc (by simp) _;have h3:=aQ h1 ((Below.refl _ (w.alloc (.cells cs t))).alloc (Nat.le_refl _) (.cells ds t));exact⟨h3,h2,Go.Proofs.ah.aD.bX hb⟩
theorem zD{a b:Bt}(h:a.data.toList=b.data.toList):a=b:=by
 obtain⟨x⟩:=a;obtain⟨y⟩:=b;have:x=y:=by simpa using h
 rw[this]
theorem fG.calls(A0:Option Addr)(c0:Nat)(l0:List Rw)(A1:Option Addr)(c1:Nat)(l1:List Rw)(r:Bool)(w:World)(hr0:k34.C w A0 l0.length l0)(hc0:l0.length≤c0)(hr1:k34.C w A1 l1.length l1)(hc1:l1.length≤c1)(h:fG.f l0 l1=some r):
 Calls Tryz.prog 22 #[.slice A0 l0.length c0,.slice A1 l1.length c1] w fun e w'=>e=.returned (.bool r)∧Below w.heap.size w w':=by
 have hd:decide (l0.map mH=l1.map mH)=r:=Option.some.inj h;clear h;have hxl:=hr0.2.1;have hyl:=hr1.2.1
 by_cases hlen:l0.length=l1.length
 case neg=>
  have e:decide (l0.map mH=l1.map mH)=false:=decide_eq_false (fun e=>hlen (by simpa using congrArg List.length e));obtain rfl:false=r:=e.symm.trans hd;clear hd e;have e1:((l0.length:Int)==(l1.length:Int))=false:=by rw[beq_eq_false_iff_ne];omega
  have e2:((l0.length:Int) !=(l1.length:Int))=true:=by rw[bne_iff_ne];omega
  go_enter Tryz.func22,Tryz.ntmps22;go_wp2;go_ret;exact⟨rfl,Below.refl _ _⟩
 replace hd:=Lib.hid hd;have hlb:((l0.length:Int)==(l1.length:Int))=true:=by rw[hlen,beq_self_eq_true]
 have hlb2:((l0.length:Int) !=(l1.length:Int))=false:=by rw[hlen,bne_self_eq_false]
 replace hlen:=Lib.hid hlen;go_enter Tryz.func22,Tryz.ntmps22;go_wp2
 go_loopw [5] (fun vi wr=>∃i:Nat,vi=.int .i64 i∧i≤l0.length∧Hid (decide ((l0.drop i).map mH=(l1.drop i).map mH)=r)∧Below w.heap.size w wr) (fun vi _=>l0.length - (intOf vi).toNat)
 case atStart=>exact⟨0,rfl,Nat.zero_le _,hd,Below.refl _ _⟩
 case round=>
  obtain⟨i,rfl,hi,hq,hB⟩:=hrel
  by_cases hlt:i<l0.length
  ·have hlt1:i<l1.length:=hlen.out▸hlt
   obtain⟨g,o,A4,c4,rfl,x0,x1,x2,x3,x4,lx,hax⟩:=vI (Kd.eF hr0 hB) i hlt;obtain⟨g',o',A5,c5,rfl,y0,y1,y2,y3,y4,ly,hay⟩:=vI (Kd.eF hr1 hB) i hlt1;rw[List.drop_eq_getElem_cons hlt,List.drop_eq_getElem_cons hlt1,List.map_cons,List.map_cons]at hq;generalize l0[i]=x at *;generalize l1[i]=y at *;obtain⟨xd,xk,xn,xt,xa⟩:=x;obtain⟨yd,yk,yn,yt,ya⟩:=y;simp only at x0 x1 x2 x3 x4 y0 y1 y2 y3 y4 lx ly hax hay;have hbd:Below wr.heap.size wr wr.drew:=Go.Proofs.ah.aD.bX (Below.refl _ _)
   have K:=Lib.hid (fun(W:World) (h:Below wr.heap.size wr W)=>show(W.cell? ⟨g,o+i * 5,none⟩=some (.int .i64 xd)∧W.cell? ⟨g,o+i * 5+1,none⟩=some (.int .i64 xk)∧W.cell? ⟨g,o+i * 5+2,none⟩=some (.string xn)∧W.cell? ⟨g,o+i * 5+3,none⟩=some (.string xt)∧W.cell? ⟨g,o+i * 5+4,none⟩=some (.slice A4 xa.length c4))∧W.cell? ⟨g',o'+i * 5,none⟩=some (.int .i64 yd)∧W.cell? ⟨g',o'+i * 5+1,none⟩=some (.int .i64 yk)∧W.cell? ⟨g',o'+i * 5+2,none⟩=some (.string yn)∧W.cell? ⟨g',o'+i * 5+3,none⟩=some (.string yt)∧W.cell? ⟨g',o'+i * 5+4,none⟩=some (.slice A5 ya.length c5)from⟨⟨aV x0 h,aV x1 h,aV x2 h,aV x3 h,aV x4 h⟩,aV y0 h,aV y1 h,aV y2 h,aV y3 h,aV y4 h⟩);go_wp2
   go_region_held3 (fun W=>(W.cell? ⟨g,o+i * 5,none⟩=some (.int .i64 xd)∧W.cell? ⟨g,o+i * 5+1,none⟩=some (.int .i64 xk)∧W.cell? ⟨g,o+i * 5+2,none⟩=some (.string xn)∧W.cell? ⟨g,o+i * 5+3,none⟩=some (.string xt)∧W.cell? ⟨g,o+i * 5+4,none⟩=some (.slice A4 xa.length c4))∧W.cell? ⟨g',o'+i * 5,none⟩=some (.int .i64 yd)∧W.cell? ⟨g',o'+i * 5+1,none⟩=some (.int .i64 yk)∧W.cell? ⟨g',o'+i * 5+2,none⟩=some (.string yn)∧W.cell? ⟨g',o'+i * 5+3,none⟩=some (.string yt)∧W.cell? ⟨g',o'+i * 5+4,none⟩=some (.slice A5 ya.length c5)) ((refine K.out _ ?_;repeat(first|with_reducible exact Below.refl _ _|with_reducible refine Go.Proofs.ah.aD.bX ?_ |(with_reducible refine Below.alloc ?_ (by first|exact Nat.le_refl _|(simp;done)|(simp;omega)) _)|(refine aH ?_ (by first|exact Nat.le_refl _|(simp;done)|(simp;omega)))))) (fail)
   all_goals(
    first
     |(generalize hW:World.drew (World.alloc (World.alloc wr (.cells #[.int .i64 xd,.int .i64 xk,.string xn,.string xt,.slice A4 xa.length c4] 34)) (.cells #[.int .i64 yd,.int .i64 yk,.string yn,.string yt,.slice A5 ya.length c5] 34))=W5;(fail_if_success (clear hW W5));obtain⟨hx,hy,hX⟩:=Oa wr _ _ _ _ hW)
     |(generalize hW:World.drew (World.alloc (World.alloc wr (.cells #[.int .i64 yd,.int .i64 yk,.string yn,.string yt,.slice A5 ya.length c5] 34)) (.cells #[.int .i64 xd,.int .i64 xk,.string xn,.string xt,.slice A4 xa.length c4] 34))=W5;(fail_if_success (clear hW W5));obtain⟨hy,hx,hX⟩:=Oa wr _ _ _ _ hW)
    clear hW K;obtain⟨⟨p0,p1,p2,p3,p4⟩,p5⟩:=aW hx;obtain⟨⟨q0,q1,q2,q3,q4⟩,q5⟩:=aW hy;have hX5:Below w.heap.size w W5:=hB.trans (hX.mono hB.size);have hat:=Lib.hid (dW.calls (xa.length+1) A4 c4 xa A5 c5 ya _ W5 (Kd.eF hax hX) lx (Kd.eF hay hX) ly (M0 xa ya hax.2.1));have hne:¬mH ⟨xd,xk,xn,xt,xa⟩=mH ⟨yd,yk,yn,yt,ya⟩→false=r:=fun e=>(decide_eq_false (fun h=>e (List.cons.inj h).1)).symm.trans hq
    by_cases e0:xd=yd
    case neg=>
     have f1:(xd==yd)=false:=beq_eq_false_iff_ne.mpr e0;have f2:(xd !=yd)=true:=bne_iff_ne.mpr e0;obtain rfl:=hne (fun h=>e0 (congrArg Rr.depth h));clear hne hq;go_wp2;go_ret;exact⟨rfl,hX5⟩
    subst e0
    by_cases e1:xk=yk
    case neg=>
     have f1:(xk==yk)=false:=beq_eq_false_iff_ne.mpr e1;have f2:(xk !=yk)=true:=bne_iff_ne.mpr e1;obtain rfl:=hne (fun h=>e1 (congrArg Rr.kind h));clear hne hq;go_wp2;go_ret;exact⟨rfl,hX5⟩
    subst e1
    by_cases e2:xn=yn
    case neg=>
     have f0:¬xn.toList=yn.toList:=fun h=>e2 (zD ((qV _ _).1 h))
     have f1:(xn.toList==yn.toList)=false:=beq_eq_false_iff_ne.mpr f0;have f2:(xn.toList !=yn.toList)=true:=bne_iff_ne.mpr f0;obtain rfl:=hne (fun h=>e2 (zD (congrArg Rr.name h)));clear hne hq;go_wp2;go_ret;exact⟨rfl,hX5⟩
    subst e2
    by_cases e3:xt=yt
    case neg=>
     have f0:¬xt.toList=yt.toList:=fun h=>e3 (zD ((qV _ _).1 h))
     have f1:(xt.toList==yt.toList)=false:=beq_eq_false_iff_ne.mpr f0;have f2:(xt.toList !=yt.toList)=true:=bne_iff_ne.mpr f0;obtain rfl:=hne (fun h=>e3 (zD (congrArg Rr.data h)));clear hne hq;go_wp2;go_ret;exact⟨rfl,hX5⟩
    subst e3
    by_cases e4:xa.map prS=ya.map prS
    case neg=>
     rw[decide_eq_false e4]at hat;obtain rfl:=hne (fun h=>e4 (congrArg Rr.attrs h));clear hne hq
     go_wp2_with(go_at_call 71;((with_reducible refine hat.out.mono ?_);rintro e W6 ⟨rfl,⟨nd,rfl⟩⟩))
     go_ret;exact⟨rfl,Go.Proofs.ah.aD.bE hX5 nd⟩
    rw[decide_eq_true e4]at hat;have hrow:mH ⟨xd,xk,xn,xt,xa⟩=mH ⟨xd,xk,xn,xt,ya⟩:=by simp only[mH,e4]
    have hq2:Hid (decide ((l0.drop (i+1)).map mH=(l1.drop (i+1)).map mH)=r):=Lib.hid (by rw[←hq,hrow];simp);clear hq hne hrow
    go_wp2_with(go_at_call 71;((with_reducible refine hat.out.mono ?_);rintro e W6 ⟨rfl,⟨nd,rfl⟩⟩))
    exact⟨⟨i+1,rfl,by omega,hq2,Go.Proofs.ah.aD.bE hX5 nd⟩,by simp[intOf];omega⟩)
  ·obtain rfl:true=r:=by rw[←hq.out,List.drop_of_length_le (by omega),List.drop_of_length_le (by have:=hlen.out;omega)];rfl
   clear hd hq;go_wp2;go_ret;exact⟨rfl,hB⟩
end Go.Proofs.aj.W7
namespace Go.Proofs.aj.W7
open Go.RowKit Go.Proofs.ah.aD Go.Proofs.ah.bJ Go.Proofs.ah.bW
attribute [local go_sem] dB dD dR dS bZ cu dF dG
def pG.f(a0 a1:Bt):Option ((List (S34))):=some (([(⟨0,0,a0,(⟨#[]⟩:Bt),([] :List (S36))⟩:S34),(⟨1,1,(⟨#[]⟩:Bt),a1,([] :List (S36))⟩:S34)] :List (S34)))
theorem pG.calls(a0 a1:Bt)(r:List (S34))(w:World)(h:pG.f a0 a1=some r):
 Calls Tryz.prog 46 #[.string a0,.string a1] w fun e w'=>∃v0_:Value,e=.returned (v0_)∧Kd.R k34 34 w' w.heap.size (fun _=>True) v0_ r∧Below w.heap.size w w':=by
 have hu34:=Tryz.underlying34;have HB:=ak.mk (Below.refl w.heap.size w);have H:(some (([(⟨0,0,a0,(⟨#[]⟩:Bt),([] :List (S36))⟩:S34),(⟨1,1,(⟨#[]⟩:Bt),a1,([] :List (S36))⟩:S34)] :List (S34))))=some r:=h;clear h;obtain⟨y593,Lg⟩:∃y_:List (S34),y_=(([(⟨0,0,a0,(⟨#[]⟩:Bt),([] :List (S36))⟩:S34),(⟨1,1,(⟨#[]⟩:Bt),a1,([] :List (S36))⟩:S34)] :List (S34))):=⟨_,rfl⟩
 replace H:(some y593)=some r:=by first|(rw[Lg];with_reducible exact H)|(have H2_:=(Option.bind_some _ _).symm.trans H;rw[Lg];with_reducible exact H2_)|(have H2_:=(Option.bind_some _ _).symm.trans H;with_reducible exact H2_)|with_reducible exact H|(rw[Lg];exact H)|exact H
 have Ny593:=ak.mk Lg;clear Lg;obtain rfl:=Option.some.inj H;go_enter Tryz.func46,Tryz.ntmps46
 go_wp2_with(first|((with_reducible refine cO (N:=9) rfl ?_);refine Kd.jR k34 _ 34 ?hg (N:=9) ?hd (xs:=([(⟨0,0,a0,(⟨#[]⟩:Bt),([] :List (S36))⟩:S34),(⟨1,1,(⟨#[]⟩:Bt),a1,([] :List (S36))⟩:S34)] :List (S34))) (inner:=[.int .i64 0,.int .i64 0,.string a0,.string (⟨#[]⟩:Bt),.slice none 0 0,.int .i64 1,.int .i64 1,.string (⟨#[]⟩:Bt),.string a1,.slice none 0 0]) (ok:=fun _=>True) (okp:=fun _=>True) ?hr ?hp (fun _ hk=>hk) trivial (Below.refl _ _) (Nat.le_refl _) (by simp) ?_;(case hd=>rfl);(case hg=>rfl);(case hr=>first|(go_simp;done)|(go_simp;rfl));(case hp=>exact(bM.c5 (show Kd.M k34 _ _ _ (⟨0,0,a0,(⟨#[]⟩:Bt),([] :List (S36))⟩:S34) [.int .i64 0,.int .i64 0,.string a0,.string (⟨#[]⟩:Bt),.slice none 0 0]from(yE _ _ _ (⟨0,0,a0,(⟨#[]⟩:Bt),([] :List (S36))⟩:S34) (Kd.nI _ _ _ _ _))) (bM.c5 (show Kd.M k34 _ _ _ (⟨1,1,(⟨#[]⟩:Bt),a1,([] :List (S36))⟩:S34) [.int .i64 1,.int .i64 1,.string (⟨#[]⟩:Bt),.string a1,.slice none 0 0]from(yE _ _ _ (⟨1,1,(⟨#[]⟩:Bt),a1,([] :List (S36))⟩:S34) (Kd.nI _ _ _ _ _))) (bM.none _ _))));intro v594 w3 ho4 hb hg_ fJ;clear hg_ fJ;(first|rw[←Ny593.out]at ho4|(simp only[Int.reduceToNat]at ho4;rw[←Ny593.out]at ho4));have HO595:=ak.mk (Kd.eB ho4 (aR bz));replace HB:=ak.mk (aG bz hb);clear hb ho4))
 go_ret;exact⟨_,by first|rfl|(simp[aJ,aM]<;>rfl)|(simp[*,aJ,aM]<;>rfl),by(with_reducible repeat(first|apply Kd.fu|apply Kd.fV|apply Kd.fH));exact HO595.out,bz⟩
end Go.Proofs.aj.W7
namespace Go.Proofs.aj.W7
open Go.RowKit Go.Proofs Go.Proofs.YtkcmghlhpbepcaaGreatDoor Go.Proofs.ah.aD
abbrev aP:Bt:=⟨#[112]⟩
abbrev aS:Bt:=⟨#[115,99,114,105,112,116]⟩
abbrev aAB:Bt:=⟨#[97,60,98]⟩
abbrev aASB:Bt:=⟨#[97,60,47,98]⟩
abbrev aBR:Bt:=⟨#[98,114]⟩
abbrev aA:Bt:=⟨#[97]⟩
abbrev a0:Bt:=⟨#[]⟩
def oneR(a b:Bt):List Rw:=[⟨0,0,a,a0,[]⟩,⟨1,1,a0,b,[]⟩]
def ppR:List Rw:=[⟨0,0,aP,a0,[]⟩,⟨1,0,aP,a0,[]⟩]
def brR:List Rw:=[⟨0,0,aBR,a0,[⟨aA,⟨#[34]⟩⟩]⟩,⟨0,2,a0,⟨#[99]⟩,[]⟩]
theorem f1:gU.f (oneR aP aAB)=some ⟨#[60,112,62,97,38,108,116,59,98,60,47,112,62]⟩:=by kernel_rfl
theorem f2:gU.f (oneR aS aAB)=some ⟨#[60,115,99,114,105,112,116,62,97,60,98,60,47,115,99,114,105,112,116,62]⟩:=by kernel_rfl
theorem f3:qM.f 100 (oneR aP aAB) 0=some ⟨#[97,38,108,116,59,98]⟩:=by kernel_rfl
theorem f4:gU.f brR=some ⟨#[60,98,114,32,97,61,34,38,113,117,111,116,59,34,62,60,33,45,45,99,45,45,62]⟩:=by kernel_rfl
theorem g1:bF.f 200 (oneR aP aAB)=some true:=by kernel_rfl
theorem g2:bF.f 200 (oneR aS aAB)=some true:=by kernel_rfl
theorem g3:bF.f 200 (oneR aS aASB)=some false:=by kernel_rfl
theorem g4:bF.f 200 ppR=some false:=by kernel_rfl
theorem g5:bF.f 200 (oneR aBR aA)=some false:=by kernel_rfl
theorem one_c(a b:Bt)(w:World):Calls Tryz.prog 46 #[.string a,.string b] w fun e w'=>∃A c,e=.returned (.slice A 2 c)∧2≤c∧k34.C w' A 2 (oneR a b)∧Below w.heap.size w w':=by
 refine(pG.calls a b (oneR a b) w rfl).mono ?_;rintro e w' ⟨v,rfl,hR,hb⟩;obtain⟨A,c,rfl,hc,hC⟩:=Kd.Dt hR;exact⟨A,c,rfl,hc,hC,hb⟩
abbrev ppO:Obj:=.cells #[.int .i64 0,.int .i64 0,.string aP,.string a0,.slice none 0 0,.int .i64 1,.int .i64 0,.string aP,.string a0,.slice none 0 0] 34
abbrev brA:Obj:=.cells #[.string aA,.string ⟨#[34]⟩] 36
abbrev brO(b:Nat):Obj:=.cells #[.int .i64 0,.int .i64 0,.string aBR,.string a0,.slice (some ⟨b,0,none⟩) 1 1,.int .i64 0,.int .i64 2,.string a0,.string ⟨#[99]⟩,.slice none 0 0] 34
theorem nilC(W:World):k36.C W none 0 []:=⟨rfl,by omega,fun h=>by omega⟩
abbrev ppV:List Value:=[.int .i64 0,.int .i64 0,.string aP,.string a0,.slice none 0 0,.int .i64 1,.int .i64 0,.string aP,.string a0,.slice none 0 0]
theorem pp_C(w:World):k34.C (w.alloc ppO) (some ⟨w.heap.size,0,none⟩) 2 ppR:=by
 have ho:(w.alloc ppO).ownsRow w.heap.size 34 5 (.slice (some ⟨w.heap.size,0,none⟩) 2 2) 2 ppV:=⟨rfl,.inr ⟨w.heap.size,2,_,rfl,Nat.le_refl _,bR w _ _,Nat.le_refl _,by unfold maxLen;omega,rfl,rfl⟩⟩;have hr:bM (k34.K (w.alloc ppO)) 5 ppR ppV:=bM.c5 (Es _ ⟨0,0,aP,a0,[]⟩ (Nat.le_refl _) (nilC _)) (bM.c5 (Es _ ⟨1,0,aP,a0,[]⟩ (Nat.le_refl _) (nilC _)) (bM.none _ _));obtain⟨A,c,e,h⟩:=qb ho hr rfl;cases e;exact h
abbrev brV(b:Nat):List Value:=[.int .i64 0,.int .i64 0,.string aBR,.string a0,.slice (some ⟨b,0,none⟩) 1 1,.int .i64 0,.int .i64 2,.string a0,.string ⟨#[99]⟩,.slice none 0 0]
theorem at_C(w:World):k36.C (w.alloc brA) (some ⟨w.heap.size,0,none⟩) 1 [⟨aA,⟨#[34]⟩⟩]:=by
 have ho:(w.alloc brA).ownsRow w.heap.size 36 2 (.slice (some ⟨w.heap.size,0,none⟩) 1 1) 1 [.string aA,.string ⟨#[34]⟩]:=⟨rfl,.inr ⟨w.heap.size,1,_,rfl,Nat.le_refl _,bR w _ _,Nat.le_refl _,by unfold maxLen;omega,rfl,rfl⟩⟩;have hr:bM (k36.K (w.alloc brA)) 2 [(⟨aA,⟨#[34]⟩⟩:S36)] [.string aA,.string ⟨#[34]⟩]:=bM.c2 (k36_mk _ ⟨aA,⟨#[34]⟩⟩) (bM.none _ _);obtain⟨A,c,e,h⟩:=qb ho hr rfl;cases e;exact h
theorem br_C(w:World):k34.C ((w.alloc brA).alloc (brO w.heap.size)) (some ⟨w.heap.size+1,0,none⟩) 2 brR:=by
 have hn:=bR (w.alloc brA) #[.int .i64 0,.int .i64 0,.string aBR,.string a0,.slice (some ⟨w.heap.size,0,none⟩) 1 1,.int .i64 0,.int .i64 2,.string a0,.string ⟨#[99]⟩,.slice none 0 0] 34;rw[World.size_alloc]at hn;have ho:((w.alloc brA).alloc (brO w.heap.size)).ownsRow 0 34 5 (.slice (some ⟨w.heap.size+1,0,none⟩) 2 2) 2 (brV w.heap.size):=⟨rfl,.inr ⟨w.heap.size+1,2,_,rfl,Nat.zero_le _,hn,Nat.le_refl _,by unfold maxLen;omega,rfl,rfl⟩⟩;have hr:bM (k34.K ((w.alloc brA).alloc (brO w.heap.size))) 5 brR (brV w.heap.size):=bM.c5 (Es _ ⟨0,0,aBR,a0,[⟨aA,⟨#[34]⟩⟩]⟩ (Nat.le_refl _) (Kd.mg (at_C w) _)) (bM.c5 (Es _ ⟨0,2,a0,⟨#[99]⟩,[]⟩ (Nat.le_refl _) (nilC _)) (bM.none _ _));obtain⟨A,c,e,h⟩:=qb ho hr rfl;cases e;exact h
theorem fixed_c(w:World)(hS:Er w):Calls Tryz.prog 16 #[] w fun e w'=>e=.returned (.bool true)∧Below w.heap.size w w':=by
 have hpp:=pp_C w;have HB:=(Below.refl w.heap.size w).alloc (Nat.le_refl _) ppO;have HP:=Below.refl (w.alloc ppO).heap.size (w.alloc ppO);go_enter Tryz.func16,Tryz.ntmps16
 go_wp2_with(first
  |(go_at_call 46;((with_reducible refine(one_c _ _ _).mono ?_);rintro e w1 ⟨A1,c1,rfl,hc1,hC1,hb1⟩;have HBn:=Go.Proofs.YtkcmghlhpbepcaaGreatDoor.bD HB HB.size hb1;have HPn:=Go.Proofs.YtkcmghlhpbepcaaGreatDoor.bD HP HP.size hb1;clear HB HP;have HB:=HBn;have HP:=HPn;clear HBn HPn))
  |(go_at_call 42;((first|refine(gU.calls A1 c1 _ _ _ hC1 hc1 f1 (hS.below HB)).mono ?_ |refine(gU.calls A1 c1 _ _ _ hC1 hc1 f2 (hS.below HB)).mono ?_);rintro e w2 ⟨rfl,hb2⟩;have HBn:=Go.Proofs.YtkcmghlhpbepcaaGreatDoor.bD HB HB.size hb2;have HPn:=Go.Proofs.YtkcmghlhpbepcaaGreatDoor.bD HP HP.size hb2;clear HB HP;have HB:=HBn;have HP:=HPn;clear HBn HPn))
  |(go_at_call 43;((refine(qM.calls 100 A1 c1 _ 0 _ _ hC1 hc1 f3 (hS.below HB)).mono ?_);rintro e w3 ⟨rfl,hb3⟩;have HBn:=Go.Proofs.YtkcmghlhpbepcaaGreatDoor.bD HB HB.size hb3;have HPn:=Go.Proofs.YtkcmghlhpbepcaaGreatDoor.bD HP HP.size hb3;clear HB HP;have HB:=HBn;have HP:=HPn;clear HBn HPn))
  |(go_at_call 42;(have HBm:=(HB.alloc HB.size brA).alloc (by rw[World.size_alloc];exact Nat.le_succ_of_le HB.size) (brO w3.heap.size);have HPm:=(HP.alloc HP.size brA).alloc (Nat.le_trans HP.size (by rw[World.size_alloc w3];exact Nat.le_succ _)) (brO w3.heap.size);(refine(gU.calls (some ⟨w3.heap.size+1,0,none⟩) 2 brR _ _ (br_C w3) (by decide) f4 (hS.below HBm)).mono ?_);rintro e w4 ⟨rfl,hb4⟩;have HBn:=Go.Proofs.YtkcmghlhpbepcaaGreatDoor.bD HBm HBm.size hb4;have HPn:=Go.Proofs.YtkcmghlhpbepcaaGreatDoor.bD HPm HPm.size hb4;clear HB HP HBm HPm;have HB:=HBn;have HP:=HPn;clear HBn HPn))
  |(go_at_call 17;((first|refine(bF.calls 200 A1 c1 _ _ _ hC1 hc1 g1 (hS.below HB)).mono ?_ |refine(bF.calls 200 A1 c1 _ _ _ hC1 hc1 g2 (hS.below HB)).mono ?_ |refine(bF.calls 200 A1 c1 _ _ _ hC1 hc1 g3 (hS.below HB)).mono ?_ |refine(bF.calls 200 A1 c1 _ _ _ hC1 hc1 g5 (hS.below HB)).mono ?_ |refine(bF.calls 200 (some ⟨w.heap.size,0,none⟩) 2 _ _ _ (Kd.eF hpp HP) (by decide) g4 (hS.below HB)).mono ?_);rintro e w5 ⟨rfl,hb5⟩;have HBn:=Go.Proofs.YtkcmghlhpbepcaaGreatDoor.bD HB HB.size hb5;have HPn:=Go.Proofs.YtkcmghlhpbepcaaGreatDoor.bD HP HP.size hb5;clear HB HP;have HB:=HBn;have HP:=HPn;clear HBn HPn)))
 go_ret;exact⟨rfl,HB⟩
def bS.f:Option Bool:=some true
theorem bS.calls(r:Bool)(w:World)(h:bS.f=some r)(hS_:Er w):Calls Tryz.prog 16 #[] w fun e w'=>e=.returned (.bool r)∧Below w.heap.size w w':=by
 obtain rfl:=Option.some.inj h;exact fixed_c w hS_
end Go.Proofs.aj.W7
