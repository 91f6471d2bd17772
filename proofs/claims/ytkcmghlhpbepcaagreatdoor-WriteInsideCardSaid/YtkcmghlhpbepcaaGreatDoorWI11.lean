/- Lemmas and walks, part 11. -/
import Derived.Test.YtkcmghlhpbepcaaGreatDoorWI10
set_option linter.unusedVariables false
set_option linter.unusedSimpArgs false
set_option maxHeartbeats 8000000
set_option maxRecDepth 100000
namespace Go.Proofs.aj.W7
open Go.RowKit Go.Proofs YtkcmghlhpbepcaaGreatDoor ah.aD
def BN(outs:List Rw)(x:Rw):Option (List Rw):=
 if x.f1=1∧x.f3.data.toList=[]then some outs
 else if x.f1=1∧0<outs.length∧(au outs ((outs.length:Int) - 1)).f1=1∧(au outs ((outs.length:Int) - 1)).f0=x.f0 then
  if(au outs ((outs.length:Int) - 1)).f3.size+x.f3.size≤9223372036854775807 then
   some (outs.set (outs.length - 1) ⟨(au outs ((outs.length:Int) - 1)).f0,(au outs ((outs.length:Int) - 1)).f1,(au outs ((outs.length:Int) - 1)).f2,(au outs ((outs.length:Int) - 1)).f3++x.f3,(au outs ((outs.length:Int) - 1)).f4⟩)
  else none
 else if outs.length<1000000000000 then some (outs++[x])else none
def wT:List Rw→List Rw→Option (List Rw)
 |outs,[]=>some outs
 |outs,x::xs=>(BN outs x).bind fun o=>wT o xs
def kD.f(l0:List Rw):Option (List Rw):=(jf.f (l0.length+1) l0 0).bind fun ms=>wT [] ms
theorem nR(w:World)(o:Obj):(w.alloc o).drew=w.drew.alloc o:=rfl
theorem tZ{v v1:Value}{n m:Nat}(h:∀k,v.ownBlock=some k→n≤k)(hat:v1.ownBlock=v.ownBlock∨∃b,v1.ownBlock=some b∧m≤b)(hm:n≤m):∀k,v1.ownBlock=some k→n≤k:=by
 intro k hk
 rcases hat with e|⟨b,e,hb⟩
 ·exact h k (e▸hk)
 ·rw[e]at hk
  cases hk;omega
theorem kD.calls(A:Option Addr)(c:Nat)(xs res:List Rw)(w:World)(hr:k34.C w A xs.length xs)(hcap:xs.length≤c)(h:kD.f xs=some res):
 Calls Tryz.prog 41 #[.slice A xs.length c] w fun e w'=>∃v0_:Value,e=.returned (v0_)∧Kd.R k34 34 w' w.heap.size (fun _=>True) v0_ res∧Below w.heap.size w w':=by
 unfold kD.f at h;obtain⟨ms,hms,h⟩:=Option.bind_eq_some_iff.1 h;have hmv:=Lib.hid (jf.calls (xs.length+1) A c xs 0 ms w hr hcap hms);clear hms;replace h:=Lib.hid h;go_enter Tryz.func41,Tryz.ntmps41
 go_wp2_with(go_at_call 89;((with_reducible refine hmv.out.mono ?_);rintro e w1 ⟨vm,rfl,hm,hb1⟩;obtain⟨A1,c1,rfl⟩:=Kd.cK hm))
 have hml:=(Kd.bg hm).2.2.2.1
 go_loopw [3,10] (fun vo vi wr=>∃(i:Nat) (outs:List Rw),vi=.int .i64 i∧i≤ms.length∧Hid (wT outs (ms.drop i)=some res)∧Kd.R k34 34 wr w.heap.size (fun _=>True) vo outs∧Below w1.heap.size w1 wr∧Hid (∀k,vo.ownBlock=some k→w1.heap.size≤k)) (fun _ vi _=>ms.length - (intOf vi).toNat)
 case atStart=>exact⟨0,[],rfl,Nat.zero_le _,h.out,Kd.oz _ _ _ _ _,Below.refl _ _,fun k hk=>by simp[Value.ownBlock]at hk⟩
 case round=>
  obtain⟨i,outs,rfl,hi,hrest,hO,hB,hown⟩:=hrel;obtain⟨A2,c2,rfl⟩:=Kd.cK hO;have hol:=(Kd.bg hO).2.2.2.1;have hbw:=hb1.size;have hbz:=hB.size
  by_cases hlt:i<ms.length
  ·obtain⟨gm,capm,hv,-,-,-⟩:=Kd.Gp hm (by omega)
   simp only[Value.slice.injEq,true_and]at hv;obtain⟨rfl,rfl⟩:=hv;obtain⟨cs,hcl,hM,hcell,hfz⟩:=Kd.Kq hm (⟨0,0,⟨#[]⟩,⟨#[]⟩,[]⟩:Rw) i (by omega) (by omega);have hgd:ms.getD (i:Int).toNat (⟨0,0,⟨#[]⟩,⟨#[]⟩,[]⟩:Rw)=ms[i]:=by simp[hlt]
   rw[hgd]at hM;have Kv:=hrest.out;rw[List.drop_eq_getElem_cons hlt]at Kv;simp only[wT]at Kv;obtain⟨o2,hst,hre⟩:=Option.bind_eq_some_iff.1 Kv;clear hrest hgd hfz Kv;generalize ms[i]=x at *;obtain⟨v4,rfl,hv4⟩:=kI hM;obtain⟨A4,c4,rfl⟩:=Kd.cK hv4;have z0:=aV (hcell 0 _ rfl) hB;have z1:=aV (hcell 1 _ rfl) hB;have z2:=aV (hcell 2 _ rfl) hB;have z3:=aV (hcell 3 _ rfl) hB;have z4:=aV (hcell 4 _ rfl) hB;change wr.cell? ⟨gm,i * 5,none⟩=_ at z0;change wr.cell? ⟨gm,i * 5+1,none⟩=_ at z1;change wr.cell? ⟨gm,i * 5+2,none⟩=_ at z2;change wr.cell? ⟨gm,i * 5+3,none⟩=_ at z3;change wr.cell? ⟨gm,i * 5+4,none⟩=_ at z4;have hrest3:=Lib.hid hre;clear hcell hcl hre;obtain⟨xd,xk,xn,xt,xa⟩:=x;simp only at z0 z1 z2 z3 z4;have hnt:=bP wr #[.int .i64 xd,.int .i64 xk,.string xn,.string xt,.slice A4 xa.length c4] 34;obtain⟨⟨p0,p1,p2,p3,p4⟩,p5⟩:=aW hnt;have hBA:=hB.alloc hbz (.cells #[.int .i64 xd,.int .i64 xk,.string xn,.string xt,.slice A4 xa.length c4] 34);have hOA:=Kd.eZ hO (.cells #[.int .i64 xd,.int .i64 xk,.string xn,.string xt,.slice A4 xa.length c4] 34)
   have hsA:w.heap.size≤(wr.alloc (.cells #[.int .i64 xd,.int .i64 xk,.string xn,.string xt,.slice A4 xa.length c4] 34)).heap.size:=by rw[World.size_alloc];omega
   have hsB:w1.heap.size≤(wr.alloc (.cells #[.int .i64 xd,.int .i64 xk,.string xn,.string xt,.slice A4 xa.length c4] 34)).heap.size:=by rw[World.size_alloc];omega
   have hMp:=Kd.jI k34 (ok':=fun k=>k<w1.heap.size) (fun k hk=>hk.2.2.1) (Kd.jV k34 hM);have hsz1:(wr.alloc (.cells #[.int .i64 xd,.int .i64 xk,.string xn,.string xt,.slice A4 xa.length c4] 34)).heap.size=wr.heap.size+1:=World.size_alloc _ _;unfold BN at hst
   by_cases hA:xk=1∧xt.data.toList=[]
   ·rw[if_pos hA]at hst
    obtain rfl:=Option.some.inj hst;obtain⟨rfl,hxt⟩:=hA
    obtain rfl:xt=⟨#[]⟩:=by
     obtain⟨d⟩:=xt;simpa using hxt
    clear hst;go_wp2;exact⟨⟨i+1,outs,rfl,by omega,hrest3,hOA,hBA,hown⟩,by simp[intOf];omega⟩
   ·rw[if_neg hA]at hst
    have hne:xk=1→¬xt.data.toList=[]:=fun e1 e2=>hA ⟨e1,e2⟩
    clear hA;have hne1:xk=1→(xt.toList==[])=false:=fun e1=>by rw[beq_eq_false_iff_ne,Lib.toList_data];exact hne e1
    by_cases hk1:xk=1
    ·have hx1:=hne1 hk1
     have hx2:¬xt.toList=[]:=by rw[Lib.toList_data];exact hne hk1
     subst hk1
     by_cases hn0:0<outs.length
     ·obtain⟨go,capo,hv,-,-,-⟩:=Kd.Gp hO hn0
      simp only[Value.slice.injEq,true_and]at hv;obtain⟨rfl,rfl⟩:=hv;obtain⟨m,hm1⟩:∃m,outs.length=m+1:=⟨outs.length - 1,by omega⟩
      obtain⟨cs,hcl,hMo,wR,hfzo⟩:=Kd.Kq hOA (⟨0,0,⟨#[]⟩,⟨#[]⟩,[]⟩:Rw) (m:Int) (by omega) (by omega);have hgd:outs.getD (m:Int).toNat (⟨0,0,⟨#[]⟩,⟨#[]⟩,[]⟩:Rw)=outs[m]:=by simp[show m<outs.length by omega]
      have hrd:au outs ((outs.length:Int) - 1)=outs[m]:=by
       rw[show(outs.length:Int) - 1=(m:Int)from by omega];simp[au,show m<outs.length by omega]
      rw[hgd]at hMo;rw[hrd,show outs.length - 1=m from by omega]at hst;generalize outs[m]=y at *;obtain⟨w4,rfl,hw4⟩:=kI hMo;have y0:=wR 0 _ rfl;have y1:=wR 1 _ rfl;have y3:=wR 3 _ rfl;have f3:=hfzo 3;change World.cell? _ ⟨go,m * 5,none⟩=_ at y0;change World.cell? _ ⟨go,m * 5+1,none⟩=_ at y1;change World.cell? _ ⟨go,m * 5+3,none⟩=_ at y3;change World.frozen? _ ⟨go,m * 5+3,none⟩=_ at f3;obtain⟨yd,yk,yn,yt,ya⟩:=y;simp only at y0 y1 y3
      by_cases hB1:yk=1∧yd=xd
      ·rw[if_pos ⟨rfl,hn0,hB1⟩]at hst
       obtain⟨rfl,rfl⟩:=hB1;have hcx:¬xt=⟨#[]⟩:=fun e=>hx2 (by rw[Lib.toList_data,e])
       clear hne hne1;rw[hm1];go_wp2
       first
        |go_region
        |skip
       by_cases hsz:yt.size+xt.size≤9223372036854775807
       ·rw[if_pos hsz]at hst
        obtain rfl:=Option.some.inj hst;have a1:decide (yt.size+xt.size≤9223372036854775807)=true:=decide_eq_true hsz;have a2:(9223372036854775807<yt.size+xt.size)=False:=eq_false (by omega);clear hst;go_wp2
        first
         |go_region
         |skip
        go_wp2;have hge:=hown.out go (by simp[Value.ownBlock]);have hS:=(Kd.R_seg hOA (m:Int) (by omega) (by omega) (c:=[.int .i64 yd,.int .i64 1,.string yn,.string yt,w4]) (seg:=[.string (yt++xt)]) (j:=3) hcl wR (by show 3+1≤5;omega) (x':=(⟨yd,1,yn,yt++xt,ya⟩:Rw)) (okp:=fun k=>True∧k≠go) (wP _ _ _ (⟨yd,1,yn,yt++xt,ya⟩:Rw) hw4) (fun _ h=>h)).1;rw[hm1]at hS;have hBS:Below w1.heap.size w1 _:=hBA.setCell (p:=⟨go,m * 5+3,none⟩) hge (.string (yt++xt));exact⟨⟨i+1,outs.set m (⟨yd,1,yn,yt++xt,ya⟩:Rw),rfl,by omega,hrest3,Kd.dR (Kd.dR hS),cZ (cZ hBS),Lib.hid (fun k hk=>hown.out k (by simpa [Value.ownBlock]using hk))⟩,by simp[intOf];omega⟩
       ·rw[if_neg hsz]at hst
        cases hst
      ·rw[if_neg (fun e=>hB1 e.2.2)]at hst
       have hcx:¬xt=⟨#[]⟩:=fun e=>hx2 (by rw[Lib.toList_data,e])
       clear hne hne1
       by_cases hy1:yk=1
       ·subst hy1
        have hy2:(yd==xd)=false:=beq_eq_false_iff_ne.2 (fun e=>hB1 ⟨rfl,e⟩)
        by_cases hlen:outs.length<1000000000000
        ·rw[if_pos hlen]at hst
         obtain rfl:=Option.some.inj hst;clear hst;rw[hm1];rw[hm1]at hOA hown
         go_wp2_with(at_builtin;(try rw[nR]);refine Kd.mV k34 (w0:=w1) w.heap.size rfl (.tmp 16) (.tmp 18) 22 34 (.agg #[(.int .i64 0),(.int .i64 0),(.string ⟨#[]⟩),(.string ⟨#[]⟩),(.slice none 0 0)]) 72 rfl Tryz.underlying22 qI rfl (by decide) (by omega) (.slice (some ⟨go,0,none⟩) (m+1) c2) outs (⟨xd,1,xn,xt,xa⟩:Rw) [.int .i64 xd,.int .i64 1,.string xn,.string xt,.slice A4 xa.length c4] (fun _=>True) (fun k=>k<w1.heap.size) rfl ?aX ?aP ?aK ?aF ?aO ?aB ?aS ?aL ?_;(case aX=>exact congrArg (fun n=>Value.slice (some ⟨n,0,none⟩) 1 1) hsz1.symm);(case aP=>exact Kd.rV hMp (by first|with_reducible exact cZ hBA|with_reducible exact hBA));(case aK=>exact fun k hk=>⟨trivial,fun e=>by have:=hown.out k e.symm;omega⟩);(case aF=>exact fun _ _=>trivial);(case aO=>first|with_reducible exact Kd.dR hOA|with_reducible exact hOA);(case aB=>exact Below.mono (by first|with_reducible exact cZ hBA|with_reducible exact hBA) hbw);(case aS=>exact hsA);(case aL=>omega);intro v1 w2 hO2 hb2 hg2 yS;obtain⟨A3,c3,rfl⟩:=Kd.cK hO2;have hB2:=Below.grown (cZ hBA) hg2 hsB (fun k hk=>hown.out k hk);have hown2:=Lib.hid (tZ hown.out yS hsB))
         first
          |(go_region;go_wp2_with(at_builtin;(try rw[nR]);refine Kd.mV k34 (w0:=w1) w.heap.size rfl (.tmp 16) (.tmp 18) 22 34 (.agg #[(.int .i64 0),(.int .i64 0),(.string ⟨#[]⟩),(.string ⟨#[]⟩),(.slice none 0 0)]) 72 rfl Tryz.underlying22 qI rfl (by decide) (by omega) (.slice (some ⟨go,0,none⟩) (m+1) c2) outs (⟨xd,1,xn,xt,xa⟩:Rw) [.int .i64 xd,.int .i64 1,.string xn,.string xt,.slice A4 xa.length c4] (fun _=>True) (fun k=>k<w1.heap.size) rfl ?aX ?aP ?aK ?aF ?aO ?aB ?aS ?aL ?_;(case aX=>exact congrArg (fun n=>Value.slice (some ⟨n,0,none⟩) 1 1) hsz1.symm);(case aP=>exact Kd.rV hMp (by first|with_reducible exact cZ hBA|with_reducible exact hBA));(case aK=>exact fun k hk=>⟨trivial,fun e=>by have:=hown.out k e.symm;omega⟩);(case aF=>exact fun _ _=>trivial);(case aO=>first|with_reducible exact Kd.dR hOA|with_reducible exact hOA);(case aB=>exact Below.mono (by first|with_reducible exact cZ hBA|with_reducible exact hBA) hbw);(case aS=>exact hsA);(case aL=>omega);intro v1 w2 hO2 hb2 hg2 yS;obtain⟨A3,c3,rfl⟩:=Kd.cK hO2;have hB2:=Below.grown (cZ hBA) hg2 hsB (fun k hk=>hown.out k hk);have hown2:=Lib.hid (tZ hown.out yS hsB)))
          |skip
         rw[List.length_append,hm1,List.length_singleton]at hO2 hown2;exact⟨⟨i+1,outs++[(⟨xd,1,xn,xt,xa⟩:Rw)],rfl,by omega,hrest3,hO2,hB2,hown2⟩,by simp[intOf];omega⟩
        ·rw[if_neg hlen]at hst
         cases hst
       ·have hy2:(yk==1)=false:=beq_eq_false_iff_ne.2 hy1
        by_cases hlen:outs.length<1000000000000
        ·rw[if_pos hlen]at hst
         obtain rfl:=Option.some.inj hst;clear hst;rw[hm1];rw[hm1]at hOA hown
         go_wp2_with(at_builtin;(try rw[nR]);refine Kd.mV k34 (w0:=w1) w.heap.size rfl (.tmp 16) (.tmp 18) 22 34 (.agg #[(.int .i64 0),(.int .i64 0),(.string ⟨#[]⟩),(.string ⟨#[]⟩),(.slice none 0 0)]) 72 rfl Tryz.underlying22 qI rfl (by decide) (by omega) (.slice (some ⟨go,0,none⟩) (m+1) c2) outs (⟨xd,1,xn,xt,xa⟩:Rw) [.int .i64 xd,.int .i64 1,.string xn,.string xt,.slice A4 xa.length c4] (fun _=>True) (fun k=>k<w1.heap.size) rfl ?aX ?aP ?aK ?aF ?aO ?aB ?aS ?aL ?_;(case aX=>exact congrArg (fun n=>Value.slice (some ⟨n,0,none⟩) 1 1) hsz1.symm);(case aP=>exact Kd.rV hMp (by first|with_reducible exact cZ hBA|with_reducible exact hBA));(case aK=>exact fun k hk=>⟨trivial,fun e=>by have:=hown.out k e.symm;omega⟩);(case aF=>exact fun _ _=>trivial);(case aO=>first|with_reducible exact Kd.dR hOA|with_reducible exact hOA);(case aB=>exact Below.mono (by first|with_reducible exact cZ hBA|with_reducible exact hBA) hbw);(case aS=>exact hsA);(case aL=>omega);intro v1 w2 hO2 hb2 hg2 yS;obtain⟨A3,c3,rfl⟩:=Kd.cK hO2;have hB2:=Below.grown (cZ hBA) hg2 hsB (fun k hk=>hown.out k hk);have hown2:=Lib.hid (tZ hown.out yS hsB))
         first
          |(go_region;go_wp2_with(at_builtin;(try rw[nR]);refine Kd.mV k34 (w0:=w1) w.heap.size rfl (.tmp 16) (.tmp 18) 22 34 (.agg #[(.int .i64 0),(.int .i64 0),(.string ⟨#[]⟩),(.string ⟨#[]⟩),(.slice none 0 0)]) 72 rfl Tryz.underlying22 qI rfl (by decide) (by omega) (.slice (some ⟨go,0,none⟩) (m+1) c2) outs (⟨xd,1,xn,xt,xa⟩:Rw) [.int .i64 xd,.int .i64 1,.string xn,.string xt,.slice A4 xa.length c4] (fun _=>True) (fun k=>k<w1.heap.size) rfl ?aX ?aP ?aK ?aF ?aO ?aB ?aS ?aL ?_;(case aX=>exact congrArg (fun n=>Value.slice (some ⟨n,0,none⟩) 1 1) hsz1.symm);(case aP=>exact Kd.rV hMp (by first|with_reducible exact cZ hBA|with_reducible exact hBA));(case aK=>exact fun k hk=>⟨trivial,fun e=>by have:=hown.out k e.symm;omega⟩);(case aF=>exact fun _ _=>trivial);(case aO=>first|with_reducible exact Kd.dR hOA|with_reducible exact hOA);(case aB=>exact Below.mono (by first|with_reducible exact cZ hBA|with_reducible exact hBA) hbw);(case aS=>exact hsA);(case aL=>omega);intro v1 w2 hO2 hb2 hg2 yS;obtain⟨A3,c3,rfl⟩:=Kd.cK hO2;have hB2:=Below.grown (cZ hBA) hg2 hsB (fun k hk=>hown.out k hk);have hown2:=Lib.hid (tZ hown.out yS hsB)))
          |skip
         rw[List.length_append,hm1,List.length_singleton]at hO2 hown2;exact⟨⟨i+1,outs++[(⟨xd,1,xn,xt,xa⟩:Rw)],rfl,by omega,hrest3,hO2,hB2,hown2⟩,by simp[intOf];omega⟩
        ·rw[if_neg hlen]at hst
         cases hst
     ·rw[if_neg (fun e=>hn0 e.2.1)]at hst
      have hcx:¬xt=⟨#[]⟩:=fun e=>hx2 (by rw[Lib.toList_data,e])
      have hl0:outs.length=0:=by omega
      clear hne hne1
      by_cases hlen:outs.length<1000000000000
      ·rw[if_pos hlen]at hst
       obtain rfl:=Option.some.inj hst;clear hst;rw[hl0];rw[hl0]at hOA hown
       go_wp2_with(at_builtin;(try rw[nR]);refine Kd.mV k34 (w0:=w1) w.heap.size rfl (.tmp 16) (.tmp 18) 22 34 (.agg #[(.int .i64 0),(.int .i64 0),(.string ⟨#[]⟩),(.string ⟨#[]⟩),(.slice none 0 0)]) 72 rfl Tryz.underlying22 qI rfl (by decide) (by omega) (.slice A2 0 c2) outs (⟨xd,1,xn,xt,xa⟩:Rw) [.int .i64 xd,.int .i64 1,.string xn,.string xt,.slice A4 xa.length c4] (fun _=>True) (fun k=>k<w1.heap.size) rfl ?aX ?aP ?aK ?aF ?aO ?aB ?aS ?aL ?_;(case aX=>exact congrArg (fun n=>Value.slice (some ⟨n,0,none⟩) 1 1) hsz1.symm);(case aP=>exact Kd.rV hMp (by first|with_reducible exact cZ hBA|with_reducible exact hBA));(case aK=>exact fun k hk=>⟨trivial,fun e=>by have:=hown.out k e.symm;omega⟩);(case aF=>exact fun _ _=>trivial);(case aO=>first|with_reducible exact Kd.dR hOA|with_reducible exact hOA);(case aB=>exact Below.mono (by first|with_reducible exact cZ hBA|with_reducible exact hBA) hbw);(case aS=>exact hsA);(case aL=>omega);intro v1 w2 hO2 hb2 hg2 yS;obtain⟨A3,c3,rfl⟩:=Kd.cK hO2;have hB2:=Below.grown (cZ hBA) hg2 hsB (fun k hk=>hown.out k hk);have hown2:=Lib.hid (tZ hown.out yS hsB))
       first
        |(go_region;go_wp2_with(at_builtin;(try rw[nR]);refine Kd.mV k34 (w0:=w1) w.heap.size rfl (.tmp 16) (.tmp 18) 22 34 (.agg #[(.int .i64 0),(.int .i64 0),(.string ⟨#[]⟩),(.string ⟨#[]⟩),(.slice none 0 0)]) 72 rfl Tryz.underlying22 qI rfl (by decide) (by omega) (.slice A2 0 c2) outs (⟨xd,1,xn,xt,xa⟩:Rw) [.int .i64 xd,.int .i64 1,.string xn,.string xt,.slice A4 xa.length c4] (fun _=>True) (fun k=>k<w1.heap.size) rfl ?aX ?aP ?aK ?aF ?aO ?aB ?aS ?aL ?_;(case aX=>exact congrArg (fun n=>Value.slice (some ⟨n,0,none⟩) 1 1) hsz1.symm);(case aP=>exact Kd.rV hMp (by first|with_reducible exact cZ hBA|with_reducible exact hBA));(case aK=>exact fun k hk=>⟨trivial,fun e=>by have:=hown.out k e.symm;omega⟩);(case aF=>exact fun _ _=>trivial);(case aO=>first|with_reducible exact Kd.dR hOA|with_reducible exact hOA);(case aB=>exact Below.mono (by first|with_reducible exact cZ hBA|with_reducible exact hBA) hbw);(case aS=>exact hsA);(case aL=>omega);intro v1 w2 hO2 hb2 hg2 yS;obtain⟨A3,c3,rfl⟩:=Kd.cK hO2;have hB2:=Below.grown (cZ hBA) hg2 hsB (fun k hk=>hown.out k hk);have hown2:=Lib.hid (tZ hown.out yS hsB)))
        |skip
       rw[List.length_append,hl0,List.length_singleton,Nat.zero_add]at hO2 hown2;exact⟨⟨i+1,outs++[(⟨xd,1,xn,xt,xa⟩:Rw)],rfl,by omega,hrest3,hO2,hB2,hown2⟩,by simp[intOf];omega⟩
      ·rw[if_neg hlen]at hst
       cases hst
    ·rw[if_neg (fun e=>hk1 e.1)]at hst
     have hq1:(xk==1)=false:=beq_eq_false_iff_ne.2 hk1;clear hne hne1
     by_cases hlen:outs.length<1000000000000
     ·rw[if_pos hlen]at hst
      obtain rfl:=Option.some.inj hst;clear hst
      go_wp2_with(at_builtin;(try rw[nR]);refine Kd.mV k34 (w0:=w1) w.heap.size rfl (.tmp 16) (.tmp 18) 22 34 (.agg #[(.int .i64 0),(.int .i64 0),(.string ⟨#[]⟩),(.string ⟨#[]⟩),(.slice none 0 0)]) 72 rfl Tryz.underlying22 qI rfl (by decide) (by omega) (.slice A2 outs.length c2) outs (⟨xd,xk,xn,xt,xa⟩:Rw) [.int .i64 xd,.int .i64 xk,.string xn,.string xt,.slice A4 xa.length c4] (fun _=>True) (fun k=>k<w1.heap.size) rfl ?aX ?aP ?aK ?aF ?aO ?aB ?aS ?aL ?_;(case aX=>exact congrArg (fun n=>Value.slice (some ⟨n,0,none⟩) 1 1) hsz1.symm);(case aP=>exact Kd.rV hMp (by first|with_reducible exact cZ hBA|with_reducible exact hBA));(case aK=>exact fun k hk=>⟨trivial,fun e=>by have:=hown.out k e.symm;omega⟩);(case aF=>exact fun _ _=>trivial);(case aO=>first|with_reducible exact Kd.dR hOA|with_reducible exact hOA);(case aB=>exact Below.mono (by first|with_reducible exact cZ hBA|with_reducible exact hBA) hbw);(case aS=>exact hsA);(case aL=>omega);intro v1 w2 hO2 hb2 hg2 yS;obtain⟨A3,c3,rfl⟩:=Kd.cK hO2;have hB2:=Below.grown (cZ hBA) hg2 hsB (fun k hk=>hown.out k hk);have hown2:=Lib.hid (tZ hown.out yS hsB))
      first
       |(go_region;go_wp2_with(at_builtin;(try rw[nR]);refine Kd.mV k34 (w0:=w1) w.heap.size rfl (.tmp 16) (.tmp 18) 22 34 (.agg #[(.int .i64 0),(.int .i64 0),(.string ⟨#[]⟩),(.string ⟨#[]⟩),(.slice none 0 0)]) 72 rfl Tryz.underlying22 qI rfl (by decide) (by omega) (.slice A2 outs.length c2) outs (⟨xd,xk,xn,xt,xa⟩:Rw) [.int .i64 xd,.int .i64 xk,.string xn,.string xt,.slice A4 xa.length c4] (fun _=>True) (fun k=>k<w1.heap.size) rfl ?aX ?aP ?aK ?aF ?aO ?aB ?aS ?aL ?_;(case aX=>exact congrArg (fun n=>Value.slice (some ⟨n,0,none⟩) 1 1) hsz1.symm);(case aP=>exact Kd.rV hMp (by first|with_reducible exact cZ hBA|with_reducible exact hBA));(case aK=>exact fun k hk=>⟨trivial,fun e=>by have:=hown.out k e.symm;omega⟩);(case aF=>exact fun _ _=>trivial);(case aO=>first|with_reducible exact Kd.dR hOA|with_reducible exact hOA);(case aB=>exact Below.mono (by first|with_reducible exact cZ hBA|with_reducible exact hBA) hbw);(case aS=>exact hsA);(case aL=>omega);intro v1 w2 hO2 hb2 hg2 yS;obtain⟨A3,c3,rfl⟩:=Kd.cK hO2;have hB2:=Below.grown (cZ hBA) hg2 hsB (fun k hk=>hown.out k hk);have hown2:=Lib.hid (tZ hown.out yS hsB)))
       |skip
      rw[List.length_append,List.length_singleton]at hO2 hown2;exact⟨⟨i+1,outs++[(⟨xd,xk,xn,xt,xa⟩:Rw)],rfl,by omega,hrest3,hO2,hB2,hown2⟩,by simp[intOf];omega⟩
     ·rw[if_neg hlen]at hst
      cases hst
  ·have hr0:outs=res:=by
    have h1:=hrest.out;rw[List.drop_of_length_le (by omega)]at h1;exact Option.some.inj h1
   subst hr0;clear hrest h;go_wp2;go_ret;exact⟨_,rfl,hO,YtkcmghlhpbepcaaGreatDoor.bB hb1 hbw hB⟩
end Go.Proofs.aj.W7
namespace Go.Proofs.aj.W7
open Go.RowKit Go.Proofs aj YtkcmghlhpbepcaaGreatDoor ah.aD
def yK(p:Option Rw)(x:Rw):Bool:=decide (x.f1=1)&&(decide (x.f3.data.toList=[])||match p with|none=>false|some y=>decide (y.f1=1)&&decide (y.f0=x.f0))
def Bh:Option Rw→List Rw→Bool
 |_,[]=>true
 |p,x::r=>!yK p x&&Bh (some x) r
theorem nJ(xs:List Rw)(i:Nat)(h:i<xs.length):au xs i=xs[i]:=by simp[au,h]
theorem CX(outs:List Rw)(h:0<outs.length):outs.getLast? =some (au outs ((outs.length:Int) - 1)):=by
 have e:(((outs.length:Int) - 1))=((outs.length - 1:Nat):Int):=by omega
 rw[e,nJ outs (outs.length - 1) (by omega),List.getLast?_eq_getElem?,List.getElem?_eq_getElem (by omega)]
theorem step_app(outs:List Rw)(x:Rw)(h:yK outs.getLast? x=false)(hl:outs.length<1000000000000):BN outs x=some (outs++[x]):=by
 unfold BN;rw[if_neg,if_neg,if_pos hl]
 ·rintro⟨h1,h2,h3,h4⟩
  rw[CX outs h2]at h;simp[yK,h1,h3,h4]at h
 ·rintro⟨h1,h2⟩
  simp[yK,h1,h2]at h
theorem last_app(outs:List Rw)(x:Rw):(outs++[x]).getLast? =some x:=by simp
theorem Tw:∀(xs outs:List Rw),outs.length+xs.length≤1000000→Bh outs.getLast? xs=true→wT outs xs=some (outs++xs)
 | [],outs,_,_=>by simp[wT]
 |x::xs,outs,h1,h2=>by
  simp only[List.length_cons]at h1;simp only[Bh,Bool.and_eq_true,Bool.not_eq_true']at h2;simp only[wT];rw[step_app outs x h2.1 (by omega),Option.bind_some,Tw xs (outs++[x]) (by simp;omega) (by rw[last_app];exact h2.2)];simp
theorem wM{x:Int}(h0:0≤x)(h1:x≤1000000000):wrap64 x=x:=by unfold wrap64;omega
theorem moved_l1(xs:List Rw)(hl:xs.length<1000000)(hd:∀x∈xs,0≤x.f0∧x.f0≤1000000)(ha:∀x∈xs,x.f4.length≤1000000):∀(d i k:Nat) (acc:List Rw),i+d=xs.length→acc.length=i→d<k→jf.l0 k 0 acc xs (xs.length:Int) i=some (acc++xs.drop i):=by
 intro d
 induction d with
 |zero=>
  intro i k acc hi hacc hk;obtain⟨k,rfl⟩:∃m,k=m+1:=⟨k - 1,by omega⟩
  simp only[jf.l0];rw[if_neg (by omega),List.drop_of_length_le (by omega),List.append_nil]
 |succ d ih=>
  intro i k acc hi hacc hk;obtain⟨k,rfl⟩:∃m,k=m+1:=⟨k - 1,by omega⟩
  have hlt:i<xs.length:=by omega
  have h0:=hd xs[i] (List.getElem_mem hlt);have h4:=ha xs[i] (List.getElem_mem hlt);simp only[jf.l0];rw[if_pos (by omega),if_pos (by omega),if_pos (by omega),nJ xs i hlt];unfold vS.f;rw[if_pos (by omega),Option.bind_some,if_pos (by omega),wM (by omega) (by omega),wM (by omega) (by omega),Int.add_zero];rw[show((i:Int)+1)=((i+1:Nat):Int)from by omega,ih (i+1) k _ (by omega) (by simp[hacc]) (by omega),List.append_assoc,List.drop_eq_getElem_cons hlt];rfl
theorem UK(xs:List Rw)(hl:xs.length<1000000)(hd:∀x∈xs,0≤x.f0∧x.f0≤1000000)(ha:∀x∈xs,x.f4.length≤1000000)(hn:Bh none xs=true):kD.f xs=some xs:=by
 unfold kD.f jf.f;have:=moved_l1 xs hl hd ha xs.length 0 (xs.length+1) [] (by omega) rfl (by omega);simp only[Int.ofNat_zero,Int.natCast_zero,List.drop_zero,List.nil_append]at this;rw[this,Option.bind_some];exact Tw xs [] (by simp;omega) hn
theorem CY:∀(xs ys:List Rw) (p:Option Rw),Bh p (xs++ys)=(Bh p xs&&Bh (xs.getLast?.or p) ys)
 | [],ys,p=>by simp[Bh]
 |x::xs,ys,p=>by
  simp only[List.cons_append,Bh];rw[CY xs ys (some x)]
  have:(x::xs).getLast?.or p=xs.getLast?.or (some x):=by
   cases xs with
   |nil=>rfl
   |cons y r=>simp[List.getLast?_cons_cons,List.getLast?_cons]
  rw[this,Bool.and_assoc]
end Go.Proofs.aj.W7
namespace Go.Proofs.aj.W7
open Go.RowKit Go.Proofs YtkcmghlhpbepcaaGreatDoor ah.bH
def bitsL:Nat→Nat→List Bool
 |0,_=>[]
 |n+1,m=>(m % 2==1)::bitsL n (m / 2)
def bits(n m:Nat):Array Bool:=(bitsL n m).toArray
section
variable {P : Program} {ops : Array Oper} {Q : Exit → Act → World → Prop} {md : Region.Mode} {S : World → Prop} {ds : List Nat}
theorem sw(i T:Nat){n m:Nat}{oi:Oper}{v:Value}{fuel:Nat}{a:Act}{w:World}{a':Act}(h:cO P md ops Q S ds fuel (bits n (m+2^i)) a' w)
 (hi:ops[i]?=some oi:=by rfl) (hN:oi.dst=some T:=by rfl) (hc:anyB md ops (bits n m) (bits n (m+2^i)) i=true:=by kernel_rfl) (hQ:∀c a w,Q (.panic c) (a.put oi.dst v) w→Q (.panic c) a w:=by exact fun _ _ _ h=>h)
 (hy:Yields P ops oi v a:=by(refine Or.inl ⟨by rfl,?_⟩);intro w';go_simp;with_reducible rfl)
 (ha:a.put (some T) v=a':=by simp only[Act.put,List.setIfInBounds_toArray,List.set_cons_zero,List.set_cons_succ,mq,nA];rfl):cO P md ops Q S ds (fuel+1) (bits n m) a w:=pure_ _ hi hN hc hQ hy ha h
theorem su(i T:Nat){n m:Nat}{oi:Oper}{fuel:Nat}{a:Act}{w:World}{a':Act}(h:cO P md ops Q S ds fuel (bits n (m+2^i)) a' w)
 (hi:ops[i]?=some oi:=by rfl) (hN:oi.dst=some T:=by rfl) (hc:anyB md ops (bits n m) (bits n (m+2^i)) i=true:=by kernel_rfl) (hQ:∀c a w,Q (.panic c) (a.put oi.dst undef) w→Q (.panic c) a w:=by exact fun _ _ _ h=>h)
 (hy:Yields P ops oi undef a:=by exact Or.inr ⟨by rfl,rfl⟩)
 (ha:a.put (some T) undef=a':=by simp only[Act.put,List.setIfInBounds_toArray,List.set_cons_zero,List.set_cons_succ,mq,nA];rfl):cO P md ops Q S ds (fuel+1) (bits n m) a w:=pure_ _ hi hN hc hQ hy ha h
theorem st(i T:Nat){n m:Nat}{oi:Oper}{v:Value}{fuel:Nat}{a:Act}{w:World}{a':Act}(h:cO P md ops Q S ds fuel (bits n (m+2^i)) a' w)
 (hi:ops[i]?=some oi:=by rfl) (hN:oi.dst=some T:=by rfl) (hc:takeB md ops ds (bits n m) (bits n (m+2^i)) i=true:=by kernel_rfl) (hQ:∀c a w,Q (.panic c) (a.put oi.dst v) w→Q (.panic c) a w:=by exact fun _ _ _ h=>h)
 (hy:YieldsIf P ops S oi v a:=by(refine Or.inl ⟨by rfl,?_⟩);intro w' hs_;(repeat(have s_:=hs_.1;replace hs_:=hs_.2));go_simp;with_reducible rfl)
 (hS:S w:=by exact hHeld)
 (ha:a.put (some T) v=a':=by simp only[Act.put,List.setIfInBounds_toArray,List.set_cons_zero,List.set_cons_succ,mq,nA];rfl):cO P md ops Q S ds (fuel+1) (bits n m) a w:=take_ _ hi hN hc hQ hy hS ha h
theorem so(i:Nat){n m:Nat}{N:Option Tmp}{oi:Oper}{fuel:Nat}{a:Act}{w:World}
 (h:∀K:Act→World→Prop,Shut (∀a' w',S w'→(S w'→cO P md ops Q S ds fuel (bits n (m+2^i)) a' w')→K a' w')→if Region.wanted oi (yielded ops a.tmps)=true then Oper.wp P oi a w K Q else K (a.put N undef) w)
 (hi:ops[i]?=some oi:=by rfl) (hN:oi.dst=N:=by rfl) (hc:vH md ops (bits n m) (bits n (m+2^i)) i=true:=by kernel_rfl) (hd:i∉ds:=by decide):cO P md ops Q S ds (fuel+1) (bits n m) a w:=Ac _ hi hN hc hd h
theorem sl(i:Nat){n m:Nat}{N:Option Tmp}{oi:Oper}{fuel:Nat}{a:Act}{w:World}
 (h:∀K:Act→World→Prop,Shut (∀a' w',cO P md ops Q S ds fuel (bits n (m+2^i)) a' w'→K a' w')→if Region.wanted oi (yielded ops a.tmps)=true then Oper.wp P oi a w K Q else K (a.put N undef) w)
 (hi:ops[i]?=some oi:=by rfl) (hN:oi.dst=N:=by rfl) (hc:vH md ops (bits n m) (bits n (m+2^i)) i=true:=by kernel_rfl) (hd:i∈ds:=by decide):cO P md ops Q S ds (fuel+1) (bits n m) a w:=last_ _ hi hN hc hd h
theorem sc(i T:Nat){n m:Nat}{oi:Oper}{fuel:Nat}{a:Act}{w:World}
 (h:∀K:Act→World→Prop,Shut (∀a' w',S w'→(S w'→cO P md ops Q S ds fuel (bits n (m+2^i)) a' w')→K a' w')→if Region.wanted oi (yielded ops a.tmps)=true then Oper.wp P oi a w K Q else K (a.put (some T) undef) w)
 (hi:ops[i]?=some oi:=by rfl) (hN:oi.dst=some T:=by rfl) (hc:vH md ops (bits n m) (bits n (m+2^i)) i=true:=by kernel_rfl) (hd:i∉ds:=by decide):cO P md ops Q S ds (fuel+1) (bits n m) a w:=Ac _ hi hN hc hd h
theorem sd(i T:Nat){n m:Nat}{oi:Oper}{fuel:Nat}{a:Act}{w:World}
 (h:∀K:Act→World→Prop,Shut (∀a' w',cO P md ops Q S ds fuel (bits n (m+2^i)) a' w'→K a' w')→if Region.wanted oi (yielded ops a.tmps)=true then Oper.wp P oi a w K Q else K (a.put (some T) undef) w)
 (hi:ops[i]?=some oi:=by rfl) (hN:oi.dst=some T:=by rfl) (hc:vH md ops (bits n m) (bits n (m+2^i)) i=true:=by kernel_rfl) (hd:i∈ds:=by decide):cO P md ops Q S ds (fuel+1) (bits n m) a w:=last_ _ hi hN hc hd h
theorem sn{fuel:Nat}{l:Array Bool}{a a':Act}{w:World}(h:cO P md ops Q S ds fuel l a' w)(ha:a=a':=by(show Act.put _ _ _=_);simp only[Act.put,List.setIfInBounds_toArray,List.set_cons_zero,List.set_cons_succ,mq,nA];rfl):cO P md ops Q S ds fuel l a w:=norm_ ha h
end
end Go.Proofs.aj.W7
namespace Go.Proofs.aj.W7
open Go.RowKit Go.Proofs YtkcmghlhpbepcaaGreatDoor ah.aD ah.bH
theorem MX(w:World)(o:Obj):(w.alloc o).drew=w.drew.alloc o:=rfl
structure Bd (w0:World) (B:Nat) (op:List Bt) (out:List Rw) (big:Bool) (W:World):Prop where
 below:Below w0.heap.size w0 W
 base:w0.heap.size≤B
 ex:∃vo vr,W.heap[B]?=some (.cells #[vo,vr,.bool big] 73 (0,0))∧Kd.string.R 9 W w0.heap.size (fun _=>True) vo op∧k34.R 34 W w0.heap.size (fun _=>True) vr out
theorem Bd.step{w0 W W':World}{B:Nat}{op:List Bt}{out:List Rw}{big:Bool}(h:Bd w0 B op out big W)(hb:Below W.heap.size W W'):Bd w0 B op out big W':=by
 obtain⟨vo,vr,h1,h2,h3⟩:=h.ex;exact⟨h.below.trans (hb.mono h.below.size),h.base,vo,vr,aT h1 hb,Kd.bK h2 hb,Kd.bK h3 hb⟩
theorem aN{w:World}{b:Nat}{v0 v1 v2:Value}{t:TypeId}(h:w.heap[b]?=some (.cells #[v0,v1,v2] t (0,0))):
 w.cell? ⟨b,0,none⟩=some v0∧w.cell? ⟨b,1,none⟩=some v1∧w.cell? ⟨b,2,none⟩=some v2∧∀j,w.frozen? ⟨b,j,none⟩=false:=
 ⟨(aC h 0).trans rfl,(aC h 1).trans rfl,(aC h 2).trans rfl,fun j=>ay h j⟩
theorem Bd.bigger{w0 W:World}{B:Nat}{op:List Bt}{out:List Rw}{big:Bool}(h:Bd w0 B op out big W):Bd w0 B op out true (W.setCell ⟨B,2,none⟩ (.bool true)):=by
 obtain⟨vo,vr,h1,h2,h3⟩:=h.ex;exact⟨h.below.setCell (p:=⟨B,2,none⟩) h.base _,h.base,vo,vr,bQ h1 2 _ rfl,Kd.tY h2 h1 (by decide) 2 _,Kd.tY h3 h1 (by decide) 2 _⟩
def iQ(B:Nat)(W W':World):Prop:=∀k o,W.heap[k]?=some o→k≠B→(∀cs,o≠.cells cs 9 (0,0))→(∀cs,o≠.cells cs 34 (0,0))→W'.heap[k]?=some o
theorem iQ.refl(B:Nat)(W:World):iQ B W W:=fun _ _ h _ _ _=>h
theorem iQ.trans{B:Nat}{W W1 W2:World}(h:iQ B W W1)(k:iQ B W1 W2):iQ B W W2:=fun j o h0 h1 h2 h3=>k j o (h j o h0 h1 h2 h3) h1 h2 h3
theorem iQ.below{B:Nat}{W W1 W2:World}(h:iQ B W W1)(hb:Below W1.heap.size W1 W2):iQ B W W2:=fun j o h0 h1 h2 h3=>aT (h j o h0 h1 h2 h3) hb
theorem iQ.set{B:Nat}{W W1:World}(h:iQ B W W1)(j:Nat)(v:Value):iQ B W (W1.setCell ⟨B,j,none⟩ v):=fun k o h0 h1 h2 h3=>(Below.heap_setCell W1 ⟨B,j,none⟩ v k h1).trans (h k o h0 h1 h2 h3)
theorem iQ.grown{B:Nat}{W W1 W2:World}{v:Value}(h:iQ B W W1)(hty:∀k,v.ownBlock=some k→∃cells,W1.heap[k]?=some (.cells cells 34 (0,0))∨W1.heap[k]?=some (.cells cells 9 (0,0)))(hg:W1.grownBy W2 v.ownBlock):iQ B W W2:=fun k o h0 h1 h2 h3=>by
 have a:=h k o h0 h1 h2 h3;refine qH a hg (fun e=>?_);obtain⟨cells,hc⟩:=hty k e.symm
 rcases hc with hc|hc
 ·exact h3 cells (Option.some.inj (a.symm.trans hc))
 ·exact h2 cells (Option.some.inj (a.symm.trans hc))
def kN(op:List Bt)(out:List Rw)(big:Bool)(x:Rw):List Rw×Bool:=if 4096≤out.length∨60≤op.length then(out,true)else(out++[⟨op.length,x.f1,x.f2,x.f3,x.f4⟩],big)
theorem lay_c(w0:World)(B:Nat)(op:List Bt)(out:List Rw)(big:Bool)(x0 x1:Int)(xn xt:Bt)(va:Value)(xa:List S36)(W:World)(h:Bd w0 B op out big W)(hA:k36.R 36 W w0.heap.size (fun _=>True) va xa)(hl:out.length≤100000)(ho:op.length≤100000):
 Calls Tryz.prog 68 #[.pointer (some ⟨B,0,none⟩),.agg #[.int .i64 x0,.int .i64 x1,.string xn,.string xt,va]] W fun e W'=>e=.returned (.tuple #[])∧
  Bd w0 B op (kN op out big ⟨x0,x1,xn,xt,xa⟩).1 (kN op out big ⟨x0,x1,xn,xt,xa⟩).2 W'∧Below w0.heap.size W W'∧iQ B W W':=by
 obtain⟨vo,vr,h1,h2,h3⟩:=h.ex;obtain⟨Ao,co,rfl⟩:=Kd.cK h2;obtain⟨Ar,cr,rfl⟩:=Kd.cK h3;obtain⟨Aa,ca,rfl⟩:=Kd.cK hA;have hBlt:=iK h1;obtain⟨c0,c1,c2,cf⟩:=aN h1;have b1:=fun o=>aT h1 ((Below.refl _ W).alloc (Nat.le_refl _) o)
 have d0:=fun o=>(aN (b1 o)).1
 have d1:=fun o=>(aN (b1 o)).2.1
 have d2:=fun o=>(aN (b1 o)).2.2.1
 have df:=fun o=>(aN (b1 o)).2.2.2
 have n1:=bP W #[.int .i64 op.length,.int .i64 x1,.string xn,.string xt,.slice Aa xa.length ca] 34;obtain⟨⟨p0,p1,p2,p3,p4⟩,p5⟩:=aW n1;have hstep:=h.step ((Below.refl _ W).alloc (Nat.le_refl _) (.cells #[.int .i64 op.length,.int .i64 x1,.string xn,.string xt,.slice Aa xa.length ca] 34));have hbz:=h.below.size;have hbA:Below w0.heap.size W (W.alloc (.cells #[.int .i64 op.length,.int .i64 x1,.string xn,.string xt,.slice Aa xa.length ca] 34)):=(Below.refl _ W).alloc hbz _
 by_cases g:4096≤out.length∨60≤op.length
 ·rw[show kN op out big ⟨x0,x1,xn,xt,xa⟩=(out,true)from if_pos g]
  have hfin:=Lib.hid (h.bigger.step ((Below.refl _ _).alloc (Nat.le_refl _) (.cells #[.int .i64 op.length,.int .i64 x1,.string xn,.string xt,.slice Aa xa.length ca] 34)))
  by_cases g1:4096≤out.length
  ·have e1:decide ((4096:Int)≤(out.length:Int))=true:=decide_eq_true (by omega)
   clear g;go_enter Tryz.func68,Tryz.ntmps68;go_wp2;refine bodyPost_ret (results_none rfl _ _ _) rfl ?_;exact⟨rfl,hfin.out,((Below.refl _ W).setCell (p:=⟨B,2,none⟩) h.base _).alloc (by simpa using hbz) _,((iQ.refl B W).set 2 _).below ((Below.refl _ _).alloc (Nat.le_refl _) _)⟩
  ·have e1:decide ((4096:Int)≤(out.length:Int))=false:=decide_eq_false (by omega)
   have e2:decide ((60:Int)≤(op.length:Int))=true:=decide_eq_true (by omega);clear g;go_enter Tryz.func68,Tryz.ntmps68;go_wp2;refine bodyPost_ret (results_none rfl _ _ _) rfl ?_;exact⟨rfl,hfin.out,((Below.refl _ W).setCell (p:=⟨B,2,none⟩) h.base _).alloc (by simpa using hbz) _,((iQ.refl B W).set 2 _).below ((Below.refl _ _).alloc (Nat.le_refl _) _)⟩
 ·rw[show kN op out big ⟨x0,x1,xn,xt,xa⟩=(out++[⟨op.length,x1,xn,xt,xa⟩],big)from if_neg g]
  have e1:decide ((4096:Int)≤(out.length:Int))=false:=decide_eq_false (by omega);have e2:decide ((60:Int)≤(op.length:Int))=false:=decide_eq_false (by omega);clear g;go_enter Tryz.func68,Tryz.ntmps68;go_wp2;have hR1:=Kd.eZ h3 (.cells #[.int .i64 op.length,.int .i64 x1,.string xn,.string xt,.slice Aa xa.length ca] 34);have hV1:=Kd.eZ h2 (.cells #[.int .i64 op.length,.int .i64 x1,.string xn,.string xt,.slice Aa xa.length ca] 34);have hA1:=Kd.eZ hA (.cells #[.int .i64 op.length,.int .i64 x1,.string xn,.string xt,.slice Aa xa.length ca] 34);have hB1:=b1 (.cells #[.int .i64 op.length,.int .i64 x1,.string xn,.string xt,.slice Aa xa.length ca] 34);have q1:=d1 (.cells #[.int .i64 op.length,.int .i64 x1,.string xn,.string xt,.slice Aa xa.length ca] 34);have hkp:=(iQ.refl B W).below ((Below.refl _ W).alloc (Nat.le_refl _) (.cells #[.int .i64 op.length,.int .i64 x1,.string xn,.string xt,.slice Aa xa.length ca] 34));clear h1 h2 h3 hA c0 c1 c2 cf b1 d0 d1 d2 df hstep;generalize hw1:W.alloc (.cells #[.int .i64 op.length,.int .i64 x1,.string xn,.string xt,.slice Aa xa.length ca] 34)=W1 at *
  refine oV (n:=11) (S:=fun w'=>w'.cell? ⟨B,1,none⟩=some (.slice Ar out.length cr)∧w'.cell? ⟨W.heap.size,0,none⟩=some (.int .i64 op.length)∧w'.cell? ⟨W.heap.size,1,none⟩=some (.int .i64 x1)∧w'.cell? ⟨W.heap.size,2,none⟩=some (.string xn)∧w'.cell? ⟨W.heap.size,3,none⟩=some (.string xt)∧w'.cell? ⟨W.heap.size,4,none⟩=some (.slice Aa xa.length ca)) (ds:=[7,10]) (bits 11 0) (by kernel_rfl) rfl (by kernel_rfl) ⟨q1,p0,p1,p2,p3,p4⟩ (fun hHeld=>?_);refine sw 0 24 ?_;refine sw 1 25 ?_;refine sw 2 26 ?_;refine sw 3 27 ?_;refine st 4 28 ?_;refine st 5 29 ?_
  refine so 6 (fun K hK=>?_);rw[if_pos (by rfl)];go_simp;have hbq:Below W1.heap.size W1 (W1.alloc (.cells #[.int .i64 op.length,.int .i64 x1,.string xn,.string xt,.slice Aa xa.length ca] 34)).drew:=ah.aD.cZ ((Below.refl _ W1).alloc (Nat.le_refl _) _);refine hK.out _ _ ⟨aV q1 hbq,aV p0 hbq,aV p1 hbq,aV p2 hbq,aV p3 hbq,aV p4 hbq⟩ (fun wO=>?_);clear hK K hHeld wO;refine sl 7 (fun K hK=>?_);rw[MX];have hR2:=Kd.dR hR1;have hA2:=Kd.R_apartR (Kd.dR hA1) hR2 (by decide);have hbd:Below w0.heap.size W W1.drew:=ah.aD.bX hbA;refine Kd.Ag k34 (w0:=W) w0.heap.size (by rfl) (.tmp 28) (.tmp 30) 22 34 (.agg #[(.int .i64 0),(.int .i64 0),(.string ⟨#[]⟩),(.string ⟨#[]⟩),(.slice none 0 0)]) 72 rfl Tryz.underlying22 qI rfl (by decide) (by omega) (.slice Ar out.length cr) out (⟨op.length,x1,xn,xt,xa⟩:Rw) [.int .i64 op.length,.int .i64 x1,.string xn,.string xt,.slice Aa xa.length ca] (fun _=>True) (fun k=>True∧some k≠(Value.slice Ar out.length cr).ownBlock) rfl ?aX (wP _ _ _ (⟨op.length,x1,xn,xt,xa⟩:Rw) hA2) (fun k hk=>hk) (fun _ _=>trivial) hR2 hbd (h.below.trans hbd).size (by omega) ?_
  case aX=>rfl
  intro v1 w2 hO2 hb2 hg2 yS;have hB2:=qH (aT hB1 (cZ (Below.refl _ _))) hg2 (Kd.R_ne hR2 (aT hB1 (cZ (Below.refl _ _))) (by decide));have hV2:=Kd.R_over (Kd.dR hV1) hR2 (by decide) hg2;obtain⟨A3,c3,rfl⟩:=Kd.cK hO2;rw[List.length_append,List.length_singleton]at hO2;obtain⟨f0,f1,f2,ff⟩:=aN hB2;refine hK.out _ _ ?_;clear hK K;refine sw 8 32 ?_;refine sw 9 33 ?_
  refine sl 10 (fun K hK=>?_);rw[if_pos (by rfl)];go_simp;refine hK.out _ _ ?_;clear hK K;refine sW (by kernel_rfl) ?_;go_end0;exact⟨rfl,⟨h.below.trans (hb2.setCell (p:=⟨B,1,none⟩) h.base _),h.base,_,_,bQ hB2 1 _ rfl,Kd.tY hV2 hB2 (by decide) 1 _,Kd.tY hO2 hB2 (by decide) 1 _⟩,hb2.setCell (p:=⟨B,1,none⟩) h.base _,(iQ.grown (hkp.below (ah.aD.cZ (Below.refl _ _))) (fun k hk=>by obtain⟨c,hc⟩:=Kd.E9 hR2 k hk;exact⟨c,.inl hc⟩) hg2).set 1 _⟩
def nu(op:List Bt)(out:List Rw):Bool:=match out.getLast? with|none=>false|some y=>decide (y.f1=1)&&decide (y.f0=op.length)
def vQ(y:Rw)(s:Bt):Rw:=⟨y.f0,y.f1,y.f2,y.f3++s,y.f4⟩
def gT(op:List Bt)(out:List Rw)(big:Bool)(s:Bt):List Rw×Bool:=
 if s.data.toList=[]then(out,big)
 else if nu op out then(out.set (out.length - 1) (vQ (au out ((out.length:Int) - 1)) s),big)
 else kN op out big ⟨0,1,⟨#[]⟩,s,[]⟩
theorem textw_c(w0:World)(B:Nat)(op:List Bt)(out:List Rw)(big:Bool)(s:Bt)(W:World)(h:Bd w0 B op out big W)(hl:out.length≤100000)(ho:op.length≤100000)(hz:∀x∈out,x.f3.size+s.size≤9223372036854775807):
 Calls Tryz.prog 67 #[.pointer (some ⟨B,0,none⟩),.string s] W fun e W'=>e=.returned (.tuple #[])∧
  Bd w0 B op (gT op out big s).1 (gT op out big s).2 W'∧Below w0.heap.size W W'∧iQ B W W':=by
 obtain⟨vo,vr,h1,h2,h3⟩:=id h.ex;obtain⟨Ao,co,rfl⟩:=Kd.cK h2;obtain⟨Ar,cr,rfl⟩:=Kd.cK h3;obtain⟨c0,c1,c2,cf⟩:=aN h1;have hlay:=Lib.hid (fun X (hX:Bd w0 B op out big X)=>lay_c w0 B op out big 0 1 ⟨#[]⟩ s (.slice none 0 0) [] X hX (Kd.oz _ _ _ _ _) hl ho)
 by_cases hs:s.data.toList=[]
 ·have e1:(s.toList==[])=true:=by rw[Lib.toList_data,hs];rfl
  rw[show gT op out big s=(out,big)from if_pos hs]
  have hsz:s=⟨#[]⟩:=by
   obtain⟨d⟩:=s;simpa using hs
  subst hsz;go_enter Tryz.func67,Tryz.ntmps67;go_wp2;go_end0;exact⟨rfl,h,Below.refl _ _,iQ.refl _ _⟩
 ·have e0:¬s.toList=[]:=by rw[Lib.toList_data];exact hs
  have e1:(s.toList==[])=false:=beq_eq_false_iff_ne.2 e0;have e2:¬s=⟨#[]⟩:=fun e=>hs (by rw[e])
  unfold gT;rw[if_neg hs]
  rcases Nat.eq_zero_or_pos out.length with hn|hn
  ·have hj:nu op out=false:=by
    have:out=[]:=List.eq_nil_of_length_eq_zero hn;rw[this];rfl
   rw[hj,if_neg (by decide)];have e3:decide ((0:Int)<(out.length:Int))=false:=decide_eq_false (by omega);have e4:decide (0<out.length)=false:=decide_eq_false (by omega);generalize kN op out big ⟨0,1,⟨#[]⟩,s,[]⟩=res at *;go_enter Tryz.func67,Tryz.ntmps67;go_wp2;refine oV (n:=32) (S:=fun w'=>w'.cell? ⟨B,1,none⟩=some (.slice Ar out.length cr)) (ds:=[]) (bits 32 0) (by kernel_rfl) rfl (by kernel_rfl) c1 (fun hHeld=>?_);refine sw 0 18 ?_;refine sw 1 19 ?_;refine sw 2 20 ?_;refine su 3 21 ?_;refine su 4 22 ?_;refine su 5 23 ?_;refine su 6 24 ?_;refine su 7 25 ?_;refine su 8 26 ?_;refine su 9 27 ?_;refine su 10 28 ?_;refine su 11 29 ?_;refine su 12 30 ?_;refine sw 13 31 ?_;refine sw 14 32 ?_;refine su 15 33 ?_;refine su 16 34 ?_;refine su 17 35 ?_;refine su 18 36 ?_;refine su 19 37 ?_;refine su 20 38 ?_;refine su 21 39 ?_;refine su 22 40 ?_;refine su 23 41 ?_;refine su 24 42 ?_;refine su 25 43 ?_;refine su 26 44 ?_;refine su 27 45 ?_;refine su 28 46 ?_;refine su 29 47 ?_;refine sw 30 48 ?_;refine sw 31 17 ?_
   refine sW (by kernel_rfl) ?_
   go_wp2_with(go_at_call 68;((with_reducible refine(hlay.out _ (h.step (ah.aD.cZ (Below.refl _ _)))).mono ?_);rintro e W1 ⟨rfl,hB1,hb1,hk1⟩))
   go_end0;exact⟨rfl,hB1,(ah.aD.cZ (Below.refl _ W)).mono h.below.size |>.trans hb1,((iQ.refl B W).below (ah.aD.cZ (Below.refl _ _))).trans hk1⟩
  ·obtain⟨m,hm⟩:∃m,out.length=m+1:=⟨out.length - 1,by omega⟩
   obtain⟨go,capo,hv,-,hgo,cellsO,hcO⟩:=Kd.Gp h3 hn;simp only[Value.slice.injEq,true_and]at hv;obtain⟨rfl,rfl⟩:=hv;obtain⟨cs,hcl,hMo,wR,hfzo⟩:=Kd.Kq h3 (⟨0,0,⟨#[]⟩,⟨#[]⟩,[]⟩:Rw) (m:Int) (by omega) (by omega);have hgd:out.getD (m:Int).toNat (⟨0,0,⟨#[]⟩,⟨#[]⟩,[]⟩:Rw)=out[m]:=by simp[show m<out.length by omega]
   have hrd:au out ((out.length:Int) - 1)=out[m]:=by
    rw[show(out.length:Int) - 1=(m:Int)from by omega];simp[au,show m<out.length by omega]
   have hzm:=hz out[m] (List.getElem_mem _)
   have hj:nu op out=(decide (out[m].f1=1)&&decide (out[m].f0=op.length)):=by
    unfold nu;rw[List.getLast?_eq_getElem?,show out.length - 1=m from by omega,List.getElem?_eq_getElem (by omega)]
   rw[hgd]at hMo;rw[hrd,hj,show out.length - 1=m from by omega];generalize out[m]=y at *;obtain⟨w4,rfl,hw4⟩:=kI hMo;have y0:=wR 0 _ rfl;have y1:=wR 1 _ rfl;have y3:=wR 3 _ rfl;have f3:=hfzo 3;change World.cell? _ ⟨go,m * 5,none⟩=_ at y0;change World.cell? _ ⟨go,m * 5+1,none⟩=_ at y1;change World.cell? _ ⟨go,m * 5+3,none⟩=_ at y3;change World.frozen? _ ⟨go,m * 5+3,none⟩=_ at f3;obtain⟨yd,yk,yn,yt,ya⟩:=y;simp only at y0 y1 y3 hzm⊢;rw[hm]at c1;have g1:decide ((0:Int)<((m+1:Nat):Int))=true:=decide_eq_true (by omega);have g2:decide (0<m+1)=true:=decide_eq_true (by omega);have i1:(0:Int)≤(m:Int):=by omega
   have i2:(m:Int)<(m:Int)+1:=by omega
   have iw:wrap64 (m:Int)=(m:Int):=by unfold wrap64;omega
   have hbd:Below W.heap.size W W.drew:=ah.aD.cZ (Below.refl _ _);have hkd:=(iQ.refl B W).below hbd;have hbw:Below w0.heap.size W W.drew:=hbd.mono h.below.size;have hstep:=h.step hbd
   by_cases k1:yk=1
   ·subst k1
    by_cases k2:yd=op.length
    ·subst k2
     rw[if_pos (by simp)];have a1:decide (yt.size+s.size≤9223372036854775807)=true:=decide_eq_true hzm;have a2:(9223372036854775807<yt.size+s.size)=False:=eq_false (by omega);go_enter Tryz.func67,Tryz.ntmps67;go_wp2;refine oV (n:=32) (S:=fun w'=>w'.cell? ⟨B,1,none⟩=some (.slice (some ⟨go,0,none⟩) (m+1) cr)∧w'.cell? ⟨B,0,none⟩=some (.slice Ao op.length co)∧w'.cell? ⟨go,m * 5,none⟩=some (.int .i64 op.length)∧w'.cell? ⟨go,m * 5+1,none⟩=some (.int .i64 1)) (ds:=[]) (bits 32 0) (by kernel_rfl) rfl (by kernel_rfl) ⟨c1,c0,y0,y1⟩ (fun hHeld=>?_)
     refine sw 0 18 ?_;refine sw 1 19 ?_;refine sw 2 20 ?_;refine sw 3 21 ?_;refine sw 4 22 ?_;refine sw 5 23 ?_;refine st 6 24 ?_;refine sw 7 25 ?_;refine sw 8 26 ?_;refine sw 9 27 ?_;refine sw 10 28 ?_;refine st 11 29 ?_;refine sw 12 30 ?_;refine sw 13 31 ?_;refine sw 14 32 ?_;refine sw 15 33 ?_;refine sw 16 34 ?_;refine sw 17 35 ?_;refine st 18 36 ?_;refine sw 19 37 ?_;refine sw 20 38 ?_;refine sw 21 39 ?_;refine sw 22 40 ?_;refine st 23 41 ?_;refine sw 24 42 ?_;refine sw 25 43 ?_;refine sw 26 44 ?_;refine st 27 45 ?_;refine sw 28 46 ?_;refine sw 29 47 ?_;refine sw 30 48 ?_;refine sw 31 17 ?_
     refine sW (by kernel_rfl) ?_;go_wp2;go_end0;have hne:=blk_ne h1 hcO (by decide);have hbase:=Kd.jH h3 go rfl;have hS:=(Kd.R_seg h3 (m:Int) (by omega) (by omega) (c:=[.int .i64 op.length,.int .i64 1,.string yn,.string yt,w4]) (seg:=[.string (yt++s)]) (j:=3) hcl wR (by show 3+1≤5;omega) (x':=(⟨op.length,1,yn,yt++s,ya⟩:Rw)) (okp:=fun k=>True∧k≠go) (wP _ _ _ (⟨op.length,1,yn,yt++s,ya⟩:Rw) hw4) (fun _ h=>h)).1;have hB':(W.setCell ⟨go,m * 5+3,none⟩ (.string (yt++s))).heap[B]?=some (.cells #[.slice Ao op.length co,.slice (some ⟨go,0,none⟩) out.length cr,.bool big] 73 (0,0)):=(Below.heap_setCell W ⟨go,m * 5+3,none⟩ _ B hne).trans h1;have hd2:Below (W.setCell ⟨go,m * 5+3,none⟩ (.string (yt++s))).heap.size (W.setCell ⟨go,m * 5+3,none⟩ (.string (yt++s))) (W.setCell ⟨go,m * 5+3,none⟩ (.string (yt++s))).drew:=ah.aD.cZ (Below.refl _ _);have hb2:Below w0.heap.size W (W.setCell ⟨go,m * 5+3,none⟩ (.string (yt++s))):=(Below.refl _ W).setCell (p:=⟨go,m * 5+3,none⟩) hbase _
     have hfin:Bd w0 B op (out.set m ⟨op.length,1,yn,yt++s,ya⟩) big (W.setCell ⟨go,m * 5+3,none⟩ (.string (yt++s))):=⟨h.below.trans hb2,h.base,_,_,hB',Kd.tY h2 hcO (by decide) (m * 5+3) _,hS⟩;have hkk:iQ B W (W.setCell ⟨go,m * 5+3,none⟩ (.string (yt++s))):=fun k o q0 q1 q2 q3=>(Below.heap_setCell W ⟨go,m * 5+3,none⟩ _ k (fun e=>by subst e;exact q3 cellsO (Option.some.inj (q0.symm.trans hcO)))).trans q0
     exact⟨rfl,hfin.step hd2,hb2.trans (hd2.mono hfin.below.size),hkk.below hd2⟩
    ·have q1:(yd==(op.length:Int))=false:=beq_eq_false_iff_ne.2 k2
     rw[if_neg (by simp[k2])];generalize kN op out big ⟨0,1,⟨#[]⟩,s,[]⟩=res at *;go_enter Tryz.func67,Tryz.ntmps67;go_wp2;refine oV (n:=32) (S:=fun w'=>w'.cell? ⟨B,1,none⟩=some (.slice (some ⟨go,0,none⟩) (m+1) cr)∧w'.cell? ⟨B,0,none⟩=some (.slice Ao op.length co)∧w'.cell? ⟨go,m * 5,none⟩=some (.int .i64 yd)∧w'.cell? ⟨go,m * 5+1,none⟩=some (.int .i64 1)) (ds:=[]) (bits 32 0) (by kernel_rfl) rfl (by kernel_rfl) ⟨c1,c0,y0,y1⟩ (fun hHeld=>?_);refine sw 0 18 ?_;refine sw 1 19 ?_;refine sw 2 20 ?_;refine sw 3 21 ?_;refine sw 4 22 ?_;refine sw 5 23 ?_;refine st 6 24 ?_;refine sw 7 25 ?_;refine sw 8 26 ?_;refine sw 9 27 ?_;refine sw 10 28 ?_;refine st 11 29 ?_;refine sw 12 30 ?_;refine sw 13 31 ?_;refine sw 14 32 ?_;refine sw 15 33 ?_;refine sw 16 34 ?_;refine sw 17 35 ?_;refine st 18 36 ?_;refine sw 19 37 ?_;refine sw 20 38 ?_;refine sw 21 39 ?_;refine sw 22 40 ?_;refine st 23 41 ?_;refine sw 24 42 ?_;refine sw 25 43 ?_;refine sw 26 44 ?_;refine st 27 45 ?_;refine sw 28 46 ?_;refine sw 29 47 ?_;refine sw 30 48 ?_;refine sw 31 17 ?_
     refine sW (by kernel_rfl) ?_
     go_wp2_with(go_at_call 68;((with_reducible refine(hlay.out _ hstep).mono ?_);rintro e W1 ⟨rfl,hB1,hb1,hk3⟩))
     go_end0;exact⟨rfl,hB1,hbw.trans hb1,hkd.trans hk3⟩
   ·have q1:(yk==1)=false:=beq_eq_false_iff_ne.2 k1
    rw[if_neg (by simp[k1])];generalize kN op out big ⟨0,1,⟨#[]⟩,s,[]⟩=res at *;go_enter Tryz.func67,Tryz.ntmps67;go_wp2;refine oV (n:=32) (S:=fun w'=>w'.cell? ⟨B,1,none⟩=some (.slice (some ⟨go,0,none⟩) (m+1) cr)∧w'.cell? ⟨B,0,none⟩=some (.slice Ao op.length co)∧w'.cell? ⟨go,m * 5,none⟩=some (.int .i64 yd)∧w'.cell? ⟨go,m * 5+1,none⟩=some (.int .i64 yk)) (ds:=[]) (bits 32 0) (by kernel_rfl) rfl (by kernel_rfl) ⟨c1,c0,y0,y1⟩ (fun hHeld=>?_);refine sw 0 18 ?_;refine sw 1 19 ?_;refine sw 2 20 ?_;refine sw 3 21 ?_;refine sw 4 22 ?_;refine sw 5 23 ?_;refine st 6 24 ?_;refine sw 7 25 ?_;refine sw 8 26 ?_;refine sw 9 27 ?_;refine sw 10 28 ?_;refine st 11 29 ?_;refine sw 12 30 ?_;refine sw 13 31 ?_;refine sw 14 32 ?_;refine su 15 33 ?_;refine su 16 34 ?_;refine su 17 35 ?_;refine su 18 36 ?_;refine su 19 37 ?_;refine su 20 38 ?_;refine su 21 39 ?_;refine su 22 40 ?_;refine su 23 41 ?_;refine su 24 42 ?_;refine su 25 43 ?_;refine su 26 44 ?_;refine su 27 45 ?_;refine su 28 46 ?_;refine su 29 47 ?_;refine sw 30 48 ?_;refine sw 31 17 ?_
    refine sW (by kernel_rfl) ?_
    go_wp2_with(go_at_call 68;((with_reducible refine(hlay.out _ hstep).mono ?_);rintro e W1 ⟨rfl,hB1,hb1,hk3⟩))
    go_end0;exact⟨rfl,hB1,hbw.trans hb1,hkd.trans hk3⟩
end Go.Proofs.aj.W7
namespace Go.Proofs.aj.W7
open Go.RowKit Go.Proofs YtkcmghlhpbepcaaGreatDoor ah.aD
def lK(some_ walls:List Bt):Nat→List Bt→List Bt
 |0,op=>op
 |n+1,op=>if dS op some_ walls op.length<0 then op else lK some_ walls n (op.take (dS op some_ walls op.length).toNat)
theorem zJ(xs some_ walls:List Bt):∀k,-1≤dS xs some_ walls k∧dS xs some_ walls k<k
 |0=>by simp[dS]
 |k+1=>by
  have:=zJ xs some_ walls k;simp only[dS]
  split
  ·omega
  ·split<;>omega
def oW(some_ walls op:List Bt):List Bt:=lK some_ walls (op.length+1) op
theorem MZ(w0:World)(B:Nat)(op:List Bt)(out:List Rw)(big:Bool)(A1:Option Addr)(c1:Nat)(some_:List Bt)(A2:Option Addr)(c2:Nat)(walls:List Bt)(W:World)(h:Bd w0 B op out big W)
 (hs:Kd.string.R 9 W w0.heap.size (fun _=>True) (.slice A1 some_.length c1) some_) (hw:Kd.string.R 9 W w0.heap.size (fun _=>True) (.slice A2 walls.length c2) walls):
 Calls Tryz.prog 112 #[.pointer (some ⟨B,0,none⟩),.slice A1 some_.length c1,.slice A2 walls.length c2] W fun e W'=>e=.returned (.tuple #[])∧
  Bd w0 B (oW some_ walls op) out big W'∧Below w0.heap.size W W'∧iQ B W W':=by
 have hfd:=Lib.hid (fun(op:List Bt) (A:Option Addr) (c:Nat) (X:World) (h0:Kd.string.R 9 X w0.heap.size (fun _=>True) (.slice A op.length c) op) (h1:Kd.string.R 9 X w0.heap.size (fun _=>True) (.slice A1 some_.length c1) some_) (h2:Kd.string.R 9 X w0.heap.size (fun _=>True) (.slice A2 walls.length c2) walls)=>
  gZ.calls A c op A1 c1 some_ A2 c2 walls (dS op some_ walls op.length) X (Kd.bg h0).2.2 (Kd.bg h0).2.1 (Kd.bg h1).2.2 (Kd.bg h1).2.1 (Kd.bg h2).2.2 (Kd.bg h2).2.1 rfl)
 obtain⟨vo,vr,h1,h2,h3⟩:=id h.ex;obtain⟨Ao,co,rfl⟩:=Kd.cK h2;obtain⟨b0,b1,b2,bf⟩:=aN h1;have hbz:=h.below.size;go_enter Tryz.func112,Tryz.ntmps112
 go_wp2_with(go_at_call 77;((with_reducible refine(hfd.out op Ao co _ h2 hs hw).mono ?_);rintro e W1 ⟨rfl,hb1⟩))
 have hst:=h.step hb1;have hk1:=(iQ.refl B W).below hb1;have hs1:=Kd.bK hs hb1;have hw1:=Kd.bK hw hb1;have Gn:Below w0.heap.size W W1:=hb1.mono hbz;clear h1 h2 h3 b0 b1 b2 bf
 go_loopw [6] (fun vi wr=>∃(o:List Bt) (n:Nat),vi=.int .i64 (dS o some_ walls o.length)∧o.length≤op.length∧o.length<n∧Hid (lK some_ walls n o=oW some_ walls op)∧Bd w0 B o out big wr∧Below w0.heap.size W wr∧iQ B W wr∧Kd.string.R 9 wr w0.heap.size (fun _=>True) (.slice A1 some_.length c1) some_∧Kd.string.R 9 wr w0.heap.size (fun _=>True) (.slice A2 walls.length c2) walls) (fun vi _=>(intOf vi+1).toNat)
 case atStart=>exact⟨op,op.length+1,rfl,Nat.le_refl _,Nat.lt_succ_self _,rfl,hst,Gn,hk1,hs1,hw1⟩
 case round=>
  obtain⟨o,n,rfl,hol,hon,hcl,hBd,hbw,hkp,hsr,hwr⟩:=hrel;obtain⟨n,rfl⟩:∃m,n=m+1:=⟨n - 1,by omega⟩
  have hfl:=zJ o some_ walls o.length;have hcl2:=hcl.out;simp only[lK]at hcl2
  by_cases hneg:dS o some_ walls o.length<0
  ·rw[if_pos hneg]at hcl2
   have e1:decide ((0:Int)≤dS o some_ walls o.length)=false:=decide_eq_false (by omega);generalize dS o some_ walls o.length=i at *;subst hcl2;go_wp2;go_end0;exact⟨rfl,hBd,hbw,hkp⟩
  ·rw[if_neg hneg]at hcl2
   obtain⟨i,hi⟩:∃i:Nat,dS o some_ walls o.length=i:=⟨(dS o some_ walls o.length).toNat,by omega⟩
   rw[hi]at hcl2 hfl⊢;simp only[Int.toNat_natCast]at hcl2;replace hcl2:=Lib.hid hcl2;have hil:i<o.length:=by omega
   clear hi hneg hcl;obtain⟨vo,vr,g1,g2,g3⟩:=id hBd.ex;obtain⟨Ao',co',rfl⟩:=Kd.cK g2;obtain⟨b0,b1,b2,bf⟩:=aN g1;have hrd:=Kd.bg g2;have htk:=Kd.wQ (m:=i) g2 (by omega);have htl:(o.take i).length=i:=by rw[List.length_take];omega
   have hset:Bd w0 B (o.take i) out big (wr.setCell ⟨B,0,none⟩ (.slice Ao' i co')):=
    ⟨hBd.below.setCell (p:=⟨B,0,none⟩) hBd.base _,hBd.base,_,_,bQ g1 0 _ rfl,Kd.tY htk g1 (by decide) 0 _,Kd.tY g3 g1 (by decide) 0 _⟩
   have hs2:=Kd.tY hsr g1 (by decide) 0 (.slice Ao' i co');have hw2:=Kd.tY hwr g1 (by decide) 0 (.slice Ao' i co');have hk2:=hkp.set 0 (.slice Ao' i co');have hb2:=hbw.setCell (p:=⟨B,0,none⟩) hBd.base (.slice Ao' i co');have ht2:Kd.string.R 9 (wr.setCell ⟨B,0,none⟩ (.slice Ao' i co')) w0.heap.size (fun _=>True) (.slice Ao' (o.take i).length co') (o.take i):=by rw[htl];exact Kd.tY htk g1 (by decide) 0 _
   have hcall:=Lib.hid (hfd.out (o.take i) Ao' co' _ ht2 hs2 hw2);rw[htl]at hcall;obtain⟨z0,-,-,-⟩:=aN (bQ g1 0 (.slice Ao' i co') rfl);have e1:decide ((0:Int)≤(i:Int))=true:=decide_eq_true (by omega)
   go_wp2_with(go_at_call 77;((with_reducible refine hcall.out.mono ?_);rintro e W2 ⟨rfl,hb3⟩))
   have hfl2:=zJ (o.take i) some_ walls i;refine⟨⟨o.take i,n,?_,by omega,by omega,hcl2,hset.step hb3,hb2.trans (hb3.mono (by have:=hset.below.size;omega)),hk2.below hb3,Kd.bK hs2 hb3,Kd.bK hw2 hb3⟩,?_⟩
   ·rw[htl]
   ·simp[intOf];omega
end Go.Proofs.aj.W7
