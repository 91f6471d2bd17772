/- Lemmas and walks, part 17. -/
import Derived.Test.YtkcmghlhpbepcaaGreatDoorNB16
set_option linter.unusedVariables false
set_option linter.unusedSimpArgs false
set_option maxHeartbeats 8000000
set_option maxRecDepth 100000
namespace Go.Proofs.aj.W7
open Go.RowKit Go.Proofs Go.Proofs.YtkcmghlhpbepcaaGreatDoor Go.Proofs.ah.aD
def uz(outs:List Rw)(x:Rw):Option (List Rw):=
 if x.f1=1∧x.f3.data.toList=[]then some outs
 else if x.f1=1∧0<outs.length∧(au outs ((outs.length:Int) - 1)).f1=1∧(au outs ((outs.length:Int) - 1)).f0=x.f0 then
  if(au outs ((outs.length:Int) - 1)).f3.size+x.f3.size≤9223372036854775807 then
   some (outs.set (outs.length - 1) ⟨(au outs ((outs.length:Int) - 1)).f0,(au outs ((outs.length:Int) - 1)).f1,(au outs ((outs.length:Int) - 1)).f2,(au outs ((outs.length:Int) - 1)).f3++x.f3,(au outs ((outs.length:Int) - 1)).f4⟩)
  else none
 else if outs.length<1000000000000 then some (outs++[x])else none
def qK:List Rw→List Rw→Option (List Rw)
 |outs,[]=>some outs
 |outs,x::xs=>(uz outs x).bind fun o=>qK o xs
def iX.f(l0:List Rw):Option (List Rw):=(fQ.f (l0.length+1) l0 0).bind fun ms=>qK [] ms
theorem mM(w:World)(o:Obj):(w.alloc o).drew=w.drew.alloc o:=rfl
theorem rZ{v v1:Value}{n m:Nat}(h:∀k,v.ownBlock=some k→n≤k)(hat:v1.ownBlock=v.ownBlock∨∃b,v1.ownBlock=some b∧m≤b)(hm:n≤m):∀k,v1.ownBlock=some k→n≤k:=by
 intro k hk
 rcases hat with e|⟨b,e,hb⟩
 ·exact h k (e▸hk)
 ·rw[e]at hk
  cases hk;omega
theorem iX.calls(A:Option Addr)(c:Nat)(xs res:List Rw)(w:World)(hr:k34.C w A xs.length xs)(hcap:xs.length≤c)(h:iX.f xs=some res):
 Calls Tryz.prog 41 #[.slice A xs.length c] w fun e w'=>∃v0_:Value,e=.returned (v0_)∧Kd.R k34 34 w' w.heap.size (fun _=>True) v0_ res∧Below w.heap.size w w':=by
 unfold iX.f at h;obtain⟨ms,hms,h⟩:=Option.bind_eq_some_iff.1 h;have hmv:=Lib.hid (fQ.calls (xs.length+1) A c xs 0 ms w hr hcap hms);clear hms;replace h:=Lib.hid h;go_enter Tryz.func41,Tryz.ntmps41
 go_wp2_with(go_at_call 89;((with_reducible refine hmv.out.mono ?_);rintro e w1 ⟨vm,rfl,hm,hb1⟩;obtain⟨A1,c1,rfl⟩:=Kd.dI hm))
 have hml:=(Kd.bK hm).2.2.2.1
 go_loopw [3,10] (fun vo vi wr=>∃(i:Nat) (outs:List Rw),vi=.int .i64 i∧i≤ms.length∧Hid (qK outs (ms.drop i)=some res)∧Kd.R k34 34 wr w.heap.size (fun _=>True) vo outs∧Below w1.heap.size w1 wr∧Hid (∀k,vo.ownBlock=some k→w1.heap.size≤k)) (fun _ vi _=>ms.length - (intOf vi).toNat)
 case atStart=>exact⟨0,[],rfl,Nat.zero_le _,h.out,Kd.nI _ _ _ _ _,Below.refl _ _,fun k hk=>by simp[Value.ownBlock]at hk⟩
 case round=>
  obtain⟨i,outs,rfl,hi,hrest,hO,hB,hown⟩:=hrel;obtain⟨A2,c2,rfl⟩:=Kd.dI hO;have hol:=(Kd.bK hO).2.2.2.1;have hbw:=hb1.size;have hbz:=hB.size
  by_cases hlt:i<ms.length
  ·obtain⟨gm,capm,hv,-,-,-⟩:=Kd.Ee hm (by omega)
   simp only[Value.slice.injEq,true_and]at hv;obtain⟨rfl,rfl⟩:=hv;obtain⟨cs,hcl,hM,hcell,hfz⟩:=Kd.MR hm (⟨0,0,⟨#[]⟩,⟨#[]⟩,[]⟩:Rw) i (by omega) (by omega);have hgd:ms.getD (i:Int).toNat (⟨0,0,⟨#[]⟩,⟨#[]⟩,[]⟩:Rw)=ms[i]:=by simp[hlt]
   rw[hgd]at hM;have Hy:=hrest.out;rw[List.drop_eq_getElem_cons hlt]at Hy;simp only[qK]at Hy;obtain⟨o2,hst,hre⟩:=Option.bind_eq_some_iff.1 Hy;clear hrest hgd hfz Hy;generalize ms[i]=x at *;obtain⟨v4,rfl,hv4⟩:=BM hM;obtain⟨A4,c4,rfl⟩:=Kd.dI hv4;have z0:=aV (hcell 0 _ rfl) hB;have z1:=aV (hcell 1 _ rfl) hB;have z2:=aV (hcell 2 _ rfl) hB;have z3:=aV (hcell 3 _ rfl) hB;have z4:=aV (hcell 4 _ rfl) hB;change wr.cell? ⟨gm,i * 5,none⟩=_ at z0;change wr.cell? ⟨gm,i * 5+1,none⟩=_ at z1;change wr.cell? ⟨gm,i * 5+2,none⟩=_ at z2;change wr.cell? ⟨gm,i * 5+3,none⟩=_ at z3;change wr.cell? ⟨gm,i * 5+4,none⟩=_ at z4;have hrest3:=Lib.hid hre;clear hcell hcl hre;obtain⟨xd,xk,xn,xt,xa⟩:=x;simp only at z0 z1 z2 z3 z4;have hnt:=bR wr #[.int .i64 xd,.int .i64 xk,.string xn,.string xt,.slice A4 xa.length c4] 34;obtain⟨⟨p0,p1,p2,p3,p4⟩,p5⟩:=aW hnt;have hBA:=hB.alloc hbz (.cells #[.int .i64 xd,.int .i64 xk,.string xn,.string xt,.slice A4 xa.length c4] 34);have hOA:=Kd.fu hO (.cells #[.int .i64 xd,.int .i64 xk,.string xn,.string xt,.slice A4 xa.length c4] 34)
   have hsA:w.heap.size≤(wr.alloc (.cells #[.int .i64 xd,.int .i64 xk,.string xn,.string xt,.slice A4 xa.length c4] 34)).heap.size:=by rw[World.size_alloc];omega
   have hsB:w1.heap.size≤(wr.alloc (.cells #[.int .i64 xd,.int .i64 xk,.string xn,.string xt,.slice A4 xa.length c4] 34)).heap.size:=by rw[World.size_alloc];omega
   have hMp:=Kd.gu k34 (ok':=fun k=>k<w1.heap.size) (fun k hk=>hk.2.2.1) (Kd.gJ k34 hM);have hsz1:(wr.alloc (.cells #[.int .i64 xd,.int .i64 xk,.string xn,.string xt,.slice A4 xa.length c4] 34)).heap.size=wr.heap.size+1:=World.size_alloc _ _;unfold uz at hst
   by_cases hA:xk=1∧xt.data.toList=[]
   ·rw[if_pos hA]at hst
    obtain rfl:=Option.some.inj hst;obtain⟨rfl,hxt⟩:=hA
    obtain rfl:xt=⟨#[]⟩:=by
     obtain⟨d⟩:=xt;simpa using hxt
    clear hst;go_wp2;exact⟨⟨i+1,outs,rfl,by omega,hrest3,hOA,hBA,hown⟩,by simp[intOf];omega⟩
   ·rw[if_neg hA]at hst
    have hne:xk=1→¬xt.data.toList=[]:=fun e1 e2=>hA ⟨e1,e2⟩
    clear hA;have hne1:xk=1→(xt.toList==[])=false:=fun e1=>by rw[beq_eq_false_iff_ne,Lib.toList_data];exact hne e1
    by_cases hk1:xk=1
    ·have hx1:=hne1 hk1
     have hx2:¬xt.toList=[]:=by rw[Lib.toList_data];exact hne hk1
     subst hk1
     by_cases hn0:0<outs.length
     ·obtain⟨go,capo,hv,-,-,-⟩:=Kd.Ee hO hn0
      simp only[Value.slice.injEq,true_and]at hv;obtain⟨rfl,rfl⟩:=hv;obtain⟨m,hm1⟩:∃m,outs.length=m+1:=⟨outs.length - 1,by omega⟩
      obtain⟨cs,hcl,hMo,vH,hfzo⟩:=Kd.MR hOA (⟨0,0,⟨#[]⟩,⟨#[]⟩,[]⟩:Rw) (m:Int) (by omega) (by omega);have hgd:outs.getD (m:Int).toNat (⟨0,0,⟨#[]⟩,⟨#[]⟩,[]⟩:Rw)=outs[m]:=by simp[show m<outs.length by omega]
      have hrd:au outs ((outs.length:Int) - 1)=outs[m]:=by
       rw[show(outs.length:Int) - 1=(m:Int)from by omega];simp[au,show m<outs.length by omega]
      rw[hgd]at hMo;rw[hrd,show outs.length - 1=m from by omega]at hst;generalize outs[m]=y at *;obtain⟨w4,rfl,hw4⟩:=BM hMo;have y0:=vH 0 _ rfl;have y1:=vH 1 _ rfl;have y3:=vH 3 _ rfl;have f3:=hfzo 3;change World.cell? _ ⟨go,m * 5,none⟩=_ at y0;change World.cell? _ ⟨go,m * 5+1,none⟩=_ at y1;change World.cell? _ ⟨go,m * 5+3,none⟩=_ at y3;change World.frozen? _ ⟨go,m * 5+3,none⟩=_ at f3;obtain⟨yd,yk,yn,yt,ya⟩:=y;simp only at y0 y1 y3
      by_cases hB1:yk=1∧yd=xd
      ·rw[if_pos ⟨rfl,hn0,hB1⟩]at hst
       obtain⟨rfl,rfl⟩:=hB1;have hcx:¬xt=⟨#[]⟩:=fun e=>hx2 (by rw[Lib.toList_data,e])
       clear hne hne1;rw[hm1];go_wp2
       first
        |go_region
        |skip
       by_cases hsz:yt.size+xt.size≤9223372036854775807
       ·rw[if_pos hsz]at hst
        obtain rfl:=Option.some.inj hst;have a1:decide (yt.size+xt.size≤9223372036854775807)=true:=decide_eq_true hsz;have a2:(9223372036854775807<yt.size+xt.size)=False:=eq_false (by omega);clear hst;go_wp2
        first
         |go_region
         |skip
        go_wp2;have hge:=hown.out go (by simp[Value.ownBlock]);have hS:=(Kd.R_seg hOA (m:Int) (by omega) (by omega) (c:=[.int .i64 yd,.int .i64 1,.string yn,.string yt,w4]) (seg:=[.string (yt++xt)]) (j:=3) hcl vH (by show 3+1≤5;omega) (x':=(⟨yd,1,yn,yt++xt,ya⟩:Rw)) (okp:=fun k=>True∧k≠go) (yD _ _ _ (⟨yd,1,yn,yt++xt,ya⟩:Rw) hw4) (fun _ h=>h)).1;rw[hm1]at hS;have hBS:Below w1.heap.size w1 _:=hBA.setCell (p:=⟨go,m * 5+3,none⟩) hge (.string (yt++xt));exact⟨⟨i+1,outs.set m (⟨yd,1,yn,yt++xt,ya⟩:Rw),rfl,by omega,hrest3,Kd.fG (Kd.fG hS),bX (bX hBS),Lib.hid (fun k hk=>hown.out k (by simpa [Value.ownBlock]using hk))⟩,by simp[intOf];omega⟩
       ·rw[if_neg hsz]at hst
        cases hst
      ·rw[if_neg (fun e=>hB1 e.2.2)]at hst
       have hcx:¬xt=⟨#[]⟩:=fun e=>hx2 (by rw[Lib.toList_data,e])
       clear hne hne1
       by_cases hy1:yk=1
       ·subst hy1
        have hy2:(yd==xd)=false:=beq_eq_false_iff_ne.2 (fun e=>hB1 ⟨rfl,e⟩)
        by_cases hlen:outs.length<1000000000000
        ·rw[if_pos hlen]at hst
         obtain rfl:=Option.some.inj hst;clear hst;rw[hm1];rw[hm1]at hOA hown
         go_wp2_with(at_builtin;(try rw[mM]);refine Kd.lQ k34 (w0:=w1) w.heap.size rfl (.tmp 16) (.tmp 18) 22 34 (.agg #[(.int .i64 0),(.int .i64 0),(.string ⟨#[]⟩),(.string ⟨#[]⟩),(.slice none 0 0)]) 72 rfl Tryz.underlying22 ru rfl (by decide) (by omega) (.slice (some ⟨go,0,none⟩) (m+1) c2) outs (⟨xd,1,xn,xt,xa⟩:Rw) [.int .i64 xd,.int .i64 1,.string xn,.string xt,.slice A4 xa.length c4] (fun _=>True) (fun k=>k<w1.heap.size) rfl ?aX ?aP ?aK ?aF ?aO ?aB ?aS ?aL ?_;(case aX=>exact congrArg (fun n=>Value.slice (some ⟨n,0,none⟩) 1 1) hsz1.symm);(case aP=>exact Kd.qL hMp (by first|with_reducible exact bX hBA|with_reducible exact hBA));(case aK=>exact fun k hk=>⟨trivial,fun e=>by have:=hown.out k e.symm;omega⟩);(case aF=>exact fun _ _=>trivial);(case aO=>first|with_reducible exact Kd.fG hOA|with_reducible exact hOA);(case aB=>exact Below.mono (by first|with_reducible exact bX hBA|with_reducible exact hBA) hbw);(case aS=>exact hsA);(case aL=>omega);intro v1 w2 hO2 hb2 hg2 xJ;obtain⟨A3,c3,rfl⟩:=Kd.dI hO2;have hB2:=Below.grown (bX hBA) hg2 hsB (fun k hk=>hown.out k hk);have hown2:=Lib.hid (rZ hown.out xJ hsB))
         first
          |(go_region;go_wp2_with(at_builtin;(try rw[mM]);refine Kd.lQ k34 (w0:=w1) w.heap.size rfl (.tmp 16) (.tmp 18) 22 34 (.agg #[(.int .i64 0),(.int .i64 0),(.string ⟨#[]⟩),(.string ⟨#[]⟩),(.slice none 0 0)]) 72 rfl Tryz.underlying22 ru rfl (by decide) (by omega) (.slice (some ⟨go,0,none⟩) (m+1) c2) outs (⟨xd,1,xn,xt,xa⟩:Rw) [.int .i64 xd,.int .i64 1,.string xn,.string xt,.slice A4 xa.length c4] (fun _=>True) (fun k=>k<w1.heap.size) rfl ?aX ?aP ?aK ?aF ?aO ?aB ?aS ?aL ?_;(case aX=>exact congrArg (fun n=>Value.slice (some ⟨n,0,none⟩) 1 1) hsz1.symm);(case aP=>exact Kd.qL hMp (by first|with_reducible exact bX hBA|with_reducible exact hBA));(case aK=>exact fun k hk=>⟨trivial,fun e=>by have:=hown.out k e.symm;omega⟩);(case aF=>exact fun _ _=>trivial);(case aO=>first|with_reducible exact Kd.fG hOA|with_reducible exact hOA);(case aB=>exact Below.mono (by first|with_reducible exact bX hBA|with_reducible exact hBA) hbw);(case aS=>exact hsA);(case aL=>omega);intro v1 w2 hO2 hb2 hg2 xJ;obtain⟨A3,c3,rfl⟩:=Kd.dI hO2;have hB2:=Below.grown (bX hBA) hg2 hsB (fun k hk=>hown.out k hk);have hown2:=Lib.hid (rZ hown.out xJ hsB)))
          |skip
         rw[List.length_append,hm1,List.length_singleton]at hO2 hown2;exact⟨⟨i+1,outs++[(⟨xd,1,xn,xt,xa⟩:Rw)],rfl,by omega,hrest3,hO2,hB2,hown2⟩,by simp[intOf];omega⟩
        ·rw[if_neg hlen]at hst
         cases hst
       ·have hy2:(yk==1)=false:=beq_eq_false_iff_ne.2 hy1
        by_cases hlen:outs.length<1000000000000
        ·rw[if_pos hlen]at hst
         obtain rfl:=Option.some.inj hst;clear hst;rw[hm1];rw[hm1]at hOA hown
         go_wp2_with(at_builtin;(try rw[mM]);refine Kd.lQ k34 (w0:=w1) w.heap.size rfl (.tmp 16) (.tmp 18) 22 34 (.agg #[(.int .i64 0),(.int .i64 0),(.string ⟨#[]⟩),(.string ⟨#[]⟩),(.slice none 0 0)]) 72 rfl Tryz.underlying22 ru rfl (by decide) (by omega) (.slice (some ⟨go,0,none⟩) (m+1) c2) outs (⟨xd,1,xn,xt,xa⟩:Rw) [.int .i64 xd,.int .i64 1,.string xn,.string xt,.slice A4 xa.length c4] (fun _=>True) (fun k=>k<w1.heap.size) rfl ?aX ?aP ?aK ?aF ?aO ?aB ?aS ?aL ?_;(case aX=>exact congrArg (fun n=>Value.slice (some ⟨n,0,none⟩) 1 1) hsz1.symm);(case aP=>exact Kd.qL hMp (by first|with_reducible exact bX hBA|with_reducible exact hBA));(case aK=>exact fun k hk=>⟨trivial,fun e=>by have:=hown.out k e.symm;omega⟩);(case aF=>exact fun _ _=>trivial);(case aO=>first|with_reducible exact Kd.fG hOA|with_reducible exact hOA);(case aB=>exact Below.mono (by first|with_reducible exact bX hBA|with_reducible exact hBA) hbw);(case aS=>exact hsA);(case aL=>omega);intro v1 w2 hO2 hb2 hg2 xJ;obtain⟨A3,c3,rfl⟩:=Kd.dI hO2;have hB2:=Below.grown (bX hBA) hg2 hsB (fun k hk=>hown.out k hk);have hown2:=Lib.hid (rZ hown.out xJ hsB))
         first
          |(go_region;go_wp2_with(at_builtin;(try rw[mM]);refine Kd.lQ k34 (w0:=w1) w.heap.size rfl (.tmp 16) (.tmp 18) 22 34 (.agg #[(.int .i64 0),(.int .i64 0),(.string ⟨#[]⟩),(.string ⟨#[]⟩),(.slice none 0 0)]) 72 rfl Tryz.underlying22 ru rfl (by decide) (by omega) (.slice (some ⟨go,0,none⟩) (m+1) c2) outs (⟨xd,1,xn,xt,xa⟩:Rw) [.int .i64 xd,.int .i64 1,.string xn,.string xt,.slice A4 xa.length c4] (fun _=>True) (fun k=>k<w1.heap.size) rfl ?aX ?aP ?aK ?aF ?aO ?aB ?aS ?aL ?_;(case aX=>exact congrArg (fun n=>Value.slice (some ⟨n,0,none⟩) 1 1) hsz1.symm);(case aP=>exact Kd.qL hMp (by first|with_reducible exact bX hBA|with_reducible exact hBA));(case aK=>exact fun k hk=>⟨trivial,fun e=>by have:=hown.out k e.symm;omega⟩);(case aF=>exact fun _ _=>trivial);(case aO=>first|with_reducible exact Kd.fG hOA|with_reducible exact hOA);(case aB=>exact Below.mono (by first|with_reducible exact bX hBA|with_reducible exact hBA) hbw);(case aS=>exact hsA);(case aL=>omega);intro v1 w2 hO2 hb2 hg2 xJ;obtain⟨A3,c3,rfl⟩:=Kd.dI hO2;have hB2:=Below.grown (bX hBA) hg2 hsB (fun k hk=>hown.out k hk);have hown2:=Lib.hid (rZ hown.out xJ hsB)))
          |skip
         rw[List.length_append,hm1,List.length_singleton]at hO2 hown2;exact⟨⟨i+1,outs++[(⟨xd,1,xn,xt,xa⟩:Rw)],rfl,by omega,hrest3,hO2,hB2,hown2⟩,by simp[intOf];omega⟩
        ·rw[if_neg hlen]at hst
         cases hst
     ·rw[if_neg (fun e=>hn0 e.2.1)]at hst
      have hcx:¬xt=⟨#[]⟩:=fun e=>hx2 (by rw[Lib.toList_data,e])
      have hl0:outs.length=0:=by omega
      clear hne hne1
      by_cases hlen:outs.length<1000000000000
      ·rw[if_pos hlen]at hst
       obtain rfl:=Option.some.inj hst;clear hst;rw[hl0];rw[hl0]at hOA hown
       go_wp2_with(at_builtin;(try rw[mM]);refine Kd.lQ k34 (w0:=w1) w.heap.size rfl (.tmp 16) (.tmp 18) 22 34 (.agg #[(.int .i64 0),(.int .i64 0),(.string ⟨#[]⟩),(.string ⟨#[]⟩),(.slice none 0 0)]) 72 rfl Tryz.underlying22 ru rfl (by decide) (by omega) (.slice A2 0 c2) outs (⟨xd,1,xn,xt,xa⟩:Rw) [.int .i64 xd,.int .i64 1,.string xn,.string xt,.slice A4 xa.length c4] (fun _=>True) (fun k=>k<w1.heap.size) rfl ?aX ?aP ?aK ?aF ?aO ?aB ?aS ?aL ?_;(case aX=>exact congrArg (fun n=>Value.slice (some ⟨n,0,none⟩) 1 1) hsz1.symm);(case aP=>exact Kd.qL hMp (by first|with_reducible exact bX hBA|with_reducible exact hBA));(case aK=>exact fun k hk=>⟨trivial,fun e=>by have:=hown.out k e.symm;omega⟩);(case aF=>exact fun _ _=>trivial);(case aO=>first|with_reducible exact Kd.fG hOA|with_reducible exact hOA);(case aB=>exact Below.mono (by first|with_reducible exact bX hBA|with_reducible exact hBA) hbw);(case aS=>exact hsA);(case aL=>omega);intro v1 w2 hO2 hb2 hg2 xJ;obtain⟨A3,c3,rfl⟩:=Kd.dI hO2;have hB2:=Below.grown (bX hBA) hg2 hsB (fun k hk=>hown.out k hk);have hown2:=Lib.hid (rZ hown.out xJ hsB))
       first
        |(go_region;go_wp2_with(at_builtin;(try rw[mM]);refine Kd.lQ k34 (w0:=w1) w.heap.size rfl (.tmp 16) (.tmp 18) 22 34 (.agg #[(.int .i64 0),(.int .i64 0),(.string ⟨#[]⟩),(.string ⟨#[]⟩),(.slice none 0 0)]) 72 rfl Tryz.underlying22 ru rfl (by decide) (by omega) (.slice A2 0 c2) outs (⟨xd,1,xn,xt,xa⟩:Rw) [.int .i64 xd,.int .i64 1,.string xn,.string xt,.slice A4 xa.length c4] (fun _=>True) (fun k=>k<w1.heap.size) rfl ?aX ?aP ?aK ?aF ?aO ?aB ?aS ?aL ?_;(case aX=>exact congrArg (fun n=>Value.slice (some ⟨n,0,none⟩) 1 1) hsz1.symm);(case aP=>exact Kd.qL hMp (by first|with_reducible exact bX hBA|with_reducible exact hBA));(case aK=>exact fun k hk=>⟨trivial,fun e=>by have:=hown.out k e.symm;omega⟩);(case aF=>exact fun _ _=>trivial);(case aO=>first|with_reducible exact Kd.fG hOA|with_reducible exact hOA);(case aB=>exact Below.mono (by first|with_reducible exact bX hBA|with_reducible exact hBA) hbw);(case aS=>exact hsA);(case aL=>omega);intro v1 w2 hO2 hb2 hg2 xJ;obtain⟨A3,c3,rfl⟩:=Kd.dI hO2;have hB2:=Below.grown (bX hBA) hg2 hsB (fun k hk=>hown.out k hk);have hown2:=Lib.hid (rZ hown.out xJ hsB)))
        |skip
       rw[List.length_append,hl0,List.length_singleton,Nat.zero_add]at hO2 hown2;exact⟨⟨i+1,outs++[(⟨xd,1,xn,xt,xa⟩:Rw)],rfl,by omega,hrest3,hO2,hB2,hown2⟩,by simp[intOf];omega⟩
      ·rw[if_neg hlen]at hst
       cases hst
    ·rw[if_neg (fun e=>hk1 e.1)]at hst
     have hq1:(xk==1)=false:=beq_eq_false_iff_ne.2 hk1;clear hne hne1
     by_cases hlen:outs.length<1000000000000
     ·rw[if_pos hlen]at hst
      obtain rfl:=Option.some.inj hst;clear hst
      go_wp2_with(at_builtin;(try rw[mM]);refine Kd.lQ k34 (w0:=w1) w.heap.size rfl (.tmp 16) (.tmp 18) 22 34 (.agg #[(.int .i64 0),(.int .i64 0),(.string ⟨#[]⟩),(.string ⟨#[]⟩),(.slice none 0 0)]) 72 rfl Tryz.underlying22 ru rfl (by decide) (by omega) (.slice A2 outs.length c2) outs (⟨xd,xk,xn,xt,xa⟩:Rw) [.int .i64 xd,.int .i64 xk,.string xn,.string xt,.slice A4 xa.length c4] (fun _=>True) (fun k=>k<w1.heap.size) rfl ?aX ?aP ?aK ?aF ?aO ?aB ?aS ?aL ?_;(case aX=>exact congrArg (fun n=>Value.slice (some ⟨n,0,none⟩) 1 1) hsz1.symm);(case aP=>exact Kd.qL hMp (by first|with_reducible exact bX hBA|with_reducible exact hBA));(case aK=>exact fun k hk=>⟨trivial,fun e=>by have:=hown.out k e.symm;omega⟩);(case aF=>exact fun _ _=>trivial);(case aO=>first|with_reducible exact Kd.fG hOA|with_reducible exact hOA);(case aB=>exact Below.mono (by first|with_reducible exact bX hBA|with_reducible exact hBA) hbw);(case aS=>exact hsA);(case aL=>omega);intro v1 w2 hO2 hb2 hg2 xJ;obtain⟨A3,c3,rfl⟩:=Kd.dI hO2;have hB2:=Below.grown (bX hBA) hg2 hsB (fun k hk=>hown.out k hk);have hown2:=Lib.hid (rZ hown.out xJ hsB))
      first
       |(go_region;go_wp2_with(at_builtin;(try rw[mM]);refine Kd.lQ k34 (w0:=w1) w.heap.size rfl (.tmp 16) (.tmp 18) 22 34 (.agg #[(.int .i64 0),(.int .i64 0),(.string ⟨#[]⟩),(.string ⟨#[]⟩),(.slice none 0 0)]) 72 rfl Tryz.underlying22 ru rfl (by decide) (by omega) (.slice A2 outs.length c2) outs (⟨xd,xk,xn,xt,xa⟩:Rw) [.int .i64 xd,.int .i64 xk,.string xn,.string xt,.slice A4 xa.length c4] (fun _=>True) (fun k=>k<w1.heap.size) rfl ?aX ?aP ?aK ?aF ?aO ?aB ?aS ?aL ?_;(case aX=>exact congrArg (fun n=>Value.slice (some ⟨n,0,none⟩) 1 1) hsz1.symm);(case aP=>exact Kd.qL hMp (by first|with_reducible exact bX hBA|with_reducible exact hBA));(case aK=>exact fun k hk=>⟨trivial,fun e=>by have:=hown.out k e.symm;omega⟩);(case aF=>exact fun _ _=>trivial);(case aO=>first|with_reducible exact Kd.fG hOA|with_reducible exact hOA);(case aB=>exact Below.mono (by first|with_reducible exact bX hBA|with_reducible exact hBA) hbw);(case aS=>exact hsA);(case aL=>omega);intro v1 w2 hO2 hb2 hg2 xJ;obtain⟨A3,c3,rfl⟩:=Kd.dI hO2;have hB2:=Below.grown (bX hBA) hg2 hsB (fun k hk=>hown.out k hk);have hown2:=Lib.hid (rZ hown.out xJ hsB)))
       |skip
      rw[List.length_append,List.length_singleton]at hO2 hown2;exact⟨⟨i+1,outs++[(⟨xd,xk,xn,xt,xa⟩:Rw)],rfl,by omega,hrest3,hO2,hB2,hown2⟩,by simp[intOf];omega⟩
     ·rw[if_neg hlen]at hst
      cases hst
  ·have hr0:outs=res:=by
    have h1:=hrest.out;rw[List.drop_of_length_le (by omega)]at h1;exact Option.some.inj h1
   subst hr0;clear hrest h;go_wp2;go_ret;exact⟨_,rfl,hO,Go.Proofs.YtkcmghlhpbepcaaGreatDoor.bD hb1 hbw hB⟩
end Go.Proofs.aj.W7
namespace Go.Proofs.aj.W7
open Go.RowKit Go.Proofs Go.Proofs.aj Go.Proofs.YtkcmghlhpbepcaaGreatDoor Go.Proofs.ah.aD
def qH(p:Option Rw)(x:Rw):Bool:=decide (x.f1=1)&&(decide (x.f3.data.toList=[])||match p with|none=>false|some y=>decide (y.f1=1)&&decide (y.f0=x.f0))
def rT:Option Rw→List Rw→Bool
 |_,[]=>true
 |p,x::r=>!qH p x&&rT (some x) r
theorem nH(xs:List Rw)(i:Nat)(h:i<xs.length):au xs i=xs[i]:=by simp[au,h]
theorem JL(outs:List Rw)(h:0<outs.length):outs.getLast? =some (au outs ((outs.length:Int) - 1)):=by
 have e:(((outs.length:Int) - 1))=((outs.length - 1:Nat):Int):=by omega
 rw[e,nH outs (outs.length - 1) (by omega),List.getLast?_eq_getElem?,List.getElem?_eq_getElem (by omega)]
theorem Md(outs:List Rw)(x:Rw)(h:qH outs.getLast? x=false)(hl:outs.length<1000000000000):uz outs x=some (outs++[x]):=by
 unfold uz;rw[if_neg,if_neg,if_pos hl]
 ·rintro⟨h1,h2,h3,h4⟩
  rw[JL outs h2]at h;simp[qH,h1,h3,h4]at h
 ·rintro⟨h1,h2⟩
  simp[qH,h1,h2]at h
theorem Fv(outs:List Rw)(x:Rw):(outs++[x]).getLast? =some x:=by simp
theorem Qt:∀(xs outs:List Rw),outs.length+xs.length≤1000000→rT outs.getLast? xs=true→qK outs xs=some (outs++xs)
 | [],outs,_,_=>by simp[qK]
 |x::xs,outs,h1,h2=>by
  simp only[List.length_cons]at h1;simp only[rT,Bool.and_eq_true,Bool.not_eq_true']at h2;simp only[qK];rw[Md outs x h2.1 (by omega),Option.bind_some,Qt xs (outs++[x]) (by simp;omega) (by rw[Fv];exact h2.2)];simp
theorem wM{x:Int}(h0:0≤x)(h1:x≤1000000000):wrap64 x=x:=by unfold wrap64;omega
theorem moved_l1(xs:List Rw)(hl:xs.length<1000000)(hd:∀x∈xs,0≤x.f0∧x.f0≤1000000)(ha:∀x∈xs,x.f4.length≤1000000):∀(d i k:Nat) (acc:List Rw),i+d=xs.length→acc.length=i→d<k→fQ.l0 k 0 acc xs (xs.length:Int) i=some (acc++xs.drop i):=by
 intro d
 induction d with
 |zero=>
  intro i k acc hi hacc hk;obtain⟨k,rfl⟩:∃m,k=m+1:=⟨k - 1,by omega⟩
  simp only[fQ.l0];rw[if_neg (by omega),List.drop_of_length_le (by omega),List.append_nil]
 |succ d ih=>
  intro i k acc hi hacc hk;obtain⟨k,rfl⟩:∃m,k=m+1:=⟨k - 1,by omega⟩
  have hlt:i<xs.length:=by omega
  have h0:=hd xs[i] (List.getElem_mem hlt);have h4:=ha xs[i] (List.getElem_mem hlt);simp only[fQ.l0];rw[if_pos (by omega),if_pos (by omega),if_pos (by omega),nH xs i hlt];unfold rA.f;rw[if_pos (by omega),Option.bind_some,if_pos (by omega),wM (by omega) (by omega),wM (by omega) (by omega),Int.add_zero];rw[show((i:Int)+1)=((i+1:Nat):Int)from by omega,ih (i+1) k _ (by omega) (by simp[hacc]) (by omega),List.append_assoc,List.drop_eq_getElem_cons hlt];rfl
theorem Rv(xs:List Rw)(hl:xs.length<1000000)(hd:∀x∈xs,0≤x.f0∧x.f0≤1000000)(ha:∀x∈xs,x.f4.length≤1000000)(hn:rT none xs=true):iX.f xs=some xs:=by
 unfold iX.f fQ.f;have:=moved_l1 xs hl hd ha xs.length 0 (xs.length+1) [] (by omega) rfl (by omega);simp only[Int.ofNat_zero,Int.natCast_zero,List.drop_zero,List.nil_append]at this;rw[this,Option.bind_some];exact Qt xs [] (by simp;omega) hn
theorem Fw:∀(xs ys:List Rw) (p:Option Rw),rT p (xs++ys)=(rT p xs&&rT (xs.getLast?.or p) ys)
 | [],ys,p=>by simp[rT]
 |x::xs,ys,p=>by
  simp only[List.cons_append,rT];rw[Fw xs ys (some x)]
  have:(x::xs).getLast?.or p=xs.getLast?.or (some x):=by
   cases xs with
   |nil=>rfl
   |cons y r=>simp[List.getLast?_cons_cons,List.getLast?_cons]
  rw[this,Bool.and_assoc]
structure OkAt (xs:List Rw) (i:Nat):Prop where
 kind:(au xs i).f1=0∨(au xs i).f1=1∨(au xs i).f1=2
 low:0≤l7 xs i
 high:l7 xs i≤i
 step:0<i→l7 xs i≤l7 xs (i - 1)+1
def JR(xs:List Rw):Prop:=∀j,j<xs.length→OkAt xs j
theorem Mj(d:Int):∀(ys:List Rw) (m:Nat) (h:m<ys.length),m<o9 d ys→d<ys[m].f0
 | [],m,h,_=>by simp at h
 |y::ys,0,h,hm=>by
  simp only[o9]at hm
  split at hm
  ·assumption
  ·omega
 |y::ys,m+1,h,hm=>by
  simp only[o9]at hm
  split at hm
  ·exact Mj d ys m (by simpa using h) (by omega)
  ·omega
theorem Mk(d:Int):∀(ys:List Rw) (h:o9 d ys<ys.length),ys[o9 d ys].f0≤d
 | [],h=>by simp at h
 |y::ys,h=>by
  by_cases e:d<y.f0
  ·have e2:o9 d (y::ys)=o9 d ys+1:=by simp only[o9];rw[if_pos e]
   have h':o9 d ys<ys.length:=by rw[e2]at h;simpa using h
   have:=Mk d ys h';simp only[e2,List.getElem_cons_succ];exact this
  ·have e2:o9 d (y::ys)=0:=by simp only[o9];rw[if_neg e]
   simp only[e2,List.getElem_cons_zero];omega
theorem iI(xs:List Rw)(i:Nat)(h:i<xs.length):l7 xs i=xs[i].f0:=by unfold l7;rw[nH xs i h]
theorem Br(xs:List Rw)(j m:Nat)(h1:j<m)(h2:m<gq xs j)(h3:m<xs.length):l7 xs j<l7 xs m:=by
 have h:=Mj (au xs j).f0 (xs.drop (j+1)) (m - (j+1)) (by rw[List.length_drop];omega) (by unfold gq at h2;omega);rw[List.getElem_drop]at h;rw[iI xs m h3];have e:j+1+(m - (j+1))=m:=by omega
 simp only[e]at h;exact h
theorem at_end(xs:List Rw)(j:Nat)(h:gq xs j<xs.length):l7 xs (gq xs j)≤l7 xs j:=by
 have hs:o9 (au xs j).f0 (xs.drop (j+1))<(xs.drop (j+1)).length:=by unfold gq at h;rw[List.length_drop];omega
 have h1:=Mk _ _ hs;rw[List.getElem_drop]at h1;rw[iI xs _ h];exact h1
def Mi(x:Rw)(t:Txt):Txt:=if nO voids x.f2 then []else t++(([60,47]++x.f2.data.toList)++[62])
def nW(xs:List Rw):Nat→Bool→Nat→Txt
 |0,_,_=>[]
 |d+1,raw,k=>
  if(au xs k).f1=1 then(if raw then(au xs k).f3.data.toList else wrL false (au xs k).f3.data.toList)
  else if(au xs k).f1=2 then([60,33,45,45]++(au xs k).f3.data.toList)++[45,45,62]
  else tagT (au xs k).f2 (au xs k).f4++Mi (au xs k) ((jh xs k).flatMap (nW xs d (nO raws (au xs k).f2)))
def own(x:Rw):Nat:=6 * x.f3.data.toList.length+(tagT x.f2 x.f4).length+x.f2.data.toList.length+20
def zm(xs:List Rw)(a:Nat):Nat:=((xs.drop a).map own).sum
theorem Co(xs:List Rw)(a:Nat)(h:a<xs.length):zm xs a=own xs[a] +zm xs (a+1):=by unfold zm;rw[List.drop_eq_getElem_cons h,List.map_cons,List.sum_cons]
theorem DX(xs:List Rw):∀(d a b:Nat),b - a≤d→a≤b→zm xs b≤zm xs a:=by
 intro d
 induction d with
 |zero=>intro a b h1 h2;rw[show a=b from by omega];exact Nat.le_refl _
 |succ d ih=>
  intro a b h1 h2
  by_cases h:a<b
  ·by_cases h3:a<xs.length
   ·have:=ih (a+1) b (by omega) (by omega)
    rw[Co xs a h3];omega
   ·have e1:zm xs b=0:=by unfold zm;rw[List.drop_of_length_le (by omega)];rfl
    omega
  ·rw[show a=b from by omega];exact Nat.le_refl _
theorem DW(xs:List Rw)(j m:Nat)(h1:j<m)(h2:m<gq xs j)(h3:j<xs.length):gq xs m≤gq xs j:=by
 have hle:=nE xs j h3
 by_cases h:gq xs j<gq xs m
 ·have hm:=nE xs m (by omega)
  have a:=Br xs m (gq xs j) h2 h (by omega);have b:=at_end xs j (by omega);have c:=Br xs j m h1 h2 (by omega);omega
 ·omega
theorem Cq(xs:List Rw)(f:Nat→Txt)(t:Nat)(ht:t≤xs.length):∀(d j:Nat),t - j≤d→j≤t→(∀m,j≤m→m<t→gq xs m≤t)→(∀m,j≤m→m<t→(f m).length+zm xs (gq xs m)≤zm xs m)→
 ((kE xs t j).flatMap f).length+zm xs t≤zm xs j:=by
 intro d
 induction d with
 |zero=>
  intro j hd hj _ _;rw[qA (by omega),show j=t from by omega];simp
 |succ d ih=>
  intro j hd hj hc hf
  by_cases h:j<t
  ·have hgt:=kX xs j
   have h1:=hf j (Nat.le_refl _) h;have h2:=hc j (Nat.le_refl _) h;have h3:=ih (gq xs j) (by omega) h2 (fun m a b=>hc m (by omega) b) (fun m a b=>hf m (by omega) b);rw[pV h (by omega),List.flatMap_cons,List.length_append];omega
  ·exact ih j (by omega) hj hc hf
theorem yX(xs:List Rw)(k:Nat)(hk:k<xs.length):jh xs (k:Int)=kE xs (gq xs k) (k+1):=by
 rw[rC (.inr ⟨by omega,by omega⟩),show toI xs (k:Int)=gq xs k from by unfold toI;rw[if_neg (by omega)];rfl,show Aq (k:Int)=k+1 from by unfold Aq;rw[if_neg (by omega)];rfl]
theorem GV(xs:List Rw):∀(d:Nat) (raw:Bool) (k:Nat),k<xs.length→(nW xs d raw k).length+zm xs (gq xs k)≤zm xs k:=by
 intro d
 induction d with
 |zero=>intro raw k hk;have:=DX xs _ k (gq xs k) (Nat.le_refl _) (by have:=kX xs k;omega);simpa [nW]using this
 |succ d ih=>
  intro raw k hk;have hs:=Co xs k hk;have hgt:=kX xs k;have hle:=nE xs k hk;have hm:=DX xs _ (k+1) (gq xs k) (Nat.le_refl _) (by omega);have hkid:=Cq xs (nW xs d (nO raws (au xs k).f2)) (gq xs k) hle (gq xs k) (k+1) (by omega) (by omega) (fun m a b=>DW xs k m (by omega) b hk) (fun m a b=>ih _ m (by omega));rw[nH xs k hk]at hkid;have hw:=Hq false xs[k].f3.data.toList;unfold own at hs;simp only[nW];rw[nH xs k hk,yX xs k hk]
  split
  ·split<;>omega
  ·split
   ·simp only[List.length_append,List.length_cons,List.length_nil];omega
   ·rw[List.length_append]
    unfold Mi
    split
    ·simp only[List.length_nil];omega
    ·simp only[List.length_append,List.length_cons,List.length_nil];omega
theorem RF(xs:List Rw)(d:Nat)(raw:Bool)(i:Int)(hi:i= -1∨0≤i∧i<xs.length):((jh xs i).flatMap (nW xs d raw)).length≤zm xs 0:=by
 rcases hi with rfl|hi
 ·have h:=Cq xs (nW xs d raw) xs.length (Nat.le_refl _) xs.length 0 (by omega) (by omega) (fun m _ b=>nE xs m b) (fun m _ b=>GV xs d raw m b)
  rw[rC (.inl rfl)];exact Nat.le_trans (Nat.le_add_right _ _) h
 ·obtain⟨k,rfl⟩:∃k:Nat,i=k:=⟨i.toNat,by omega⟩
  have hk:k<xs.length:=by omega
  have hgt:=kX xs k;have h:=Cq xs (nW xs d raw) (gq xs k) (nE xs k hk) (gq xs k) (k+1) (by omega) (by omega) (fun m a b=>DW xs k m (by omega) b hk) (fun m a b=>GV xs d raw m (by have:=nE xs k hk;omega));have h2:=DX xs _ 0 (k+1) (Nat.le_refl _) (by omega);rw[yX xs k hk];omega
structure Ml (xs:List Rw):Prop where
 len:xs.length≤200
 total:zm xs 0≤1000000000
 atts:∀x∈xs,x.f4.length≤6
theorem Ml.one{xs:List Rw}(h:Ml xs)(k:Nat)(hk:k<xs.length):own xs[k]≤1000000000:=by
 have h1:=DX xs _ 0 k (Nat.le_refl _) (by omega);have h2:=Co xs k hk;have:=h.total;omega
theorem Qx{α:Type}(f:α→Txt):∀(l:List α) (a:α),a∈l→(f a).length≤(l.flatMap f).length
 | [],_,h=>by cases h
 |b::l,a,h=>by
  rw[List.flatMap_cons,List.length_append]
  rcases List.mem_cons.1 h with rfl|h
  ·omega
  ·have:=Qx f l a h;omega
theorem own_val{x:Rw}(h:own x≤1000000000):(∀a∈x.f4,a.f1.data.toList.length≤1000000000)∧(tagT x.f2 x.f4).length≤1000000000∧x.f3.data.toList.length≤1000000000∧x.f2.data.toList.length≤1000000000:=by
 unfold own at h;refine⟨fun a ha=>?_,by omega,by omega,by omega⟩;have h1:=Qx atT x.f4 a ha;have h2:=wr_ge true a.f1.data.toList;unfold tagT at h;simp only[List.length_append]at h;have h3:(wrL true a.f1.data.toList).length≤(atT a).length:=by unfold atT;simp only[List.length_append];omega
 omega
theorem Cr(f:Nat→Option Txt)(g:Nat→Txt):∀(ks:List Nat),(∀j∈ks,f j=some (g j))→catM f ks=some (ks.flatMap g)
 | [],_=>rfl
 |j::ks,h=>by
  simp only[catM];rw[h j (by simp),Option.bind_some,Cr f g ks (fun m hm=>h m (by simp[hm])),Option.bind_some,List.flatMap_cons]
theorem DY(xs:List Rw)(i:Int)(j:Nat)(hj:j∈jh xs i):j<xs.length:=by
 have key:∀(t d a:Nat),xs.length - a≤d→j∈kE xs t a→j<xs.length:=by
  intro t d
  induction d with
  |zero=>intro a hd hm;rw[kE,dif_neg (by omega)]at hm;cases hm
  |succ d ih=>
   intro a hd hm
   by_cases h:a<t∧a<xs.length
   ·rw[kE,dif_pos h]at hm
    rcases List.mem_cons.1 hm with rfl|hm
    ·exact h.2
    ·exact ih (gq xs a) (by have:=kX xs a;omega) hm
   ·rw[kE,dif_neg h]at hm;cases hm
 by_cases hi:i= -1∨0≤i∧i<xs.length
 ·rw[rC hi]at hj
  exact key _ _ _ (Nat.le_refl _) hj
 ·have:jh xs i=[]:=by
   unfold jh;rw[if_neg (by omega),if_neg (by omega)]
  rw[this]at hj;cases hj
theorem ND(xs:List Rw)(hz:Ml xs)(hp:JR xs):∀(d:Nat) (raw:Bool) (k:Nat),k<xs.length→xs.length - k≤d→xM xs d raw k=some (nW xs d raw k):=by
 intro d
 induction d with
 |zero=>intro raw k hk hd;omega
 |succ d ih=>
  intro raw k hk hd;have ho:=own_val (hz.one k hk);have hkind:=(hp k hk).kind;have hr:=nH xs k hk;have hcat:=Cr (xM xs d (nO raws xs[k].f2)) (nW xs d (nO raws xs[k].f2)) (jh xs k) (fun j hj=>ih _ j (DY xs _ j hj) (by have:=N9 xs k hk j hj;omega));simp only[xM,nW];rw[if_pos hk];rw[hr]at hkind⊢
  by_cases h1:xs[k].f1=1
  ·rw[if_pos h1,if_pos h1]
   cases raw with
   |true=>rfl
   |false=>
    rw[if_neg (by decide),if_neg (by decide)];unfold uD.f;rw[wrB_at false _ ho.2.2.1];rfl
  ·rw[if_neg h1,if_neg h1]
   by_cases h2:xs[k].f1=2
   ·rw[if_pos h2,if_pos h2]
   ·rw[if_neg h2,if_neg h2,if_pos (by omega)]
    obtain⟨o,e1,e2⟩:=opened_f xs[k] (xs[k].f4.length+1) (by have:=hz.atts _ (List.getElem_mem hk);omega) (by omega) ho.1 (by omega);rw[e1,Option.bind_some,NC _ 100 (by omega),Option.bind_some];unfold Mi;cases hv:nO voids xs[k].f2
    ·rw[if_neg (by decide),raw_f _ 100 (by omega),Option.bind_some,hcat,Option.bind_some,if_neg (by decide),e2]
     simp only[List.append_assoc]
    ·rw[if_pos rfl,if_pos rfl,e2,List.append_nil]
def FH(xs:List Rw)(i:Int):Bool:=if 0≤i then nO raws (au xs i).f2 else false
theorem RG(xs:List Rw)(hz:Ml xs)(hp:JR xs)(i:Int)(hi:i= -1∨0≤i∧i<xs.length):fK.f xs i=some ⟨((jh xs i).flatMap (nW xs xs.length (FH xs i))).toArray⟩:=by
 have hlen:=hz.len;have htot:=hz.total
 have hra:HY xs i=some (FH xs i):=by
  unfold HY FH
  rcases hi with rfl|hi
  ·rfl
  ·rw[if_pos hi.1,if_pos hi.2,if_pos hi.1,raw_f _ 100 (by omega)]
 have hc:=Cr (xM xs xs.length (FH xs i)) (nW xs xs.length (FH xs i)) (jh xs i) (fun j hj=>ND xs hz hp _ _ j (DY xs _ j hj) (by omega));have hl:=RF xs xs.length (FH xs i) i hi;unfold fK.f;rw[if_pos (by omega),hra,Option.bind_some,hc,Option.bind_some,if_pos (by omega)]
end Go.Proofs.aj.W7
namespace Go.Proofs.aj.W7
open Go.RowKit Go.Proofs Go.Proofs.YtkcmghlhpbepcaaGreatDoor
def lu.f(a0:ByteArray):Option Bool:=if a0.size≤9223372036854775807 then some (Lib.validD a0.data.toList)else none
theorem lu.calls(a0:ByteArray)(r:Bool)(w:World)(h:lu.f a0=some r)(hS_:Ep w):
 Calls Tryz.prog 91 #[.string a0] w fun e w'=>e=.returned (.bool r)∧Below w.heap.size w w':=by
 unfold lu.f at h
 split at h
 ·rename_i hz
  have hv:=Lib.hid (valid_c a0 w hz hS_.tabs);rw[Option.some.inj h]at hv;clear h;go_enter Tryz.func91,Tryz.ntmps91
  go_wp2_with(go_at_call 139;((with_reducible refine hv.out.mono ?_);rintro e w1 ⟨rfl,hb⟩))
  go_ret;exact⟨rfl,hb⟩
 ·cases h
def strings_Contains.f(a0 a1:ByteArray):Option Bool:=if a0.size<4294967281 then some (Lib.contains a0.data.toList a1.data.toList)else none
theorem strings_Contains.calls(a0 a1:ByteArray)(r:Bool)(w:World)(h:strings_Contains.f a0 a1=some r)(hS_:Ep w):
 Calls Tryz.prog 93 #[.string a0,.string a1] w fun e w'=>e=.returned (.bool r)∧Below w.heap.size w w':=by
 unfold strings_Contains.f at h
 split at h
 ·rename_i hz
  obtain rfl:=Option.some.inj h;obtain⟨m,hm⟩:=hS_.maxLen;exact(Tryz.strings_Contains a0 a1 m w hz hm).mono (fun e w' h=>⟨h.1,by rw[h.2];exact Below.refl _ _⟩)
 ·cases h
def strings_HasPrefix.f(a0 a1:ByteArray):Option Bool:=some (Lib.hasPrefix a0.data.toList a1.data.toList)
theorem strings_HasPrefix.calls(a0 a1:ByteArray)(r:Bool)(w:World)(h:strings_HasPrefix.f a0 a1=some r):
 Calls Tryz.prog 94 #[.string a0,.string a1] w fun e w'=>e=.returned (.bool r)∧Below w.heap.size w w':=by
 obtain rfl:=Option.some.inj h;exact(Tryz.strings_HasPrefix a0 a1 w).mono (fun e w' h=>⟨h.1,by rw[h.2];exact Below.refl _ _⟩)
def strings_HasSuffix.f(a0 a1:ByteArray):Option Bool:=if a0.size≤9223372036854775807 then some (Lib.hasSuffix a0.data.toList a1.data.toList)else none
theorem strings_HasSuffix.calls(a0 a1:ByteArray)(r:Bool)(w:World)(h:strings_HasSuffix.f a0 a1=some r):
 Calls Tryz.prog 97 #[.string a0,.string a1] w fun e w'=>e=.returned (.bool r)∧Below w.heap.size w w':=by
 unfold strings_HasSuffix.f at h
 split at h
 ·rename_i hz
  obtain rfl:=Option.some.inj h;exact(Tryz.strings_HasSuffix a0 a1 w hz).mono (fun e w' h=>⟨h.1,by rw[h.2];exact Below.refl _ _⟩)
 ·cases h
end Go.Proofs.aj.W7
