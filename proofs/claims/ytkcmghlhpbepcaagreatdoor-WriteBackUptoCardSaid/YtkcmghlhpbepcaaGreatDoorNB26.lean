/- Lemmas and walks, part 26. -/
import Derived.Test.YtkcmghlhpbepcaaGreatDoorNB25
set_option linter.unusedVariables false
set_option linter.unusedSimpArgs false
set_option maxHeartbeats 8000000
set_option maxRecDepth 100000
namespace Go.Proofs.aj.W7
open Go.RowKit Go.Proofs Go.Proofs.YtkcmghlhpbepcaaGreatDoor Go.Proofs.ah.aD Go.Proofs.ah.bJ
theorem Kq(w:World)(o:Obj):(w.alloc o).drew=w.drew.alloc o:=rfl
structure Bd (w0:World) (B:Nat) (op:List ByteArray) (out:List Rw) (big:Bool) (W:World):Prop where
 below:Below w0.heap.size w0 W
 base:w0.heap.size≤B
 ex:∃vo vr,W.heap[B]?=some (.cells #[vo,vr,.bool big] 73 (0,0))∧Kd.string.R 9 W w0.heap.size (fun _=>True) vo op∧k34.R 34 W w0.heap.size (fun _=>True) vr out
theorem Bd.step{w0 W W':World}{B:Nat}{op:List ByteArray}{out:List Rw}{big:Bool}(h:Bd w0 B op out big W)(hb:Below W.heap.size W W'):Bd w0 B op out big W':=by
 obtain⟨vo,vr,h1,h2,h3⟩:=h.ex;exact⟨h.below.trans (hb.mono h.below.size),h.base,vo,vr,aQ h1 hb,Kd.dX h2 hb,Kd.dX h3 hb⟩
theorem aN{w:World}{b:Nat}{v0 v1 v2:Value}{t:TypeId}(h:w.heap[b]?=some (.cells #[v0,v1,v2] t (0,0))):
 w.cell? ⟨b,0,none⟩=some v0∧w.cell? ⟨b,1,none⟩=some v1∧w.cell? ⟨b,2,none⟩=some v2∧∀j,w.frozen? ⟨b,j,none⟩=false:=
 ⟨(aC h 0).trans rfl,(aC h 1).trans rfl,(aC h 2).trans rfl,fun j=>ay h j⟩
theorem Bd.bigger{w0 W:World}{B:Nat}{op:List ByteArray}{out:List Rw}{big:Bool}(h:Bd w0 B op out big W):Bd w0 B op out true (W.setCell ⟨B,2,none⟩ (.bool true)):=by
 obtain⟨vo,vr,h1,h2,h3⟩:=h.ex;exact⟨h.below.setCell (p:=⟨B,2,none⟩) h.base _,h.base,vo,vr,bU h1 2 _ rfl,Kd.rY h2 h1 (by decide) 2 _,Kd.rY h3 h1 (by decide) 2 _⟩
def iA(B:Nat)(W W':World):Prop:=∀k o,W.heap[k]?=some o→k≠B→(∀cs,o≠.cells cs 9 (0,0))→(∀cs,o≠.cells cs 34 (0,0))→W'.heap[k]?=some o
theorem iA.refl(B:Nat)(W:World):iA B W W:=fun _ _ h _ _ _=>h
theorem iA.trans{B:Nat}{W W1 W2:World}(h:iA B W W1)(k:iA B W1 W2):iA B W W2:=fun j o h0 h1 h2 h3=>k j o (h j o h0 h1 h2 h3) h1 h2 h3
theorem iA.below{B:Nat}{W W1 W2:World}(h:iA B W W1)(hb:Below W1.heap.size W1 W2):iA B W W2:=fun j o h0 h1 h2 h3=>aQ (h j o h0 h1 h2 h3) hb
theorem iA.set{B:Nat}{W W1:World}(h:iA B W W1)(j:Nat)(v:Value):iA B W (W1.setCell ⟨B,j,none⟩ v):=fun k o h0 h1 h2 h3=>(Below.heap_setCell W1 ⟨B,j,none⟩ v k h1).trans (h k o h0 h1 h2 h3)
theorem iA.grown{B:Nat}{W W1 W2:World}{v:Value}(h:iA B W W1)(hty:∀k,v.ownBlock=some k→∃cells,W1.heap[k]?=some (.cells cells 34 (0,0))∨W1.heap[k]?=some (.cells cells 9 (0,0)))(hg:W1.grownBy W2 v.ownBlock):iA B W W2:=fun k o h0 h1 h2 h3=>by
 have a:=h k o h0 h1 h2 h3;refine qU a hg (fun e=>?_);obtain⟨cells,hc⟩:=hty k e.symm
 rcases hc with hc|hc
 ·exact h3 cells (Option.some.inj (a.symm.trans hc))
 ·exact h2 cells (Option.some.inj (a.symm.trans hc))
def pE(op:List ByteArray)(out:List Rw)(big:Bool)(x:Rw):List Rw×Bool:=if 4096≤out.length∨60≤op.length then(out,true)else(out++[⟨op.length,x.f1,x.f2,x.f3,x.f4⟩],big)
theorem lay_c(w0:World)(B:Nat)(op:List ByteArray)(out:List Rw)(big:Bool)(x0 x1:Int)(xn xt:ByteArray)(va:Value)(xa:List S36)(W:World)(h:Bd w0 B op out big W)(hA:k36.R 36 W w0.heap.size (fun _=>True) va xa)(hl:out.length≤100000)(ho:op.length≤100000):
 Calls Tryz.prog 68 #[.pointer (some ⟨B,0,none⟩),.agg #[.int .i64 x0,.int .i64 x1,.string xn,.string xt,va]] W fun e W'=>e=.returned (.tuple #[])∧
  Bd w0 B op (pE op out big ⟨x0,x1,xn,xt,xa⟩).1 (pE op out big ⟨x0,x1,xn,xt,xa⟩).2 W'∧Below w0.heap.size W W'∧iA B W W':=by
 obtain⟨vo,vr,h1,h2,h3⟩:=h.ex;obtain⟨Ao,co,rfl⟩:=Kd.dI h2;obtain⟨Ar,cr,rfl⟩:=Kd.dI h3;obtain⟨Aa,ca,rfl⟩:=Kd.dI hA;have hBlt:=gZ h1;obtain⟨c0,c1,c2,cf⟩:=aN h1;have b1:=fun o=>aQ h1 ((Below.refl _ W).alloc (Nat.le_refl _) o)
 have d0:=fun o=>(aN (b1 o)).1
 have d1:=fun o=>(aN (b1 o)).2.1
 have d2:=fun o=>(aN (b1 o)).2.2.1
 have df:=fun o=>(aN (b1 o)).2.2.2
 have n1:=bR W #[.int .i64 op.length,.int .i64 x1,.string xn,.string xt,.slice Aa xa.length ca] 34;obtain⟨⟨p0,p1,p2,p3,p4⟩,p5⟩:=aW n1;have hstep:=h.step ((Below.refl _ W).alloc (Nat.le_refl _) (.cells #[.int .i64 op.length,.int .i64 x1,.string xn,.string xt,.slice Aa xa.length ca] 34));have hbz:=h.below.size;have hbA:Below w0.heap.size W (W.alloc (.cells #[.int .i64 op.length,.int .i64 x1,.string xn,.string xt,.slice Aa xa.length ca] 34)):=(Below.refl _ W).alloc hbz _
 by_cases g:4096≤out.length∨60≤op.length
 ·rw[show pE op out big ⟨x0,x1,xn,xt,xa⟩=(out,true)from if_pos g]
  have hfin:=Lib.hid (h.bigger.step ((Below.refl _ _).alloc (Nat.le_refl _) (.cells #[.int .i64 op.length,.int .i64 x1,.string xn,.string xt,.slice Aa xa.length ca] 34)))
  by_cases g1:4096≤out.length
  ·have e1:decide ((4096:Int)≤(out.length:Int))=true:=decide_eq_true (by omega)
   clear g;go_enter Tryz.func68,Tryz.ntmps68;go_wp2;refine bodyPost_ret (results_none rfl _ _ _) rfl ?_;exact⟨rfl,hfin.out,((Below.refl _ W).setCell (p:=⟨B,2,none⟩) h.base _).alloc (by simpa using hbz) _,((iA.refl B W).set 2 _).below ((Below.refl _ _).alloc (Nat.le_refl _) _)⟩
  ·have e1:decide ((4096:Int)≤(out.length:Int))=false:=decide_eq_false (by omega)
   have e2:decide ((60:Int)≤(op.length:Int))=true:=decide_eq_true (by omega);clear g;go_enter Tryz.func68,Tryz.ntmps68;go_wp2;refine bodyPost_ret (results_none rfl _ _ _) rfl ?_;exact⟨rfl,hfin.out,((Below.refl _ W).setCell (p:=⟨B,2,none⟩) h.base _).alloc (by simpa using hbz) _,((iA.refl B W).set 2 _).below ((Below.refl _ _).alloc (Nat.le_refl _) _)⟩
 ·rw[show pE op out big ⟨x0,x1,xn,xt,xa⟩=(out++[⟨op.length,x1,xn,xt,xa⟩],big)from if_neg g]
  have e1:decide ((4096:Int)≤(out.length:Int))=false:=decide_eq_false (by omega);have e2:decide ((60:Int)≤(op.length:Int))=false:=decide_eq_false (by omega);clear g;go_enter Tryz.func68,Tryz.ntmps68;go_wp2;have hR1:=Kd.fu h3 (.cells #[.int .i64 op.length,.int .i64 x1,.string xn,.string xt,.slice Aa xa.length ca] 34);have hV1:=Kd.fu h2 (.cells #[.int .i64 op.length,.int .i64 x1,.string xn,.string xt,.slice Aa xa.length ca] 34);have hA1:=Kd.fu hA (.cells #[.int .i64 op.length,.int .i64 x1,.string xn,.string xt,.slice Aa xa.length ca] 34);have hB1:=b1 (.cells #[.int .i64 op.length,.int .i64 x1,.string xn,.string xt,.slice Aa xa.length ca] 34);have q1:=d1 (.cells #[.int .i64 op.length,.int .i64 x1,.string xn,.string xt,.slice Aa xa.length ca] 34);have hkp:=(iA.refl B W).below ((Below.refl _ W).alloc (Nat.le_refl _) (.cells #[.int .i64 op.length,.int .i64 x1,.string xn,.string xt,.slice Aa xa.length ca] 34));clear h1 h2 h3 hA c0 c1 c2 cf b1 d0 d1 d2 df hstep;generalize hw1:W.alloc (.cells #[.int .i64 op.length,.int .i64 x1,.string xn,.string xt,.slice Aa xa.length ca] 34)=W1 at *
  refine vE (n:=11) (S:=fun w'=>w'.cell? ⟨B,1,none⟩=some (.slice Ar out.length cr)∧w'.cell? ⟨W.heap.size,0,none⟩=some (.int .i64 op.length)∧w'.cell? ⟨W.heap.size,1,none⟩=some (.int .i64 x1)∧w'.cell? ⟨W.heap.size,2,none⟩=some (.string xn)∧w'.cell? ⟨W.heap.size,3,none⟩=some (.string xt)∧w'.cell? ⟨W.heap.size,4,none⟩=some (.slice Aa xa.length ca)) (ds:=[7,10]) (bits 11 0) (by kernel_rfl) rfl (by kernel_rfl) ⟨q1,p0,p1,p2,p3,p4⟩ (fun hHeld=>?_);refine sw 0 24 ?_;refine sw 1 25 ?_;refine sw 2 26 ?_;refine sw 3 27 ?_;refine st 4 28 ?_;refine st 5 29 ?_
  refine so 6 (fun K hK=>?_);rw[if_pos (by rfl)];go_simp;have hbq:Below W1.heap.size W1 (W1.alloc (.cells #[.int .i64 op.length,.int .i64 x1,.string xn,.string xt,.slice Aa xa.length ca] 34)).drew:=Go.Proofs.ah.aD.bX ((Below.refl _ W1).alloc (Nat.le_refl _) _);refine hK.out _ _ ⟨aV q1 hbq,aV p0 hbq,aV p1 hbq,aV p2 hbq,aV p3 hbq,aV p4 hbq⟩ (fun vF=>?_);clear hK K hHeld vF;refine sl 7 (fun K hK=>?_);rw[Kq];have hR2:=Kd.fG hR1;have hA2:=Kd.R_apartR (Kd.fG hA1) hR2 (by decide);have hbd:Below w0.heap.size W W1.drew:=Go.Proofs.ah.aD.dn hbA;refine Kd.zo k34 (w0:=W) w0.heap.size (by rfl) (.tmp 28) (.tmp 30) 22 34 (.agg #[(.int .i64 0),(.int .i64 0),(.string ⟨#[]⟩),(.string ⟨#[]⟩),(.slice none 0 0)]) 72 rfl Tryz.underlying22 ru rfl (by decide) (by omega) (.slice Ar out.length cr) out (⟨op.length,x1,xn,xt,xa⟩:Rw) [.int .i64 op.length,.int .i64 x1,.string xn,.string xt,.slice Aa xa.length ca] (fun _=>True) (fun k=>True∧some k≠(Value.slice Ar out.length cr).ownBlock) rfl ?aX (yD _ _ _ (⟨op.length,x1,xn,xt,xa⟩:Rw) hA2) (fun k hk=>hk) (fun _ _=>trivial) hR2 hbd (h.below.trans hbd).size (by omega) ?_
  case aX=>rfl
  intro v1 w2 hO2 hb2 hg2 xJ;have hB2:=qU (aQ hB1 (bX (Below.refl _ _))) hg2 (Kd.R_ne hR2 (aQ hB1 (bX (Below.refl _ _))) (by decide));have hV2:=Kd.R_over (Kd.fG hV1) hR2 (by decide) hg2;obtain⟨A3,c3,rfl⟩:=Kd.dI hO2;rw[List.length_append,List.length_singleton]at hO2;obtain⟨f0,f1,f2,ff⟩:=aN hB2;refine hK.out _ _ ?_;clear hK K;refine sw 8 32 ?_;refine sw 9 33 ?_
  refine sl 10 (fun K hK=>?_);rw[if_pos (by rfl)];go_simp;refine hK.out _ _ ?_;clear hK K;refine Aj (by kernel_rfl) ?_;go_end0;exact⟨rfl,⟨h.below.trans (hb2.setCell (p:=⟨B,1,none⟩) h.base _),h.base,_,_,bU hB2 1 _ rfl,Kd.rY hV2 hB2 (by decide) 1 _,Kd.rY hO2 hB2 (by decide) 1 _⟩,hb2.setCell (p:=⟨B,1,none⟩) h.base _,(iA.grown (hkp.below (Go.Proofs.ah.aD.bX (Below.refl _ _))) (fun k hk=>by obtain⟨c,hc⟩:=Kd.Hr hR2 k hk;exact⟨c,.inl hc⟩) hg2).set 1 _⟩
def wW(op:List ByteArray)(out:List Rw):Bool:=match out.getLast? with|none=>false|some y=>decide (y.f1=1)&&decide (y.f0=op.length)
def addT(y:Rw)(s:ByteArray):Rw:=⟨y.f0,y.f1,y.f2,y.f3++s,y.f4⟩
def jC(op:List ByteArray)(out:List Rw)(big:Bool)(s:ByteArray):List Rw×Bool:=
 if s.data.toList=[]then(out,big)
 else if wW op out then(out.set (out.length - 1) (addT (au out ((out.length:Int) - 1)) s),big)
 else pE op out big ⟨0,1,⟨#[]⟩,s,[]⟩
theorem MQ(w0:World)(B:Nat)(op:List ByteArray)(out:List Rw)(big:Bool)(s:ByteArray)(W:World)(h:Bd w0 B op out big W)(hl:out.length≤100000)(ho:op.length≤100000)(hz:∀x∈out,x.f3.size+s.size≤9223372036854775807):
 Calls Tryz.prog 67 #[.pointer (some ⟨B,0,none⟩),.string s] W fun e W'=>e=.returned (.tuple #[])∧
  Bd w0 B op (jC op out big s).1 (jC op out big s).2 W'∧Below w0.heap.size W W'∧iA B W W':=by
 obtain⟨vo,vr,h1,h2,h3⟩:=id h.ex;obtain⟨Ao,co,rfl⟩:=Kd.dI h2;obtain⟨Ar,cr,rfl⟩:=Kd.dI h3;obtain⟨c0,c1,c2,cf⟩:=aN h1;have hlay:=Lib.hid (fun X (hX:Bd w0 B op out big X)=>lay_c w0 B op out big 0 1 ⟨#[]⟩ s (.slice none 0 0) [] X hX (Kd.nI _ _ _ _ _) hl ho)
 by_cases hs:s.data.toList=[]
 ·have e1:(s.toList==[])=true:=by rw[Lib.toList_data,hs];rfl
  rw[show jC op out big s=(out,big)from if_pos hs]
  have hsz:s=⟨#[]⟩:=by
   obtain⟨d⟩:=s;simpa using hs
  subst hsz;go_enter Tryz.func67,Tryz.ntmps67;go_wp2;go_end0;exact⟨rfl,h,Below.refl _ _,iA.refl _ _⟩
 ·have e0:¬s.toList=[]:=by rw[Lib.toList_data];exact hs
  have e1:(s.toList==[])=false:=beq_eq_false_iff_ne.2 e0;have e2:¬s=⟨#[]⟩:=fun e=>hs (by rw[e])
  unfold jC;rw[if_neg hs]
  rcases Nat.eq_zero_or_pos out.length with hn|hn
  ·have hj:wW op out=false:=by
    have:out=[]:=List.eq_nil_of_length_eq_zero hn;rw[this];rfl
   rw[hj,if_neg (by decide)];have e3:decide ((0:Int)<(out.length:Int))=false:=decide_eq_false (by omega);have e4:decide (0<out.length)=false:=decide_eq_false (by omega);generalize pE op out big ⟨0,1,⟨#[]⟩,s,[]⟩=res at *;go_enter Tryz.func67,Tryz.ntmps67;go_wp2;refine vE (n:=32) (S:=fun w'=>w'.cell? ⟨B,1,none⟩=some (.slice Ar out.length cr)) (ds:=[]) (bits 32 0) (by kernel_rfl) rfl (by kernel_rfl) c1 (fun hHeld=>?_);refine sw 0 18 ?_;refine sw 1 19 ?_;refine sw 2 20 ?_;refine su 3 21 ?_;refine su 4 22 ?_;refine su 5 23 ?_;refine su 6 24 ?_;refine su 7 25 ?_;refine su 8 26 ?_;refine su 9 27 ?_;refine su 10 28 ?_;refine su 11 29 ?_;refine su 12 30 ?_;refine sw 13 31 ?_;refine sw 14 32 ?_;refine su 15 33 ?_;refine su 16 34 ?_;refine su 17 35 ?_;refine su 18 36 ?_;refine su 19 37 ?_;refine su 20 38 ?_;refine su 21 39 ?_;refine su 22 40 ?_;refine su 23 41 ?_;refine su 24 42 ?_;refine su 25 43 ?_;refine su 26 44 ?_;refine su 27 45 ?_;refine su 28 46 ?_;refine su 29 47 ?_;refine sw 30 48 ?_;refine sw 31 17 ?_
   refine Aj (by kernel_rfl) ?_
   go_wp2_with(go_at_call 68;((with_reducible refine(hlay.out _ (h.step (Go.Proofs.ah.aD.bX (Below.refl _ _)))).mono ?_);rintro e W1 ⟨rfl,hB1,hb1,hk1⟩))
   go_end0;exact⟨rfl,hB1,(Go.Proofs.ah.aD.bX (Below.refl _ W)).mono h.below.size |>.trans hb1,((iA.refl B W).below (Go.Proofs.ah.aD.bX (Below.refl _ _))).trans hk1⟩
  ·obtain⟨m,hm⟩:∃m,out.length=m+1:=⟨out.length - 1,by omega⟩
   obtain⟨go,capo,hv,-,hgo,cellsO,hcO⟩:=Kd.Ee h3 hn;simp only[Value.slice.injEq,true_and]at hv;obtain⟨rfl,rfl⟩:=hv;obtain⟨cs,hcl,hMo,vH,hfzo⟩:=Kd.MR h3 (⟨0,0,⟨#[]⟩,⟨#[]⟩,[]⟩:Rw) (m:Int) (by omega) (by omega);have hgd:out.getD (m:Int).toNat (⟨0,0,⟨#[]⟩,⟨#[]⟩,[]⟩:Rw)=out[m]:=by simp[show m<out.length by omega]
   have hrd:au out ((out.length:Int) - 1)=out[m]:=by
    rw[show(out.length:Int) - 1=(m:Int)from by omega];simp[au,show m<out.length by omega]
   have hzm:=hz out[m] (List.getElem_mem _)
   have hj:wW op out=(decide (out[m].f1=1)&&decide (out[m].f0=op.length)):=by
    unfold wW;rw[List.getLast?_eq_getElem?,show out.length - 1=m from by omega,List.getElem?_eq_getElem (by omega)]
   rw[hgd]at hMo;rw[hrd,hj,show out.length - 1=m from by omega];generalize out[m]=y at *;obtain⟨w4,rfl,hw4⟩:=BM hMo;have y0:=vH 0 _ rfl;have y1:=vH 1 _ rfl;have y3:=vH 3 _ rfl;have f3:=hfzo 3;change World.cell? _ ⟨go,m * 5,none⟩=_ at y0;change World.cell? _ ⟨go,m * 5+1,none⟩=_ at y1;change World.cell? _ ⟨go,m * 5+3,none⟩=_ at y3;change World.frozen? _ ⟨go,m * 5+3,none⟩=_ at f3;obtain⟨yd,yk,yn,yt,ya⟩:=y;simp only at y0 y1 y3 hzm⊢;rw[hm]at c1;have g1:decide ((0:Int)<((m+1:Nat):Int))=true:=decide_eq_true (by omega);have g2:decide (0<m+1)=true:=decide_eq_true (by omega);have i1:(0:Int)≤(m:Int):=by omega
   have i2:(m:Int)<(m:Int)+1:=by omega
   have iw:wrap64 (m:Int)=(m:Int):=by unfold wrap64;omega
   have hbd:Below W.heap.size W W.drew:=Go.Proofs.ah.aD.bX (Below.refl _ _);have hkd:=(iA.refl B W).below hbd;have hbw:Below w0.heap.size W W.drew:=hbd.mono h.below.size;have hstep:=h.step hbd
   by_cases k1:yk=1
   ·subst k1
    by_cases k2:yd=op.length
    ·subst k2
     rw[if_pos (by simp)];have a1:decide (yt.size+s.size≤9223372036854775807)=true:=decide_eq_true hzm;have a2:(9223372036854775807<yt.size+s.size)=False:=eq_false (by omega);go_enter Tryz.func67,Tryz.ntmps67;go_wp2;refine vE (n:=32) (S:=fun w'=>w'.cell? ⟨B,1,none⟩=some (.slice (some ⟨go,0,none⟩) (m+1) cr)∧w'.cell? ⟨B,0,none⟩=some (.slice Ao op.length co)∧w'.cell? ⟨go,m * 5,none⟩=some (.int .i64 op.length)∧w'.cell? ⟨go,m * 5+1,none⟩=some (.int .i64 1)) (ds:=[]) (bits 32 0) (by kernel_rfl) rfl (by kernel_rfl) ⟨c1,c0,y0,y1⟩ (fun hHeld=>?_)
     refine sw 0 18 ?_;refine sw 1 19 ?_;refine sw 2 20 ?_;refine sw 3 21 ?_;refine sw 4 22 ?_;refine sw 5 23 ?_;refine st 6 24 ?_;refine sw 7 25 ?_;refine sw 8 26 ?_;refine sw 9 27 ?_;refine sw 10 28 ?_;refine st 11 29 ?_;refine sw 12 30 ?_;refine sw 13 31 ?_;refine sw 14 32 ?_;refine sw 15 33 ?_;refine sw 16 34 ?_;refine sw 17 35 ?_;refine st 18 36 ?_;refine sw 19 37 ?_;refine sw 20 38 ?_;refine sw 21 39 ?_;refine sw 22 40 ?_;refine st 23 41 ?_;refine sw 24 42 ?_;refine sw 25 43 ?_;refine sw 26 44 ?_;refine st 27 45 ?_;refine sw 28 46 ?_;refine sw 29 47 ?_;refine sw 30 48 ?_;refine sw 31 17 ?_
     refine Aj (by kernel_rfl) ?_;go_wp2;go_end0;have hne:=blk_ne h1 hcO (by decide);have hbase:=Kd.jL h3 go rfl;have hS:=(Kd.R_seg h3 (m:Int) (by omega) (by omega) (c:=[.int .i64 op.length,.int .i64 1,.string yn,.string yt,w4]) (seg:=[.string (yt++s)]) (j:=3) hcl vH (by show 3+1≤5;omega) (x':=(⟨op.length,1,yn,yt++s,ya⟩:Rw)) (okp:=fun k=>True∧k≠go) (yD _ _ _ (⟨op.length,1,yn,yt++s,ya⟩:Rw) hw4) (fun _ h=>h)).1;have hB':(W.setCell ⟨go,m * 5+3,none⟩ (.string (yt++s))).heap[B]?=some (.cells #[.slice Ao op.length co,.slice (some ⟨go,0,none⟩) out.length cr,.bool big] 73 (0,0)):=(Below.heap_setCell W ⟨go,m * 5+3,none⟩ _ B hne).trans h1;have hd2:Below (W.setCell ⟨go,m * 5+3,none⟩ (.string (yt++s))).heap.size (W.setCell ⟨go,m * 5+3,none⟩ (.string (yt++s))) (W.setCell ⟨go,m * 5+3,none⟩ (.string (yt++s))).drew:=Go.Proofs.ah.aD.bX (Below.refl _ _);have hb2:Below w0.heap.size W (W.setCell ⟨go,m * 5+3,none⟩ (.string (yt++s))):=(Below.refl _ W).setCell (p:=⟨go,m * 5+3,none⟩) hbase _
     have hfin:Bd w0 B op (out.set m ⟨op.length,1,yn,yt++s,ya⟩) big (W.setCell ⟨go,m * 5+3,none⟩ (.string (yt++s))):=⟨h.below.trans hb2,h.base,_,_,hB',Kd.rY h2 hcO (by decide) (m * 5+3) _,hS⟩;have hkk:iA B W (W.setCell ⟨go,m * 5+3,none⟩ (.string (yt++s))):=fun k o q0 q1 q2 q3=>(Below.heap_setCell W ⟨go,m * 5+3,none⟩ _ k (fun e=>by subst e;exact q3 cellsO (Option.some.inj (q0.symm.trans hcO)))).trans q0
     exact⟨rfl,hfin.step hd2,hb2.trans (hd2.mono hfin.below.size),hkk.below hd2⟩
    ·have q1:(yd==(op.length:Int))=false:=beq_eq_false_iff_ne.2 k2
     rw[if_neg (by simp[k2])];generalize pE op out big ⟨0,1,⟨#[]⟩,s,[]⟩=res at *;go_enter Tryz.func67,Tryz.ntmps67;go_wp2;refine vE (n:=32) (S:=fun w'=>w'.cell? ⟨B,1,none⟩=some (.slice (some ⟨go,0,none⟩) (m+1) cr)∧w'.cell? ⟨B,0,none⟩=some (.slice Ao op.length co)∧w'.cell? ⟨go,m * 5,none⟩=some (.int .i64 yd)∧w'.cell? ⟨go,m * 5+1,none⟩=some (.int .i64 1)) (ds:=[]) (bits 32 0) (by kernel_rfl) rfl (by kernel_rfl) ⟨c1,c0,y0,y1⟩ (fun hHeld=>?_);refine sw 0 18 ?_;refine sw 1 19 ?_;refine sw 2 20 ?_;refine sw 3 21 ?_;refine sw 4 22 ?_;refine sw 5 23 ?_;refine st 6 24 ?_;refine sw 7 25 ?_;refine sw 8 26 ?_;refine sw 9 27 ?_;refine sw 10 28 ?_;refine st 11 29 ?_;refine sw 12 30 ?_;refine sw 13 31 ?_;refine sw 14 32 ?_;refine sw 15 33 ?_;refine sw 16 34 ?_;refine sw 17 35 ?_;refine st 18 36 ?_;refine sw 19 37 ?_;refine sw 20 38 ?_;refine sw 21 39 ?_;refine sw 22 40 ?_;refine st 23 41 ?_;refine sw 24 42 ?_;refine sw 25 43 ?_;refine sw 26 44 ?_;refine st 27 45 ?_;refine sw 28 46 ?_;refine sw 29 47 ?_;refine sw 30 48 ?_;refine sw 31 17 ?_
     refine Aj (by kernel_rfl) ?_
     go_wp2_with(go_at_call 68;((with_reducible refine(hlay.out _ hstep).mono ?_);rintro e W1 ⟨rfl,hB1,hb1,hk3⟩))
     go_end0;exact⟨rfl,hB1,hbw.trans hb1,hkd.trans hk3⟩
   ·have q1:(yk==1)=false:=beq_eq_false_iff_ne.2 k1
    rw[if_neg (by simp[k1])];generalize pE op out big ⟨0,1,⟨#[]⟩,s,[]⟩=res at *;go_enter Tryz.func67,Tryz.ntmps67;go_wp2;refine vE (n:=32) (S:=fun w'=>w'.cell? ⟨B,1,none⟩=some (.slice (some ⟨go,0,none⟩) (m+1) cr)∧w'.cell? ⟨B,0,none⟩=some (.slice Ao op.length co)∧w'.cell? ⟨go,m * 5,none⟩=some (.int .i64 yd)∧w'.cell? ⟨go,m * 5+1,none⟩=some (.int .i64 yk)) (ds:=[]) (bits 32 0) (by kernel_rfl) rfl (by kernel_rfl) ⟨c1,c0,y0,y1⟩ (fun hHeld=>?_);refine sw 0 18 ?_;refine sw 1 19 ?_;refine sw 2 20 ?_;refine sw 3 21 ?_;refine sw 4 22 ?_;refine sw 5 23 ?_;refine st 6 24 ?_;refine sw 7 25 ?_;refine sw 8 26 ?_;refine sw 9 27 ?_;refine sw 10 28 ?_;refine st 11 29 ?_;refine sw 12 30 ?_;refine sw 13 31 ?_;refine sw 14 32 ?_;refine su 15 33 ?_;refine su 16 34 ?_;refine su 17 35 ?_;refine su 18 36 ?_;refine su 19 37 ?_;refine su 20 38 ?_;refine su 21 39 ?_;refine su 22 40 ?_;refine su 23 41 ?_;refine su 24 42 ?_;refine su 25 43 ?_;refine su 26 44 ?_;refine su 27 45 ?_;refine su 28 46 ?_;refine su 29 47 ?_;refine sw 30 48 ?_;refine sw 31 17 ?_
    refine Aj (by kernel_rfl) ?_
    go_wp2_with(go_at_call 68;((with_reducible refine(hlay.out _ hstep).mono ?_);rintro e W1 ⟨rfl,hB1,hb1,hk3⟩))
    go_end0;exact⟨rfl,hB1,hbw.trans hb1,hkd.trans hk3⟩
end Go.Proofs.aj.W7
namespace Go.Proofs.aj.W7
open Go.RowKit Go.Proofs Go.Proofs.YtkcmghlhpbepcaaGreatDoor Go.Proofs.ah.aD
def zF(some_ walls:List ByteArray):Nat→List ByteArray→List ByteArray
 |0,op=>op
 |n+1,op=>if fT op some_ walls op.length<0 then op else zF some_ walls n (op.take (fT op some_ walls op.length).toNat)
theorem yE(xs some_ walls:List ByteArray):∀k,-1≤fT xs some_ walls k∧fT xs some_ walls k<k
 |0=>by simp[fT]
 |k+1=>by
  have:=yE xs some_ walls k;simp only[fT]
  split
  ·omega
  ·split<;>omega
def pF(some_ walls op:List ByteArray):List ByteArray:=zF some_ walls (op.length+1) op
theorem Kr(w0:World)(B:Nat)(op:List ByteArray)(out:List Rw)(big:Bool)(A1:Option Addr)(c1:Nat)(some_:List ByteArray)(A2:Option Addr)(c2:Nat)(walls:List ByteArray)(W:World)(h:Bd w0 B op out big W)
 (hs:Kd.string.R 9 W w0.heap.size (fun _=>True) (.slice A1 some_.length c1) some_) (hw:Kd.string.R 9 W w0.heap.size (fun _=>True) (.slice A2 walls.length c2) walls):
 Calls Tryz.prog 112 #[.pointer (some ⟨B,0,none⟩),.slice A1 some_.length c1,.slice A2 walls.length c2] W fun e W'=>e=.returned (.tuple #[])∧
  Bd w0 B (pF some_ walls op) out big W'∧Below w0.heap.size W W'∧iA B W W':=by
 have hfd:=Lib.hid (fun(op:List ByteArray) (A:Option Addr) (c:Nat) (X:World) (h0:Kd.string.R 9 X w0.heap.size (fun _=>True) (.slice A op.length c) op) (h1:Kd.string.R 9 X w0.heap.size (fun _=>True) (.slice A1 some_.length c1) some_) (h2:Kd.string.R 9 X w0.heap.size (fun _=>True) (.slice A2 walls.length c2) walls)=>
  dP.calls A c op A1 c1 some_ A2 c2 walls (fT op some_ walls op.length) X (Kd.bK h0).2.2 (Kd.bK h0).2.1 (Kd.bK h1).2.2 (Kd.bK h1).2.1 (Kd.bK h2).2.2 (Kd.bK h2).2.1 rfl)
 obtain⟨vo,vr,h1,h2,h3⟩:=id h.ex;obtain⟨Ao,co,rfl⟩:=Kd.dI h2;obtain⟨b0,b1,b2,bf⟩:=aN h1;have hbz:=h.below.size;go_enter Tryz.func112,Tryz.ntmps112
 go_wp2_with(go_at_call 77;((with_reducible refine(hfd.out op Ao co _ h2 hs hw).mono ?_);rintro e W1 ⟨rfl,hb1⟩))
 have hst:=h.step hb1;have hk1:=(iA.refl B W).below hb1;have hs1:=Kd.dX hs hb1;have hw1:=Kd.dX hw hb1;have Ed:Below w0.heap.size W W1:=hb1.mono hbz;clear h1 h2 h3 b0 b1 b2 bf
 go_loopw [6] (fun vi wr=>∃(o:List ByteArray) (n:Nat),vi=.int .i64 (fT o some_ walls o.length)∧o.length≤op.length∧o.length<n∧Hid (zF some_ walls n o=pF some_ walls op)∧Bd w0 B o out big wr∧Below w0.heap.size W wr∧iA B W wr∧Kd.string.R 9 wr w0.heap.size (fun _=>True) (.slice A1 some_.length c1) some_∧Kd.string.R 9 wr w0.heap.size (fun _=>True) (.slice A2 walls.length c2) walls) (fun vi _=>(intOf vi+1).toNat)
 case atStart=>exact⟨op,op.length+1,rfl,Nat.le_refl _,Nat.lt_succ_self _,rfl,hst,Ed,hk1,hs1,hw1⟩
 case round=>
  obtain⟨o,n,rfl,hol,hon,hcl,hBd,hbw,hkp,hsr,hwr⟩:=hrel;obtain⟨n,rfl⟩:∃m,n=m+1:=⟨n - 1,by omega⟩
  have hfl:=yE o some_ walls o.length;have hcl2:=hcl.out;simp only[zF]at hcl2
  by_cases hneg:fT o some_ walls o.length<0
  ·rw[if_pos hneg]at hcl2
   have e1:decide ((0:Int)≤fT o some_ walls o.length)=false:=decide_eq_false (by omega);generalize fT o some_ walls o.length=i at *;subst hcl2;go_wp2;go_end0;exact⟨rfl,hBd,hbw,hkp⟩
  ·rw[if_neg hneg]at hcl2
   obtain⟨i,hi⟩:∃i:Nat,fT o some_ walls o.length=i:=⟨(fT o some_ walls o.length).toNat,by omega⟩
   rw[hi]at hcl2 hfl⊢;simp only[Int.toNat_natCast]at hcl2;replace hcl2:=Lib.hid hcl2;have hil:i<o.length:=by omega
   clear hi hneg hcl;obtain⟨vo,vr,g1,g2,g3⟩:=id hBd.ex;obtain⟨Ao',co',rfl⟩:=Kd.dI g2;obtain⟨b0,b1,b2,bf⟩:=aN g1;have hrd:=Kd.bK g2;have htk:=Kd.vG (m:=i) g2 (by omega);have htl:(o.take i).length=i:=by rw[List.length_take];omega
   have hset:Bd w0 B (o.take i) out big (wr.setCell ⟨B,0,none⟩ (.slice Ao' i co')):=
    ⟨hBd.below.setCell (p:=⟨B,0,none⟩) hBd.base _,hBd.base,_,_,bU g1 0 _ rfl,Kd.rY htk g1 (by decide) 0 _,Kd.rY g3 g1 (by decide) 0 _⟩
   have hs2:=Kd.rY hsr g1 (by decide) 0 (.slice Ao' i co');have hw2:=Kd.rY hwr g1 (by decide) 0 (.slice Ao' i co');have hk2:=hkp.set 0 (.slice Ao' i co');have hb2:=hbw.setCell (p:=⟨B,0,none⟩) hBd.base (.slice Ao' i co');have ht2:Kd.string.R 9 (wr.setCell ⟨B,0,none⟩ (.slice Ao' i co')) w0.heap.size (fun _=>True) (.slice Ao' (o.take i).length co') (o.take i):=by rw[htl];exact Kd.rY htk g1 (by decide) 0 _
   have hcall:=Lib.hid (hfd.out (o.take i) Ao' co' _ ht2 hs2 hw2);rw[htl]at hcall;obtain⟨z0,-,-,-⟩:=aN (bU g1 0 (.slice Ao' i co') rfl);have e1:decide ((0:Int)≤(i:Int))=true:=decide_eq_true (by omega)
   go_wp2_with(go_at_call 77;((with_reducible refine hcall.out.mono ?_);rintro e W2 ⟨rfl,hb3⟩))
   have hfl2:=yE (o.take i) some_ walls i;refine⟨⟨o.take i,n,?_,by omega,by omega,hcl2,hset.step hb3,hb2.trans (hb3.mono (by have:=hset.below.size;omega)),hk2.below hb3,Kd.dX hs2 hb3,Kd.dX hw2 hb3⟩,?_⟩
   ·rw[htl]
   ·simp[intOf];omega
abbrev At:=S36
theorem att_at{w:World}{A:Option Addr}{xs:List At}(h:k36.C w A xs.length xs)(i:Nat)(hi:i<xs.length):
 ∃g o,A=some ⟨g,o,none⟩∧w.cell? ⟨g,o+i * 2,none⟩=some (.string xs[i].f0)∧w.cell? ⟨g,o+i * 2+1,none⟩=some (.string xs[i].f1):=by
 obtain⟨ad0,e0,z0,_⟩:=lY h 0 (by omega) (by omega);have hs:=Ht (a:=ad0) (by simpa [Addr.add]using z0);obtain⟨ad,e,c0,c1⟩:=lY h i (by omega) (by omega);obtain rfl:ad0=ad:=Option.some.inj (e0.symm.trans e);simp only[Int.toNat_natCast]at c0 c1;rw[hs,Hu]at c0 c1;have er:bq xs i=xs[i]:=by simp[bq,hi]
 rw[er]at c0 c1;exact⟨ad0.block,ad0.off,by rw[e0,←hs],c0,c1⟩
def fO(p:Nat):Value:=.func (.func 151) #[] #[.pointer (some ⟨p,0,none⟩)]
theorem once1_c(an av bn bv:ByteArray)(p:Nat)(w:World)(h:w.heap[p]?=some (.cells #[.string an,.string av] 36 (0,0))):
 Calls Tryz.prog 151 #[.agg #[.string bn,.string bv],.pointer (some ⟨p,0,none⟩)] w fun e w'=>e=.returned (.bool (an.toList==bn.toList))∧Below w.heap.size w w':=by
 have c0:w.cell? ⟨p,0,none⟩=some (.string an):=(aC h 0).trans rfl;have d0:=fun o=>aV c0 ((Below.refl _ w).alloc (Nat.le_refl _) o)
 obtain⟨n0,n1,-⟩:=gP (bR w #[.string bn,.string bv] 36);go_enter Tryz.func151,Tryz.ntmps151;go_wp2;go_ret;exact⟨rfl,(Below.refl _ w).alloc (Nat.le_refl _) _⟩
def eqN(a b:At):Bool:=a.f0.toList==b.f0.toList
def Ef(out:List At)(a:At):Bool:=out.any (eqN a)
theorem idx_once(xs:List At)(a:At)(A:Option Addr)(c p:Nat)(w:World)(hr:k36.C w A xs.length xs)(hp:w.heap[p]?=some (.cells #[.string a.f0,.string a.f1] 36 (0,0)))(b:Bool)(hb:Ef xs a=b):
 Calls Tryz.prog 186 #[.slice A xs.length c,fO p] w fun e w'=>∃n:Int,e=.returned (.int .i64 n)∧(decide (0≤n)=b)∧Below w.heap.size w w':=by
 have hxl:=hr.2.1;unfold fO;unfold Ef at hb;go_enter Tryz.func186,Tryz.ntmps186;go_wp2
 go_loopw [5,8] (fun _ v wr=>∃(k:Nat),v=.int .i64 k∧k≤xs.length∧Hid (∀j (h:j<xs.length),j<k→eqN a xs[j]=false)∧Below w.heap.size w wr) (fun _ v _=>xs.length - (intOf v).toNat)
 case atStart=>exact⟨0,rfl,by omega,fun j _ h=>by omega,Below.refl _ _⟩
 case round=>
  obtain⟨k,rfl,hk,hno,hB⟩:=hrel
  by_cases hlt:k<xs.length
  ·obtain⟨g,o,rfl,z0,z1⟩:=att_at (Go.Proofs.ah.aD.Kd.eF hr hB) k hlt
   have hyes:Hid (eqN a xs[k]=true→b=true):=fun h=>by rw[←hb,List.any_eq_true];exact⟨_,List.getElem_mem hlt,h⟩
   have oh:Hid (eqN a xs[k]=false→∀j (h:j<xs.length),j<k+1→eqN a xs[j]=false):=fun h j hj hjk=>by
    by_cases e:j=k
    ·subst e;exact h
    ·exact hno.out j hj (by omega)
   have hc1:=Lib.hid (fun(W:World) (hW:Below w.heap.size w W)=>once1_c a.f0 a.f1 xs[k].f0 xs[k].f1 p W (aQ hp hW));have hdef:Hid (eqN a xs[k]=(a.f0.toList==xs[k].f0.toList)):=rfl;generalize eqN a xs[k]=dk at *;generalize xs[k]=x at *;rw[←hdef.out]at hc1;obtain⟨nm,vl⟩:=x;simp only at z0 z1;clear hno hb hdef;cases dk with
   |true=>
    have hbt:=hyes.out rfl;clear hyes oh;subst hbt
    go_wp2_with(go_at_call 151;((with_reducible refine(hc1.out _ hB).mono ?_);rintro e w1 ⟨rfl,hb1⟩))
    go_ret;exact⟨_,rfl,decide_eq_true (by omega),hB.trans (hb1.mono hB.size)⟩
   |false=>
    have hno3:Hid _:=oh.out rfl;clear hyes oh
    go_wp2_with(go_at_call 151;((with_reducible refine(hc1.out _ hB).mono ?_);rintro e w1 ⟨rfl,hb1⟩))
    exact⟨⟨k+1,rfl,by omega,hno3,hB.trans (hb1.mono hB.size)⟩,by simp[intOf];omega⟩
  ·have hbf:b=false:=by
    rw[←hb,List.any_eq_false];intro x hx;obtain⟨j,hj,rfl⟩:=List.getElem_of_mem hx;rw[hno.out j hj (by omega)];simp
   subst hbf;clear hno hb;go_wp2;go_ret;exact⟨-1,rfl,by decide,hB⟩
theorem F8(xs:List At)(a:At)(A:Option Addr)(c p:Nat)(w:World)(hr:k36.C w A xs.length xs)(hp:w.heap[p]?=some (.cells #[.string a.f0,.string a.f1] 36 (0,0))):
 Calls Tryz.prog 150 #[.slice A xs.length c,.func (.func 151) #[] #[.pointer (some ⟨p,0,none⟩)]] w fun e w'=>e=.returned (.bool (Ef xs a))∧Below w.heap.size w w':=by
 have hi:=Lib.hid (idx_once xs a A c p w hr hp (Ef xs a) rfl);unfold fO at hi;generalize Ef xs a=b at *;go_enter Tryz.func150,Tryz.ntmps150
 go_wp2_with(go_at_call 186;((with_reducible refine hi.out.mono ?_);rintro e w1 ⟨n,rfl,hn,hb1⟩))
 go_ret;exact⟨rfl,hb1⟩
def xK:List At→List At→List At
 |out,[]=>out
 |out,a::r=>xK (if Ef out a then out else out++[a]) r
def uq(l:List At):List At:=xK [] l
theorem once_c(A:Option Addr)(c:Nat)(l:List At)(w:World)(hr:k36.C w A l.length l)(hl:l.length≤1000000):
 Calls Tryz.prog 113 #[.slice A l.length c] w fun e w'=>∃v,e=.returned v∧k36.R 36 w' w.heap.size (fun _=>True) v (uq l)∧Below w.heap.size w w':=by
 have hxl:=hr.2.1;go_enter Tryz.func113,Tryz.ntmps113;go_wp2
 go_loopw [3,8] (fun vo vi wr=>∃(i:Nat) (outs:List At),vi=.int .i64 i∧i≤l.length∧Hid (xK outs (l.drop i)=uq l)∧k36.R 36 wr w.heap.size (fun _=>True) vo outs∧outs.length≤i∧Below w.heap.size w wr) (fun _ vi _=>l.length - (intOf vi).toNat)
 case atStart=>exact⟨0,[],rfl,Nat.zero_le _,rfl,Kd.nI _ _ _ _ _,Nat.le_refl _,Below.refl _ _⟩
 case round=>
  obtain⟨i,outs,rfl,hi,hq,hO,hol,hB⟩:=hrel;obtain⟨A2,c2,rfl⟩:=Kd.dI hO
  by_cases hlt:i<l.length
  ·obtain⟨g,o,rfl,z0,z1⟩:=att_at (Kd.eF hr hB) i hlt
   have hq2:=hq.out;rw[List.drop_eq_getElem_cons hlt]at hq2;simp only[xK]at hq2;clear hq;generalize l[i]=a at *;have hn:=bR wr #[.string a.f0,.string a.f1] 36;obtain⟨n0,n1,-⟩:=gP hn;have hbA:Below wr.heap.size wr (wr.alloc (.cells #[.string a.f0,.string a.f1] 36)):=(Below.refl _ wr).alloc (Nat.le_refl _) _;have hOA:=Kd.dX hO hbA;have hBA:=hB.trans (hbA.mono hB.size);have hct:=Lib.hid (F8 outs a A2 c2 wr.heap.size _ (Kd.bK hOA).2.2 hn);generalize hw1:wr.alloc (.cells #[.string a.f0,.string a.f1] 36)=W1 at *;cases hh:Ef outs a with
   |true=>
    rw[hh]at hct hq2;rw[if_pos rfl]at hq2;replace hq2:=Lib.hid hq2;clear hh
    go_wp2_with(go_at_call 150;((with_reducible refine hct.out.mono ?_);rintro e W2 ⟨rfl,hb2⟩))
    exact⟨⟨i+1,outs,rfl,by omega,hq2,Kd.dX hOA hb2,by omega,hBA.trans (hb2.mono hBA.size)⟩,by simp[intOf];omega⟩
   |false=>
    rw[hh]at hct hq2;rw[if_neg (by decide)]at hq2;replace hq2:=Lib.hid hq2;clear hh
    go_wp2_with(first
     |(go_at_call 150;((with_reducible refine hct.out.mono ?_);rintro e W2 ⟨rfl,hb2⟩;have m0:=aV n0 hb2;have m1:=aV n1 hb2;have hO2:=Kd.dX hOA hb2;have hB2:=hBA.trans (hb2.mono hBA.size)))
     |(at_builtin;refine Kd.lQ k36 (w0:=w) w.heap.size rfl (.tmp 16) (.tmp 18) 32 36 (.agg #[(.string ⟨#[]⟩),(.string ⟨#[]⟩)]) 32 rfl Tryz.underlying32 Hw rfl (by decide) (by omega) (.slice A2 outs.length c2) outs a [.string a.f0,.string a.f1] (fun _=>True) (fun _=>False) rfl rfl (NZ _ _ _ a) (fun _ h=>h.elim) (fun _ _=>trivial) hO2 hB2 hB2.size (by omega) ?_;intro v1 w3 hO3 hb3 hg3 hat3;obtain⟨A3,c3,rfl⟩:=Kd.dI hO3;rw[List.length_append,List.length_singleton]at hO3))
    exact⟨⟨i+1,outs++[a],rfl,by omega,hq2,hO3,by simp;omega,hb3⟩,by simp[intOf];omega⟩
  ·have hq2:=hq.out
   rw[List.drop_of_length_le (by omega)]at hq2;simp only[xK]at hq2;subst hq2;clear hq;go_wp2;go_ret;exact⟨_,rfl,hO,hB⟩
end Go.Proofs.aj.W7
