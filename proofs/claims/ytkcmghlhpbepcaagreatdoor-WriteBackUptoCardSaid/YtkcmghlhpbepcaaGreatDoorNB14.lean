/- Lemmas and walks, part 14. -/
import Derived.Test.YtkcmghlhpbepcaaGreatDoorNB13
set_option linter.unusedVariables false
set_option linter.unusedSimpArgs false
set_option maxHeartbeats 8000000
set_option maxRecDepth 100000
namespace Go.Proofs.aj.W7
open Go.RowKit Go.Proofs Go.Proofs.YtkcmghlhpbepcaaGreatDoor Go.Proofs.ah.aD Go.Proofs.ah.bH
theorem JJ(w:World)(o:Obj):(w.alloc o).drew=w.drew.alloc o:=rfl
structure Bd (w0:World) (B:Nat) (op:List ByteArray) (out:List Rw) (big:Bool) (W:World):Prop where
 below:Below w0.heap.size w0 W
 base:w0.heap.size≤B
 ex:∃vo vr,W.heap[B]?=some (.cells #[vo,vr,.bool big] 73 (0,0))∧Kd.string.R 9 W w0.heap.size (fun _=>True) vo op∧k34.R 34 W w0.heap.size (fun _=>True) vr out
theorem Bd.step{w0 W W':World}{B:Nat}{op:List ByteArray}{out:List Rw}{big:Bool}(h:Bd w0 B op out big W)(hb:Below W.heap.size W W'):Bd w0 B op out big W':=by
 obtain⟨vo,vr,h1,h2,h3⟩:=h.ex;exact⟨h.below.trans (hb.mono h.below.size),h.base,vo,vr,aQ h1 hb,Kd.dV h2 hb,Kd.dV h3 hb⟩
theorem aN{w:World}{b:Nat}{v0 v1 v2:Value}{t:TypeId}(h:w.heap[b]?=some (.cells #[v0,v1,v2] t (0,0))):
 w.cell? ⟨b,0,none⟩=some v0∧w.cell? ⟨b,1,none⟩=some v1∧w.cell? ⟨b,2,none⟩=some v2∧∀j,w.frozen? ⟨b,j,none⟩=false:=
 ⟨(aC h 0).trans rfl,(aC h 1).trans rfl,(aC h 2).trans rfl,fun j=>ay h j⟩
theorem Bd.bigger{w0 W:World}{B:Nat}{op:List ByteArray}{out:List Rw}{big:Bool}(h:Bd w0 B op out big W):Bd w0 B op out true (W.setCell ⟨B,2,none⟩ (.bool true)):=by
 obtain⟨vo,vr,h1,h2,h3⟩:=h.ex;exact⟨h.below.setCell (p:=⟨B,2,none⟩) h.base _,h.base,vo,vr,bT h1 2 _ rfl,Kd.rG h2 h1 (by decide) 2 _,Kd.rG h3 h1 (by decide) 2 _⟩
def gZ(B:Nat)(W W':World):Prop:=∀k o,W.heap[k]?=some o→k≠B→(∀cs,o≠.cells cs 9 (0,0))→(∀cs,o≠.cells cs 34 (0,0))→W'.heap[k]?=some o
theorem gZ.refl(B:Nat)(W:World):gZ B W W:=fun _ _ h _ _ _=>h
theorem gZ.trans{B:Nat}{W W1 W2:World}(h:gZ B W W1)(k:gZ B W1 W2):gZ B W W2:=fun j o h0 h1 h2 h3=>k j o (h j o h0 h1 h2 h3) h1 h2 h3
theorem gZ.below{B:Nat}{W W1 W2:World}(h:gZ B W W1)(hb:Below W1.heap.size W1 W2):gZ B W W2:=fun j o h0 h1 h2 h3=>aQ (h j o h0 h1 h2 h3) hb
theorem gZ.set{B:Nat}{W W1:World}(h:gZ B W W1)(j:Nat)(v:Value):gZ B W (W1.setCell ⟨B,j,none⟩ v):=fun k o h0 h1 h2 h3=>(Below.heap_setCell W1 ⟨B,j,none⟩ v k h1).trans (h k o h0 h1 h2 h3)
theorem gZ.grown{B:Nat}{W W1 W2:World}{v:Value}(h:gZ B W W1)(hty:∀k,v.ownBlock=some k→∃cells,W1.heap[k]?=some (.cells cells 34 (0,0))∨W1.heap[k]?=some (.cells cells 9 (0,0)))(hg:W1.grownBy W2 v.ownBlock):gZ B W W2:=fun k o h0 h1 h2 h3=>by
 have a:=h k o h0 h1 h2 h3;refine qJ a hg (fun e=>?_);obtain⟨cells,hc⟩:=hty k e.symm
 rcases hc with hc|hc
 ·exact h3 cells (Option.some.inj (a.symm.trans hc))
 ·exact h2 cells (Option.some.inj (a.symm.trans hc))
def oQ(op:List ByteArray)(out:List Rw)(big:Bool)(x:Rw):List Rw×Bool:=if 4096≤out.length∨60≤op.length then(out,true)else(out++[⟨op.length,x.f1,x.f2,x.f3,x.f4⟩],big)
theorem lay_c(w0:World)(B:Nat)(op:List ByteArray)(out:List Rw)(big:Bool)(x0 x1:Int)(xn xt:ByteArray)(va:Value)(xa:List S36)(W:World)(h:Bd w0 B op out big W)(hA:k36.R 36 W w0.heap.size (fun _=>True) va xa)(hl:out.length≤100000)(ho:op.length≤100000):
 Calls Tryz.prog 68 #[.pointer (some ⟨B,0,none⟩),.agg #[.int .i64 x0,.int .i64 x1,.string xn,.string xt,va]] W fun e W'=>e=.returned (.tuple #[])∧
  Bd w0 B op (oQ op out big ⟨x0,x1,xn,xt,xa⟩).1 (oQ op out big ⟨x0,x1,xn,xt,xa⟩).2 W'∧Below w0.heap.size W W'∧gZ B W W':=by
 obtain⟨vo,vr,h1,h2,h3⟩:=h.ex;obtain⟨Ao,co,rfl⟩:=Kd.dH h2;obtain⟨Ar,cr,rfl⟩:=Kd.dH h3;obtain⟨Aa,ca,rfl⟩:=Kd.dH hA;have hBlt:=gU h1;obtain⟨c0,c1,c2,cf⟩:=aN h1;have b1:=fun o=>aQ h1 ((Below.refl _ W).alloc (Nat.le_refl _) o)
 have d0:=fun o=>(aN (b1 o)).1
 have d1:=fun o=>(aN (b1 o)).2.1
 have d2:=fun o=>(aN (b1 o)).2.2.1
 have df:=fun o=>(aN (b1 o)).2.2.2
 have n1:=bQ W #[.int .i64 op.length,.int .i64 x1,.string xn,.string xt,.slice Aa xa.length ca] 34;obtain⟨⟨p0,p1,p2,p3,p4⟩,p5⟩:=aW n1;have hstep:=h.step ((Below.refl _ W).alloc (Nat.le_refl _) (.cells #[.int .i64 op.length,.int .i64 x1,.string xn,.string xt,.slice Aa xa.length ca] 34));have hbz:=h.below.size;have hbA:Below w0.heap.size W (W.alloc (.cells #[.int .i64 op.length,.int .i64 x1,.string xn,.string xt,.slice Aa xa.length ca] 34)):=(Below.refl _ W).alloc hbz _
 by_cases g:4096≤out.length∨60≤op.length
 ·rw[show oQ op out big ⟨x0,x1,xn,xt,xa⟩=(out,true)from if_pos g]
  have hfin:=Lib.hid (h.bigger.step ((Below.refl _ _).alloc (Nat.le_refl _) (.cells #[.int .i64 op.length,.int .i64 x1,.string xn,.string xt,.slice Aa xa.length ca] 34)))
  by_cases g1:4096≤out.length
  ·have e1:decide ((4096:Int)≤(out.length:Int))=true:=decide_eq_true (by omega)
   clear g;go_enter Tryz.func68,Tryz.ntmps68;go_wp2;refine bodyPost_ret (results_none rfl _ _ _) rfl ?_;exact⟨rfl,hfin.out,((Below.refl _ W).setCell (p:=⟨B,2,none⟩) h.base _).alloc (by simpa using hbz) _,((gZ.refl B W).set 2 _).below ((Below.refl _ _).alloc (Nat.le_refl _) _)⟩
  ·have e1:decide ((4096:Int)≤(out.length:Int))=false:=decide_eq_false (by omega)
   have e2:decide ((60:Int)≤(op.length:Int))=true:=decide_eq_true (by omega);clear g;go_enter Tryz.func68,Tryz.ntmps68;go_wp2;refine bodyPost_ret (results_none rfl _ _ _) rfl ?_;exact⟨rfl,hfin.out,((Below.refl _ W).setCell (p:=⟨B,2,none⟩) h.base _).alloc (by simpa using hbz) _,((gZ.refl B W).set 2 _).below ((Below.refl _ _).alloc (Nat.le_refl _) _)⟩
 ·rw[show oQ op out big ⟨x0,x1,xn,xt,xa⟩=(out++[⟨op.length,x1,xn,xt,xa⟩],big)from if_neg g]
  have e1:decide ((4096:Int)≤(out.length:Int))=false:=decide_eq_false (by omega);have e2:decide ((60:Int)≤(op.length:Int))=false:=decide_eq_false (by omega);clear g;go_enter Tryz.func68,Tryz.ntmps68;go_wp2;have hR1:=Kd.fq h3 (.cells #[.int .i64 op.length,.int .i64 x1,.string xn,.string xt,.slice Aa xa.length ca] 34);have hV1:=Kd.fq h2 (.cells #[.int .i64 op.length,.int .i64 x1,.string xn,.string xt,.slice Aa xa.length ca] 34);have hA1:=Kd.fq hA (.cells #[.int .i64 op.length,.int .i64 x1,.string xn,.string xt,.slice Aa xa.length ca] 34);have hB1:=b1 (.cells #[.int .i64 op.length,.int .i64 x1,.string xn,.string xt,.slice Aa xa.length ca] 34);have q1:=d1 (.cells #[.int .i64 op.length,.int .i64 x1,.string xn,.string xt,.slice Aa xa.length ca] 34);have hkp:=(gZ.refl B W).below ((Below.refl _ W).alloc (Nat.le_refl _) (.cells #[.int .i64 op.length,.int .i64 x1,.string xn,.string xt,.slice Aa xa.length ca] 34));clear h1 h2 h3 hA c0 c1 c2 cf b1 d0 d1 d2 df hstep;generalize hw1:W.alloc (.cells #[.int .i64 op.length,.int .i64 x1,.string xn,.string xt,.slice Aa xa.length ca] 34)=W1 at *
  refine uO (n:=11) (S:=fun w'=>w'.cell? ⟨B,1,none⟩=some (.slice Ar out.length cr)∧w'.cell? ⟨W.heap.size,0,none⟩=some (.int .i64 op.length)∧w'.cell? ⟨W.heap.size,1,none⟩=some (.int .i64 x1)∧w'.cell? ⟨W.heap.size,2,none⟩=some (.string xn)∧w'.cell? ⟨W.heap.size,3,none⟩=some (.string xt)∧w'.cell? ⟨W.heap.size,4,none⟩=some (.slice Aa xa.length ca)) (ds:=[7,10]) (bits 11 0) (by kernel_rfl) rfl (by kernel_rfl) ⟨q1,p0,p1,p2,p3,p4⟩ (fun hHeld=>?_);refine sw 0 24 ?_;refine sw 1 25 ?_;refine sw 2 26 ?_;refine sw 3 27 ?_;refine st 4 28 ?_;refine st 5 29 ?_
  refine so 6 (fun K hK=>?_);rw[if_pos (by rfl)];go_simp;have hbq:Below W1.heap.size W1 (W1.alloc (.cells #[.int .i64 op.length,.int .i64 x1,.string xn,.string xt,.slice Aa xa.length ca] 34)).drew:=Go.Proofs.ah.aD.bW ((Below.refl _ W1).alloc (Nat.le_refl _) _);refine hK.out _ _ ⟨aV q1 hbq,aV p0 hbq,aV p1 hbq,aV p2 hbq,aV p3 hbq,aV p4 hbq⟩ (fun uP=>?_);clear hK K hHeld uP;refine sl 7 (fun K hK=>?_);rw[JJ];have hR2:=Kd.fG hR1;have hA2:=Kd.R_apartR (Kd.fG hA1) hR2 (by decide);have hbd:Below w0.heap.size W W1.drew:=Go.Proofs.ah.aD.dn hbA;refine Kd.yQ k34 (w0:=W) w0.heap.size (by rfl) (.tmp 28) (.tmp 30) 22 34 (.agg #[(.int .i64 0),(.int .i64 0),(.string ⟨#[]⟩),(.string ⟨#[]⟩),(.slice none 0 0)]) 72 rfl Tryz.underlying22 qR rfl (by decide) (by omega) (.slice Ar out.length cr) out (⟨op.length,x1,xn,xt,xa⟩:Rw) [.int .i64 op.length,.int .i64 x1,.string xn,.string xt,.slice Aa xa.length ca] (fun _=>True) (fun k=>True∧some k≠(Value.slice Ar out.length cr).ownBlock) rfl ?aX (xU _ _ _ (⟨op.length,x1,xn,xt,xa⟩:Rw) hA2) (fun k hk=>hk) (fun _ _=>trivial) hR2 hbd (h.below.trans hbd).size (by omega) ?_
  case aX=>rfl
  intro v1 w2 hO2 hb2 hg2 wX;have hB2:=qJ (aQ hB1 (bW (Below.refl _ _))) hg2 (Kd.R_ne hR2 (aQ hB1 (bW (Below.refl _ _))) (by decide));have hV2:=Kd.R_over (Kd.fG hV1) hR2 (by decide) hg2;obtain⟨A3,c3,rfl⟩:=Kd.dH hO2;rw[List.length_append,List.length_singleton]at hO2;obtain⟨f0,f1,f2,ff⟩:=aN hB2;refine hK.out _ _ ?_;clear hK K;refine sw 8 32 ?_;refine sw 9 33 ?_
  refine sl 10 (fun K hK=>?_);rw[if_pos (by rfl)];go_simp;refine hK.out _ _ ?_;clear hK K;refine zQ (by kernel_rfl) ?_;go_end0;exact⟨rfl,⟨h.below.trans (hb2.setCell (p:=⟨B,1,none⟩) h.base _),h.base,_,_,bT hB2 1 _ rfl,Kd.rG hV2 hB2 (by decide) 1 _,Kd.rG hO2 hB2 (by decide) 1 _⟩,hb2.setCell (p:=⟨B,1,none⟩) h.base _,(gZ.grown (hkp.below (Go.Proofs.ah.aD.bW (Below.refl _ _))) (fun k hk=>by obtain⟨c,hc⟩:=Kd.Gw hR2 k hk;exact⟨c,.inl hc⟩) hg2).set 1 _⟩
def wG(op:List ByteArray)(out:List Rw):Bool:=match out.getLast? with|none=>false|some y=>decide (y.f1=1)&&decide (y.f0=op.length)
def addT(y:Rw)(s:ByteArray):Rw:=⟨y.f0,y.f1,y.f2,y.f3++s,y.f4⟩
def jv(op:List ByteArray)(out:List Rw)(big:Bool)(s:ByteArray):List Rw×Bool:=
 if s.data.toList=[]then(out,big)
 else if wG op out then(out.set (out.length - 1) (addT (au out ((out.length:Int) - 1)) s),big)
 else oQ op out big ⟨0,1,⟨#[]⟩,s,[]⟩
theorem LV(w0:World)(B:Nat)(op:List ByteArray)(out:List Rw)(big:Bool)(s:ByteArray)(W:World)(h:Bd w0 B op out big W)(hl:out.length≤100000)(ho:op.length≤100000)(hz:∀x∈out,x.f3.size+s.size≤9223372036854775807):
 Calls Tryz.prog 67 #[.pointer (some ⟨B,0,none⟩),.string s] W fun e W'=>e=.returned (.tuple #[])∧
  Bd w0 B op (jv op out big s).1 (jv op out big s).2 W'∧Below w0.heap.size W W'∧gZ B W W':=by
 obtain⟨vo,vr,h1,h2,h3⟩:=id h.ex;obtain⟨Ao,co,rfl⟩:=Kd.dH h2;obtain⟨Ar,cr,rfl⟩:=Kd.dH h3;obtain⟨c0,c1,c2,cf⟩:=aN h1;have hlay:=Lib.hid (fun X (hX:Bd w0 B op out big X)=>lay_c w0 B op out big 0 1 ⟨#[]⟩ s (.slice none 0 0) [] X hX (Kd.ni _ _ _ _ _) hl ho)
 by_cases hs:s.data.toList=[]
 ·have e1:(s.toList==[])=true:=by rw[Lib.toList_data,hs];rfl
  rw[show jv op out big s=(out,big)from if_pos hs]
  have hsz:s=⟨#[]⟩:=by
   obtain⟨d⟩:=s;simpa using hs
  subst hsz;go_enter Tryz.func67,Tryz.ntmps67;go_wp2;go_end0;exact⟨rfl,h,Below.refl _ _,gZ.refl _ _⟩
 ·have e0:¬s.toList=[]:=by rw[Lib.toList_data];exact hs
  have e1:(s.toList==[])=false:=beq_eq_false_iff_ne.2 e0;have e2:¬s=⟨#[]⟩:=fun e=>hs (by rw[e])
  unfold jv;rw[if_neg hs]
  rcases Nat.eq_zero_or_pos out.length with hn|hn
  ·have hj:wG op out=false:=by
    have:out=[]:=List.eq_nil_of_length_eq_zero hn;rw[this];rfl
   rw[hj,if_neg (by decide)];have e3:decide ((0:Int)<(out.length:Int))=false:=decide_eq_false (by omega);have e4:decide (0<out.length)=false:=decide_eq_false (by omega);generalize oQ op out big ⟨0,1,⟨#[]⟩,s,[]⟩=res at *;go_enter Tryz.func67,Tryz.ntmps67;go_wp2;refine uO (n:=32) (S:=fun w'=>w'.cell? ⟨B,1,none⟩=some (.slice Ar out.length cr)) (ds:=[]) (bits 32 0) (by kernel_rfl) rfl (by kernel_rfl) c1 (fun hHeld=>?_);refine sw 0 18 ?_;refine sw 1 19 ?_;refine sw 2 20 ?_;refine su 3 21 ?_;refine su 4 22 ?_;refine su 5 23 ?_;refine su 6 24 ?_;refine su 7 25 ?_;refine su 8 26 ?_;refine su 9 27 ?_;refine su 10 28 ?_;refine su 11 29 ?_;refine su 12 30 ?_;refine sw 13 31 ?_;refine sw 14 32 ?_;refine su 15 33 ?_;refine su 16 34 ?_;refine su 17 35 ?_;refine su 18 36 ?_;refine su 19 37 ?_;refine su 20 38 ?_;refine su 21 39 ?_;refine su 22 40 ?_;refine su 23 41 ?_;refine su 24 42 ?_;refine su 25 43 ?_;refine su 26 44 ?_;refine su 27 45 ?_;refine su 28 46 ?_;refine su 29 47 ?_;refine sw 30 48 ?_;refine sw 31 17 ?_
   refine zQ (by kernel_rfl) ?_
   go_wp2_with(go_at_call 68;((with_reducible refine(hlay.out _ (h.step (Go.Proofs.ah.aD.bW (Below.refl _ _)))).mono ?_);rintro e W1 ⟨rfl,hB1,hb1,hk1⟩))
   go_end0;exact⟨rfl,hB1,(Go.Proofs.ah.aD.bW (Below.refl _ W)).mono h.below.size |>.trans hb1,((gZ.refl B W).below (Go.Proofs.ah.aD.bW (Below.refl _ _))).trans hk1⟩
  ·obtain⟨m,hm⟩:∃m,out.length=m+1:=⟨out.length - 1,by omega⟩
   obtain⟨go,capo,hv,-,hgo,cellsO,hcO⟩:=Kd.DL h3 hn;simp only[Value.slice.injEq,true_and]at hv;obtain⟨rfl,rfl⟩:=hv;obtain⟨cs,hcl,hMo,uR,hfzo⟩:=Kd.LW h3 (⟨0,0,⟨#[]⟩,⟨#[]⟩,[]⟩:Rw) (m:Int) (by omega) (by omega);have hgd:out.getD (m:Int).toNat (⟨0,0,⟨#[]⟩,⟨#[]⟩,[]⟩:Rw)=out[m]:=by simp[show m<out.length by omega]
   have hrd:au out ((out.length:Int) - 1)=out[m]:=by
    rw[show(out.length:Int) - 1=(m:Int)from by omega];simp[au,show m<out.length by omega]
   have hzm:=hz out[m] (List.getElem_mem _)
   have hj:wG op out=(decide (out[m].f1=1)&&decide (out[m].f0=op.length)):=by
    unfold wG;rw[List.getLast?_eq_getElem?,show out.length - 1=m from by omega,List.getElem?_eq_getElem (by omega)]
   rw[hgd]at hMo;rw[hrd,hj,show out.length - 1=m from by omega];generalize out[m]=y at *;obtain⟨w4,rfl,hw4⟩:=Bn hMo;have y0:=uR 0 _ rfl;have y1:=uR 1 _ rfl;have y3:=uR 3 _ rfl;have f3:=hfzo 3;change World.cell? _ ⟨go,m * 5,none⟩=_ at y0;change World.cell? _ ⟨go,m * 5+1,none⟩=_ at y1;change World.cell? _ ⟨go,m * 5+3,none⟩=_ at y3;change World.frozen? _ ⟨go,m * 5+3,none⟩=_ at f3;obtain⟨yd,yk,yn,yt,ya⟩:=y;simp only at y0 y1 y3 hzm⊢;rw[hm]at c1;have g1:decide ((0:Int)<((m+1:Nat):Int))=true:=decide_eq_true (by omega);have g2:decide (0<m+1)=true:=decide_eq_true (by omega);have i1:(0:Int)≤(m:Int):=by omega
   have i2:(m:Int)<(m:Int)+1:=by omega
   have iw:wrap64 (m:Int)=(m:Int):=by unfold wrap64;omega
   have hbd:Below W.heap.size W W.drew:=Go.Proofs.ah.aD.bW (Below.refl _ _);have hkd:=(gZ.refl B W).below hbd;have hbw:Below w0.heap.size W W.drew:=hbd.mono h.below.size;have hstep:=h.step hbd
   by_cases k1:yk=1
   ·subst k1
    by_cases k2:yd=op.length
    ·subst k2
     rw[if_pos (by simp)];have a1:decide (yt.size+s.size≤9223372036854775807)=true:=decide_eq_true hzm;have a2:(9223372036854775807<yt.size+s.size)=False:=eq_false (by omega);go_enter Tryz.func67,Tryz.ntmps67;go_wp2;refine uO (n:=32) (S:=fun w'=>w'.cell? ⟨B,1,none⟩=some (.slice (some ⟨go,0,none⟩) (m+1) cr)∧w'.cell? ⟨B,0,none⟩=some (.slice Ao op.length co)∧w'.cell? ⟨go,m * 5,none⟩=some (.int .i64 op.length)∧w'.cell? ⟨go,m * 5+1,none⟩=some (.int .i64 1)) (ds:=[]) (bits 32 0) (by kernel_rfl) rfl (by kernel_rfl) ⟨c1,c0,y0,y1⟩ (fun hHeld=>?_)
     refine sw 0 18 ?_;refine sw 1 19 ?_;refine sw 2 20 ?_;refine sw 3 21 ?_;refine sw 4 22 ?_;refine sw 5 23 ?_;refine st 6 24 ?_;refine sw 7 25 ?_;refine sw 8 26 ?_;refine sw 9 27 ?_;refine sw 10 28 ?_;refine st 11 29 ?_;refine sw 12 30 ?_;refine sw 13 31 ?_;refine sw 14 32 ?_;refine sw 15 33 ?_;refine sw 16 34 ?_;refine sw 17 35 ?_;refine st 18 36 ?_;refine sw 19 37 ?_;refine sw 20 38 ?_;refine sw 21 39 ?_;refine sw 22 40 ?_;refine st 23 41 ?_;refine sw 24 42 ?_;refine sw 25 43 ?_;refine sw 26 44 ?_;refine st 27 45 ?_;refine sw 28 46 ?_;refine sw 29 47 ?_;refine sw 30 48 ?_;refine sw 31 17 ?_
     refine zQ (by kernel_rfl) ?_;go_wp2;go_end0;have hne:=blk_ne h1 hcO (by decide);have hbase:=Kd.jH h3 go rfl;have hS:=(Kd.R_seg h3 (m:Int) (by omega) (by omega) (c:=[.int .i64 op.length,.int .i64 1,.string yn,.string yt,w4]) (seg:=[.string (yt++s)]) (j:=3) hcl uR (by show 3+1≤5;omega) (x':=(⟨op.length,1,yn,yt++s,ya⟩:Rw)) (okp:=fun k=>True∧k≠go) (xU _ _ _ (⟨op.length,1,yn,yt++s,ya⟩:Rw) hw4) (fun _ h=>h)).1;have hB':(W.setCell ⟨go,m * 5+3,none⟩ (.string (yt++s))).heap[B]?=some (.cells #[.slice Ao op.length co,.slice (some ⟨go,0,none⟩) out.length cr,.bool big] 73 (0,0)):=(Below.heap_setCell W ⟨go,m * 5+3,none⟩ _ B hne).trans h1;have hd2:Below (W.setCell ⟨go,m * 5+3,none⟩ (.string (yt++s))).heap.size (W.setCell ⟨go,m * 5+3,none⟩ (.string (yt++s))) (W.setCell ⟨go,m * 5+3,none⟩ (.string (yt++s))).drew:=Go.Proofs.ah.aD.bW (Below.refl _ _);have hb2:Below w0.heap.size W (W.setCell ⟨go,m * 5+3,none⟩ (.string (yt++s))):=(Below.refl _ W).setCell (p:=⟨go,m * 5+3,none⟩) hbase _
     have hfin:Bd w0 B op (out.set m ⟨op.length,1,yn,yt++s,ya⟩) big (W.setCell ⟨go,m * 5+3,none⟩ (.string (yt++s))):=⟨h.below.trans hb2,h.base,_,_,hB',Kd.rG h2 hcO (by decide) (m * 5+3) _,hS⟩;have hkk:gZ B W (W.setCell ⟨go,m * 5+3,none⟩ (.string (yt++s))):=fun k o q0 q1 q2 q3=>(Below.heap_setCell W ⟨go,m * 5+3,none⟩ _ k (fun e=>by subst e;exact q3 cellsO (Option.some.inj (q0.symm.trans hcO)))).trans q0
     exact⟨rfl,hfin.step hd2,hb2.trans (hd2.mono hfin.below.size),hkk.below hd2⟩
    ·have q1:(yd==(op.length:Int))=false:=beq_eq_false_iff_ne.2 k2
     rw[if_neg (by simp[k2])];generalize oQ op out big ⟨0,1,⟨#[]⟩,s,[]⟩=res at *;go_enter Tryz.func67,Tryz.ntmps67;go_wp2;refine uO (n:=32) (S:=fun w'=>w'.cell? ⟨B,1,none⟩=some (.slice (some ⟨go,0,none⟩) (m+1) cr)∧w'.cell? ⟨B,0,none⟩=some (.slice Ao op.length co)∧w'.cell? ⟨go,m * 5,none⟩=some (.int .i64 yd)∧w'.cell? ⟨go,m * 5+1,none⟩=some (.int .i64 1)) (ds:=[]) (bits 32 0) (by kernel_rfl) rfl (by kernel_rfl) ⟨c1,c0,y0,y1⟩ (fun hHeld=>?_);refine sw 0 18 ?_;refine sw 1 19 ?_;refine sw 2 20 ?_;refine sw 3 21 ?_;refine sw 4 22 ?_;refine sw 5 23 ?_;refine st 6 24 ?_;refine sw 7 25 ?_;refine sw 8 26 ?_;refine sw 9 27 ?_;refine sw 10 28 ?_;refine st 11 29 ?_;refine sw 12 30 ?_;refine sw 13 31 ?_;refine sw 14 32 ?_;refine sw 15 33 ?_;refine sw 16 34 ?_;refine sw 17 35 ?_;refine st 18 36 ?_;refine sw 19 37 ?_;refine sw 20 38 ?_;refine sw 21 39 ?_;refine sw 22 40 ?_;refine st 23 41 ?_;refine sw 24 42 ?_;refine sw 25 43 ?_;refine sw 26 44 ?_;refine st 27 45 ?_;refine sw 28 46 ?_;refine sw 29 47 ?_;refine sw 30 48 ?_;refine sw 31 17 ?_
     refine zQ (by kernel_rfl) ?_
     go_wp2_with(go_at_call 68;((with_reducible refine(hlay.out _ hstep).mono ?_);rintro e W1 ⟨rfl,hB1,hb1,hk3⟩))
     go_end0;exact⟨rfl,hB1,hbw.trans hb1,hkd.trans hk3⟩
   ·have q1:(yk==1)=false:=beq_eq_false_iff_ne.2 k1
    rw[if_neg (by simp[k1])];generalize oQ op out big ⟨0,1,⟨#[]⟩,s,[]⟩=res at *;go_enter Tryz.func67,Tryz.ntmps67;go_wp2;refine uO (n:=32) (S:=fun w'=>w'.cell? ⟨B,1,none⟩=some (.slice (some ⟨go,0,none⟩) (m+1) cr)∧w'.cell? ⟨B,0,none⟩=some (.slice Ao op.length co)∧w'.cell? ⟨go,m * 5,none⟩=some (.int .i64 yd)∧w'.cell? ⟨go,m * 5+1,none⟩=some (.int .i64 yk)) (ds:=[]) (bits 32 0) (by kernel_rfl) rfl (by kernel_rfl) ⟨c1,c0,y0,y1⟩ (fun hHeld=>?_);refine sw 0 18 ?_;refine sw 1 19 ?_;refine sw 2 20 ?_;refine sw 3 21 ?_;refine sw 4 22 ?_;refine sw 5 23 ?_;refine st 6 24 ?_;refine sw 7 25 ?_;refine sw 8 26 ?_;refine sw 9 27 ?_;refine sw 10 28 ?_;refine st 11 29 ?_;refine sw 12 30 ?_;refine sw 13 31 ?_;refine sw 14 32 ?_;refine su 15 33 ?_;refine su 16 34 ?_;refine su 17 35 ?_;refine su 18 36 ?_;refine su 19 37 ?_;refine su 20 38 ?_;refine su 21 39 ?_;refine su 22 40 ?_;refine su 23 41 ?_;refine su 24 42 ?_;refine su 25 43 ?_;refine su 26 44 ?_;refine su 27 45 ?_;refine su 28 46 ?_;refine su 29 47 ?_;refine sw 30 48 ?_;refine sw 31 17 ?_
    refine zQ (by kernel_rfl) ?_
    go_wp2_with(go_at_call 68;((with_reducible refine(hlay.out _ hstep).mono ?_);rintro e W1 ⟨rfl,hB1,hb1,hk3⟩))
    go_end0;exact⟨rfl,hB1,hbw.trans hb1,hkd.trans hk3⟩
end Go.Proofs.aj.W7
namespace Go.Proofs.aj.W7
open Go.RowKit Go.Proofs Go.Proofs.YtkcmghlhpbepcaaGreatDoor Go.Proofs.ah.aD
def y9(some_ walls:List ByteArray):Nat→List ByteArray→List ByteArray
 |0,op=>op
 |n+1,op=>if fP op some_ walls op.length<0 then op else y9 some_ walls n (op.take (fP op some_ walls op.length).toNat)
theorem xV(xs some_ walls:List ByteArray):∀k,-1≤fP xs some_ walls k∧fP xs some_ walls k<k
 |0=>by simp[fP]
 |k+1=>by
  have:=xV xs some_ walls k;simp only[fP]
  split
  ·omega
  ·split<;>omega
def oU(some_ walls op:List ByteArray):List ByteArray:=y9 some_ walls (op.length+1) op
theorem JK(w0:World)(B:Nat)(op:List ByteArray)(out:List Rw)(big:Bool)(A1:Option Addr)(c1:Nat)(some_:List ByteArray)(A2:Option Addr)(c2:Nat)(walls:List ByteArray)(W:World)(h:Bd w0 B op out big W)
 (hs:Kd.string.R 9 W w0.heap.size (fun _=>True) (.slice A1 some_.length c1) some_) (hw:Kd.string.R 9 W w0.heap.size (fun _=>True) (.slice A2 walls.length c2) walls):
 Calls Tryz.prog 112 #[.pointer (some ⟨B,0,none⟩),.slice A1 some_.length c1,.slice A2 walls.length c2] W fun e W'=>e=.returned (.tuple #[])∧
  Bd w0 B (oU some_ walls op) out big W'∧Below w0.heap.size W W'∧gZ B W W':=by
 have hfd:=Lib.hid (fun(op:List ByteArray) (A:Option Addr) (c:Nat) (X:World) (h0:Kd.string.R 9 X w0.heap.size (fun _=>True) (.slice A op.length c) op) (h1:Kd.string.R 9 X w0.heap.size (fun _=>True) (.slice A1 some_.length c1) some_) (h2:Kd.string.R 9 X w0.heap.size (fun _=>True) (.slice A2 walls.length c2) walls)=>
  dR.calls A c op A1 c1 some_ A2 c2 walls (fP op some_ walls op.length) X (Kd.bJ h0).2.2 (Kd.bJ h0).2.1 (Kd.bJ h1).2.2 (Kd.bJ h1).2.1 (Kd.bJ h2).2.2 (Kd.bJ h2).2.1 rfl)
 obtain⟨vo,vr,h1,h2,h3⟩:=id h.ex;obtain⟨Ao,co,rfl⟩:=Kd.dH h2;obtain⟨b0,b1,b2,bf⟩:=aN h1;have hbz:=h.below.size;go_enter Tryz.func112,Tryz.ntmps112
 go_wp2_with(go_at_call 77;((with_reducible refine(hfd.out op Ao co _ h2 hs hw).mono ?_);rintro e W1 ⟨rfl,hb1⟩))
 have hst:=h.step hb1;have hk1:=(gZ.refl B W).below hb1;have hs1:=Kd.dV hs hb1;have hw1:=Kd.dV hw hb1;have DK:Below w0.heap.size W W1:=hb1.mono hbz;clear h1 h2 h3 b0 b1 b2 bf
 go_loopw [6] (fun vi wr=>∃(o:List ByteArray) (n:Nat),vi=.int .i64 (fP o some_ walls o.length)∧o.length≤op.length∧o.length<n∧Hid (y9 some_ walls n o=oU some_ walls op)∧Bd w0 B o out big wr∧Below w0.heap.size W wr∧gZ B W wr∧Kd.string.R 9 wr w0.heap.size (fun _=>True) (.slice A1 some_.length c1) some_∧Kd.string.R 9 wr w0.heap.size (fun _=>True) (.slice A2 walls.length c2) walls) (fun vi _=>(intOf vi+1).toNat)
 case atStart=>exact⟨op,op.length+1,rfl,Nat.le_refl _,Nat.lt_succ_self _,rfl,hst,DK,hk1,hs1,hw1⟩
 case round=>
  obtain⟨o,n,rfl,hol,hon,hcl,hBd,hbw,hkp,hsr,hwr⟩:=hrel;obtain⟨n,rfl⟩:∃m,n=m+1:=⟨n - 1,by omega⟩
  have hfl:=xV o some_ walls o.length;have hcl2:=hcl.out;simp only[y9]at hcl2
  by_cases hneg:fP o some_ walls o.length<0
  ·rw[if_pos hneg]at hcl2
   have e1:decide ((0:Int)≤fP o some_ walls o.length)=false:=decide_eq_false (by omega);generalize fP o some_ walls o.length=i at *;subst hcl2;go_wp2;go_end0;exact⟨rfl,hBd,hbw,hkp⟩
  ·rw[if_neg hneg]at hcl2
   obtain⟨i,hi⟩:∃i:Nat,fP o some_ walls o.length=i:=⟨(fP o some_ walls o.length).toNat,by omega⟩
   rw[hi]at hcl2 hfl⊢;simp only[Int.toNat_natCast]at hcl2;replace hcl2:=Lib.hid hcl2;have hil:i<o.length:=by omega
   clear hi hneg hcl;obtain⟨vo,vr,g1,g2,g3⟩:=id hBd.ex;obtain⟨Ao',co',rfl⟩:=Kd.dH g2;obtain⟨b0,b1,b2,bf⟩:=aN g1;have hrd:=Kd.bJ g2;have htk:=Kd.uQ (m:=i) g2 (by omega);have htl:(o.take i).length=i:=by rw[List.length_take];omega
   have hset:Bd w0 B (o.take i) out big (wr.setCell ⟨B,0,none⟩ (.slice Ao' i co')):=
    ⟨hBd.below.setCell (p:=⟨B,0,none⟩) hBd.base _,hBd.base,_,_,bT g1 0 _ rfl,Kd.rG htk g1 (by decide) 0 _,Kd.rG g3 g1 (by decide) 0 _⟩
   have hs2:=Kd.rG hsr g1 (by decide) 0 (.slice Ao' i co');have hw2:=Kd.rG hwr g1 (by decide) 0 (.slice Ao' i co');have hk2:=hkp.set 0 (.slice Ao' i co');have hb2:=hbw.setCell (p:=⟨B,0,none⟩) hBd.base (.slice Ao' i co');have ht2:Kd.string.R 9 (wr.setCell ⟨B,0,none⟩ (.slice Ao' i co')) w0.heap.size (fun _=>True) (.slice Ao' (o.take i).length co') (o.take i):=by rw[htl];exact Kd.rG htk g1 (by decide) 0 _
   have hcall:=Lib.hid (hfd.out (o.take i) Ao' co' _ ht2 hs2 hw2);rw[htl]at hcall;obtain⟨z0,-,-,-⟩:=aN (bT g1 0 (.slice Ao' i co') rfl);have e1:decide ((0:Int)≤(i:Int))=true:=decide_eq_true (by omega)
   go_wp2_with(go_at_call 77;((with_reducible refine hcall.out.mono ?_);rintro e W2 ⟨rfl,hb3⟩))
   have hfl2:=xV (o.take i) some_ walls i;refine⟨⟨o.take i,n,?_,by omega,by omega,hcl2,hset.step hb3,hb2.trans (hb3.mono (by have:=hset.below.size;omega)),hk2.below hb3,Kd.dV hs2 hb3,Kd.dV hw2 hb3⟩,?_⟩
   ·rw[htl]
   ·simp[intOf];omega
abbrev At:=S36
theorem att_at{w:World}{A:Option Addr}{xs:List At}(h:k36.C w A xs.length xs)(i:Nat)(hi:i<xs.length):
 ∃g o,A=some ⟨g,o,none⟩∧w.cell? ⟨g,o+i * 2,none⟩=some (.string xs[i].f0)∧w.cell? ⟨g,o+i * 2+1,none⟩=some (.string xs[i].f1):=by
 obtain⟨ad0,e0,z0,_⟩:=lI h 0 (by omega) (by omega);have hs:=Gx (a:=ad0) (by simpa [Addr.add]using z0);obtain⟨ad,e,c0,c1⟩:=lI h i (by omega) (by omega);obtain rfl:ad0=ad:=Option.some.inj (e0.symm.trans e);simp only[Int.toNat_natCast]at c0 c1;rw[hs,Gy]at c0 c1;have er:bg xs i=xs[i]:=by simp[bg,hi]
 rw[er]at c0 c1;exact⟨ad0.block,ad0.off,by rw[e0,←hs],c0,c1⟩
def fO(p:Nat):Value:=.func (.func 151) #[] #[.pointer (some ⟨p,0,none⟩)]
theorem once1_c(an av bn bv:ByteArray)(p:Nat)(w:World)(h:w.heap[p]?=some (.cells #[.string an,.string av] 36 (0,0))):
 Calls Tryz.prog 151 #[.agg #[.string bn,.string bv],.pointer (some ⟨p,0,none⟩)] w fun e w'=>e=.returned (.bool (an.toList==bn.toList))∧Below w.heap.size w w':=by
 have c0:w.cell? ⟨p,0,none⟩=some (.string an):=(aC h 0).trans rfl;have d0:=fun o=>aV c0 ((Below.refl _ w).alloc (Nat.le_refl _) o)
 obtain⟨n0,n1,-⟩:=gK (bQ w #[.string bn,.string bv] 36);go_enter Tryz.func151,Tryz.ntmps151;go_wp2;go_ret;exact⟨rfl,(Below.refl _ w).alloc (Nat.le_refl _) _⟩
def eqN(a b:At):Bool:=a.f0.toList==b.f0.toList
def DN(out:List At)(a:At):Bool:=out.any (eqN a)
theorem idx_once(xs:List At)(a:At)(A:Option Addr)(c p:Nat)(w:World)(hr:k36.C w A xs.length xs)(hp:w.heap[p]?=some (.cells #[.string a.f0,.string a.f1] 36 (0,0)))(b:Bool)(hb:DN xs a=b):
 Calls Tryz.prog 186 #[.slice A xs.length c,fO p] w fun e w'=>∃n:Int,e=.returned (.int .i64 n)∧(decide (0≤n)=b)∧Below w.heap.size w w':=by
 have hxl:=hr.2.1;unfold fO;unfold DN at hb;go_enter Tryz.func186,Tryz.ntmps186;go_wp2
 go_loopw [5,8] (fun _ v wr=>∃(k:Nat),v=.int .i64 k∧k≤xs.length∧Hid (∀j (h:j<xs.length),j<k→eqN a xs[j]=false)∧Below w.heap.size w wr) (fun _ v _=>xs.length - (intOf v).toNat)
 case atStart=>exact⟨0,rfl,by omega,fun j _ h=>by omega,Below.refl _ _⟩
 case round=>
  obtain⟨k,rfl,hk,hno,hB⟩:=hrel
  by_cases hlt:k<xs.length
  ·obtain⟨g,o,rfl,z0,z1⟩:=att_at (Go.Proofs.ah.aD.Kd.eD hr hB) k hlt
   have hyes:Hid (eqN a xs[k]=true→b=true):=fun h=>by rw[←hb,List.any_eq_true];exact⟨_,List.getElem_mem hlt,h⟩
   have nQ:Hid (eqN a xs[k]=false→∀j (h:j<xs.length),j<k+1→eqN a xs[j]=false):=fun h j hj hjk=>by
    by_cases e:j=k
    ·subst e;exact h
    ·exact hno.out j hj (by omega)
   have hc1:=Lib.hid (fun(W:World) (hW:Below w.heap.size w W)=>once1_c a.f0 a.f1 xs[k].f0 xs[k].f1 p W (aQ hp hW));have hdef:Hid (eqN a xs[k]=(a.f0.toList==xs[k].f0.toList)):=rfl;generalize eqN a xs[k]=dk at *;generalize xs[k]=x at *;rw[←hdef.out]at hc1;obtain⟨nm,vl⟩:=x;simp only at z0 z1;clear hno hb hdef;cases dk with
   |true=>
    have hbt:=hyes.out rfl;clear hyes nQ;subst hbt
    go_wp2_with(go_at_call 151;((with_reducible refine(hc1.out _ hB).mono ?_);rintro e w1 ⟨rfl,hb1⟩))
    go_ret;exact⟨_,rfl,decide_eq_true (by omega),hB.trans (hb1.mono hB.size)⟩
   |false=>
    have hno3:Hid _:=nQ.out rfl;clear hyes nQ
    go_wp2_with(go_at_call 151;((with_reducible refine(hc1.out _ hB).mono ?_);rintro e w1 ⟨rfl,hb1⟩))
    exact⟨⟨k+1,rfl,by omega,hno3,hB.trans (hb1.mono hB.size)⟩,by simp[intOf];omega⟩
  ·have hbf:b=false:=by
    rw[←hb,List.any_eq_false];intro x hx;obtain⟨j,hj,rfl⟩:=List.getElem_of_mem hx;rw[hno.out j hj (by omega)];simp
   subst hbf;clear hno hb;go_wp2;go_ret;exact⟨-1,rfl,by decide,hB⟩
theorem Fz(xs:List At)(a:At)(A:Option Addr)(c p:Nat)(w:World)(hr:k36.C w A xs.length xs)(hp:w.heap[p]?=some (.cells #[.string a.f0,.string a.f1] 36 (0,0))):
 Calls Tryz.prog 150 #[.slice A xs.length c,.func (.func 151) #[] #[.pointer (some ⟨p,0,none⟩)]] w fun e w'=>e=.returned (.bool (DN xs a))∧Below w.heap.size w w':=by
 have hi:=Lib.hid (idx_once xs a A c p w hr hp (DN xs a) rfl);unfold fO at hi;generalize DN xs a=b at *;go_enter Tryz.func150,Tryz.ntmps150
 go_wp2_with(go_at_call 186;((with_reducible refine hi.out.mono ?_);rintro e w1 ⟨n,rfl,hn,hb1⟩))
 go_ret;exact⟨rfl,hb1⟩
def wY:List At→List At→List At
 |out,[]=>out
 |out,a::r=>wY (if DN out a then out else out++[a]) r
def tK(l:List At):List At:=wY [] l
theorem once_c(A:Option Addr)(c:Nat)(l:List At)(w:World)(hr:k36.C w A l.length l)(hl:l.length≤1000000):
 Calls Tryz.prog 113 #[.slice A l.length c] w fun e w'=>∃v,e=.returned v∧k36.R 36 w' w.heap.size (fun _=>True) v (tK l)∧Below w.heap.size w w':=by
 have hxl:=hr.2.1;go_enter Tryz.func113,Tryz.ntmps113;go_wp2
 go_loopw [3,8] (fun vo vi wr=>∃(i:Nat) (outs:List At),vi=.int .i64 i∧i≤l.length∧Hid (wY outs (l.drop i)=tK l)∧k36.R 36 wr w.heap.size (fun _=>True) vo outs∧outs.length≤i∧Below w.heap.size w wr) (fun _ vi _=>l.length - (intOf vi).toNat)
 case atStart=>exact⟨0,[],rfl,Nat.zero_le _,rfl,Kd.ni _ _ _ _ _,Nat.le_refl _,Below.refl _ _⟩
 case round=>
  obtain⟨i,outs,rfl,hi,hq,hO,hol,hB⟩:=hrel;obtain⟨A2,c2,rfl⟩:=Kd.dH hO
  by_cases hlt:i<l.length
  ·obtain⟨g,o,rfl,z0,z1⟩:=att_at (Kd.eD hr hB) i hlt
   have hq2:=hq.out;rw[List.drop_eq_getElem_cons hlt]at hq2;simp only[wY]at hq2;clear hq;generalize l[i]=a at *;have hn:=bQ wr #[.string a.f0,.string a.f1] 36;obtain⟨n0,n1,-⟩:=gK hn;have hbA:Below wr.heap.size wr (wr.alloc (.cells #[.string a.f0,.string a.f1] 36)):=(Below.refl _ wr).alloc (Nat.le_refl _) _;have hOA:=Kd.dV hO hbA;have hBA:=hB.trans (hbA.mono hB.size);have hct:=Lib.hid (Fz outs a A2 c2 wr.heap.size _ (Kd.bJ hOA).2.2 hn);generalize hw1:wr.alloc (.cells #[.string a.f0,.string a.f1] 36)=W1 at *;cases hh:DN outs a with
   |true=>
    rw[hh]at hct hq2;rw[if_pos rfl]at hq2;replace hq2:=Lib.hid hq2;clear hh
    go_wp2_with(go_at_call 150;((with_reducible refine hct.out.mono ?_);rintro e W2 ⟨rfl,hb2⟩))
    exact⟨⟨i+1,outs,rfl,by omega,hq2,Kd.dV hOA hb2,by omega,hBA.trans (hb2.mono hBA.size)⟩,by simp[intOf];omega⟩
   |false=>
    rw[hh]at hct hq2;rw[if_neg (by decide)]at hq2;replace hq2:=Lib.hid hq2;clear hh
    go_wp2_with(first
     |(go_at_call 150;((with_reducible refine hct.out.mono ?_);rintro e W2 ⟨rfl,hb2⟩;have m0:=aV n0 hb2;have m1:=aV n1 hb2;have hO2:=Kd.dV hOA hb2;have hB2:=hBA.trans (hb2.mono hBA.size)))
     |(at_builtin;refine Kd.lu k36 (w0:=w) w.heap.size rfl (.tmp 16) (.tmp 18) 32 36 (.agg #[(.string ⟨#[]⟩),(.string ⟨#[]⟩)]) 32 rfl Tryz.underlying32 Gz rfl (by decide) (by omega) (.slice A2 outs.length c2) outs a [.string a.f0,.string a.f1] (fun _=>True) (fun _=>False) rfl rfl (M7 _ _ _ a) (fun _ h=>h.elim) (fun _ _=>trivial) hO2 hB2 hB2.size (by omega) ?_;intro v1 w3 hO3 hb3 hg3 hat3;obtain⟨A3,c3,rfl⟩:=Kd.dH hO3;rw[List.length_append,List.length_singleton]at hO3))
    exact⟨⟨i+1,outs++[a],rfl,by omega,hq2,hO3,by simp;omega,hb3⟩,by simp[intOf];omega⟩
  ·have hq2:=hq.out
   rw[List.drop_of_length_le (by omega)]at hq2;simp only[wY]at hq2;subst hq2;clear hq;go_wp2;go_ret;exact⟨_,rfl,hO,hB⟩
end Go.Proofs.aj.W7
namespace Go.Proofs.aj.W7
open Go.RowKit Go.Proofs.ah.aD Go.Proofs.ah.bH Go.Proofs.ah.bV
attribute [local go_sem] dA dB dP dQ bY bZ dD dF
def iF.f(k:Nat)(a0:ByteArray):Option (Bool):=(bA.f k a0 (([(⟨#[98,111,100,121]⟩:ByteArray),(⟨#[102,114,97,109,101,115,101,116]⟩:ByteArray),(⟨#[104,101,97,100]⟩:ByteArray),(⟨#[104,116,109,108]⟩:ByteArray)] :List ByteArray))).bind fun t190=>(some t190)
theorem iF.calls(k:Nat)(a0:ByteArray)(r:Bool)(w:World)(h:iF.f k a0=some r):
 Calls Tryz.prog 34 #[.string a0] w fun e w'=>e=.returned (.bool r)∧Below w.heap.size w w':=by
 have HB:=ak.mk (Below.refl w.heap.size w);have H:((bA.f k a0 (([(⟨#[98,111,100,121]⟩:ByteArray),(⟨#[102,114,97,109,101,115,101,116]⟩:ByteArray),(⟨#[104,101,97,100]⟩:ByteArray),(⟨#[104,116,109,108]⟩:ByteArray)] :List ByteArray))).bind fun t190=>(some t190))=some r:=h;clear h;obtain⟨y187,Kq⟩:∃y_:List ByteArray,y_=(([(⟨#[98,111,100,121]⟩:ByteArray),(⟨#[102,114,97,109,101,115,101,116]⟩:ByteArray),(⟨#[104,101,97,100]⟩:ByteArray),(⟨#[104,116,109,108]⟩:ByteArray)] :List ByteArray)):=⟨_,rfl⟩
 replace H:((bA.f k a0 y187).bind fun t190=>(some t190))=some r:=by first|(rw[Kq];with_reducible exact H)|(have H2_:=(Option.bind_some _ _).symm.trans H;rw[Kq];with_reducible exact H2_)|(have H2_:=(Option.bind_some _ _).symm.trans H;with_reducible exact H2_)|with_reducible exact H|(rw[Kq];exact H)|exact H
 have Ny187:=ak.mk Kq;clear Kq;replace H:=Option.bind_eq_some_iff.mp H;obtain⟨t190,A20,H⟩:=H;replace H:(some t190)=some r:=H;have A2:=ak.mk A20;clear A20;obtain rfl:=Option.some.inj H;go_enter Tryz.func34,Tryz.ntmps34
 go_wp2_with(first|((with_reducible refine cB (N:=4) rfl ?_);refine Kd.jN Kd.string _ 9 ?hg (N:=4) ?hd (xs:=([(⟨#[98,111,100,121]⟩:ByteArray),(⟨#[102,114,97,109,101,115,101,116]⟩:ByteArray),(⟨#[104,101,97,100]⟩:ByteArray),(⟨#[104,116,109,108]⟩:ByteArray)] :List ByteArray)) (inner:=[.string (⟨#[98,111,100,121]⟩:ByteArray),.string (⟨#[102,114,97,109,101,115,101,116]⟩:ByteArray),.string (⟨#[104,101,97,100]⟩:ByteArray),.string (⟨#[104,116,109,108]⟩:ByteArray)]) (ok:=fun _=>True) (okp:=fun _=>True) ?hr ?hp (fun _ hk=>hk) trivial (Below.refl _ _) (Nat.le_refl _) (by simp) ?_;(case hd=>rfl);(case hg=>rfl);(case hr=>first|(go_simp;done)|(go_simp;rfl));(case hp=>exact(bK.one (show Kd.M Kd.string _ _ _ (⟨#[98,111,100,121]⟩:ByteArray) [.string (⟨#[98,111,100,121]⟩:ByteArray)]from rfl) (bK.one (show Kd.M Kd.string _ _ _ (⟨#[102,114,97,109,101,115,101,116]⟩:ByteArray) [.string (⟨#[102,114,97,109,101,115,101,116]⟩:ByteArray)]from rfl) (bK.one (show Kd.M Kd.string _ _ _ (⟨#[104,101,97,100]⟩:ByteArray) [.string (⟨#[104,101,97,100]⟩:ByteArray)]from rfl) (bK.one (show Kd.M Kd.string _ _ _ (⟨#[104,116,109,108]⟩:ByteArray) [.string (⟨#[104,116,109,108]⟩:ByteArray)]from rfl) (bK.none _ _))))));intro v188 w3 ho4 hb hg_ fH;clear hg_ fH;(first|rw[←Ny187.out]at ho4|(simp only[Int.reduceToNat]at ho4;rw[←Ny187.out]at ho4));have n0_:=ak.mk (Kd.d9 ho4 (aR bz));have n1_:=ak.mk (aG bz hb);clear HB;have HO189:=n0_;have HB:=n1_;clear n0_ n1_;clear hb ho4;obtain⟨Ao5,co5,eo5⟩:=Kd.dH HO189.out;subst eo5)|((with_reducible refine aZ (f:=81) rfl ?_);refine dI (some 5) rfl rfl Tryz.func81 (by kernel_rfl) rfl #[.string a0,.slice Ao5 y187.length co5] rfl q'a ?_;(with_reducible refine(bA.calls k a0 _ _ y187 t190 _ ?cO ?dG A2.out).mono ?_);(case cO=>exact cz (Kd.bJ HO189.out).2.2);(case dG=>exact(Kd.bJ HO189.out).2.1);rintro e w' ⟨rfl,⟨nd,rfl⟩⟩;refine⟨_,rfl,?_⟩))
 go_ret;exact⟨by first|rfl|(simp[aJ,aM]<;>rfl)|(simp[*,aJ,aM]<;>rfl),bz⟩
def gD.f(k:Nat)(a0:ByteArray):Option (Bool):=(bA.f k a0 (([(⟨#[97,114,101,97]⟩:ByteArray),(⟨#[98,97,115,101]⟩:ByteArray),(⟨#[98,114]⟩:ByteArray),(⟨#[99,111,108]⟩:ByteArray),(⟨#[101,109,98,101,100]⟩:ByteArray),(⟨#[104,114]⟩:ByteArray),(⟨#[105,109,103]⟩:ByteArray),(⟨#[105,110,112,117,116]⟩:ByteArray),(⟨#[108,105,110,107]⟩:ByteArray),(⟨#[109,101,116,97]⟩:ByteArray),(⟨#[112,97,114,97,109]⟩:ByteArray),(⟨#[115,111,117,114,99,101]⟩:ByteArray),(⟨#[116,114,97,99,107]⟩:ByteArray),(⟨#[119,98,114]⟩:ByteArray)] :List ByteArray))).bind fun t125=>(some t125)
theorem gD.calls(k:Nat)(a0:ByteArray)(r:Bool)(w:World)(h:gD.f k a0=some r):
 Calls Tryz.prog 31 #[.string a0] w fun e w'=>e=.returned (.bool r)∧Below w.heap.size w w':=by
 have HB:=ak.mk (Below.refl w.heap.size w);have H:((bA.f k a0 (([(⟨#[97,114,101,97]⟩:ByteArray),(⟨#[98,97,115,101]⟩:ByteArray),(⟨#[98,114]⟩:ByteArray),(⟨#[99,111,108]⟩:ByteArray),(⟨#[101,109,98,101,100]⟩:ByteArray),(⟨#[104,114]⟩:ByteArray),(⟨#[105,109,103]⟩:ByteArray),(⟨#[105,110,112,117,116]⟩:ByteArray),(⟨#[108,105,110,107]⟩:ByteArray),(⟨#[109,101,116,97]⟩:ByteArray),(⟨#[112,97,114,97,109]⟩:ByteArray),(⟨#[115,111,117,114,99,101]⟩:ByteArray),(⟨#[116,114,97,99,107]⟩:ByteArray),(⟨#[119,98,114]⟩:ByteArray)] :List ByteArray))).bind fun t125=>(some t125))=some r:=h;clear h
 obtain⟨y122,J4⟩:∃y_:List ByteArray,y_=(([(⟨#[97,114,101,97]⟩:ByteArray),(⟨#[98,97,115,101]⟩:ByteArray),(⟨#[98,114]⟩:ByteArray),(⟨#[99,111,108]⟩:ByteArray),(⟨#[101,109,98,101,100]⟩:ByteArray),(⟨#[104,114]⟩:ByteArray),(⟨#[105,109,103]⟩:ByteArray),(⟨#[105,110,112,117,116]⟩:ByteArray),(⟨#[108,105,110,107]⟩:ByteArray),(⟨#[109,101,116,97]⟩:ByteArray),(⟨#[112,97,114,97,109]⟩:ByteArray),(⟨#[115,111,117,114,99,101]⟩:ByteArray),(⟨#[116,114,97,99,107]⟩:ByteArray),(⟨#[119,98,114]⟩:ByteArray)] :List ByteArray)):=⟨_,rfl⟩
 replace H:((bA.f k a0 y122).bind fun t125=>(some t125))=some r:=by first|(rw[J4];with_reducible exact H)|(have H2_:=(Option.bind_some _ _).symm.trans H;rw[J4];with_reducible exact H2_)|(have H2_:=(Option.bind_some _ _).symm.trans H;with_reducible exact H2_)|with_reducible exact H|(rw[J4];exact H)|exact H
 have Ny122:=ak.mk J4;clear J4;replace H:=Option.bind_eq_some_iff.mp H;obtain⟨t125,A20,H⟩:=H;replace H:(some t125)=some r:=H;have A2:=ak.mk A20;clear A20;obtain rfl:=Option.some.inj H;go_enter Tryz.func31,Tryz.ntmps31
 go_wp2_with(first|((with_reducible refine cB (N:=4) rfl ?_);refine Kd.jN Kd.string _ 9 ?hg (N:=4) ?hd (xs:=([(⟨#[97,114,101,97]⟩:ByteArray),(⟨#[98,97,115,101]⟩:ByteArray),(⟨#[98,114]⟩:ByteArray),(⟨#[99,111,108]⟩:ByteArray),(⟨#[101,109,98,101,100]⟩:ByteArray),(⟨#[104,114]⟩:ByteArray),(⟨#[105,109,103]⟩:ByteArray),(⟨#[105,110,112,117,116]⟩:ByteArray),(⟨#[108,105,110,107]⟩:ByteArray),(⟨#[109,101,116,97]⟩:ByteArray),(⟨#[112,97,114,97,109]⟩:ByteArray),(⟨#[115,111,117,114,99,101]⟩:ByteArray),(⟨#[116,114,97,99,107]⟩:ByteArray),(⟨#[119,98,114]⟩:ByteArray)] :List ByteArray)) (inner:=[.string (⟨#[97,114,101,97]⟩:ByteArray),.string (⟨#[98,97,115,101]⟩:ByteArray),.string (⟨#[98,114]⟩:ByteArray),.string (⟨#[99,111,108]⟩:ByteArray),.string (⟨#[101,109,98,101,100]⟩:ByteArray),.string (⟨#[104,114]⟩:ByteArray),.string (⟨#[105,109,103]⟩:ByteArray),.string (⟨#[105,110,112,117,116]⟩:ByteArray),.string (⟨#[108,105,110,107]⟩:ByteArray),.string (⟨#[109,101,116,97]⟩:ByteArray),.string (⟨#[112,97,114,97,109]⟩:ByteArray),.string (⟨#[115,111,117,114,99,101]⟩:ByteArray),.string (⟨#[116,114,97,99,107]⟩:ByteArray),.string (⟨#[119,98,114]⟩:ByteArray)]) (ok:=fun _=>True) (okp:=fun _=>True) ?hr ?hp (fun _ hk=>hk) trivial (Below.refl _ _) (Nat.le_refl _) (by simp) ?_;(case hd=>rfl);(case hg=>rfl);(case hr=>first|(go_simp;done)|(go_simp;rfl));(case hp=>exact(bK.one (show Kd.M Kd.string _ _ _ (⟨#[97,114,101,97]⟩:ByteArray) [.string (⟨#[97,114,101,97]⟩:ByteArray)]from rfl) (bK.one (show Kd.M Kd.string _ _ _ (⟨#[98,97,115,101]⟩:ByteArray) [.string (⟨#[98,97,115,101]⟩:ByteArray)]from rfl) (bK.one (show Kd.M Kd.string _ _ _ (⟨#[98,114]⟩:ByteArray) [.string (⟨#[98,114]⟩:ByteArray)]from rfl) (bK.one (show Kd.M Kd.string _ _ _ (⟨#[99,111,108]⟩:ByteArray) [.string (⟨#[99,111,108]⟩:ByteArray)]from rfl) (bK.one (show Kd.M Kd.string _ _ _ (⟨#[101,109,98,101,100]⟩:ByteArray) [.string (⟨#[101,109,98,101,100]⟩:ByteArray)]from rfl) (bK.one (show Kd.M Kd.string _ _ _ (⟨#[104,114]⟩:ByteArray) [.string (⟨#[104,114]⟩:ByteArray)]from rfl) (bK.one (show Kd.M Kd.string _ _ _ (⟨#[105,109,103]⟩:ByteArray) [.string (⟨#[105,109,103]⟩:ByteArray)]from rfl) (bK.one (show Kd.M Kd.string _ _ _ (⟨#[105,110,112,117,116]⟩:ByteArray) [.string (⟨#[105,110,112,117,116]⟩:ByteArray)]from rfl) (bK.one (show Kd.M Kd.string _ _ _ (⟨#[108,105,110,107]⟩:ByteArray) [.string (⟨#[108,105,110,107]⟩:ByteArray)]from rfl) (bK.one (show Kd.M Kd.string _ _ _ (⟨#[109,101,116,97]⟩:ByteArray) [.string (⟨#[109,101,116,97]⟩:ByteArray)]from rfl) (bK.one (show Kd.M Kd.string _ _ _ (⟨#[112,97,114,97,109]⟩:ByteArray) [.string (⟨#[112,97,114,97,109]⟩:ByteArray)]from rfl) (bK.one (show Kd.M Kd.string _ _ _ (⟨#[115,111,117,114,99,101]⟩:ByteArray) [.string (⟨#[115,111,117,114,99,101]⟩:ByteArray)]from rfl) (bK.one (show Kd.M Kd.string _ _ _ (⟨#[116,114,97,99,107]⟩:ByteArray) [.string (⟨#[116,114,97,99,107]⟩:ByteArray)]from rfl) (bK.one (show Kd.M Kd.string _ _ _ (⟨#[119,98,114]⟩:ByteArray) [.string (⟨#[119,98,114]⟩:ByteArray)]from rfl) (bK.none _ _))))))))))))))));intro v123 w3 ho4 hb hg_ fH;clear hg_ fH;(first|rw[←Ny122.out]at ho4|(simp only[Int.reduceToNat]at ho4;rw[←Ny122.out]at ho4));have n0_:=ak.mk (Kd.d9 ho4 (aR bz));have n1_:=ak.mk (aG bz hb);clear HB;have HO124:=n0_;have HB:=n1_;clear n0_ n1_;clear hb ho4;obtain⟨Ao5,co5,eo5⟩:=Kd.dH HO124.out;subst eo5)|((with_reducible refine aZ (f:=81) rfl ?_);refine dI (some 5) rfl rfl Tryz.func81 (by kernel_rfl) rfl #[.string a0,.slice Ao5 y122.length co5] rfl q'a ?_;(with_reducible refine(bA.calls k a0 _ _ y122 t125 _ ?cO ?dG A2.out).mono ?_);(case cO=>exact cz (Kd.bJ HO124.out).2.2);(case dG=>exact(Kd.bJ HO124.out).2.1);rintro e w' ⟨rfl,⟨nd,rfl⟩⟩;refine⟨_,rfl,?_⟩))
 go_ret;exact⟨by first|rfl|(simp[aJ,aM]<;>rfl)|(simp[*,aJ,aM]<;>rfl),bz⟩
end Go.Proofs.aj.W7
