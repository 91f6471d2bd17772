/- Lemmas and walks, part 29. -/
import Derived.Laws.EntriesVeiled
import Derived.Test.YtkcmghlhpbepcaaGreatDoorWS28
set_option linter.unusedVariables false
set_option linter.unusedSimpArgs false
set_option maxHeartbeats 8000000
set_option maxRecDepth 100000
namespace Go.Proofs.aj.W7
open Go.RowKit Go.Shelf Go.Proofs Go.Proofs.YtkcmghlhpbepcaaGreatDoor
def catM(f:Nat→Option Txt):List Nat→Option Txt
 | []=>some []
 |j::js=>(f j).bind fun a=>(catM f js).bind fun b=>some (a++b)
theorem Rt{f:Nat→Option Txt}{j:Nat}{js:List Nat}{r:Txt}(h:catM f (j::js)=some r):∃a b,f j=some a∧catM f js=some b∧r=a++b:=by
 simp only[catM]at h;obtain⟨a,ha,h⟩:=Option.bind_eq_some_iff.1 h;obtain⟨b,hb,h⟩:=Option.bind_eq_some_iff.1 h;exact⟨a,b,ha,hb,(Option.some.inj h).symm⟩
def xM(xs:List Rw):Nat→Bool→Nat→Option Txt
 |0,_,_=>none
 |d+1,raw,k=>
  if k<xs.length then
   if(au xs k).f1=1 then(if raw then some (au xs k).f3.data.toList else(uf.f (au xs k).f3).map (·.data.toList))
   else if(au xs k).f1=2 then some (([60,33,45,45]++(au xs k).f3.data.toList)++[45,45,62])
   else if(au xs k).f1=0 then
    (d9.f ((au xs k).f4.length+1) (au xs k).f0 (au xs k).f1 (au xs k).f2 (au xs k).f3 (au xs k).f4).bind fun o=>
      (gF.f 100 (au xs k).f2).bind fun v=>
        if v then some o.data.toList
        else(kZ.f 100 (au xs k).f2).bind fun r=>(catM (xM xs d r) (jI xs k)).bind fun t=>some ((o.data.toList++t)++(([60,47]++(au xs k).f2.data.toList)++[62]))
   else some []
  else none
def pp(k:Nat):Value:=.pointer (some ⟨k,0,none⟩)
def fW(s:Nat):Value:=.func (.func 133) #[] #[.pointer (some ⟨s,0,none⟩),.pointer (some ⟨s+1+1,0,none⟩)]
def fN(s:Nat):Value:=.func (.func 134) #[] #[.pointer (some ⟨s,0,none⟩),.pointer (some ⟨s+1,0,none⟩),.pointer (some ⟨s+1+1+1,0,none⟩)]
structure Env (w0:World) (V:Value) (acc:Txt) (W:World):Prop where
 bld:Lib.IsBuilderF 106 5 w0.heap.size (w0.heap.size+1) (Lib.byteCells acc) W
 below:Below w0.heap.size w0 W
 bl:Boxed W w0.heap.size 22 V
 bn:Boxed W (w0.heap.size+1+1) 107 (fN w0.heap.size)
 bw:Boxed W (w0.heap.size+1+1+1) 107 (fW w0.heap.size)
theorem Env.step{w0 W W':World}{V:Value}{acc:Txt}(h:Env w0 V acc W)(hb:Below W.heap.size W W'):Env w0 V acc W':=
 ⟨tQ h.bld hb,bC h.below h.below.size hb,(hb.block _ h.bl.lt).trans h.bl,(hb.block _ h.bn.lt).trans h.bn,(hb.block _ h.bw.lt).trans h.bw⟩
theorem Env.wrote{w0 W W':World}{V:Value}{acc acc':Txt}(h:Env w0 V acc W)(hI:Lib.IsBuilderF 106 5 w0.heap.size (w0.heap.size+1) (Lib.byteCells acc') W')(hb:Below w0.heap.size W W')(hk:Lib.OthersKept 5 (some (w0.heap.size+1)) W W'):Env w0 V acc' W':=
 ⟨hI,h.below.trans hb,hk _ _ h.bl (fun e=>by have:=Option.some.inj e;omega) (by intro c fz e;cases e),hk _ _ h.bn (fun e=>by have:=Option.some.inj e;omega) (by intro c fz e;cases e),hk _ _ h.bw (fun e=>by have:=Option.some.inj e;omega) (by intro c fz e;cases e)⟩
theorem mV{e:TypeId}{b:Option Nat}{a w w':World}(h:Lib.OthersKept e b a w)(hb:Below w.heap.size w w'):Lib.OthersKept e b a w':=fun k o hk h1 h2=>by
 have h3:=h k o hk h1 h2;exact(hb.block k (Array.getElem?_eq_some_iff.1 h3).1).trans h3
theorem yE(B b:Nat)(acc:List UInt8)(s:Bt)(w:World)(h:Lib.IsBuilderF 106 5 B b (Lib.byteCells acc) w)(hlen:acc.length+s.data.toList.length≤140737488355328)(hBw:B≤w.heap.size):
 Calls Tryz.prog 135 #[.pointer (some ⟨b,0,none⟩),.string s] w fun e w'=>(∃n,e=.returned (.tuple #[.int .i64 n,.nilIface]))∧(Lib.IsBuilderF 106 5 B b (Lib.byteCells (acc++s.data.toList)) w'∧Below B w w'∧Lib.OthersKept 5 (some b) w w'):=by
 have e:s=⟨s.data.toList.toArray⟩:=by simp
 rw[e];exact(uS B b acc s.data.toList w h hlen hBw).mono (fun e w' h=>⟨⟨_,h.1⟩,h.2⟩)
def NodeC(w0:World)(V:Value)(raw:Bool)(f:Nat→Option Txt)(j:Nat):Prop:=
 ∀(acc out:Txt) (W:World),Env w0 V acc W→f j=some out→acc.length+out.length≤140737488355328→
  Calls Tryz.prog 134 #[.int .i64 j,.bool raw,.pointer (some ⟨w0.heap.size,0,none⟩),.pointer (some ⟨w0.heap.size+1,0,none⟩),.pointer (some ⟨w0.heap.size+1+1+1,0,none⟩)] W fun e W'=>
   e=.returned (.tuple #[])∧Env w0 V (acc++out) W'∧Below w0.heap.size W W'∧Lib.OthersKept 5 (some (w0.heap.size+1)) W W'
theorem row_kept{w0 W W':World}{v:Value}{ks:List Int}{base:Nat}(hR:(Go.Proofs.ah.aD.Kd.int .i64).R 3 W base (fun _=>True) v ks)(hb:w0.heap.size+1<base)(hk:Lib.OthersKept 5 (some (w0.heap.size+1)) W W'):
 (Go.Proofs.ah.aD.Kd.int .i64).R 3 W' base (fun _=>True) v ks:=by
 refine Go.Proofs.ah.aD.Kd.iU (Go.Proofs.ah.aD.Kd.NC (Go.Proofs.ah.aD.Kd.qc hR) ?_) (fun _ _=>trivial);rintro k ⟨_,hbk,hlt,q,hq,cells,hc⟩ _;rw[hc];refine hk k _ hc (fun e=>by have:=Option.some.inj e;omega) ?_;intro c fz e;have hq2:q=3:=by simpa [Go.Proofs.ah.aD.Kd.int,Go.Proofs.ah.aD.Kd.scalar]using hq
 subst hq2;cases e
theorem K6(A:Option Addr)(c:Nat)(xs:List Rw)(hcap:xs.length≤c)(w0:World)(hr:k34.C w0 A xs.length xs)(raw:Bool)(f:Nat→Option Txt)(k:Int)(hn:∀j∈jI xs k,NodeC w0 (.slice A xs.length c) raw f j)(hsz:xs.length * 8≤140737488355328)
 (acc out:Txt) (W:World) (hE:Env w0 (.slice A xs.length c) acc W) (hf:catM f (jI xs k)=some out) (hlen:acc.length+out.length≤140737488355328):
 Calls Tryz.prog 133 #[.int .i64 k,.bool raw,.pointer (some ⟨w0.heap.size,0,none⟩),.pointer (some ⟨w0.heap.size+1+1,0,none⟩)] W fun e W'=>
  e=.returned (.tuple #[])∧Env w0 (.slice A xs.length c) (acc++out) W'∧Below w0.heap.size W W'∧Lib.OthersKept 5 (some (w0.heap.size+1)) W W':=by
 have c0:=hE.bl.cell;have hn2:=Lib.hid hn;clear hn;have hks:=Lib.hid (fun(W:World) (hW:Below w0.heap.size w0 W)=>ow.calls A c xs k _ W (Go.Proofs.ah.aD.Kd.eF hr hW) hcap (by unfold ow.f;rw[if_pos hsz]));go_enter Tryz.func133,Tryz.ntmps133
 go_wp2_with(go_at_call 96;((with_reducible refine(hks.out _ hE.below).mono ?_);rintro e W1 ⟨v,rfl,hR,hb1⟩;obtain⟨A1,c1,rfl⟩:=Go.Proofs.ah.aD.Kd.cK hR))
 have hbase:w0.heap.size+1<W.heap.size:=by have:=hE.bn.lt;omega
 have hE1:=hE.step hb1;have hB1:Below w0.heap.size W W1:=hb1.mono hE.below.size;have hK1:Lib.OthersKept 5 (some (w0.heap.size+1)) W W1:=mV (Lib.OthersKept.refl _ _ W) hb1
 have hkl:(jI xs k).length≤xs.length:=by
  by_cases hi:k= -1∨0≤k∧k<xs.length
  ·exact kids_len xs k hi
  ·have hz:jI xs k=[]:=by
    unfold jI;rw[if_neg (fun e=>hi (.inl e)),if_neg (fun e=>hi (.inr e))]
   rw[hz];exact Nat.zero_le _
 simp only[List.length_map]at hR⊢;generalize jI xs k=ks at *
 go_loopw [12] (fun vi wr=>∃(i:Nat) (a r:Txt),vi=.int .i64 i∧i≤ks.length∧Hid (catM f (ks.drop i)=some r)∧Hid (a++r=acc++out)∧Env w0 (.slice A xs.length c) a wr∧Below w0.heap.size W wr∧Lib.OthersKept 5 (some (w0.heap.size+1)) W wr∧(Go.Proofs.ah.aD.Kd.int .i64).R 3 wr W.heap.size (fun _=>True) (.slice A1 ks.length c1) (ks.map (fun x:Nat=>(x:Int)))) (fun vi _=>ks.length - (intOf vi).toNat)
 case atStart=>exact⟨0,acc,out,rfl,Nat.zero_le _,hf,rfl,hE1,hB1,hK1,hR⟩
 case round=>
  obtain⟨i,a,r,rfl,hi,hcat,hacc,hEr,hBr,hKr,hRr⟩:=hrel;have c2:=hEr.bn.cell;unfold fN at c2
  by_cases hlt:i<ks.length
  ·obtain⟨g,cap,hv,-,-,-⟩:=Go.Proofs.ah.aD.Kd.Eu hRr (by simp;omega)
   simp only[Value.slice.injEq,List.length_map,true_and]at hv;obtain⟨rfl,rfl⟩:=hv;obtain⟨z0,-⟩:=Go.Proofs.ah.aD.Kd.OQ (0:Int) hRr i (by omega) (by omega);have hd:Go.Proofs.ah.aD.xw (0:Int) (ks.map (fun x:Nat=>(x:Int))) i=((ks[i] :Nat):Int):=by simp[Go.Proofs.ah.aD.xw,hlt]
   rw[hd]at z0;simp only[Int.toNat_natCast]at z0;have hcat2:=hcat.out;rw[List.drop_eq_getElem_cons hlt]at hcat2;obtain⟨a1,r1,hf1,hr1,rfl⟩:=Rt hcat2;have tO:=hacc.out;have hll:=congrArg List.length tO;simp only[List.length_append]at hll;have hnc:=Lib.hid (hn2.out ks[i] (List.getElem_mem hlt) a a1 wr hEr hf1 (by omega));have hr1':=Lib.hid hr1;have hacc3:Hid ((a++a1)++r1=acc++out):=Lib.hid (by rw[List.append_assoc];exact tO);clear hcat hcat2 hr1 hacc tO hf1 hd hn2 hll;generalize ks[i]=j at *
   go_wp2_with(go_at_call 134;((with_reducible refine hnc.out.mono ?_);rintro e W2 ⟨rfl,hE2,hB2,hK2⟩))
   exact⟨⟨i+1,a++a1,r1,rfl,by omega,hr1',hacc3,hE2,hBr.trans hB2,Lib.OthersKept.trans hKr hK2,row_kept hRr hbase hK2⟩,by simp[intOf];omega⟩
  ·have hr0:a=acc++out:=by
    have h1:=hcat.out;rw[List.drop_of_length_le (by omega)]at h1;have h2:r=[]:=(Option.some.inj h1).symm;rw[←hacc.out,h2,List.append_nil]
   subst hr0;clear hcat hacc hf;go_wp2;go_end0;exact⟨rfl,hEr,hBr,hKr⟩
theorem kidsW_gt(xs:List Rw)(t:Nat):∀(d j:Nat),xs.length - j≤d→∀m∈kD xs t j,j≤m:=by
 intro d
 induction d with
 |zero=>
  intro j hd m hm;rw[kD,dif_neg (by omega)]at hm;cases hm
 |succ d ih=>
  intro j hd m hm
  by_cases h:j<t∧j<xs.length
  ·rw[kD,dif_pos h]at hm
   have hgt:=mo xs j
   rcases List.mem_cons.1 hm with rfl|hm
   ·exact Nat.le_refl _
   ·have:=ih (iO xs j) (by omega) m hm
    omega
  ·rw[kD,dif_neg h]at hm
   cases hm
theorem OT(xs:List Rw)(k:Nat)(hk:k<xs.length)(j:Nat)(hj:j∈jI xs (k:Int)):k<j:=by
 rw[rC (.inr ⟨by omega,by omega⟩)]at hj;have h1:=kidsW_gt xs _ _ _ (Nat.le_refl _) j hj;have h2:Av (k:Int)=k+1:=by unfold Av;rw[if_neg (by omega)];rfl
 omega
theorem qd(a:Bt):a.size=a.data.toList.length:=(Array.length_toList).symm
theorem kC(a b:Bt):(a++b).data.toList=a.data.toList++b.data.toList:=by simp
theorem xO{w0 W W1 W2:World}{V:Value}{acc acc':Txt}(hE:Env w0 V acc W)(hE1:Env w0 V acc W1)(hb1:Below w0.heap.size W W1)(hk1:Lib.OthersKept 5 (some (w0.heap.size+1)) W W1)
 (hI:Lib.IsBuilderF 106 5 w0.heap.size (w0.heap.size+1) (Lib.byteCells acc') W2) (hb:Below w0.heap.size W1 W2) (hk:Lib.OthersKept 5 (some (w0.heap.size+1)) W1 W2):Env w0 V acc' W2∧Below w0.heap.size W W2∧Lib.OthersKept 5 (some (w0.heap.size+1)) W W2:=
 ⟨hE1.wrote hI hb hk,hb1.trans hb,Lib.OthersKept.trans hk1 hk⟩
theorem ND{w0 W W':World}{b:Nat}{cs:Array Value}(h:W.heap[b]?=some (.cells cs 34 (0,0)))(hb:w0.heap.size+1<b)(hk:Lib.OthersKept 5 (some (w0.heap.size+1)) W W'):W'.heap[b]?=some (.cells cs 34 (0,0)):=
 hk _ _ h (fun e=>by have:=Option.some.inj e;omega) (by intro c fz e;cases e)
theorem node_c(A:Option Addr)(c:Nat)(xs:List Rw)(hcap:xs.length≤c)(w0:World)(hr:k34.C w0 A xs.length xs)(hsz:xs.length * 8≤140737488355328):
 ∀(d:Nat) (raw:Bool) (k:Nat),xs.length - k≤d→NodeC w0 (.slice A xs.length c) raw (xM xs d raw) k:=by
 intro d
 induction d with
 |zero=>
  intro raw k hd acc out W hE hf;cases hf
 |succ d ih=>
  intro raw k hd acc out W hE hf hlen;simp only[xM]at hf
  by_cases hk:k<xs.length
  ·rw[if_pos hk]at hf
   have c0:=hE.bl.cell;have hbw:=hE.below;obtain⟨g,o,A4,c4,rfl,z0,z1,z2,z3,z4,l4,hat⟩:=uY (Go.Proofs.ah.aD.Kd.eF hr hbw) k hk;have hrd:au xs k=xs[k]:=by simp[au,hk]
   rw[hrd]at hf;have hkd:∀r:Bool,∀j∈jI xs k,NodeC w0 (.slice (some ⟨g,o,none⟩) xs.length c) r (xM xs d r) j:=fun r j hj=>ih r j (by have:=OT xs k hk j hj;omega)
   generalize xs[k]=x at *;obtain⟨xd,xk,xn,xt,xa⟩:=x;simp only at z0 z1 z2 z3 z4 l4 hat hf;have hnt:=bM W #[.int .i64 xd,.int .i64 xk,.string xn,.string xt,.slice A4 xa.length c4] 34;have hE1:=hE.step ((Below.refl _ W).alloc (Nat.le_refl _) (.cells #[.int .i64 xd,.int .i64 xk,.string xn,.string xt,.slice A4 xa.length c4] 34));obtain⟨⟨p0,p1,p2,p3,p4⟩,p5⟩:=aT hnt;have hbA:Below w0.heap.size W (W.alloc (.cells #[.int .i64 xd,.int .i64 xk,.string xn,.string xt,.slice A4 xa.length c4] 34)):=(Below.refl _ W).alloc hbw.size _;have hkA:Lib.OthersKept 5 (some (w0.heap.size+1)) W (W.alloc (.cells #[.int .i64 xd,.int .i64 xk,.string xn,.string xt,.slice A4 xa.length c4] 34)):=Lib.OthersKept.alloc (Lib.OthersKept.refl _ _ W) _;have hs1:w0.heap.size+1<W.heap.size:=by have:=hE.bn.lt;omega
   by_cases k1:xk=1
   ·subst k1
    rw[if_pos rfl]at hf;cases raw with
    |true=>
     rw[if_pos rfl]at hf;obtain rfl:=Option.some.inj hf;clear hf;go_enter Tryz.func134,Tryz.ntmps134
     go_wp2_with(go_at_call 135;((with_reducible refine(yE _ _ acc xt _ hE1.bld (by omega) (by have:=hE1.below.size;omega)).mono ?_);rintro e W2 ⟨⟨n2,rfl⟩,hI2,hb2,hk2⟩))
     go_end0;exact⟨rfl,xO hE hE1 hbA hkA hI2 hb2 hk2⟩
    |false=>
     rw[if_neg (by decide)]at hf;obtain⟨t,ht,rfl⟩:=Option.map_eq_some_iff.1 hf;clear hf;have htx:=Lib.hid (fun W=>uf.calls xt t W ht);go_enter Tryz.func134,Tryz.ntmps134
     go_wp2_with(first
      |(go_at_call 136;((with_reducible refine(htx.out _).mono ?_);rintro e W2 ⟨rfl,hb2⟩;have hE2:=hE1.step hb2;have hB2:=hbA.trans (hb2.mono hE1.below.size);have hK2:=mV hkA hb2))
      |(go_at_call 135;((with_reducible refine(yE _ _ acc t _ hE2.bld (by omega) (by have:=hE2.below.size;omega)).mono ?_);rintro e W3 ⟨⟨n3,rfl⟩,hI3,hb3,hk3⟩)))
     go_end0;exact⟨rfl,xO hE hE2 hB2 hK2 hI3 hb3 hk3⟩
   ·rw[if_neg k1]at hf
    by_cases k2:xk=2
    ·subst k2
     rw[if_pos rfl]at hf;obtain rfl:=Option.some.inj hf;clear hf;simp only[List.length_append,List.length_cons,List.length_nil]at hlen;have hxs:=qd xt;have e0:((⟨#[60,33,45,45]⟩:Bt)++xt).size=4+xt.size:=ByteArray.size_append;have a1:decide (4+xt.size≤9223372036854775807)=true:=decide_eq_true (by omega);have a2:(9223372036854775807<4+xt.size)=False:=eq_false (by omega);have a3:decide (((⟨#[60,33,45,45]⟩:Bt)++xt).size+3≤9223372036854775807)=true:=decide_eq_true (by omega);have a4:(9223372036854775807<((⟨#[60,33,45,45]⟩:Bt)++xt).size+3)=False:=eq_false (by omega);have a5:(9223372036854775807<4+xt.size+3)=False:=eq_false (by omega);have a6:(4+xt.size≤9223372036854775807)=True:=eq_true (by omega);have a7:(((⟨#[60,33,45,45]⟩:Bt)++xt).size+3≤9223372036854775807)=True:=eq_true (by omega);have a8:(4+xt.size+3≤9223372036854775807)=True:=eq_true (by omega);have a9:decide (4+xt.size+3≤9223372036854775807)=true:=decide_eq_true (by omega);clear hxs e0
     have hm:=Lib.hid (fun(W:World) (h:Env w0 (.slice (some ⟨g,o,none⟩) xs.length c) acc W)=>yE _ _ acc (((⟨#[60,33,45,45]⟩:Bt)++xt)++(⟨#[45,45,62]⟩:Bt)) W h.bld (by rw[kC,kC,List.length_append,List.length_append];show _+((4+_)+3)≤_;omega) h.below.size);go_enter Tryz.func134,Tryz.ntmps134
     go_wp2_with(go_at_call 135;((with_reducible refine(hm.out _ hE1).mono ?_);rintro e W2 ⟨⟨n2,rfl⟩,hI2,hb2,hk2⟩))
     go_end0;refine⟨rfl,xO hE hE1 hbA hkA ?_ hb2 hk2⟩;rw[kC,kC]at hI2;exact hI2
    ·rw[if_neg k2]at hf
     by_cases k0:xk=0
     ·subst k0
      rw[if_pos rfl]at hf;obtain⟨ot,hot,hf⟩:=Option.bind_eq_some_iff.1 hf;obtain⟨vd,hvd,hf⟩:=Option.bind_eq_some_iff.1 hf;have hop:=Lib.hid (fun(W:World) (hW:Below w0.heap.size w0 W) (h4:k36.C W A4 xa.length xa)=>d9.calls (xa.length+1) xd 0 xn xt A4 c4 xa ot W h4 l4 hot);have hvo:=Lib.hid (fun W=>gF.calls 100 xn vd W hvd);have hat1:=Go.Proofs.ah.aD.Kd.eF hat ((Below.refl _ W).alloc (Nat.le_refl _) (.cells #[.int .i64 xd,.int .i64 0,.string xn,.string xt,.slice A4 xa.length c4] 34));cases vd with
      |true=>
       rw[if_pos rfl]at hf;obtain rfl:=Option.some.inj hf;clear hf;go_enter Tryz.func134,Tryz.ntmps134
       go_wp2_with(first
        |(go_at_call 137;((with_reducible refine(hop.out _ hE1.below hat1).mono ?_);rintro e W2 ⟨rfl,hb2⟩;have hE2:=hE1.step hb2;have hB2:=hbA.trans (hb2.mono hE1.below.size);have hK2:=mV hkA hb2;have hn2:=aQ hnt hb2))
        |(go_at_call 135;((with_reducible refine(yE _ _ acc ot _ hE2.bld (by omega) (by have:=hE2.below.size;omega)).mono ?_);rintro e W3 ⟨⟨n3,rfl⟩,hI3,hb3,hk3⟩;obtain⟨hE3,hB3,hK3⟩:=xO hE hE2 hB2 hK2 hI3 hb3 hk3;have hn3:=ND hn2 hs1 hk3;obtain⟨⟨q0,q1,q2,q3,q4⟩,q5⟩:=aT hn3))
        |(go_at_call 31;((with_reducible refine(hvo.out _).mono ?_);rintro e W4 ⟨rfl,hb4⟩)))
       go_end0;exact⟨rfl,hE3.step hb4,hB3.trans (hb4.mono hE3.below.size),mV hK3 hb4⟩
      |false=>
       rw[if_neg (by decide)]at hf;obtain⟨rw0,hrw,hf⟩:=Option.bind_eq_some_iff.1 hf;obtain⟨t,htt,hf⟩:=Option.bind_eq_some_iff.1 hf;obtain rfl:=Option.some.inj hf;clear hf;simp only[List.length_append,List.length_cons,List.length_nil]at hlen;have hxs:=qd xn;have e0:((⟨#[60,47]⟩:Bt)++xn).size=2+xn.size:=ByteArray.size_append;have a1:decide (2+xn.size≤9223372036854775807)=true:=decide_eq_true (by omega);have a2:(9223372036854775807<2+xn.size)=False:=eq_false (by omega);have a3:decide (((⟨#[60,47]⟩:Bt)++xn).size+1≤9223372036854775807)=true:=decide_eq_true (by omega);have a4:(9223372036854775807<((⟨#[60,47]⟩:Bt)++xn).size+1)=False:=eq_false (by omega);have a5:(9223372036854775807<2+xn.size+1)=False:=eq_false (by omega);have a6:(2+xn.size≤9223372036854775807)=True:=eq_true (by omega);have a7:(((⟨#[60,47]⟩:Bt)++xn).size+1≤9223372036854775807)=True:=eq_true (by omega);have a8:(2+xn.size+1≤9223372036854775807)=True:=eq_true (by omega);have a9:decide (2+xn.size+1≤9223372036854775807)=true:=decide_eq_true (by omega);clear hxs e0
       have hra:=Lib.hid (fun W=>kZ.calls 100 xn rw0 W hrw);have hwi:=Lib.hid (fun(W:World) (h:Env w0 (.slice (some ⟨g,o,none⟩) xs.length c) (acc++ot.data.toList) W)=>K6 (some ⟨g,o,none⟩) c xs hcap w0 hr rw0 (xM xs d rw0) k (hkd rw0) hsz (acc++ot.data.toList) t W h htt (by rw[List.length_append];omega));have hm:=Lib.hid (fun(W:World) (h:Env w0 (.slice (some ⟨g,o,none⟩) xs.length c) ((acc++ot.data.toList)++t) W)=>yE _ _ ((acc++ot.data.toList)++t) (((⟨#[60,47]⟩:Bt)++xn)++(⟨#[62]⟩:Bt)) W h.bld (by rw[kC,kC,List.length_append,List.length_append,List.length_append,List.length_append];show _+((2+_)+1)≤_;omega) h.below.size);clear hkd ih htt;go_enter Tryz.func134,Tryz.ntmps134
       go_wp2_with(first
        |(go_at_call 137;((with_reducible refine(hop.out _ hE1.below hat1).mono ?_);rintro e W2 ⟨rfl,hb2⟩;have hE2:=hE1.step hb2;have hB2:=hbA.trans (hb2.mono hE1.below.size);have hK2:=mV hkA hb2;have hn2:=aQ hnt hb2))
        |(go_at_call 135;((with_reducible refine(yE _ _ acc ot _ hE2.bld (by omega) (by have:=hE2.below.size;omega)).mono ?_);rintro e W3 ⟨⟨n3,rfl⟩,hI3,hb3,hk3⟩;obtain⟨hE3,hB3,hK3⟩:=xO hE hE2 hB2 hK2 hI3 hb3 hk3;have hn3:=ND hn2 hs1 hk3;obtain⟨⟨q0,q1,q2,q3,q4⟩,q5⟩:=aT hn3))
        |(go_at_call 31;((with_reducible refine(hvo.out _).mono ?_);rintro e W4 ⟨rfl,hb4⟩;have hE4:=hE3.step hb4;have hB4:=hB3.trans (hb4.mono hE3.below.size);have hK4:=mV hK3 hb4;have hn4:=aQ hn3 hb4;obtain⟨⟨r0,r1,r2,r3,r4⟩,r5⟩:=aT hn4;have hw4:=hE4.bw.cell;unfold fW at hw4;have hbd:Below W4.heap.size W4 W4.drew:=Go.Proofs.ah.aD.bX (Below.refl _ _);have hE4d:=hE4.step hbd;have hB4d:=hB4.trans (hbd.mono hE4.below.size);have hK4d:=mV hK4 hbd;have hn4d:=aQ hn4 hbd)))
       go_region_with (first
        |(go_at_call 32;((with_reducible refine(hra.out _).mono ?_);rintro e W5 ⟨rfl,hb5⟩;have hE5:=hE4d.step hb5;have hB5:=hB4d.trans (hb5.mono hE4d.below.size);have hK5:=mV hK4d hb5;have hn5:=aQ hn4d hb5;have hw5:=hE5.bw.cell;unfold fW at hw5;obtain⟨⟨t0,t1,t2,t3,t4⟩,t5⟩:=aT hn5))
        |(go_at_call 133;((with_reducible refine(hwi.out _ hE5).mono ?_);rintro e W6 ⟨rfl,hE6,hb6,hk6⟩;have hn6:=ND hn5 hs1 hk6;obtain⟨⟨s0,s1,s2,s3,s4⟩,s5⟩:=aT hn6)))
       go_wp2_with(go_at_call 135;((with_reducible refine(hm.out _ hE6).mono ?_);rintro e W7 ⟨⟨n7,rfl⟩,hI7,hb7,hk7⟩))
       all_goals(
        go_end0;have hE7:=hE6.wrote hI7 hb7 hk7;have e7:((acc++ot.data.toList)++t)++((((⟨#[60,47]⟩:Bt)++xn)++(⟨#[62]⟩:Bt)).data.toList)=acc++(ot.data.toList++t++60::47::(xn.data.toList++[62])):=by simp
        rw[e7]at hE7;exact⟨rfl,hE7,(hB5.trans hb6).trans hb7,Lib.OthersKept.trans (Lib.OthersKept.trans hK5 hk6) hk7⟩)
     ·rw[if_neg k0]at hf
      obtain rfl:=Option.some.inj hf;go_enter Tryz.func134,Tryz.ntmps134;go_wp2;go_end0;exact⟨rfl,hE1,hbA,hkA⟩
  ·rw[if_neg hk]at hf
   cases hf
def IG(l0:List Rw)(i:Int):Option Bool:=if 0≤i then(if i<l0.length then kZ.f 100 (au l0 i).f2 else none)else if i= -1 then some false else none
def fK.f(l0:List Rw)(i:Int):Option Bt:=
 if l0.length * 8≤140737488355328 then(IG l0 i).bind fun r=>(catM (xM l0 l0.length r) (jI l0 i)).bind fun t=>if t.length≤140737488355328 then some ⟨t.toArray⟩else none
 else none
theorem fK.calls(A:Option Addr)(c:Nat)(xs:List Rw)(i:Int)(res:Bt)(w:World)(hr:k34.C w A xs.length xs)(hcap:xs.length≤c)(h:fK.f xs i=some res)(hS:ED w):
 Calls Tryz.prog 90 #[.slice A xs.length c,.int .i64 i] w fun e w'=>e=.returned (.string res)∧Below w.heap.size w w':=by
 unfold fK.f at h
 by_cases hsz:xs.length * 8≤140737488355328
 ·rw[if_pos hsz]at h
  obtain⟨r,hraw,h⟩:=Option.bind_eq_some_iff.1 h;obtain⟨t,ht,h⟩:=Option.bind_eq_some_iff.1 h
  by_cases hlen:t.length≤140737488355328
  ·rw[if_pos hlen]at h
   obtain rfl:=Option.some.inj h
   have hE:Env w (.slice A xs.length c) [] ((((w.alloc (.cells #[.slice A xs.length c] 22)).alloc (.cells #[.pointer none,.slice none 0 0] 106)).alloc (.cells #[.func (.func 134) #[] #[.pointer (some ⟨w.heap.size,0,none⟩),.pointer (some ⟨w.heap.size+1,0,none⟩),.pointer (some ⟨w.heap.size+1+1+1,0,none⟩)]] 107)).alloc (.cells #[.func (.func 133) #[] #[.pointer (some ⟨w.heap.size,0,none⟩),.pointer (some ⟨w.heap.size+1+1,0,none⟩)]] 107)):=by
    refine⟨?_,((((Below.refl _ w).alloc (Nat.le_refl _) _).alloc (by simp) _).alloc (by simp;omega) _).alloc (by simp;omega) _,(((Boxed.new w 22 (.slice A xs.length c)).alloc _).alloc _).alloc _,?_,?_⟩
    ·have h:=DN w.heap.size (w.alloc (.cells #[.slice A xs.length c] 22)) (by simp)
     rw[World.size_alloc]at h;exact(h.alloc _).alloc _
    ·have h:=Boxed.new ((w.alloc (.cells #[.slice A xs.length c] 22)).alloc (.cells #[.pointer none,.slice none 0 0] 106)) 107 (fN w.heap.size)
     rw[World.size_alloc,World.size_alloc]at h;exact h.alloc _
    ·have h:=Boxed.new (((w.alloc (.cells #[.slice A xs.length c] 22)).alloc (.cells #[.pointer none,.slice none 0 0] 106)).alloc (.cells #[.func (.func 134) #[] #[.pointer (some ⟨w.heap.size,0,none⟩),.pointer (some ⟨w.heap.size+1,0,none⟩),.pointer (some ⟨w.heap.size+1+1+1,0,none⟩)]] 107)) 107 (fW w.heap.size)
     rw[World.size_alloc,World.size_alloc,World.size_alloc]at h;exact h
   go_enter Tryz.func90,Tryz.ntmps90;go_wp2
   revert hE
   generalize ((((w.alloc (.cells #[.slice A xs.length c] 22)).alloc (.cells #[.pointer none,.slice none 0 0] 106)).alloc (.cells #[.func (.func 134) #[] #[.pointer (some ⟨w.heap.size,0,none⟩),.pointer (some ⟨w.heap.size+1,0,none⟩),.pointer (some ⟨w.heap.size+1+1+1,0,none⟩)]] 107)).alloc (.cells #[.func (.func 133) #[] #[.pointer (some ⟨w.heap.size,0,none⟩),.pointer (some ⟨w.heap.size+1+1,0,none⟩)]] 107))=W;intro hE;have hbd:Below W.heap.size W W.drew:=Go.Proofs.ah.aD.bX (Below.refl _ _);have hEd:=hE.step hbd;have hl0:=hEd.bl.cell;have hw0:=hEd.bw.cell;unfold fW at hw0;have hw9:=hE.bw.cell;have hl9:=hE.bl.cell;unfold fW at hw9;have hwi:=Lib.hid (fun(W:World) (h:Env w (.slice A xs.length c) [] W)=>K6 A c xs hcap w hr r (xM xs xs.length r) i (fun j hj=>node_c A c xs hcap w hr hsz xs.length r j (by omega)) hsz [] t W h ht (by simpa using hlen));unfold IG at hraw
   by_cases hi:0≤i
   ·rw[if_pos hi]at hraw
    by_cases hl:i<xs.length
    ·rw[if_pos hl]at hraw
     obtain⟨m,rfl⟩:∃m:Nat,i=m:=⟨i.toNat,by omega⟩
     have hm:m<xs.length:=by omega
     obtain⟨g,o,A4,c4,rfl,z0,z1,z2,z3,z4,l4,hat⟩:=uY (Go.Proofs.ah.aD.Kd.eF hr hEd.below) m hm;have hrd:au xs m=xs[m]:=by simp[au,hm]
     rw[hrd]at hraw;generalize xs[m]=x at *;obtain⟨xd,xk,xn,xt,xa⟩:=x;simp only at z0 z1 z2 z3 z4 l4 hat hraw;have hra:=Lib.hid (fun W=>kZ.calls 100 xn r W hraw)
     go_region_with (first
      |(go_at_call 32;((with_reducible refine(hra.out _).mono ?_);rintro e W5 ⟨rfl,hb5⟩;have hE5:=hEd.step hb5;have hw5:=hE5.bw.cell;unfold fW at hw5))
      |(go_at_call 133;((with_reducible refine(hwi.out _ hE5).mono ?_);rintro e W6 ⟨rfl,hE6,hb6,hk6⟩)))
     all_goals(
      have hI6:=hE6.bld;rw[List.nil_append]at hI6;have hz6:=hE6.below.size;have hst:=Lib.hid (Tryz.Builder_String_any_k _ _ _ _ hI6 (by omega))
      go_wp2_with(go_at_call 138;((with_reducible refine hst.out.mono ?_);rintro e W7 ⟨rfl,_,hb7,_⟩))
      go_ret;exact⟨rfl,hE6.below.trans hb7⟩)
    ·rw[if_neg hl]at hraw
     cases hraw
   ·rw[if_neg hi]at hraw
    by_cases hi1:i= -1
    ·subst hi1
     rw[if_pos rfl]at hraw;obtain rfl:=Option.some.inj hraw;clear hraw
     first
      |go_region_with (go_at_call 133;((with_reducible refine(hwi.out _ hEd).mono ?_);rintro e W6 ⟨rfl,hE6,hb6,hk6⟩))
      |fail
     all_goals(
      have hI6:=hE6.bld;rw[List.nil_append]at hI6;have hz6:=hE6.below.size;have hst:=Lib.hid (Tryz.Builder_String_any_k _ _ _ _ hI6 (by omega))
      go_wp2_with(go_at_call 138;((with_reducible refine hst.out.mono ?_);rintro e W7 ⟨rfl,_,hb7,_⟩))
      go_ret;exact⟨rfl,hE6.below.trans hb7⟩)
    ·rw[if_neg hi1]at hraw
     cases hraw
  ·rw[if_neg hlen]at h
   cases h
 ·rw[if_neg hsz]at h
  cases h
end Go.Proofs.aj.W7
namespace Go.Proofs.aj.W7
open Go.RowKit Go.Proofs.ah.aD Go.Proofs.ah.bG Go.Proofs.ah.bR
attribute [local go_sem] dD dF dV dW bU bV dG dH
def qI.f(k:Nat)(l0:List (S34))(a1:Int):Option (Bt):=if a1=(-1)then((fK.f l0 a1).bind fun t596=>(some t596))else(if a1<0 then(some (⟨#[]⟩:Bt))else(if a1≥(l0.length:Int)then(some (⟨#[]⟩:Bt))else(if 0≤a1 then(if a1<(l0.length:Int)then(if((au l0 a1).f1)=0 then((gF.f k ((au l0 a1).f2)).bind fun t599=>(if t599=true then(some (⟨#[]⟩:Bt))else((fK.f l0 a1).bind fun t600=>(some t600))))else(some (⟨#[]⟩:Bt)))else(none))else(none))))
theorem qI.calls(k:Nat)(A0:Option Addr)(c0:Nat)(l0:List (S34))(a1:Int)(r:Bt)(w:World)(hr0:Kd.C k34 w A0 l0.length l0)(hc0:l0.length≤c0)(h:qI.f k l0 a1=some r)(hS_:Go.Proofs.YtkcmghlhpbepcaaGreatDoor.Std w):
 Calls Tryz.prog 43 #[.slice A0 l0.length c0,.int .i64 a1] w fun e w'=>e=.returned (.string r)∧Below w.heap.size w w':=by
 have HS_:=ak.mk hS_;clear hS_;have HR0:=ak.mk hr0;have HC0:=ak.mk hc0;clear hr0 hc0;have HB:=ak.mk (Below.refl w.heap.size w);have H:(if a1=(-1)then((fK.f l0 a1).bind fun t596=>(some t596))else(if a1<0 then(some (⟨#[]⟩:Bt))else(if a1≥(l0.length:Int)then(some (⟨#[]⟩:Bt))else(if 0≤a1 then(if a1<(l0.length:Int)then(if((au l0 a1).f1)=0 then((gF.f k ((au l0 a1).f2)).bind fun t599=>(if t599=true then(some (⟨#[]⟩:Bt))else((fK.f l0 a1).bind fun t600=>(some t600))))else(some (⟨#[]⟩:Bt)))else(none))else(none)))))=some r:=h;clear h
 by_cases c3:a1=(-1)
 ·rw[if_pos c3]at H
  have nD:(a1==(-1))=true:=beq_iff_eq.mpr c3;have ze:(a1 !=(-1))=false:=bne_eq_false_iff_eq.mpr c3;clear c3;replace H:=Option.bind_eq_some_iff.mp H;obtain⟨t596,A40,H⟩:=H;replace H:(some t596)=some r:=H;have A4:=ak.mk A40;clear A40;obtain rfl:=Option.some.inj H;go_enter Tryz.func43,Tryz.ntmps43
  go_wp2_with(first|((with_reducible refine aZ (f:=90) rfl ?_);refine dO (some 35) rfl rfl Tryz.func90 (by kernel_rfl) rfl #[.slice A0 l0.length c0,.int .i64 a1] rfl q'a ?_;(with_reducible refine(fK.calls _ _ l0 a1 t596 _ ?dz ?dA A4.out (Go.Proofs.YtkcmghlhpbepcaaGreatDoor.Std.below HS_.out bz)).mono ?_);(case dz=>repeat(first|exact HR0.out|(with_reducible refine Kd.nA ?_ _)|(with_reducible refine Kd.nW ?_ _)|(with_reducible refine Kd.qB ?_)));(case dA=>exact HC0.out);rintro e w5 ⟨rfl,hb⟩;refine⟨_,rfl,?_⟩;replace HB:=ak.mk (aG bz hb);(try clear hb);(try clear hb2);(try clear hk);(try clear hi)))
  go_ret;exact⟨by first|rfl|(simp[aJ,aM]<;>rfl)|(simp[*,aJ,aM]<;>rfl),bz⟩
 ·rw[if_neg c3]at H
  have nD:(a1==(-1))=false:=beq_eq_false_iff_ne.mpr c3;have ze:(a1 !=(-1))=true:=bne_iff_ne.mpr c3
  by_cases c6:a1<0
  ·rw[if_pos c6]at H
   have AA:decide (a1<0)=true:=decide_eq_true c6;clear c6;obtain rfl:=Option.some.inj H;go_enter Tryz.func43,Tryz.ntmps43;go_wp2;go_ret;exact⟨by first|rfl|(simp[aJ,aM]<;>rfl)|(simp[*,aJ,aM]<;>rfl),bz⟩
  ·rw[if_neg c6]at H
   have AA:decide (a1<0)=false:=decide_eq_false c6;clear c6
   by_cases c7:a1≥(l0.length:Int)
   ·rw[if_pos c7]at H
    have c7b0:decide ((l0.length:Int)≤a1)=true:=decide_eq_true c7;clear c7;obtain rfl:=Option.some.inj H;go_enter Tryz.func43,Tryz.ntmps43;go_wp2;go_ret;exact⟨by first|rfl|(simp[aJ,aM]<;>rfl)|(simp[*,aJ,aM]<;>rfl),bz⟩
   ·rw[if_neg c7]at H
    have c7b0:decide ((l0.length:Int)≤a1)=false:=decide_eq_false c7;clear c7
    by_cases c8:0≤a1
    ·rw[if_pos c8]at H
     have zh:decide (0≤a1)=true:=decide_eq_true c8;clear c8
     by_cases c9:a1<(l0.length:Int)
     ·rw[if_pos c9]at H
      have c9b0:decide (a1<(l0.length:Int))=true:=decide_eq_true c9;clear c9
      by_cases c10:((au l0 a1).f1)=0
      ·rw[if_pos c10]at H
       have GL:(((au l0 a1).f1)==0)=true:=beq_iff_eq.mpr c10;have c10b1:(((au l0 a1).f1) !=0)=false:=bne_eq_false_iff_eq.mpr c10;clear c10;replace H:=Option.bind_eq_some_iff.mp H;obtain⟨t599,A110,H⟩:=H;replace H:(if t599=true then(some (⟨#[]⟩:Bt))else((fK.f l0 a1).bind fun t600=>(some t600)))=some r:=H;have A11:=ak.mk A110;clear A110
       by_cases c12:t599=true
       ·subst c12
        have H1:(some (⟨#[]⟩:Bt))=some r:=by rw[if_pos rfl]at H;exact H
        clear H;have H:=H1;clear H1;obtain rfl:=Option.some.inj H;have ET:0≤(a1:Int):=q'b;have EU:a1<(l0.length:Int):=q'b;obtain⟨LV,A597_4,c597_4,e597,PD,PE,PG,PI,D9,sj,sD⟩:=lg HR0.out a1 ET EU;cases e597;have PK:=ak.mk sD;have PL:=ak.mk sj;clear sD sj;replace ET:=eq_true ET;replace EU:=eq_true EU;have p598:0≤(a1:Int):=q'b;have q598:a1<(l0.length:Int):=q'b;obtain⟨ad598,A598_4,c598_4,e598,hx598_0,hx598_1,hx598_2,hx598_3,JV,AQ,AU⟩:=lg HR0.out a1 p598 q598;obtain rfl:LV=ad598:=(by injection e598);have HR598_4:=ak.mk AU;have HC598_4:=ak.mk AQ;clear AU AQ;replace p598:=eq_true p598;replace q598:=eq_true q598;have ea_:=Option.some.inj (D9.symm.trans JV);injection ea_ with ea_ en_ ec_
        subst ea_;subst ec_;clear en_;go_enter Tryz.func43,Tryz.ntmps43
        go_wp2_with(first|(go_at_call 31;(with_reducible refine(gF.calls k ((au l0 a1).f2) true _ A11.out).mono ?_);rintro e w13 ⟨rfl,hb⟩;replace HB:=ak.mk (aG bz hb);(try clear hb);(try clear hb2);(try clear hk);(try clear hi)))
        go_ret;exact⟨by first|rfl|(simp[aJ,aM]<;>rfl)|(simp[*,aJ,aM]<;>rfl),bz⟩
       ·replace c12:=Bool.eq_false_iff.mpr c12
        subst c12;have H1:((fK.f l0 a1).bind fun t600=>(some t600))=some r:=by rw[if_neg (show¬(false=true) by decide)]at H;first|exact H|(simp only[eq_self]at H⊢;exact H)|(simp only[eq_self,if_true]at H⊢;exact H)
        clear H;have H:=H1;clear H1;replace H:=Option.bind_eq_some_iff.mp H;obtain⟨t600,A140,H⟩:=H;replace H:(some t600)=some r:=H;have A14:=ak.mk A140;clear A140;obtain rfl:=Option.some.inj H;have ET:0≤(a1:Int):=q'b;have EU:a1<(l0.length:Int):=q'b;obtain⟨LV,A597_4,c597_4,e597,PD,PE,PG,PI,D9,sj,sD⟩:=lg HR0.out a1 ET EU;cases e597;have PK:=ak.mk sD;have PL:=ak.mk sj;clear sD sj;replace ET:=eq_true ET;replace EU:=eq_true EU;have p598:0≤(a1:Int):=q'b;have q598:a1<(l0.length:Int):=q'b;obtain⟨ad598,A598_4,c598_4,e598,hx598_0,hx598_1,hx598_2,hx598_3,JV,AQ,AU⟩:=lg HR0.out a1 p598 q598;obtain rfl:LV=ad598:=(by injection e598);have HR598_4:=ak.mk AU;have HC598_4:=ak.mk AQ;clear AU AQ;replace p598:=eq_true p598;replace q598:=eq_true q598;have ea_:=Option.some.inj (D9.symm.trans JV);injection ea_ with ea_ en_ ec_
        subst ea_;subst ec_;clear en_;go_enter Tryz.func43,Tryz.ntmps43
        go_wp2_with(first|(go_at_call 31;(with_reducible refine(gF.calls k ((au l0 a1).f2) false _ A11.out).mono ?_);rintro e w15 ⟨rfl,hb⟩;replace HB:=ak.mk (aG bz hb);(try clear hb);(try clear hb2);(try clear hk);(try clear hi))|((with_reducible refine aZ (f:=90) rfl ?_);refine dO (some 35) rfl rfl Tryz.func90 (by kernel_rfl) rfl #[.slice (some LV) l0.length c0,.int .i64 a1] rfl q'a ?_;(with_reducible refine(fK.calls _ _ l0 a1 t600 _ ?dz ?dA A14.out (Go.Proofs.YtkcmghlhpbepcaaGreatDoor.Std.below HS_.out bz)).mono ?_);(case dz=>exact cz (Kd.eF HR0.out HB.out));(case dA=>exact HC0.out);rintro e w16 ⟨rfl,hb⟩;refine⟨_,rfl,?_⟩;replace HB:=ak.mk (aG bz hb);(try clear hb);(try clear hb2);(try clear hk);(try clear hi)))
        go_ret;exact⟨by first|rfl|(simp[aJ,aM]<;>rfl)|(simp[*,aJ,aM]<;>rfl),bz⟩
      ·rw[if_neg c10]at H
       have GL:(((au l0 a1).f1)==0)=false:=beq_eq_false_iff_ne.mpr c10;have c10b1:(((au l0 a1).f1) !=0)=true:=bne_iff_ne.mpr c10;obtain rfl:=Option.some.inj H;have ET:0≤(a1:Int):=q'b;have EU:a1<(l0.length:Int):=q'b;obtain⟨LV,A597_4,c597_4,e597,PD,PE,PG,PI,D9,sj,sD⟩:=lg HR0.out a1 ET EU;cases e597;have PK:=ak.mk sD;have PL:=ak.mk sj;clear sD sj;replace ET:=eq_true ET;replace EU:=eq_true EU;go_enter Tryz.func43,Tryz.ntmps43;go_wp2;go_ret;exact⟨by first|rfl|(simp[aJ,aM]<;>rfl)|(simp[*,aJ,aM]<;>rfl),bz⟩
     ·rw[if_neg c9]at H
      exact absurd H (by simp)
    ·rw[if_neg c8]at H
     exact absurd H (by simp)
end Go.Proofs.aj.W7
