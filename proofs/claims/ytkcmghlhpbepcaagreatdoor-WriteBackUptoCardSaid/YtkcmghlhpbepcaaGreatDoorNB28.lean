/- Lemmas and walks, part 28. -/
import Derived.Test.YtkcmghlhpbepcaaGreatDoorNB27
set_option linter.unusedVariables false
set_option linter.unusedSimpArgs false
namespace Go.Proofs.aj.W7
open Go.RowKit Go.Proofs Go.Proofs.aj Go.Proofs.YtkcmghlhpbepcaaGreatDoor Go.Proofs.ah.aD
def goneT:List ByteArray:=[⟨#[98,111,100,121]⟩,⟨#[102,114,97,109,101,115,101,116]⟩,⟨#[104,101,97,100]⟩,⟨#[104,116,109,108]⟩]
def voidT:List ByteArray:=[[97,114,101,97],[98,97,115,101],[98,114],[99,111,108],[101,109,98,101,100],[104,114],[105,109,103],[105,110,112,117,116],[108,105,110,107],[109,101,116,97],[112,97,114,97,109],[115,111,117,114,99,101],[116,114,97,99,107],[119,98,114]].map fun l=>⟨l.toArray⟩
theorem JM(s:ByteArray)(k:Nat)(hk:20≤k):gT.f k s=some (nO goneT s):=by
 unfold gT.f;rw[oV _ _ _ (by simp) (by simp;omega),Option.bind_some];rfl
theorem Qu(s:ByteArray)(k:Nat)(hk:20≤k):gH.f k s=some (nO voidT s):=by
 unfold gH.f;rw[oV _ _ _ (by simp) (by simp;omega),Option.bind_some];rfl
theorem yQ(s:ByteArray):nmB s=true:=by
 unfold nmB;obtain⟨c,hc,-⟩:=LY s 200 (by omega);obtain⟨w,hw,-⟩:=Nt s 200 (by omega);obtain⟨p,hp⟩:=par_some s;rw[hc,hw,hp,JM _ _ (by omega),Qu _ _ (by omega)];rfl
theorem goneL_eq(s:ByteArray):qh s=nO goneT s:=by unfold qh;rw[JM _ _ (by omega)];rfl
theorem Mf(s:ByteArray):kS s=nO voidT s:=by unfold kS;rw[Qu _ _ (by omega)];rfl
def tq:List Tk→List ByteArray→List Rw→Option (List Rw)
 | [],_,out=>some out
 |t::r,op,out=>if(kH op out t).2.2 then none else tq r (kH op out t).1 (kH op out t).2.1
inductive Grown (t:Tk) (out:List Rw):List Rw→Prop
 |same:Grown t out out
 |app (x:Rw) (h0:0≤x.f0) (h1:x.f0<60) (hd:qH out.getLast? x=false) (hs:x.f3.size≤t.f2.size) (ha:x.f4.length≤t.f3.length):Grown t out (out++[x])
 |text (pre:List Rw) (y:Rw) (he:out=pre++[y]) (hy:y.f1=1) (hn:t.f2.data.toList≠[]):Grown t out (pre++[addT y t.f2])
theorem GK:∀(l out:List At),(xK out l).length≤out.length+l.length
 | [],out=>by simp[xK]
 |a::r,out=>by
  simp only[xK];have:=GK r (if Ef out a then out else out++[a])
  split at this
  ·rename_i h
   rw[if_pos h];simp only[List.length_cons];omega
  ·rename_i h
   rw[if_neg h];simp only[List.length_append,List.length_cons,List.length_nil]at this⊢;omega
theorem yR(t:Tk)(op:List ByteArray)(out:List Rw)(x:Rw)(h:(pE op out false x).2=false)(hd:∀d,qH out.getLast? ⟨op.length,x.f1,x.f2,x.f3,d⟩=false)(hs:x.f3.size≤t.f2.size)(ha:x.f4.length≤t.f3.length):Grown t out (pE op out false x).1:=by
 have hl:=uw op out x h;unfold pE at h⊢
 split
 ·rename_i g
  rw[if_pos g]at h;cases h
 ·exact .app _ (by simp) (by simp;omega) (hd _) hs ha
theorem JN(p:Option Rw)(x:Rw)(h:x.f1≠1):qH p x=false:=by simp[qH,h]
theorem Nw(op:List ByteArray)(out:List Rw)(t:Tk)(h:(kH op out t).2.2=false):Grown t out (kH op out t).2.1:=by
 unfold kH at h⊢
 by_cases k0:t.f0=0
 ·rw[if_pos k0]at h⊢
  unfold jC at h⊢
  by_cases e:t.f2.data.toList=[]
  ·rw[if_pos e];exact .same
  rw[if_neg e]at h⊢;cases hj:wW op out with
  |true=>
   rw[if_pos rfl];unfold wW at hj;cases hL:out.getLast? with
   |none=>rw[hL]at hj;cases hj
   |some y=>
    rw[hL]at hj;simp only[Bool.and_eq_true,decide_eq_true_eq]at hj;have hpos:0<out.length:=by cases out with|nil=>cases hL|cons a l=>simp
    have hr:=JL out hpos;rw[hL]at hr;rw[←Option.some.inj hr];obtain⟨pre,rfl⟩:=List.getLast?_eq_some_iff.1 hL
    have:(pre++[y]).set ((pre++[y]).length - 1) (addT y t.f2)=pre++[addT y t.f2]:=by
     simp
    show Grown t _ ((pre++[y]).set ((pre++[y]).length - 1) (addT y t.f2));rw[this];exact .text pre y rfl hj.1 e
  |false=>
   rw[hj]at h;rw[if_neg (by decide)]at h⊢;refine yR t op out ⟨0,1,⟨#[]⟩,t.f2,[]⟩ h ?_ (Nat.le_refl _) (Nat.zero_le _);intro d;unfold wW at hj;simp only[qH,e,decide_true,decide_false,Bool.true_and,Bool.false_or];exact hj
 rw[if_neg k0]at h⊢
 by_cases k3:t.f0=3
 ·rw[if_pos k3]at h⊢
  exact yR t op out ⟨0,2,⟨#[]⟩,t.f2,[]⟩ h (fun d=>JN _ _ (by simp)) (Nat.le_refl _) (Nat.zero_le _)
 rw[if_neg k3]at h⊢
 by_cases k1:t.f0=1
 ·rw[if_pos k1]at h⊢
  unfold oJ at h⊢
  by_cases e1:t.f1.data.toList=[]
  ·rw[if_pos e1];exact .same
  rw[if_neg e1]at h⊢
  by_cases e2:qh t.f1=true
  ·rw[if_pos e2];exact .same
  rw[if_neg e2]at h⊢;refine yR t _ out ⟨0,0,t.f1,⟨#[]⟩,uq t.f3⟩ h (fun d=>JN _ _ (by simp)) (Nat.zero_le _) ?_;have:=GK t.f3 [];simpa [uq]using this
 rw[if_neg k1]at h⊢
 by_cases k2:t.f0=2
 ·rw[if_pos k2]at h⊢
  unfold ji at h⊢
  by_cases e1:t.f1.data.toList=[]
  ·rw[if_pos e1];exact .same
  rw[if_neg e1]at h⊢
  by_cases e2:qh t.f1=true
  ·rw[if_pos e2];exact .same
  rw[if_neg e2]at h⊢
  by_cases e3:kS t.f1=true
  ·rw[if_pos e3];exact .same
  rw[if_neg e3]at h⊢
  by_cases e4:0≤fT op [t.f1] (Ej t.f1) op.length
  ·rw[if_pos e4];exact .same
  rw[if_neg e4]at h⊢
  by_cases e5:t.f1.data.toList=[112]
  ·rw[if_pos e5]at h⊢
   exact yR t op out ⟨0,0,t.f1,⟨#[]⟩,[]⟩ h (fun d=>JN _ _ (by simp)) (Nat.zero_le _) (Nat.zero_le _)
  ·rw[if_neg e5];exact .same
 rw[if_neg k2];exact .same
structure Built (op:List ByteArray) (out:List Rw) (S:Nat):Prop where
 len:out.length≤4096
 open_:op.length≤60
 depth:∀x∈out,0≤x.f0∧x.f0<60
 normal:rT none out=true
 size:∀x∈out,x.f3.size≤S
 attrs:∀x∈out,x.f4.length≤1000000
theorem Rx:Built [] [] 0:=⟨by simp,by simp,by simp,rfl,by simp,by simp⟩
theorem ba_nil(a:ByteArray):a.data.toList=[]↔a.size=0:=by
 show _↔a.data.size=0;rw[←Array.length_toList,List.length_eq_zero_iff]
theorem Ny{op:List ByteArray}{out:List Rw}{S:Nat}(hB:Built op out S)(t:Tk)(ht:t.f3.length≤1000000)(h:(kH op out t).2.2=false):Built (kH op out t).1 (kH op out t).2.1 (S+t.f2.size):=by
 have hs:=Em op out t hB.len hB.open_ h;have hg:=Nw op out t h;generalize kH op out t=R at *;obtain⟨op2,out2,big⟩:=R;simp only at hs hg h⊢;cases hg with
 |same=>exact⟨hs.1,hs.2,hB.depth,hB.normal,fun x hx=>by have:=hB.size x hx;omega,hB.attrs⟩
 |app x h0 h1 hd hz ha=>
  refine⟨hs.1,hs.2,?_,?_,?_,?_⟩
  ·intro y hy
   rcases List.mem_append.1 hy with hy|hy
   ·exact hB.depth y hy
   ·obtain rfl:=List.mem_singleton.1 hy
    exact⟨h0,h1⟩
  ·rw[Fw,hB.normal]
   simp[rT,hd]
  ·intro y hy
   rcases List.mem_append.1 hy with hy|hy
   ·have:=hB.size y hy;omega
   ·obtain rfl:=List.mem_singleton.1 hy
    omega
  ·intro y hy
   rcases List.mem_append.1 hy with hy|hy
   ·exact hB.attrs y hy
   ·obtain rfl:=List.mem_singleton.1 hy
    omega
 |text pre y he hy hn=>
  subst he;have hy0:=hB.depth y (by simp);have hy1:=hB.size y (by simp);have hy2:=hB.attrs y (by simp);refine⟨hs.1,hs.2,?_,?_,?_,?_⟩
  ·intro x hx
   rcases List.mem_append.1 hx with hx|hx
   ·exact hB.depth x (by simp[hx])
   ·obtain rfl:=List.mem_singleton.1 hx
    exact hy0
  ·have:=hB.normal
   rw[Fw]at this⊢;simp only[Bool.and_eq_true]at this⊢;refine⟨this.1,?_⟩;have h2:=this.2;simp only[rT,Bool.and_true,Bool.not_eq_true']at h2⊢;simp only[qH,hy,addT,decide_true,Bool.true_and,Bool.or_eq_false_iff,decide_eq_false_iff_not]at h2⊢;refine⟨?_,h2.2⟩;rw[ba_nil,ByteArray.size_append];rw[Ne,ba_nil]at hn;omega
  ·intro x hx
   rcases List.mem_append.1 hx with hx|hx
   ·have:=hB.size x (by simp[hx]);omega
   ·obtain rfl:=List.mem_singleton.1 hx
    show(y.f3++t.f2).size≤_;rw[ByteArray.size_append];omega
  ·intro x hx
   rcases List.mem_append.1 hx with hx|hx
   ·exact hB.attrs x (by simp[hx])
   ·obtain rfl:=List.mem_singleton.1 hx
    exact hy2
def yw(l:List Tk):Nat:=(l.map fun t=>t.f2.size).sum
theorem GL:∀(l:List Tk) (op:List ByteArray) (out:List Rw) (S:Nat),Built op out S→S+yw l≤9223372036854775807→(∀t∈l,t.f3.length≤1000000)→
 CB l op out=some (match tq l op out with|none=>([],2)|some o=>(o,0))∧∀o,tq l op out=some o→∃op2,Built op2 o (S+yw l)
 | [],op,out,S,hB,_,_=>by
   simp only[CB,tq];rw[Rv out (by have:=hB.len;omega) (fun x hx=>by have:=hB.depth x hx;omega) hB.attrs hB.normal,Option.bind_some];refine⟨rfl,fun o ho=>?_⟩;obtain rfl:=Option.some.inj ho;exact⟨op,hB⟩
 |t::r,op,out,S,hB,hS,ha=>by
  have e:yw (t::r)=t.f2.size+yw r:=by simp[yw]
  rw[e]at hS⊢
  have hok:okT out t=true:=by
   unfold okT
   split
   ·unfold szB
    rw[List.all_eq_true];intro x hx;have:=hB.size x hx;exact decide_eq_true (by omega)
   ·split
    ·rw[yQ,decide_eq_true (ha t (by simp))]
     rfl
    ·split
     ·exact yQ _
     ·rfl
  simp only[CB,tq];rw[if_pos hok];cases hb:(kH op out t).2.2 with
  |true=>exact⟨rfl,fun o ho=>by cases ho⟩
  |false=>
   rw[if_neg (by decide),if_neg (by decide)];obtain⟨h1,h2⟩:=GL r _ _ _ (Ny hB t (ha t (by simp)) hb) (by omega) (fun x hx=>ha x (List.mem_cons_of_mem _ hx));refine⟨h1,fun o ho=>?_⟩;obtain⟨op2,h3⟩:=h2 o ho;exact⟨op2,by rw[←Nat.add_assoc];exact h3⟩
theorem tree_f(l:List Tk)(hS:yw l≤9223372036854775807)(ha:∀t∈l,t.f3.length≤1000000):
 j5.f l=some (match tq l [] []with|none=>([],2)|some o=>(o,0)):=by
 unfold j5.f;rw[yQ,yQ,yQ];exact(GL l [] [] 0 Rx (by omega) ha).1
theorem nmOk(s:ByteArray):NmOk s:=BN (yQ s)
theorem up_to{α:Type}{f:Nat→Option α}(hm:∀k,LeO (f k) (f (k+1))){n:Nat}{b:α}(h:f n=some b):∀k,n≤k→f k=some b:=by
 intro k hk;obtain⟨d,rfl⟩:∃d,k=n+d:=⟨k - n,by omega⟩
 induction d with
 |zero=>exact h
 |succ d ih=>exact hm (n+d) _ (ih (by omega))
theorem Ru(s:ByteArray)(k:Nat)(hk:200≤k):bH.f k s=some (kW s):=up_to (f:=fun k=>bH.f k s) (fun k=>bH.mono s k) (nmOk s).closes k hk
theorem Mc(s:ByteArray)(k:Nat)(hk:200≤k):cB.f k s=some (j4 s):=up_to (f:=fun k=>cB.f k s) (fun k=>cB.mono s k) (nmOk s).walls k hk
def yu(s:ByteArray)(l:List ByteArray):Bool:=!(parL s&&decide (0≤fT l [pN] (j4 pN) l.length))&&decide (fT l (kW s) (j4 s) l.length<0)
theorem Nv(s:ByteArray)(l:List ByteArray)(k:Nat)(hk:200≤k):gG.f k s l=some (yu s l):=by
 unfold gG.f dP.f yu;rw[(nmOk s).par,Option.bind_some,Ru s k hk,Option.bind_some,Mc s k hk,Option.bind_some,Mc ⟨#[112]⟩ k hk,Option.bind_some,Option.bind_some,Option.bind_some];cases parL s with
 |false=>simp
 |true=>
  rw[if_pos rfl]
  by_cases h:0≤fT l [pN] (j4 pN) l.length
  ·rw[if_pos h];simp[h]
  ·rw[if_neg h];simp[h]
end Go.Proofs.aj.W7
namespace Go.Proofs.aj.W7
open Go.RowKit Go.Proofs.ah.aD Go.Proofs.ah.bJ Go.Proofs.ah.bW
attribute [local go_sem] dB dD dR dS bZ cu dF dG
def om.j0:Nat→List ByteArray→ByteArray→List ByteArray→Bool→Option (List ByteArray×Bool)
 |0,_,_,_,_=>none
 |k+1,x0,x1,x6,x15=>if x15=true then((fU.f k (⟨#[116,114]⟩:ByteArray)).bind fun t480=>((iV.f k x0 (([x1] :List ByteArray)) t480).bind fun t486=>(if t486<0 then(some (x0,false))else((some (([] :List ByteArray):List ByteArray)).bind fun y487=>(if 0≤t486 then(if t486≤(x0.length:Int)then((some (x0.take (t486:Int).toNat:List ByteArray)).bind fun y490=>(if y487.length+y490.length<8796093022208 then(some ((y487++y490),true))else(none)))else(none))else(none))))))else((iV.f k x0 (([x1] :List ByteArray)) x6).bind fun t500=>(if t500<0 then(some (x0,false))else((some (([] :List ByteArray):List ByteArray)).bind fun y501=>(if 0≤t500 then(if t500≤(x0.length:Int)then((some (x0.take (t500:Int).toNat:List ByteArray)).bind fun y504=>(if y501.length+y504.length<8796093022208 then(some ((y501++y504),true))else(none)))else(none))else(none)))))
def om.f(k:Nat)(l0:List ByteArray)(a1:ByteArray):Option (List ByteArray×Bool):=(fU.f k (⟨#[112]⟩:ByteArray)).bind fun t473=>(if a1.toList=([116,97,98,108,101] :List UInt8)then(om.j0 k l0 a1 t473 true)else((gK.f).bind fun t476=>((iB.f k t476 a1).bind fun t479=>(om.j0 k l0 a1 t473 t479))))
mutual
def iL.l0:Nat→List (S36)→List (S36)→Int→Option ((List (S36)))
 |0,_,_,_=>none
 |k+1,x0,x3,x4=>if x4<(x0.length:Int)then(iL.l1 k x0 x3 x4 true 0)else(some x3)
def iL.l1:Nat→List (S36)→List (S36)→Int→Bool→Int→Option ((List (S36)))
 |0,_,_,_,_,_=>none
 |k+1,x0,x3,x4,x5,x6=>if x6<x4 then(if x5=true then(if 0≤x6 then(if x6<(x0.length:Int)then(if 0≤x4 then(if x4<(x0.length:Int)then(iL.l1 k x0 x3 x4 (((bq x0 x6).f0).toList !=((bq x0 x4).f0).toList) (wrap64 (x6+1)))else(none))else(none))else(none))else(none))else(iL.l1 k x0 x3 x4 false (wrap64 (x6+1))))else(if x5=true then(if 0≤x4 then(if x4<(x0.length:Int)then(if x3.length<4398046511104 then(iL.l0 k x0 (x3++[(⟨(bq x0 x4).f0,(bq x0 x4).f1⟩:S36)]) (wrap64 (x4+1)))else(none))else(none))else(none))else(iL.l0 k x0 x3 (wrap64 (x4+1))))
end
def iL.f(k:Nat)(l0:List (S36)):Option ((List (S36))):=iL.l0 k l0 (([] :List (S36))) 0
def O7.f:Option (List ByteArray):=some (([(⟨#[98,111,100,121]⟩:ByteArray),(⟨#[102,114,97,109,101,115,101,116]⟩:ByteArray),(⟨#[104,101,97,100]⟩:ByteArray),(⟨#[104,116,109,108]⟩:ByteArray)] :List ByteArray))
end Go.Proofs.aj.W7
namespace Go.Proofs.aj.W7
open Go.RowKit Go.Proofs Go.Proofs.aj Go.Proofs.YtkcmghlhpbepcaaGreatDoor Go.Proofs.ah.aD
theorem eqN_iff(a b:At):eqN a b=true↔a.f0.toList=b.f0.toList:=by unfold eqN;exact beq_iff_eq
theorem tabs(s:ByteArray):nO tabR s=Lib.containsS (kW tbN) s:=by
 rw[←Fq];have e:kW tbN=[⟨#[116,98,111,100,121]⟩,⟨#[116,100]⟩,⟨#[116,102,111,111,116]⟩,⟨#[116,104]⟩,⟨#[116,104,101,97,100]⟩,⟨#[116,114]⟩]:=by kernel_rfl
 rw[e];show nO ((gK.f).getD []) s=_;simp only[gK.f,Option.getD_some,nO,List.any_cons,List.any_nil,Bool.or_false]
 try ac_rfl
def distinct(l:List At):Prop:=∀i j:Nat,(hi:i<l.length)→(hj:j<l.length)→l[i].f0.toList=l[j].f0.toList→i=j
structure Mg (x:Rw):Prop where
 kind:x.f1=0∨x.f1=1∨x.f1=2
 el:x.f1=0→x.f2.data.toList≠[]∧x.f3.data.toList=[]∧distinct x.f4
 no:x.f1≠0→x.f2.data.toList=[]∧x.f4=[]
structure Stands (st:List ByteArray) (x:Rw):Prop where
 lo:0≤x.f0
 hi:x.f0≤st.length
 ok:Mg x
 void:∀n,(st.take x.f0.toNat).getLast? =some n→kS n=false
 nest:x.f1=0→yu x.f2 (st.take x.f0.toNat)=true∧qh x.f2=false
def after(st:List ByteArray)(x:Rw):List ByteArray:=if x.f1=0 then st.take x.f0.toNat++[x.f2]else st.take x.f0.toNat
inductive Laws:List Rw→List ByteArray→Prop
 |nil:Laws [] []
 |snoc (out:List Rw) (st:List ByteArray) (x:Rw) (h:Laws out st) (hx:Stands st x):Laws (out++[x]) (after st x)
def Chain(op:List ByteArray):Prop:=∀i:Nat,(h:i<op.length)→yu op[i] (op.take i)=true∧kS op[i]=false
theorem Chain.take{op:List ByteArray}(h:Chain op)(n:Nat):Chain (op.take n):=by
 intro i hi;rw[List.length_take]at hi;have:=h i (by omega);rw[List.getElem_take,List.take_take,Nat.min_eq_left (by omega)];exact this
theorem Chain.push{op:List ByteArray}(h:Chain op){n:ByteArray}(hn:yu n op=true)(hv:kS n=false):Chain (op++[n]):=by
 intro i hi;rw[List.length_append]at hi;simp only[List.length_cons,List.length_nil]at hi
 rcases Nat.lt_or_ge i op.length with e|e
 ·rw[List.getElem_append_left e,List.take_append_of_le_length (by omega)]
  exact h i e
 ·obtain rfl:i=op.length:=by omega
  rw[List.getElem_append_right (Nat.le_refl _),List.take_append_of_le_length (Nat.le_refl _),List.take_length];simpa using⟨hn,hv⟩
structure Fits (op:List ByteArray) (out:List Rw) (st:List ByteArray):Prop where
 laws:Laws out st
 pre:op=st.take op.length
 chain:Chain op
theorem Fits.len{op:List ByteArray}{out:List Rw}{st:List ByteArray}(h:Fits op out st):op.length≤st.length:=by
 have:=congrArg List.length h.pre;rw[List.length_take]at this;omega
theorem Fits.take{op:List ByteArray}{out:List Rw}{st:List ByteArray}(h:Fits op out st)(n:Nat):Fits (op.take n) out st:=by
 refine⟨h.laws,?_,h.chain.take n⟩;have hl:=h.len;rw[List.length_take]
 conv=>lhs;rw[h.pre]
 rw[List.take_take]
theorem Fits.row{op:List ByteArray}{out:List Rw}{st:List ByteArray}(h:Fits op out st)(x:Rw)(hd:x.f0=op.length)(hk:Mg x)(hn:x.f1=0→yu x.f2 op=true∧qh x.f2=false):Stands st x:=by
 have hl:=h.len;have ht:st.take x.f0.toNat=op:=by rw[hd,Int.toNat_natCast];exact h.pre.symm
 refine⟨by omega,by omega,hk,fun n hn2=>?_,fun h0=>by rw[ht];exact hn h0⟩;rw[ht]at hn2;obtain⟨ys,rfl⟩:=List.getLast?_eq_some_iff.1 hn2;have:=(h.chain ys.length (by simp)).2;simpa using this
def isIn(L:List ByteArray)(w:ByteArray):Bool:=L.any fun x=>x.data.toList==w.data.toList
def stk(l:List Rw):List ByteArray:=l.foldl after []
def rU(x:Rw):Tk:=if x.f1=0 then⟨1,x.f2,⟨#[]⟩,x.f4,false⟩else if x.f1=1 then⟨0,⟨#[]⟩,x.f3,[],false⟩else⟨3,⟨#[]⟩,x.f3,[],false⟩
def zU(n:ByteArray):Tk:=⟨2,n,⟨#[]⟩,[],false⟩
def opA(op:List ByteArray)(x:Rw):List ByteArray:=if x.f1=0∧kS x.f2=false then op++[x.f2]else op
def emit:List Rw→List ByteArray→List Tk
 | [],op=>op.reverse.map zU
 |x::r,op=>(op.drop x.f0.toNat).reverse.map zU++rU x::emit r (opA (op.take x.f0.toNat) x)
structure JO (x:Rw) (op:List ByteArray) (out:List Rw):Prop where
 lo:0≤x.f0
 hi:x.f0≤op.length
 deep:x.f0<60
 len:out.length<4096
 kind:x.f1=0∨x.f1=1∨x.f1=2
 el:x.f1=0→x.f2.data.toList≠[]∧qh x.f2=false∧yu x.f2 (op.take x.f0.toNat)=true∧x.f3=⟨#[]⟩∧uq x.f4=x.f4
 no:x.f1≠0→x.f2=⟨#[]⟩∧x.f4=[]
 text:x.f1=1→x.f3.data.toList≠[]∧wW (op.take x.f0.toNat) out=false
def RowsFit:List Rw→List ByteArray→List Rw→Prop
 | [],_,_=>True
 |x::r,op,out=>JO x op out∧RowsFit r (opA (op.take x.f0.toNat) x) (out++[x])
def Fx(op:List ByteArray):Prop:=∀n∈op,n.data.toList≠[]∧qh n=false∧kS n=false
theorem CY{a b op:List ByteArray}(h:fT op a b op.length<0):pF a b op=op:=by
 unfold pF;rw[zF,if_pos h]
theorem Nz{s:ByteArray}{op:List ByteArray}(h:yu s op=true):jk op s=op:=by
 unfold yu at h;simp only[Bool.and_eq_true,Bool.not_eq_true',Bool.and_eq_false_iff,decide_eq_true_eq,decide_eq_false_iff_not]at h;unfold jk;rw[CY h.2]
 split
 ·rename_i hp
  rcases h.1 with h1|h1
  ·rw[h1]at hp;cases hp
  ·exact CY (by omega)
 ·rfl
theorem end_top{op:List ByteArray}{out:List Rw}{n:ByteArray}(h:n.data.toList≠[]∧qh n=false∧kS n=false):ji (op++[n]) out false n=(op,out,false):=by
 unfold ji;rw[if_neg h.1,if_neg (by rw[h.2.1];decide),if_neg (by rw[h.2.2];decide)]
 have e:fT (op++[n]) [n] (Ej n) (op++[n]).length=(op.length:Int):=by
  rw[List.length_append,List.length_cons,List.length_nil,Nat.zero_add,fT];have e1:(op++[n]).getD op.length ⟨#[]⟩=n:=by simp
  rw[e1,if_pos (by simp[Lib.containsS,Lib.idxOfS,Lib.idxFromS])]
 rw[e,if_pos (by omega),Int.toNat_natCast,List.take_append_of_le_length (Nat.le_refl _),List.take_length]
theorem Fy(rest:List Tk)(out:List Rw)(op:List ByteArray):∀(m:List ByteArray),Fx m→tq (m.map zU++rest) (op++m.reverse) out=tq rest op out
 | [],_=>by simp
 |n::m,h=>by
  have hs:kH (op++(n::m).reverse) out (zU n)=(op++m.reverse,out,false):=by
   unfold kH zU;rw[if_neg (by simp),if_neg (by simp),if_neg (by simp),if_pos (by simp),List.reverse_cons,←List.append_assoc];exact end_top (h n (by simp))
  rw[List.map_cons,List.cons_append,tq,hs,if_neg (by simp)];exact Fy rest out op m (fun k hk=>h k (by simp[hk]))
theorem GN(rest:List Tk)(out:List Rw)(ns op:List ByteArray)(h:Fx ns):tq (ns.reverse.map zU++rest) (op++ns) out=tq rest op out:=by
 have:=Fy rest out op ns.reverse (fun n hn=>h n (List.mem_reverse.1 hn))
 rwa [List.reverse_reverse]at this
theorem JQ{op:List ByteArray}{out:List Rw}(x:Rw)(h1:out.length<4096)(h2:op.length<60):pE op out false x=(out++[⟨op.length,x.f1,x.f2,x.f3,x.f4⟩],false):=by
 unfold pE;rw[if_neg (by omega)]
theorem rJ{x:Rw}{op:List ByteArray}{out:List Rw}(h:JO x op out):kH (op.take x.f0.toNat) out (rU x)=(opA (op.take x.f0.toNat) x,out++[x],false):=by
 have hl:(op.take x.f0.toNat).length=x.f0.toNat:=by rw[List.length_take];have:=h.hi;have:=h.lo;omega
 have hlo:=h.lo;have hd:=h.deep;have hx:((op.take x.f0.toNat).length:Int)=x.f0:=by rw[hl];omega
 have h60:(op.take x.f0.toNat).length<60:=by omega
 have he:=h.el;have hno:=h.no;have htx:=h.text;have hlen:=h.len;generalize op.take x.f0.toNat=op' at *;obtain⟨d,k,nm,tx,at_⟩:=x;simp only at *
 rcases h.kind with rfl|rfl|rfl
 ·obtain⟨a1,a2,a3,rfl,a5⟩:=he rfl
  have et:kH op' out (rU ⟨d,0,nm,⟨#[]⟩,at_⟩)=oJ op' out false nm at_:=by simp[kH,rU]
  rw[et];unfold oJ;rw[if_neg a1,if_neg (by rw[a2];decide),Nz a3,JQ _ hlen h60];simp only[a5,hx,opA];cases hv:kS nm<;>simp
 ·obtain⟨rfl,rfl⟩:=hno (by decide)
  obtain⟨a1,a2⟩:=htx rfl;have et:kH op' out (rU ⟨d,1,⟨#[]⟩,tx,[]⟩)=(op',jC op' out false tx):=by simp[kH,rU]
  rw[et];unfold jC;rw[if_neg a1,a2,if_neg (by decide),JQ _ hlen h60];simp[hx,opA]
 ·obtain⟨rfl,rfl⟩:=hno (by decide)
  have et:kH op' out (rU ⟨d,2,⟨#[]⟩,tx,[]⟩)=(op',pE op' out false ⟨0,2,⟨#[]⟩,tx,[]⟩):=by simp[kH,rU]
  rw[et,JQ _ hlen h60];simp[hx,opA]
theorem Ry{x:Rw}{op:List ByteArray}{out:List Rw}(h:JO x op out)(ho:Fx op):Fx (opA (op.take x.f0.toNat) x):=by
 unfold opA
 split
 ·rename_i hc
  obtain⟨a1,a2,_⟩:=h.el hc.1;intro n hn
  rcases List.mem_append.1 hn with hn|hn
  ·exact ho n (List.mem_of_mem_take hn)
  ·obtain rfl:=List.mem_singleton.1 hn
   exact⟨a1,a2,hc.2⟩
 ·exact fun n hn=>ho n (List.mem_of_mem_take hn)
theorem GQ:∀(r:List Rw) (op:List ByteArray) (out:List Rw),Fx op→RowsFit r op out→tq (emit r op) op out=some (out++r)
 | [],op,out,ho,_=>by
   have:=GN [] out op [] ho;rw[List.nil_append,List.append_nil]at this;rw[emit,this,tq,List.append_nil]
 |x::r,op,out,ho,h=>by
  obtain⟨h1,h2⟩:=h;have e:=GN (rU x::emit r (opA (op.take x.f0.toNat) x)) out (op.drop x.f0.toNat) (op.take x.f0.toNat) (fun n hn=>ho n (List.mem_of_mem_drop hn));rw[List.take_append_drop]at e;rw[emit,e,tq,rJ h1,if_neg (by simp)];rw[GQ r _ _ (Ry h1 ho) h2,List.append_assoc,List.singleton_append]
end Go.Proofs.aj.W7
namespace Go.Proofs.YtkcmghlhpbepcaaGreatDoor
open Go.Proofs
theorem JE{p:UInt8→Bool}{c:UInt8}{r:Txt}(h:p c=true):∀ {a:Txt},(∀x∈a,p x=false)→(a++c::r).findIdx p=a.length
 | [],_=>by simp[List.findIdx_cons,h]
 |x::a,ha=>by
  rw[List.cons_append,List.findIdx_cons,ha x (by simp),JE h (fun y hy=>ha y (by simp[hy]))];simp
theorem Qn{p:UInt8→Bool}:∀ {a:Txt},(∀x∈a,p x=false)→a.findIdx p=a.length
 | [],_=>rfl
 |x::a,ha=>by
  rw[List.findIdx_cons,ha x (by simp),Qn (fun y hy=>ha y (by simp[hy]))];simp
theorem run_hit{t a r q:Txt}{ts:List Tok}(ha:(60:UInt8)∉a)(ho:jN r=some (ts,q)):oZ t (a++60::r)=fC (t++a)++ts++oZ [] q:=by
 have hf:jC (a++60::r)=a.length:=JE (by decide) (fun x hx=>beq_eq_false_iff_ne.2 (fun e=>ha (by rw[←e];exact hx)));rw[Bn,hf];simp[ho]
theorem run_none{t a:Txt}(ha:(60:UInt8)∉a):oZ t a=fC (t++a):=by
 have hf:jC a=a.length:=Qn (fun x hx=>beq_eq_false_iff_ne.2 (fun e=>ha (by rw[←e];exact hx)));rw[Bn,hf];simp
theorem Jz(t:Txt):oZ t []=fC t:=by simpa using run_none (t:=t) (a:=[]) (by simp)
theorem LV{nm r:Txt}{c:UInt8}(hn:∀x∈nm,dZ x=false)(hc:dZ c=true):gF (nm++c::r)=(lD [] (c::r)).map fun q=>(⟨0,lN nm,q.1,[],q.2.1⟩,q.2.2):=by
 unfold gF;rw[JE hc hn];simp
theorem attrs_gt(acc:List (Txt×Txt))(r:Txt):lD acc (62::r)=some (acc,false,r):=by
 have hg:uE (62::r)=0:=by simp[uE,List.findIdx_cons,dM]
 rw[yI,vJ,hg];simp
def quietB:Txt→Bool
 | []=>true
 | [c]=>c !=60
 |c::d::r=>!(c==60&&d==47)&&quietB (d::r)
theorem Nq{name r:Txt}{c:UInt8}(hc:dZ c=true):gN name (60::47::(name++c::r))=true:=by
 simp[gN,hc]
def kr(l:List (Txt×Txt)):Txt:=l.flatMap fun a=>32::(a.1++61::34::(wrL true a.2++[34]))
def pq(b:Bool):Txt:=if b then [32,47]else []
def qd(o:Txt)(t:Tok):Txt:=o++t.name++kr t.attrs++pq t.self++[62]
def rP(raw:Bool)(t:Tok):Txt:=
 if t.kind=0 then(if raw then t.data else wrL false t.data)
 else if t.kind=1 then qd [60] t
 else if t.kind=2 then qd [60,47] ⟨0,t.name,[],[],false⟩
 else if t.kind=3 then [60,33,45,45]++t.data++[45,45,62]
 else if t.kind=4 then [60,33,100,111,99,116,121,112,101,32]++t.data++[62]
 else []
def uY(t:Tok):Bool:=t.kind==1&&mQ t.name
def eO(raw:Bool):List Tok→Txt
 | []=>[]
 |t::r=>rP raw t++eO (uY t) r
def JG(l:List Tok):Txt:=eO false l
structure rQ (s:Txt):Prop where
 ne:s≠[]
 low:lN s=s
 first:∀c r,s=c::r→dM c=false∧c≠47∧c≠62
 rest:∀x∈s.tail,dZ x=false∧x≠61
structure sZ (s:Txt):Prop where
 low:lN s=s
 letter:jA s=true
 all:∀x∈s,dZ x=false
theorem Qp{p:UInt8→Bool}{c:UInt8}{r:Txt}(h:p c=true):(c::r).findIdx p=0:=by simp[List.findIdx_cons,h]
theorem Qq{c:UInt8}{r:Txt}(h:dM c=false):l6 (c::r)=c::r:=by
 unfold l6;rw[Qp (by simp[h])];rfl
theorem LW{l:Txt}{n:Nat}{c:UInt8}(e:c.toNat=n)(h:hasL l n=false):c∉l:=by
 subst e;exact hasL_mem h
theorem Ro{nm v r:Txt}(hn:rQ nm):q9 (nm++61::34::(wrL true v++34::r))=((nm,v),r,true):=by
 obtain⟨c,t,rfl⟩:=List.exists_cons_of_ne_nil hn.ne
 have hk:Ac (c::t++61::34::(wrL true v++34::r))=(c::t).length:=by
  unfold Ac
  rw[List.cons_append,List.tail_cons,JE (by decide) (fun x hx=>by
   have:=hn.rest x hx;simp[this.1,this.2])]
  simp;omega
 have e1:(c::t++61::34::(wrL true v++34::r)).take (c::t).length=c::t:=List.take_left;have e2:(c::t++61::34::(wrL true v++34::r)).drop (c::t).length=61::34::(wrL true v++34::r):=List.drop_left;have e3:ig 34 (wrL true v++34::r)=(wrL true v,r,true):=NT (LW (by decide) (Af true 34 (by simp) v));unfold q9;rw[hk,e1,e2,hn.low];unfold Kh;rw[Qq (by decide)];simp only[if_true];rw[Qq (by decide)];simp[valF,e3,Hl]
theorem Nr(acc:List (Txt×Txt))(b:Bool)(r:Txt):lD acc (pq b++62::r)=some (acc,b,r):=by
 cases b with
 |false=>exact attrs_gt acc r
 |true=>
  have hg:uE (32::47::62::r)=2:=by simp[uE,List.findIdx_cons,dM]
  show lD acc (32::47::62::r)=_;rw[yI,vJ,hg];simp
theorem addA_new{acc:List (Txt×Txt)}{a:Txt×Txt}(h:∀b∈acc,b.1≠a.1):addA acc a=acc++[a]:=by
 unfold addA;rw[if_neg];rw[List.any_eq_true];rintro⟨b,hb,e⟩;exact h b hb (by simpa using e)
theorem Fb(b:Bool)(r:Txt):∀(l acc:List (Txt×Txt)),(∀a∈l,rQ a.1)→((acc++l).map Prod.fst).Nodup→lD acc (kr l++(pq b++62::r))=some (acc++l,b,r)
 | [],acc,_,_=>by simpa [kr]using Nr acc b r
 |a::l,acc,h1,h2=>by
  have ha:=h1 a (by simp);obtain⟨nm,v⟩:=a;simp only at ha;have e0:kr ((nm,v)::l)++(pq b++62::r)=32::(nm++61::34::(wrL true v++34::(kr l++(pq b++62::r)))):=by simp[kr]
  have hb:=Ro (v:=v) (r:=kr l++(pq b++62::r)) ha;obtain⟨c,t,rfl⟩:=List.exists_cons_of_ne_nil ha.ne;obtain⟨f1,f2,f3⟩:=ha.first c t rfl
  have hg:uE (32::(c::t++61::34::(wrL true v++34::(kr l++(pq b++62::r)))))=1:=by
   unfold uE;rw[List.findIdx_cons,show(!dM 32&&(32:UInt8) !=47)=false from by decide,List.cons_append,Qp (by simp[f1,f2])];simp
  have hne:∀b∈acc,b.1≠(c::t):=by
   intro x hx e;rw[List.map_append,List.nodup_append]at h2;exact h2.2.2 x.1 (List.mem_map_of_mem hx) (c::t) (by simp) e
  rw[e0,yI,hg];rw[List.cons_append]at hb⊢;simp only[List.drop_succ_cons,List.drop_zero];rw[if_neg f3,hb];simp only[if_true];rw[addA_new hne,Fb b r l _ (fun a ha=>h1 a (by simp[ha])) (by simpa using h2)];simp
theorem JH(l:List (Txt×Txt))(b:Bool)(r:Txt):∃c q,kr l++(pq b++62::r)=c::q∧dZ c=true:=by
 cases l with
 |nil=>
  cases b with
  |false=>exact⟨62,r,rfl,by decide⟩
  |true=>exact⟨32,47::62::r,rfl,by decide⟩
 |cons a l=>exact⟨32,_,rfl,by decide⟩
theorem CV{nm r:Txt}{l:List (Txt×Txt)}{b:Bool}(hn:sZ nm)(h1:∀a∈l,rQ a.1)(h2:(l.map Prod.fst).Nodup):
 gF (nm++(kr l++(pq b++62::r)))=some (⟨0,nm,l,[],b⟩,r):=by
 obtain⟨c,q,e,hc⟩:=JH l b r;have h3:=Fb b r l [] h1 (by simpa using h2);rw[e]at h3⊢;rw[LV hn.all hc,h3,hn.low];rfl
theorem Fe{s r:Txt}(h:jA s=true):jA (s++r)=true:=by
 cases s with
 |nil=>simp[jA]at h
 |cons c t=>exact h
theorem zS{nm r:Txt}{l:List (Txt×Txt)}{b:Bool}(hn:sZ nm)(h1:∀a∈l,rQ a.1)(h2:(l.map Prod.fst).Nodup):
 jN (nm++(kr l++(pq b++62::r)))=some (if mQ nm||kT nm then(⟨1,nm,l,[],b⟩::kY nm r,kL nm r)else([⟨1,nm,l,[],b⟩],r)):=by
 unfold jN;rw[if_pos (Fe hn.letter),xD,CV hn h1 h2];simp
theorem open_end{nm r:Txt}(hn:sZ nm):jN (47::(nm++62::r))=some ([⟨2,nm,[],[],false⟩],r):=by
 have h:=CV (r:=r) (l:=[]) (b:=false) hn (by simp) (by simp);simp only[kr,pq,List.flatMap_nil,List.nil_append,Bool.false_eq_true,if_false]at h;unfold jN;rw[if_neg (by simp[jA,mh]),if_pos (by simp[Lib.hasPrefix,Fe hn.letter]),List.tail_cons,xD,h];simp
theorem Rl{nm r:Txt}:ji nm (60::47::(nm++62::r))=0:=by
 rw[ji,Nq (by decide)];rfl
theorem Fa(x:Txt):(60:UInt8)∉wrL false x:=LW (by decide) (Af false 60 (by simp) x)
theorem wr_nil{q:Bool}{x:Txt}(h:x≠[]):wrL q x≠[]:=by
 intro e;have h1:=wr_ge q x;rw[e]at h1;exact h (List.eq_nil_of_length_eq_zero (by simpa using h1))
def ou(s but:Txt):Bool:=s.all (fun c=>!(dM c||(decide (65≤c.toNat)&&decide (c.toNat≤90))||c==0||but.contains c))&& !s.isEmpty
def rR(s:Txt):Bool:=ou s [47,62]&&jA s
def wY(s:Txt):Bool:=ou s [47,62,34,39,60,61]
theorem Fg{s but:Txt}(h:ou s but=true):∀c∈s,dM c=false∧¬(65≤c.toNat∧c.toNat≤90)∧c∉but:=by
 unfold ou at h;rw[Bool.and_eq_true,List.all_eq_true]at h;intro c hc;have:=h.1 c hc;simp only[Bool.not_eq_true',Bool.or_eq_false_iff,Bool.and_eq_false_iff,decide_eq_false_iff_not]at this;obtain⟨⟨⟨a1,a2⟩,a3⟩,a4⟩:=this;refine⟨a1,by omega,?_⟩;intro hm;rw[←List.contains_iff_mem]at hm;rw[hm]at a4;cases a4
theorem Fh:∀ {s:Txt},(∀c∈s,¬(65≤c.toNat∧c.toNat≤90))→lN s=s
 | [],_=>rfl
 |c::s,h=>by
  have ih:=Fh (s:=s) (fun x hx=>h x (by simp[hx]));unfold lN at *;rw[List.map_cons,ih,lowB,if_neg (h c (by simp))]
theorem Ns{s:Txt}(h:rR s=true):sZ s:=by
 unfold rR at h;rw[Bool.and_eq_true]at h;have hp:=Fg h.1;refine⟨Fh fun c hc=>(hp c hc).2.1,h.2,fun x hx=>?_⟩;obtain⟨a1,a2,a3⟩:=hp x hx;simp only[List.mem_cons,List.not_mem_nil,or_false,not_or]at a3;simp[dZ,a1,a3.1,a3.2]
theorem Rp{s:Txt}(h:wY s=true):rQ s:=by
 have h':ou s [47,62,34,39,60,61]=true:=h;have hp:=Fg h';refine⟨?_,Fh fun c hc=>(hp c hc).2.1,?_,?_⟩
 ·rintro rfl
  simp[ou]at h'
 ·rintro c r rfl
  obtain⟨a1,a2,a3⟩:=hp c (by simp);simp only[List.mem_cons,List.not_mem_nil,or_false,not_or]at a3;exact⟨a1,a3.1,a3.2.1⟩
 ·intro x hx
  obtain⟨a1,a2,a3⟩:=hp x (List.mem_of_mem_tail hx);simp only[List.mem_cons,List.not_mem_nil,or_false,not_or]at a3;exact⟨by simp[dZ,a1,a3.1,a3.2.1],a3.2.2.2.2.2⟩
def okB(c:UInt8):Bool:=!((decide (65≤c.toNat)&&decide (c.toNat≤90))||c==32||c==9||c==10||c==12||c==13||c==62)
def lowerOK(s:Txt):Bool:=s.all okB
structure NameOK (s:Txt):Prop where
 ne:s≠[]
 ok:lowerOK s=true
structure Qo (l:List (Txt×Txt)):Prop where
 each:∀a∈l,NameOK a.1
 once:(l.map Prod.fst).Nodup
structure ShapeOK (t:Tok):Prop where
 ge:0≤t.kind
 le:t.kind≤4
 tag:t.kind=1∨t.kind=2→NameOK t.name∧t.data=[]
 other:t.kind≠1→t.kind≠2→t.name=[]
 start:t.kind≠1→t.attrs=[]∧t.self=false
 text:t.kind=0→t.data≠[]
 attrs:Qo t.attrs
theorem dr_yes{p:UInt8→Bool}:∀ {s r:Txt} {c:UInt8},s.drop (s.findIdx p)=c::r→p c=true
 | [],_,_,h=>by simp at h
 |x::s,r,c,h=>by
  rw[List.findIdx_cons]at h;cases hx:p x with
  |true=>
   rw[hx]at h;simp at h;rw[←h.1];exact hx
  |false=>
   rw[hx]at h;simp at h;exact dr_yes h
theorem attrs0:Qo []:=⟨by simp,by simp⟩
theorem JF{k:Int}{d:Txt}(hk:k=3∨k=4):ShapeOK ⟨k,[],[],d,false⟩:=by
 rcases hk with rfl|rfl<;>exact⟨by simp,by simp,by simp,by simp,by simp,by simp,attrs0⟩
theorem Ql{c:UInt8}{r:Txt}:∀ {a:Txt},c∉a→ig c (a++c::r)=(a,r,true)
 | [],_=>by simp[ig]
 |x::a,h=>by
  simp only[List.mem_cons,not_or]at h;rw[List.cons_append,ig,if_neg (fun e=>h.1 e.symm),Ql h.2]
theorem JB{X sub:Txt}{i:Nat}(h:Lib.occAt X sub i=true)(k:Nat)(hk:k<sub.length):X[i+k]?=sub[k]?:=by
 obtain⟨t,ht⟩:=List.isPrefixOf_iff_prefix.1 h;rw[←List.getElem?_drop,←ht,List.getElem?_append_left hk]
structure E8 (d:Txt):Prop where
 no1:∀j,Lib.occAt d [45,45,62] j=false
 no2:∀j,Lib.occAt d [45,45,33,62] j=false
 gt:Lib.hasPrefix d [62]=false
 arrow:Lib.hasPrefix d [45,62]=false
structure DocOK (d:Txt):Prop where
 no:(62:UInt8)∉d
 trim:rM (32::d)=d
structure DV (nm:Txt) (l:List (Txt×Txt)):Prop where
 name:sZ nm
 attrs:∀a∈l,rQ a.1
 once:(l.map Prod.fst).Nodup
def Closed(nm:Txt)(r:List Tok):Prop:=r=[]∨∃q,r=⟨2,nm,[],[],false⟩::q
def LJ(nm d:Txt):Prop:=∀j,j<d.length→gN nm (d.drop j)=false
inductive Good:List Tok→Prop
 |nil:Good []
 |text {d:Txt} {r:List Tok}:d≠[]→Good r→Good (⟨0,[],[],d,false⟩::r)
 |start {nm:Txt} {l:List (Txt×Txt)} {b:Bool} {r:List Tok}:DV nm l→(mQ nm||kT nm)=false→Good r→Good (⟨1,nm,l,[],b⟩::r)
 |shut {nm:Txt} {l:List (Txt×Txt)} {b:Bool} {r:List Tok}:DV nm l→(mQ nm||kT nm)=true→Closed nm r→Good r→Good (⟨1,nm,l,[],b⟩::r)
 |full {nm:Txt} {l:List (Txt×Txt)} {b:Bool} {d:Txt} {r:List Tok}:DV nm l→(mQ nm||kT nm)=true→d≠[]→(mQ nm=true→LJ nm d)→Closed nm r→Good r→Good (⟨1,nm,l,[],b⟩::⟨0,[],[],d,false⟩::r)
 |shuts {nm:Txt} {r:List Tok}:sZ nm→Good r→Good (⟨2,nm,[],[],false⟩::r)
 |note {d:Txt} {r:List Tok}:E8 d→Good r→Good (⟨3,[],[],d,false⟩::r)
 |doct {d:Txt} {r:List Tok}:DocOK d→Good r→Good (⟨4,[],[],d,false⟩::r)
theorem cut_hit{s e:Txt}{i:Nat}(h:Lib.index s e=i):Lib.cut s e=(s.take i,s.drop (i+e.length),true):=by
 unfold Lib.cut;rw[if_pos (by omega),h];simp
theorem Np{nm x y:Txt}(h:gN nm x=true):gN nm (x++y)=true:=by
 unfold gN at h
 split at h
 ·rename_i r
  simp only[Bool.and_eq_true,decide_eq_true_eq,beq_iff_eq]at h;obtain⟨⟨h1,h2⟩,h3⟩:=h;have e1:(r++y).take nm.length=r.take nm.length:=List.take_append_of_le_length (by omega);have e2:(r++y).drop nm.length=r.drop nm.length++y:=List.drop_append_of_le_length (by omega);cases hd:r.drop nm.length with
  |nil=>rw[hd]at h3;simp at h3
  |cons c t=>
   rw[hd]at h3;simp only[List.cons_append,gN];rw[e1,h2,e2,hd];simp[h3];omega
 ·cases h
theorem Bj(nm:Txt):∀s:Txt,ji nm s≤s.length
 | []=>by simp[ji]
 |c::t=>by
  have:=Bj nm t;rw[ji]
  split
  ·omega
  ·simp only[List.length_cons];omega
theorem Bh(nm:Txt):∀(s:Txt) (j:Nat),j<ji nm s→gN nm (s.drop j)=false
 | [],j,h=>by simp[ji]at h
 |c::t,j,h=>by
  rw[ji]at h
  split at h
  ·omega
  ·rename_i hc
   cases j with
   |zero=>simpa using hc
   |succ j=>
    rw[List.drop_succ_cons];exact Bh nm t j (by omega)
theorem DU(nm:Txt):∀(s:Txt),s.drop (ji nm s)=[]∨gN nm (s.drop (ji nm s))=true
 | []=>by simp
 |c::t=>by
  rw[ji]
  split
  ·rename_i hc
   exact .inr hc
  ·rw[Nat.add_comm,List.drop_succ_cons]
   exact DU nm t
theorem raw_ok(nm s:Txt):LJ nm (s.take (ji nm s)):=by
 intro j hj;have hl:=Bj nm s;rw[List.length_take]at hj;cases hc:gN nm ((s.take (ji nm s)).drop j)with
 |false=>rfl
 |true=>
  have h1:=Np (y:=s.drop (ji nm s)) hc;rw[←List.drop_append_of_le_length (by rw[List.length_take];omega),List.take_append_drop]at h1;rw[Bh nm s j (by omega)]at h1;cases h1
theorem uZ{t r:Txt}{x:List Tok×Txt}(ho:jN r=some x):oZ t (60::r)=fC t++x.1++oZ [] x.2:=by
 have:=run_hit (t:=t) (a:=[]) (by simp) ho;simpa using this
theorem Nl(nm s:Txt):(kL nm s).length≤s.length:=by simp[kL]
end Go.Proofs.YtkcmghlhpbepcaaGreatDoor
