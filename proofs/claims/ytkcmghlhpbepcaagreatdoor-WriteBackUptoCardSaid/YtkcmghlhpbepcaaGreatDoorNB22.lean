/- Lemmas and walks, part 22. -/
import Derived.Test.YtkcmghlhpbepcaaGreatDoorNB21
set_option linter.unusedVariables false
set_option linter.unusedSimpArgs false
namespace Go.Proofs.aj.W7
open Go.RowKit Go.Proofs Go.Proofs.aj Go.Proofs.YtkcmghlhpbepcaaGreatDoor Go.Proofs.ah.aD
def goneT:List Bt:=[⟨#[98,111,100,121]⟩,⟨#[102,114,97,109,101,115,101,116]⟩,⟨#[104,101,97,100]⟩,⟨#[104,116,109,108]⟩]
def voidT:List Bt:=[[97,114,101,97],[98,97,115,101],[98,114],[99,111,108],[101,109,98,101,100],[104,114],[105,109,103],[105,110,112,117,116],[108,105,110,107],[109,101,116,97],[112,97,114,97,109],[115,111,117,114,99,101],[116,114,97,99,107],[119,98,114]].map fun l=>⟨l.toArray⟩
theorem JQ(s:Bt)(k:Nat)(hk:20≤k):gT.f k s=some (nP goneT s):=by
 unfold gT.f;rw[oV _ _ _ (by simp) (by simp;omega),Option.bind_some];rfl
theorem Qu(s:Bt)(k:Nat)(hk:20≤k):gH.f k s=some (nP voidT s):=by
 unfold gH.f;rw[oV _ _ _ (by simp) (by simp;omega),Option.bind_some];rfl
theorem yR(s:Bt):nmB s=true:=by
 unfold nmB;obtain⟨c,hc,-⟩:=L6 s 200 (by omega);obtain⟨w,hw,-⟩:=Nt s 200 (by omega);obtain⟨p,hp⟩:=par_some s;rw[hc,hw,hp,JQ _ _ (by omega),Qu _ _ (by omega)];rfl
theorem goneL_eq(s:Bt):qh s=nP goneT s:=by unfold qh;rw[JQ _ _ (by omega)];rfl
theorem Mh(s:Bt):kS s=nP voidT s:=by unfold kS;rw[Qu _ _ (by omega)];rfl
def tq:List Tk→List Bt→List Rw→Option (List Rw)
 | [],_,out=>some out
 |t::r,op,out=>if(kH op out t).2.2 then none else tq r (kH op out t).1 (kH op out t).2.1
inductive Grown (t:Tk) (out:List Rw):List Rw→Prop
 |same:Grown t out out
 |app (x:Rw) (h0:0≤x.f0) (h1:x.f0<60) (hd:qH out.getLast? x=false) (hs:x.f3.size≤t.f2.size) (ha:x.f4.length≤t.f3.length):Grown t out (out++[x])
 |text (pre:List Rw) (y:Rw) (he:out=pre++[y]) (hy:y.f1=1) (hn:t.f2.data.toList≠[]):Grown t out (pre++[addT y t.f2])
theorem GN:∀(l out:List At),(xK out l).length≤out.length+l.length
 | [],out=>by simp[xK]
 |a::r,out=>by
  simp only[xK];have:=GN r (if Eh out a then out else out++[a])
  split at this
  ·rename_i h
   rw[if_pos h];simp only[List.length_cons];omega
  ·rename_i h
   rw[if_neg h];simp only[List.length_append,List.length_cons,List.length_nil]at this⊢;omega
theorem yS(t:Tk)(op:List Bt)(out:List Rw)(x:Rw)(h:(pE op out false x).2=false)(hd:∀d,qH out.getLast? ⟨op.length,x.f1,x.f2,x.f3,d⟩=false)(hs:x.f3.size≤t.f2.size)(ha:x.f4.length≤t.f3.length):Grown t out (pE op out false x).1:=by
 have hl:=uw op out x h;unfold pE at h⊢
 split
 ·rename_i g
  rw[if_pos g]at h;cases h
 ·exact .app _ (by simp) (by simp;omega) (hd _) hs ha
theorem JR(p:Option Rw)(x:Rw)(h:x.f1≠1):qH p x=false:=by simp[qH,h]
theorem Nw(op:List Bt)(out:List Rw)(t:Tk)(h:(kH op out t).2.2=false):Grown t out (kH op out t).2.1:=by
 unfold kH at h⊢
 by_cases k0:t.f0=0
 ·rw[if_pos k0]at h⊢
  unfold jC at h⊢
  by_cases e:t.f2.data.toList=[]
  ·rw[if_pos e];exact .same
  rw[if_neg e]at h⊢;cases hj:wW op out with
  |true=>
   rw[if_pos rfl];unfold wW at hj;cases hL:out.getLast? with
   |none=>rw[hL]at hj;cases hj
   |some y=>
    rw[hL]at hj;simp only[Bool.and_eq_true,decide_eq_true_eq]at hj;have hpos:0<out.length:=by cases out with|nil=>cases hL|cons a l=>simp
    have hr:=JO out hpos;rw[hL]at hr;rw[←Option.some.inj hr];obtain⟨pre,rfl⟩:=List.getLast?_eq_some_iff.1 hL
    have:(pre++[y]).set ((pre++[y]).length - 1) (addT y t.f2)=pre++[addT y t.f2]:=by
     simp
    show Grown t _ ((pre++[y]).set ((pre++[y]).length - 1) (addT y t.f2));rw[this];exact .text pre y rfl hj.1 e
  |false=>
   rw[hj]at h;rw[if_neg (by decide)]at h⊢;refine yS t op out ⟨0,1,⟨#[]⟩,t.f2,[]⟩ h ?_ (Nat.le_refl _) (Nat.zero_le _);intro d;unfold wW at hj;simp only[qH,e,decide_true,decide_false,Bool.true_and,Bool.false_or];exact hj
 rw[if_neg k0]at h⊢
 by_cases k3:t.f0=3
 ·rw[if_pos k3]at h⊢
  exact yS t op out ⟨0,2,⟨#[]⟩,t.f2,[]⟩ h (fun d=>JR _ _ (by simp)) (Nat.le_refl _) (Nat.zero_le _)
 rw[if_neg k3]at h⊢
 by_cases k1:t.f0=1
 ·rw[if_pos k1]at h⊢
  unfold oJ at h⊢
  by_cases e1:t.f1.data.toList=[]
  ·rw[if_pos e1];exact .same
  rw[if_neg e1]at h⊢
  by_cases e2:qh t.f1=true
  ·rw[if_pos e2];exact .same
  rw[if_neg e2]at h⊢;refine yS t _ out ⟨0,0,t.f1,⟨#[]⟩,uq t.f3⟩ h (fun d=>JR _ _ (by simp)) (Nat.zero_le _) ?_;have:=GN t.f3 [];simpa [uq]using this
 rw[if_neg k1]at h⊢
 by_cases k2:t.f0=2
 ·rw[if_pos k2]at h⊢
  unfold ji at h⊢
  by_cases e1:t.f1.data.toList=[]
  ·rw[if_pos e1];exact .same
  rw[if_neg e1]at h⊢
  by_cases e2:qh t.f1=true
  ·rw[if_pos e2];exact .same
  rw[if_neg e2]at h⊢
  by_cases e3:kS t.f1=true
  ·rw[if_pos e3];exact .same
  rw[if_neg e3]at h⊢
  by_cases e4:0≤fT op [t.f1] (El t.f1) op.length
  ·rw[if_pos e4];exact .same
  rw[if_neg e4]at h⊢
  by_cases e5:t.f1.data.toList=[112]
  ·rw[if_pos e5]at h⊢
   exact yS t op out ⟨0,0,t.f1,⟨#[]⟩,[]⟩ h (fun d=>JR _ _ (by simp)) (Nat.zero_le _) (Nat.zero_le _)
  ·rw[if_neg e5];exact .same
 rw[if_neg k2];exact .same
structure Built (op:List Bt) (out:List Rw) (S:Nat):Prop where
 len:out.length≤4096
 open_:op.length≤60
 depth:∀x∈out,0≤x.f0∧x.f0<60
 normal:rT none out=true
 size:∀x∈out,x.f3.size≤S
 attrs:∀x∈out,x.f4.length≤1000000
theorem Rx:Built [] [] 0:=⟨by simp,by simp,by simp,rfl,by simp,by simp⟩
theorem ba_nil(a:Bt):a.data.toList=[]↔a.size=0:=by
 show _↔a.data.size=0;rw[←Array.length_toList,List.length_eq_zero_iff]
theorem Ny{op:List Bt}{out:List Rw}{S:Nat}(hB:Built op out S)(t:Tk)(ht:t.f3.length≤1000000)(h:(kH op out t).2.2=false):Built (kH op out t).1 (kH op out t).2.1 (S+t.f2.size):=by
 have hs:=En op out t hB.len hB.open_ h;have hg:=Nw op out t h;generalize kH op out t=R at *;obtain⟨op2,out2,big⟩:=R;simp only at hs hg h⊢;cases hg with
 |same=>exact⟨hs.1,hs.2,hB.depth,hB.normal,fun x hx=>by have:=hB.size x hx;omega,hB.attrs⟩
 |app x h0 h1 hd hz ha=>
  refine⟨hs.1,hs.2,?_,?_,?_,?_⟩
  ·intro y hy
   rcases List.mem_append.1 hy with hy|hy
   ·exact hB.depth y hy
   ·obtain rfl:=List.mem_singleton.1 hy
    exact⟨h0,h1⟩
  ·rw[Fy,hB.normal]
   simp[rT,hd]
  ·intro y hy
   rcases List.mem_append.1 hy with hy|hy
   ·have:=hB.size y hy;omega
   ·obtain rfl:=List.mem_singleton.1 hy
    omega
  ·intro y hy
   rcases List.mem_append.1 hy with hy|hy
   ·exact hB.attrs y hy
   ·obtain rfl:=List.mem_singleton.1 hy
    omega
 |text pre y he hy hn=>
  subst he;have hy0:=hB.depth y (by simp);have hy1:=hB.size y (by simp);have hy2:=hB.attrs y (by simp);refine⟨hs.1,hs.2,?_,?_,?_,?_⟩
  ·intro x hx
   rcases List.mem_append.1 hx with hx|hx
   ·exact hB.depth x (by simp[hx])
   ·obtain rfl:=List.mem_singleton.1 hx
    exact hy0
  ·have:=hB.normal
   rw[Fy]at this⊢;simp only[Bool.and_eq_true]at this⊢;refine⟨this.1,?_⟩;have h2:=this.2;simp only[rT,Bool.and_true,Bool.not_eq_true']at h2⊢;simp only[qH,hy,addT,decide_true,Bool.true_and,Bool.or_eq_false_iff,decide_eq_false_iff_not]at h2⊢;refine⟨?_,h2.2⟩;rw[ba_nil,ByteArray.size_append];rw[Ne,ba_nil]at hn;omega
  ·intro x hx
   rcases List.mem_append.1 hx with hx|hx
   ·have:=hB.size x (by simp[hx]);omega
   ·obtain rfl:=List.mem_singleton.1 hx
    show(y.f3++t.f2).size≤_;rw[ByteArray.size_append];omega
  ·intro x hx
   rcases List.mem_append.1 hx with hx|hx
   ·exact hB.attrs x (by simp[hx])
   ·obtain rfl:=List.mem_singleton.1 hx
    exact hy2
def yw(l:List Tk):Nat:=(l.map fun t=>t.f2.size).sum
theorem GQ:∀(l:List Tk) (op:List Bt) (out:List Rw) (S:Nat),Built op out S→S+yw l≤9223372036854775807→(∀t∈l,t.f3.length≤1000000)→
 CB l op out=some (match tq l op out with|none=>([],2)|some o=>(o,0))∧∀o,tq l op out=some o→∃op2,Built op2 o (S+yw l)
 | [],op,out,S,hB,_,_=>by
   simp only[CB,tq];rw[Rv out (by have:=hB.len;omega) (fun x hx=>by have:=hB.depth x hx;omega) hB.attrs hB.normal,Option.bind_some];refine⟨rfl,fun o ho=>?_⟩;obtain rfl:=Option.some.inj ho;exact⟨op,hB⟩
 |t::r,op,out,S,hB,hS,ha=>by
  have e:yw (t::r)=t.f2.size+yw r:=by simp[yw]
  rw[e]at hS⊢
  have hok:okT out t=true:=by
   unfold okT
   split
   ·unfold szB
    rw[List.all_eq_true];intro x hx;have:=hB.size x hx;exact decide_eq_true (by omega)
   ·split
    ·rw[yR,decide_eq_true (ha t (by simp))]
     rfl
    ·split
     ·exact yR _
     ·rfl
  simp only[CB,tq];rw[if_pos hok];cases hb:(kH op out t).2.2 with
  |true=>exact⟨rfl,fun o ho=>by cases ho⟩
  |false=>
   rw[if_neg (by decide),if_neg (by decide)];obtain⟨h1,h2⟩:=GQ r _ _ _ (Ny hB t (ha t (by simp)) hb) (by omega) (fun x hx=>ha x (List.mem_cons_of_mem _ hx));refine⟨h1,fun o ho=>?_⟩;obtain⟨op2,h3⟩:=h2 o ho;exact⟨op2,by rw[←Nat.add_assoc];exact h3⟩
theorem tree_f(l:List Tk)(hS:yw l≤9223372036854775807)(ha:∀t∈l,t.f3.length≤1000000):
 j5.f l=some (match tq l [] []with|none=>([],2)|some o=>(o,0)):=by
 unfold j5.f;rw[yR,yR,yR];exact(GQ l [] [] 0 Rx (by omega) ha).1
theorem nmOk(s:Bt):NmOk s:=BN (yR s)
theorem up_to{α:Type}{f:Nat→Option α}(hm:∀k,LeO (f k) (f (k+1))){n:Nat}{b:α}(h:f n=some b):∀k,n≤k→f k=some b:=by
 intro k hk;obtain⟨d,rfl⟩:∃d,k=n+d:=⟨k - n,by omega⟩
 induction d with
 |zero=>exact h
 |succ d ih=>exact hm (n+d) _ (ih (by omega))
theorem Ru(s:Bt)(k:Nat)(hk:200≤k):bH.f k s=some (kV s):=up_to (f:=fun k=>bH.f k s) (fun k=>bH.mono s k) (nmOk s).closes k hk
theorem Me(s:Bt)(k:Nat)(hk:200≤k):cB.f k s=some (j4 s):=up_to (f:=fun k=>cB.f k s) (fun k=>cB.mono s k) (nmOk s).walls k hk
def yu(s:Bt)(l:List Bt):Bool:=!(parL s&&decide (0≤fT l [pN] (j4 pN) l.length))&&decide (fT l (kV s) (j4 s) l.length<0)
theorem Nv(s:Bt)(l:List Bt)(k:Nat)(hk:200≤k):gG.f k s l=some (yu s l):=by
 unfold gG.f dP.f yu;rw[(nmOk s).par,Option.bind_some,Ru s k hk,Option.bind_some,Me s k hk,Option.bind_some,Me ⟨#[112]⟩ k hk,Option.bind_some,Option.bind_some,Option.bind_some];cases parL s with
 |false=>simp
 |true=>
  rw[if_pos rfl]
  by_cases h:0≤fT l [pN] (j4 pN) l.length
  ·rw[if_pos h];simp[h]
  ·rw[if_neg h];simp[h]
end Go.Proofs.aj.W7
namespace Go.Proofs.aj.W7
open Go.RowKit Go.Proofs.ah.aD Go.Proofs.ah.bJ Go.Proofs.ah.bW
attribute [local go_sem] dB dD dR dS bZ cu dF dG
def om.j0:Nat→List Bt→Bt→List Bt→Bool→Option (List Bt×Bool)
 |0,_,_,_,_=>none
 |k+1,x0,x1,x6,x15=>if x15=true then((fU.f k (⟨#[116,114]⟩:Bt)).bind fun t480=>((iV.f k x0 (([x1] :List Bt)) t480).bind fun t486=>(if t486<0 then(some (x0,false))else((some (([] :List Bt):List Bt)).bind fun y487=>(if 0≤t486 then(if t486≤(x0.length:Int)then((some (x0.take (t486:Int).toNat:List Bt)).bind fun y490=>(if y487.length+y490.length<8796093022208 then(some ((y487++y490),true))else(none)))else(none))else(none))))))else((iV.f k x0 (([x1] :List Bt)) x6).bind fun t500=>(if t500<0 then(some (x0,false))else((some (([] :List Bt):List Bt)).bind fun y501=>(if 0≤t500 then(if t500≤(x0.length:Int)then((some (x0.take (t500:Int).toNat:List Bt)).bind fun y504=>(if y501.length+y504.length<8796093022208 then(some ((y501++y504),true))else(none)))else(none))else(none)))))
def om.f(k:Nat)(l0:List Bt)(a1:Bt):Option (List Bt×Bool):=(fU.f k (⟨#[112]⟩:Bt)).bind fun t473=>(if a1.toList=([116,97,98,108,101] :List UInt8)then(om.j0 k l0 a1 t473 true)else((gK.f).bind fun t476=>((iB.f k t476 a1).bind fun t479=>(om.j0 k l0 a1 t473 t479))))
mutual
def iL.l0:Nat→List (S36)→List (S36)→Int→Option ((List (S36)))
 |0,_,_,_=>none
 |k+1,x0,x3,x4=>if x4<(x0.length:Int)then(iL.l1 k x0 x3 x4 true 0)else(some x3)
def iL.l1:Nat→List (S36)→List (S36)→Int→Bool→Int→Option ((List (S36)))
 |0,_,_,_,_,_=>none
 |k+1,x0,x3,x4,x5,x6=>if x6<x4 then(if x5=true then(if 0≤x6 then(if x6<(x0.length:Int)then(if 0≤x4 then(if x4<(x0.length:Int)then(iL.l1 k x0 x3 x4 (((bq x0 x6).f0).toList !=((bq x0 x4).f0).toList) (wrap64 (x6+1)))else(none))else(none))else(none))else(none))else(iL.l1 k x0 x3 x4 false (wrap64 (x6+1))))else(if x5=true then(if 0≤x4 then(if x4<(x0.length:Int)then(if x3.length<4398046511104 then(iL.l0 k x0 (x3++[(⟨(bq x0 x4).f0,(bq x0 x4).f1⟩:S36)]) (wrap64 (x4+1)))else(none))else(none))else(none))else(iL.l0 k x0 x3 (wrap64 (x4+1))))
end
def iL.f(k:Nat)(l0:List (S36)):Option ((List (S36))):=iL.l0 k l0 (([] :List (S36))) 0
def O7.f:Option (List Bt):=some (([(⟨#[98,111,100,121]⟩:Bt),(⟨#[102,114,97,109,101,115,101,116]⟩:Bt),(⟨#[104,101,97,100]⟩:Bt),(⟨#[104,116,109,108]⟩:Bt)] :List Bt))
def AB.f:Option (List Bt):=some (([(⟨#[97,114,101,97]⟩:Bt),(⟨#[98,97,115,101]⟩:Bt),(⟨#[98,114]⟩:Bt),(⟨#[99,111,108]⟩:Bt),(⟨#[101,109,98,101,100]⟩:Bt),(⟨#[104,114]⟩:Bt),(⟨#[105,109,103]⟩:Bt),(⟨#[105,110,112,117,116]⟩:Bt),(⟨#[108,105,110,107]⟩:Bt),(⟨#[109,101,116,97]⟩:Bt),(⟨#[112,97,114,97,109]⟩:Bt),(⟨#[115,111,117,114,99,101]⟩:Bt),(⟨#[116,114,97,99,107]⟩:Bt),(⟨#[119,98,114]⟩:Bt)] :List Bt))
end Go.Proofs.aj.W7
namespace Go.Proofs.aj.W7
open Go.RowKit Go.Proofs Go.Proofs.aj Go.Proofs.YtkcmghlhpbepcaaGreatDoor Go.Proofs.ah.aD
theorem eqN_iff(a b:At):eqN a b=true↔a.f0.toList=b.f0.toList:=by unfold eqN;exact beq_iff_eq
theorem tabs(s:Bt):nP tabR s=Lib.containsS (kV tbN) s:=by
 rw[←Fv];have e:kV tbN=[⟨#[116,98,111,100,121]⟩,⟨#[116,100]⟩,⟨#[116,102,111,111,116]⟩,⟨#[116,104]⟩,⟨#[116,104,101,97,100]⟩,⟨#[116,114]⟩]:=by kernel_rfl
 rw[e];show nP ((gK.f).getD []) s=_;simp only[gK.f,Option.getD_some,nP,List.any_cons,List.any_nil,Bool.or_false]
 try ac_rfl
def distinct(l:List At):Prop:=∀i j:Nat,(hi:i<l.length)→(hj:j<l.length)→l[i].f0.toList=l[j].f0.toList→i=j
structure Mi (x:Rw):Prop where
 kind:x.f1=0∨x.f1=1∨x.f1=2
 el:x.f1=0→x.f2.data.toList≠[]∧x.f3.data.toList=[]∧distinct x.f4
 no:x.f1≠0→x.f2.data.toList=[]∧x.f4=[]
structure Stands (st:List Bt) (x:Rw):Prop where
 lo:0≤x.f0
 hi:x.f0≤st.length
 ok:Mi x
 void:∀n,(st.take x.f0.toNat).getLast? =some n→kS n=false
 nest:x.f1=0→yu x.f2 (st.take x.f0.toNat)=true∧qh x.f2=false
def after(st:List Bt)(x:Rw):List Bt:=if x.f1=0 then st.take x.f0.toNat++[x.f2]else st.take x.f0.toNat
inductive Laws:List Rw→List Bt→Prop
 |nil:Laws [] []
 |snoc (out:List Rw) (st:List Bt) (x:Rw) (h:Laws out st) (hx:Stands st x):Laws (out++[x]) (after st x)
def Chain(op:List Bt):Prop:=∀i:Nat,(h:i<op.length)→yu op[i] (op.take i)=true∧kS op[i]=false
theorem Chain.take{op:List Bt}(h:Chain op)(n:Nat):Chain (op.take n):=by
 intro i hi;rw[List.length_take]at hi;have:=h i (by omega);rw[List.getElem_take,List.take_take,Nat.min_eq_left (by omega)];exact this
theorem Chain.push{op:List Bt}(h:Chain op){n:Bt}(hn:yu n op=true)(hv:kS n=false):Chain (op++[n]):=by
 intro i hi;rw[List.length_append]at hi;simp only[List.length_cons,List.length_nil]at hi
 rcases Nat.lt_or_ge i op.length with e|e
 ·rw[List.getElem_append_left e,List.take_append_of_le_length (by omega)]
  exact h i e
 ·obtain rfl:i=op.length:=by omega
  rw[List.getElem_append_right (Nat.le_refl _),List.take_append_of_le_length (Nat.le_refl _),List.take_length];simpa using⟨hn,hv⟩
structure Fits (op:List Bt) (out:List Rw) (st:List Bt):Prop where
 laws:Laws out st
 pre:op=st.take op.length
 chain:Chain op
theorem Fits.len{op:List Bt}{out:List Rw}{st:List Bt}(h:Fits op out st):op.length≤st.length:=by
 have:=congrArg List.length h.pre;rw[List.length_take]at this;omega
theorem Fits.take{op:List Bt}{out:List Rw}{st:List Bt}(h:Fits op out st)(n:Nat):Fits (op.take n) out st:=by
 refine⟨h.laws,?_,h.chain.take n⟩;have hl:=h.len;rw[List.length_take]
 conv=>lhs;rw[h.pre]
 rw[List.take_take]
theorem Fits.row{op:List Bt}{out:List Rw}{st:List Bt}(h:Fits op out st)(x:Rw)(hd:x.f0=op.length)(hk:Mi x)(hn:x.f1=0→yu x.f2 op=true∧qh x.f2=false):Stands st x:=by
 have hl:=h.len;have ht:st.take x.f0.toNat=op:=by rw[hd,Int.toNat_natCast];exact h.pre.symm
 refine⟨by omega,by omega,hk,fun n hn2=>?_,fun h0=>by rw[ht];exact hn h0⟩;rw[ht]at hn2;obtain⟨ys,rfl⟩:=List.getLast?_eq_some_iff.1 hn2;have:=(h.chain ys.length (by simp)).2;simpa using this
def isIn(L:List Bt)(w:Bt):Bool:=L.any fun x=>x.data.toList==w.data.toList
end Go.Proofs.aj.W7
