/- Lemmas and walks, part 16. -/
import Derived.Test.YtkcmghlhpbepcaaGreatDoorNB15
set_option linter.unusedVariables false
set_option linter.unusedSimpArgs false
namespace Go.Proofs.aj.W7
open Go.RowKit Go.Proofs Go.Proofs.aj Go.Proofs.YtkcmghlhpbepcaaGreatDoor Go.Proofs.ah.aD
def goneT:List ByteArray:=[⟨#[98,111,100,121]⟩,⟨#[102,114,97,109,101,115,101,116]⟩,⟨#[104,101,97,100]⟩,⟨#[104,116,109,108]⟩]
def voidT:List ByteArray:=[[97,114,101,97],[98,97,115,101],[98,114],[99,111,108],[101,109,98,101,100],[104,114],[105,109,103],[105,110,112,117,116],[108,105,110,107],[109,101,116,97],[112,97,114,97,109],[115,111,117,114,99,101],[116,114,97,99,107],[119,98,114]].map fun l=>⟨l.toArray⟩
theorem Jf(s:ByteArray)(k:Nat)(hk:20≤k):iF.f k s=some (nM goneT s):=by
 unfold iF.f;rw[qG _ _ _ (by simp) (by simp;omega),Option.bind_some];rfl
theorem Pz(s:ByteArray)(k:Nat)(hk:20≤k):gD.f k s=some (nM voidT s):=by
 unfold gD.f;rw[qG _ _ _ (by simp) (by simp;omega),Option.bind_some];rfl
theorem yB(s:ByteArray):nmB s=true:=by
 unfold nmB;obtain⟨c,hc,-⟩:=K8 s 200 (by omega);obtain⟨w,hw,-⟩:=MG s 200 (by omega);obtain⟨p,hp⟩:=par_some s;rw[hc,hw,hp,Jf _ _ (by omega),Pz _ _ (by omega)];rfl
theorem goneL_eq(s:ByteArray):pW s=nM goneT s:=by unfold pW;rw[Jf _ _ (by omega)];rfl
theorem Lg(s:ByteArray):kJ s=nM voidT s:=by unfold kJ;rw[Pz _ _ (by omega)];rfl
def sH:List Tk→List ByteArray→List Rw→Option (List Rw)
 | [],_,out=>some out
 |t::r,op,out=>if(ku op out t).2.2 then none else sH r (ku op out t).1 (ku op out t).2.1
inductive Grown (t:Tk) (out:List Rw):List Rw→Prop
 |same:Grown t out out
 |app (x:Rw) (h0:0≤x.f0) (h1:x.f0<60) (hd:xO out.getLast? x=false) (hs:x.f3.size≤t.f2.size) (ha:x.f4.length≤t.f3.length):Grown t out (out++[x])
 |text (pre:List Rw) (y:Rw) (he:out=pre++[y]) (hy:y.f1=1) (hn:t.f2.data.toList≠[]):Grown t out (pre++[addT y t.f2])
theorem Gc:∀(l out:List At),(wY out l).length≤out.length+l.length
 | [],out=>by simp[wY]
 |a::r,out=>by
  simp only[wY];have:=Gc r (if DN out a then out else out++[a])
  split at this
  ·rename_i h
   rw[if_pos h];simp only[List.length_cons];omega
  ·rename_i h
   rw[if_neg h];simp only[List.length_append,List.length_cons,List.length_nil]at this⊢;omega
theorem yC(t:Tk)(op:List ByteArray)(out:List Rw)(x:Rw)(h:(oQ op out false x).2=false)(hd:∀d,xO out.getLast? ⟨op.length,x.f1,x.f2,x.f3,d⟩=false)(hs:x.f3.size≤t.f2.size)(ha:x.f4.length≤t.f3.length):Grown t out (oQ op out false x).1:=by
 have hl:=tL op out x h;unfold oQ at h⊢
 split
 ·rename_i g
  rw[if_pos g]at h;cases h
 ·exact .app _ (by simp) (by simp;omega) (hd _) hs ha
theorem Jg(p:Option Rw)(x:Rw)(h:x.f1≠1):xO p x=false:=by simp[xO,h]
theorem MJ(op:List ByteArray)(out:List Rw)(t:Tk)(h:(ku op out t).2.2=false):Grown t out (ku op out t).2.1:=by
 unfold ku at h⊢
 by_cases k0:t.f0=0
 ·rw[if_pos k0]at h⊢
  unfold jv at h⊢
  by_cases e:t.f2.data.toList=[]
  ·rw[if_pos e];exact .same
  rw[if_neg e]at h⊢;cases hj:wG op out with
  |true=>
   rw[if_pos rfl];unfold wG at hj;cases hL:out.getLast? with
   |none=>rw[hL]at hj;cases hj
   |some y=>
    rw[hL]at hj;simp only[Bool.and_eq_true,decide_eq_true_eq]at hj;have hpos:0<out.length:=by cases out with|nil=>cases hL|cons a l=>simp
    have hr:=Px out hpos;rw[hL]at hr;rw[←Option.some.inj hr];obtain⟨pre,rfl⟩:=List.getLast?_eq_some_iff.1 hL
    have:(pre++[y]).set ((pre++[y]).length - 1) (addT y t.f2)=pre++[addT y t.f2]:=by
     simp
    show Grown t _ ((pre++[y]).set ((pre++[y]).length - 1) (addT y t.f2));rw[this];exact .text pre y rfl hj.1 e
  |false=>
   rw[hj]at h;rw[if_neg (by decide)]at h⊢;refine yC t op out ⟨0,1,⟨#[]⟩,t.f2,[]⟩ h ?_ (Nat.le_refl _) (Nat.zero_le _);intro d;unfold wG at hj;simp only[xO,e,decide_true,decide_false,Bool.true_and,Bool.false_or];exact hj
 rw[if_neg k0]at h⊢
 by_cases k3:t.f0=3
 ·rw[if_pos k3]at h⊢
  exact yC t op out ⟨0,2,⟨#[]⟩,t.f2,[]⟩ h (fun d=>Jg _ _ (by simp)) (Nat.le_refl _) (Nat.zero_le _)
 rw[if_neg k3]at h⊢
 by_cases k1:t.f0=1
 ·rw[if_pos k1]at h⊢
  unfold oq at h⊢
  by_cases e1:t.f1.data.toList=[]
  ·rw[if_pos e1];exact .same
  rw[if_neg e1]at h⊢
  by_cases e2:pW t.f1=true
  ·rw[if_pos e2];exact .same
  rw[if_neg e2]at h⊢;refine yC t _ out ⟨0,0,t.f1,⟨#[]⟩,tK t.f3⟩ h (fun d=>Jg _ _ (by simp)) (Nat.zero_le _) ?_;have:=Gc t.f3 [];simpa [tK]using this
 rw[if_neg k1]at h⊢
 by_cases k2:t.f0=2
 ·rw[if_pos k2]at h⊢
  unfold jg at h⊢
  by_cases e1:t.f1.data.toList=[]
  ·rw[if_pos e1];exact .same
  rw[if_neg e1]at h⊢
  by_cases e2:pW t.f1=true
  ·rw[if_pos e2];exact .same
  rw[if_neg e2]at h⊢
  by_cases e3:kJ t.f1=true
  ·rw[if_pos e3];exact .same
  rw[if_neg e3]at h⊢
  by_cases e4:0≤fP op [t.f1] (DU t.f1) op.length
  ·rw[if_pos e4];exact .same
  rw[if_neg e4]at h⊢
  by_cases e5:t.f1.data.toList=[112]
  ·rw[if_pos e5]at h⊢
   exact yC t op out ⟨0,0,t.f1,⟨#[]⟩,[]⟩ h (fun d=>Jg _ _ (by simp)) (Nat.zero_le _) (Nat.zero_le _)
  ·rw[if_neg e5];exact .same
 rw[if_neg k2];exact .same
structure Built (op:List ByteArray) (out:List Rw) (S:Nat):Prop where
 len:out.length≤4096
 open_:op.length≤60
 depth:∀x∈out,0≤x.f0∧x.f0<60
 normal:zA none out=true
 size:∀x∈out,x.f3.size≤S
 attrs:∀x∈out,x.f4.length≤1000000
theorem QC:Built [] [] 0:=⟨by simp,by simp,by simp,rfl,by simp,by simp⟩
theorem ba_nil(a:ByteArray):a.data.toList=[]↔a.size=0:=by
 show _↔a.data.size=0;rw[←Array.length_toList,List.length_eq_zero_iff]
theorem MK{op:List ByteArray}{out:List Rw}{S:Nat}(hB:Built op out S)(t:Tk)(ht:t.f3.length≤1000000)(h:(ku op out t).2.2=false):Built (ku op out t).1 (ku op out t).2.1 (S+t.f2.size):=by
 have hs:=DW op out t hB.len hB.open_ h;have hg:=MJ op out t h;generalize ku op out t=R at *;obtain⟨op2,out2,big⟩:=R;simp only at hs hg h⊢;cases hg with
 |same=>exact⟨hs.1,hs.2,hB.depth,hB.normal,fun x hx=>by have:=hB.size x hx;omega,hB.attrs⟩
 |app x h0 h1 hd hz ha=>
  refine⟨hs.1,hs.2,?_,?_,?_,?_⟩
  ·intro y hy
   rcases List.mem_append.1 hy with hy|hy
   ·exact hB.depth y hy
   ·obtain rfl:=List.mem_singleton.1 hy
    exact⟨h0,h1⟩
  ·rw[EP,hB.normal]
   simp[zA,hd]
  ·intro y hy
   rcases List.mem_append.1 hy with hy|hy
   ·have:=hB.size y hy;omega
   ·obtain rfl:=List.mem_singleton.1 hy
    omega
  ·intro y hy
   rcases List.mem_append.1 hy with hy|hy
   ·exact hB.attrs y hy
   ·obtain rfl:=List.mem_singleton.1 hy
    omega
 |text pre y he hy hn=>
  subst he;have hy0:=hB.depth y (by simp);have hy1:=hB.size y (by simp);have hy2:=hB.attrs y (by simp);refine⟨hs.1,hs.2,?_,?_,?_,?_⟩
  ·intro x hx
   rcases List.mem_append.1 hx with hx|hx
   ·exact hB.depth x (by simp[hx])
   ·obtain rfl:=List.mem_singleton.1 hx
    exact hy0
  ·have:=hB.normal
   rw[EP]at this⊢;simp only[Bool.and_eq_true]at this⊢;refine⟨this.1,?_⟩;have h2:=this.2;simp only[zA,Bool.and_true,Bool.not_eq_true']at h2⊢;simp only[xO,hy,addT,decide_true,Bool.true_and,Bool.or_eq_false_iff,decide_eq_false_iff_not]at h2⊢;refine⟨?_,h2.2⟩;rw[ba_nil,ByteArray.size_append];rw[Ne,ba_nil]at hn;omega
  ·intro x hx
   rcases List.mem_append.1 hx with hx|hx
   ·have:=hB.size x (by simp[hx]);omega
   ·obtain rfl:=List.mem_singleton.1 hx
    show(y.f3++t.f2).size≤_;rw[ByteArray.size_append];omega
  ·intro x hx
   rcases List.mem_append.1 hx with hx|hx
   ·exact hB.attrs x (by simp[hx])
   ·obtain rfl:=List.mem_singleton.1 hx
    exact hy2
def xP(l:List Tk):Nat:=(l.map fun t=>t.f2.size).sum
theorem Gd:∀(l:List Tk) (op:List ByteArray) (out:List Rw) (S:Nat),Built op out S→S+xP l≤9223372036854775807→(∀t∈l,t.f3.length≤1000000)→
 Cb l op out=some (match sH l op out with|none=>([],2)|some o=>(o,0))∧∀o,sH l op out=some o→∃op2,Built op2 o (S+xP l)
 | [],op,out,S,hB,_,_=>by
   simp only[Cb,sH];rw[QB out (by have:=hB.len;omega) (fun x hx=>by have:=hB.depth x hx;omega) hB.attrs hB.normal,Option.bind_some];refine⟨rfl,fun o ho=>?_⟩;obtain rfl:=Option.some.inj ho;exact⟨op,hB⟩
 |t::r,op,out,S,hB,hS,ha=>by
  have e:xP (t::r)=t.f2.size+xP r:=by simp[xP]
  rw[e]at hS⊢
  have hok:okT out t=true:=by
   unfold okT
   split
   ·unfold szB
    rw[List.all_eq_true];intro x hx;have:=hB.size x hx;exact decide_eq_true (by omega)
   ·split
    ·rw[yB,decide_eq_true (ha t (by simp))]
     rfl
    ·split
     ·exact yB _
     ·rfl
  simp only[Cb,sH];rw[if_pos hok];cases hb:(ku op out t).2.2 with
  |true=>exact⟨rfl,fun o ho=>by cases ho⟩
  |false=>
   rw[if_neg (by decide),if_neg (by decide)];obtain⟨h1,h2⟩:=Gd r _ _ _ (MK hB t (ha t (by simp)) hb) (by omega) (fun x hx=>ha x (List.mem_cons_of_mem _ hx));refine⟨h1,fun o ho=>?_⟩;obtain⟨op2,h3⟩:=h2 o ho;exact⟨op2,by rw[←Nat.add_assoc];exact h3⟩
theorem tree_f(l:List Tk)(hS:xP l≤9223372036854775807)(ha:∀t∈l,t.f3.length≤1000000):
 jV.f l=some (match sH l [] []with|none=>([],2)|some o=>(o,0)):=by
 unfold jV.f;rw[yB,yB,yB];exact(Gd l [] [] 0 QC (by omega) ha).1
theorem nmOk(s:ByteArray):NmOk s:=Bo (yB s)
theorem up_to{α:Type}{f:Nat→Option α}(hm:∀k,LeO (f k) (f (k+1))){n:Nat}{b:α}(h:f n=some b):∀k,n≤k→f k=some b:=by
 intro k hk;obtain⟨d,rfl⟩:∃d,k=n+d:=⟨k - n,by omega⟩
 induction d with
 |zero=>exact h
 |succ d ih=>exact hm (n+d) _ (ih (by omega))
theorem QA(s:ByteArray)(k:Nat)(hk:200≤k):bM.f k s=some (kM s):=up_to (f:=fun k=>bM.f k s) (fun k=>bM.mono s k) (nmOk s).closes k hk
theorem Le(s:ByteArray)(k:Nat)(hk:200≤k):cK.f k s=some (jU s):=up_to (f:=fun k=>cK.f k s) (fun k=>cK.mono s k) (nmOk s).walls k hk
def xM(s:ByteArray)(l:List ByteArray):Bool:=!(parL s&&decide (0≤fP l [pN] (jU pN) l.length))&&decide (fP l (kM s) (jU s) l.length<0)
theorem MI(s:ByteArray)(l:List ByteArray)(k:Nat)(hk:200≤k):ig.f k s l=some (xM s l):=by
 unfold ig.f dR.f xM;rw[(nmOk s).par,Option.bind_some,QA s k hk,Option.bind_some,Le s k hk,Option.bind_some,Le ⟨#[112]⟩ k hk,Option.bind_some,Option.bind_some,Option.bind_some];cases parL s with
 |false=>simp
 |true=>
  rw[if_pos rfl]
  by_cases h:0≤fP l [pN] (jU pN) l.length
  ·rw[if_pos h];simp[h]
  ·rw[if_neg h];simp[h]
end Go.Proofs.aj.W7
namespace Go.Proofs.aj.W7
open Go.RowKit Go.Proofs.ah.aD Go.Proofs.ah.bH Go.Proofs.ah.bV
attribute [local go_sem] dA dB dP dQ bY bZ dD dF
def nS.j0:Nat→List ByteArray→ByteArray→List ByteArray→Bool→Option (List ByteArray×Bool)
 |0,_,_,_,_=>none
 |k+1,x0,x1,x6,x15=>if x15=true then((fQ.f k (⟨#[116,114]⟩:ByteArray)).bind fun t480=>((iR.f k x0 (([x1] :List ByteArray)) t480).bind fun t486=>(if t486<0 then(some (x0,false))else((some (([] :List ByteArray):List ByteArray)).bind fun y487=>(if 0≤t486 then(if t486≤(x0.length:Int)then((some (x0.take (t486:Int).toNat:List ByteArray)).bind fun y490=>(if y487.length+y490.length<8796093022208 then(some ((y487++y490),true))else(none)))else(none))else(none))))))else((iR.f k x0 (([x1] :List ByteArray)) x6).bind fun t500=>(if t500<0 then(some (x0,false))else((some (([] :List ByteArray):List ByteArray)).bind fun y501=>(if 0≤t500 then(if t500≤(x0.length:Int)then((some (x0.take (t500:Int).toNat:List ByteArray)).bind fun y504=>(if y501.length+y504.length<8796093022208 then(some ((y501++y504),true))else(none)))else(none))else(none)))))
def nS.f(k:Nat)(l0:List ByteArray)(a1:ByteArray):Option (List ByteArray×Bool):=(fQ.f k (⟨#[112]⟩:ByteArray)).bind fun t473=>(if a1.toList=([116,97,98,108,101] :List UInt8)then(nS.j0 k l0 a1 t473 true)else((gH.f).bind fun t476=>((iq.f k t476 a1).bind fun t479=>(nS.j0 k l0 a1 t473 t479))))
mutual
def iI.l0:Nat→List (S36)→List (S36)→Int→Option ((List (S36)))
 |0,_,_,_=>none
 |k+1,x0,x3,x4=>if x4<(x0.length:Int)then(iI.l1 k x0 x3 x4 true 0)else(some x3)
def iI.l1:Nat→List (S36)→List (S36)→Int→Bool→Int→Option ((List (S36)))
 |0,_,_,_,_,_=>none
 |k+1,x0,x3,x4,x5,x6=>if x6<x4 then(if x5=true then(if 0≤x6 then(if x6<(x0.length:Int)then(if 0≤x4 then(if x4<(x0.length:Int)then(iI.l1 k x0 x3 x4 (((bg x0 x6).f0).toList !=((bg x0 x4).f0).toList) (wrap64 (x6+1)))else(none))else(none))else(none))else(none))else(iI.l1 k x0 x3 x4 false (wrap64 (x6+1))))else(if x5=true then(if 0≤x4 then(if x4<(x0.length:Int)then(if x3.length<4398046511104 then(iI.l0 k x0 (x3++[(⟨(bg x0 x4).f0,(bg x0 x4).f1⟩:S36)]) (wrap64 (x4+1)))else(none))else(none))else(none))else(iI.l0 k x0 x3 (wrap64 (x4+1))))
end
def iI.f(k:Nat)(l0:List (S36)):Option ((List (S36))):=iI.l0 k l0 (([] :List (S36))) 0
def Od.f:Option (List ByteArray):=some (([(⟨#[98,111,100,121]⟩:ByteArray),(⟨#[102,114,97,109,101,115,101,116]⟩:ByteArray),(⟨#[104,101,97,100]⟩:ByteArray),(⟨#[104,116,109,108]⟩:ByteArray)] :List ByteArray))
def Ac.f:Option (List ByteArray):=some (([(⟨#[97,114,101,97]⟩:ByteArray),(⟨#[98,97,115,101]⟩:ByteArray),(⟨#[98,114]⟩:ByteArray),(⟨#[99,111,108]⟩:ByteArray),(⟨#[101,109,98,101,100]⟩:ByteArray),(⟨#[104,114]⟩:ByteArray),(⟨#[105,109,103]⟩:ByteArray),(⟨#[105,110,112,117,116]⟩:ByteArray),(⟨#[108,105,110,107]⟩:ByteArray),(⟨#[109,101,116,97]⟩:ByteArray),(⟨#[112,97,114,97,109]⟩:ByteArray),(⟨#[115,111,117,114,99,101]⟩:ByteArray),(⟨#[116,114,97,99,107]⟩:ByteArray),(⟨#[119,98,114]⟩:ByteArray)] :List ByteArray))
end Go.Proofs.aj.W7
namespace Go.Proofs.aj.W7
open Go.RowKit Go.Proofs Go.Proofs.aj Go.Proofs.YtkcmghlhpbepcaaGreatDoor Go.Proofs.ah.aD
theorem eqN_iff(a b:At):eqN a b=true↔a.f0.toList=b.f0.toList:=by unfold eqN;exact beq_iff_eq
theorem tabs(s:ByteArray):nM tabR s=Lib.containsS (kM tbN) s:=by
 rw[←EN];have e:kM tbN=[⟨#[116,98,111,100,121]⟩,⟨#[116,100]⟩,⟨#[116,102,111,111,116]⟩,⟨#[116,104]⟩,⟨#[116,104,101,97,100]⟩,⟨#[116,114]⟩]:=by kernel_rfl
 rw[e];show nM ((gH.f).getD []) s=_;simp only[gH.f,Option.getD_some,nM,List.any_cons,List.any_nil,Bool.or_false]
 try ac_rfl
def distinct(l:List At):Prop:=∀i j:Nat,(hi:i<l.length)→(hj:j<l.length)→l[i].f0.toList=l[j].f0.toList→i=j
structure Lh (x:Rw):Prop where
 kind:x.f1=0∨x.f1=1∨x.f1=2
 el:x.f1=0→x.f2.data.toList≠[]∧x.f3.data.toList=[]∧distinct x.f4
 no:x.f1≠0→x.f2.data.toList=[]∧x.f4=[]
structure Stands (st:List ByteArray) (x:Rw):Prop where
 lo:0≤x.f0
 hi:x.f0≤st.length
 ok:Lh x
 void:∀n,(st.take x.f0.toNat).getLast? =some n→kJ n=false
 nest:x.f1=0→xM x.f2 (st.take x.f0.toNat)=true∧pW x.f2=false
def after(st:List ByteArray)(x:Rw):List ByteArray:=if x.f1=0 then st.take x.f0.toNat++[x.f2]else st.take x.f0.toNat
inductive Laws:List Rw→List ByteArray→Prop
 |nil:Laws [] []
 |snoc (out:List Rw) (st:List ByteArray) (x:Rw) (h:Laws out st) (hx:Stands st x):Laws (out++[x]) (after st x)
def Chain(op:List ByteArray):Prop:=∀i:Nat,(h:i<op.length)→xM op[i] (op.take i)=true∧kJ op[i]=false
theorem Chain.take{op:List ByteArray}(h:Chain op)(n:Nat):Chain (op.take n):=by
 intro i hi;rw[List.length_take]at hi;have:=h i (by omega);rw[List.getElem_take,List.take_take,Nat.min_eq_left (by omega)];exact this
theorem Chain.push{op:List ByteArray}(h:Chain op){n:ByteArray}(hn:xM n op=true)(hv:kJ n=false):Chain (op++[n]):=by
 intro i hi;rw[List.length_append]at hi;simp only[List.length_cons,List.length_nil]at hi
 rcases Nat.lt_or_ge i op.length with e|e
 ·rw[List.getElem_append_left e,List.take_append_of_le_length (by omega)]
  exact h i e
 ·obtain rfl:i=op.length:=by omega
  rw[List.getElem_append_right (Nat.le_refl _),List.take_append_of_le_length (Nat.le_refl _),List.take_length];simpa using⟨hn,hv⟩
structure Fits (op:List ByteArray) (out:List Rw) (st:List ByteArray):Prop where
 laws:Laws out st
 pre:op=st.take op.length
 chain:Chain op
theorem Fits.len{op:List ByteArray}{out:List Rw}{st:List ByteArray}(h:Fits op out st):op.length≤st.length:=by
 have:=congrArg List.length h.pre;rw[List.length_take]at this;omega
theorem Fits.take{op:List ByteArray}{out:List Rw}{st:List ByteArray}(h:Fits op out st)(n:Nat):Fits (op.take n) out st:=by
 refine⟨h.laws,?_,h.chain.take n⟩;have hl:=h.len;rw[List.length_take]
 conv=>lhs;rw[h.pre]
 rw[List.take_take]
theorem Fits.row{op:List ByteArray}{out:List Rw}{st:List ByteArray}(h:Fits op out st)(x:Rw)(hd:x.f0=op.length)(hk:Lh x)(hn:x.f1=0→xM x.f2 op=true∧pW x.f2=false):Stands st x:=by
 have hl:=h.len;have ht:st.take x.f0.toNat=op:=by rw[hd,Int.toNat_natCast];exact h.pre.symm
 refine⟨by omega,by omega,hk,fun n hn2=>?_,fun h0=>by rw[ht];exact hn h0⟩;rw[ht]at hn2;obtain⟨ys,rfl⟩:=List.getLast?_eq_some_iff.1 hn2;have:=(h.chain ys.length (by simp)).2;simpa using this
def isIn(L:List ByteArray)(w:ByteArray):Bool:=L.any fun x=>x.data.toList==w.data.toList
end Go.Proofs.aj.W7
