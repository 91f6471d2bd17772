/- Lemmas and walks, part 22. -/
import Derived.Test.YtkcmghlhpbepcaaGreatDoorWS21
set_option linter.unusedVariables false
set_option linter.unusedSimpArgs false
namespace Go.Proofs.aj.W7
open Go.RowKit Go.Proofs Go.Proofs.aj Go.Proofs.YtkcmghlhpbepcaaGreatDoor Go.Proofs.ah.aD
def goneT:List Bt:=[⟨#[98,111,100,121]⟩,⟨#[102,114,97,109,101,115,101,116]⟩,⟨#[104,101,97,100]⟩,⟨#[104,116,109,108]⟩]
def voidT:List Bt:=[[97,114,101,97],[98,97,115,101],[98,114],[99,111,108],[101,109,98,101,100],[104,114],[105,109,103],[105,110,112,117,116],[108,105,110,107],[109,101,116,97],[112,97,114,97,109],[115,111,117,114,99,101],[116,114,97,99,107],[119,98,114]].map fun l=>⟨l.toArray⟩
theorem QN(s:Bt)(k:Nat)(hk:20≤k):iN.f k s=some (oZ goneT s):=by
 unfold iN.f;rw[sJ _ _ _ (by simp) (by simp;omega),Option.bind_some];rfl
theorem QO(s:Bt)(k:Nat)(hk:20≤k):gF.f k s=some (oZ voidT s):=by
 unfold gF.f;rw[sJ _ _ _ (by simp) (by simp;omega),Option.bind_some];rfl
theorem BF(s:Bt):nmB s=true:=by
 unfold nmB;obtain⟨c,hc,-⟩:=MG s 200 (by omega);obtain⟨w,hw,-⟩:=Oj s 200 (by omega);obtain⟨p,hp⟩:=par_some s;rw[hc,hw,hp,QN _ _ (by omega),QO _ _ (by omega)];rfl
theorem goneL_eq(s:Bt):lD s=oZ goneT s:=by unfold lD;rw[QN _ _ (by omega)];rfl
theorem MO(s:Bt):jv s=oZ voidT s:=by unfold jv;rw[QO _ _ (by omega)];rfl
def jY:List Tk→List Bt→List Rw→Option (List Rw)
 | [],_,out=>some out
 |t::r,op,out=>if(fV op out t).2.2 then none else jY r (fV op out t).1 (fV op out t).2.1
inductive Grown (t:Tk) (out:List Rw):List Rw→Prop
 |same:Grown t out out
 |app (x:Rw) (h0:0≤x.f0) (h1:x.f0<60) (hd:xg out.getLast? x=false) (hs:x.f3.size≤t.f2.size) (ha:x.f4.length≤t.f3.length):Grown t out (out++[x])
 |text (pre:List Rw) (y:Rw) (he:out=pre++[y]) (hy:y.f1=1) (hn:t.f2.data.toList≠[]):Grown t out (pre++[tV y t.f2])
theorem Hz:∀(l out:List At),(pq out l).length≤out.length+l.length
 | [],out=>by simp[pq]
 |a::r,out=>by
  simp only[pq];have:=Hz r (if Al out a then out else out++[a])
  split at this
  ·rename_i h
   rw[if_pos h];simp only[List.length_cons];omega
  ·rename_i h
   rw[if_neg h];simp only[List.length_append,List.length_cons,List.length_nil]at this⊢;omega
theorem yR(t:Tk)(op:List Bt)(out:List Rw)(x:Rw)(h:(kg op out false x).2=false)(hd:∀d,xg out.getLast? ⟨op.length,x.f1,x.f2,x.f3,d⟩=false)(hs:x.f3.size≤t.f2.size)(ha:x.f4.length≤t.f3.length):Grown t out (kg op out false x).1:=by
 have hl:=tX op out x h;unfold kg at h⊢
 split
 ·rename_i g
  rw[if_pos g]at h;cases h
 ·exact .app _ (by simp) (by simp;omega) (hd _) hs ha
theorem Ko(p:Option Rw)(x:Rw)(h:x.f1≠1):xg p x=false:=by simp[xg,h]
theorem FJ(op:List Bt)(out:List Rw)(t:Tk)(h:(fV op out t).2.2=false):Grown t out (fV op out t).2.1:=by
 unfold fV at h⊢
 by_cases k0:t.f0=0
 ·rw[if_pos k0]at h⊢
  unfold gI at h⊢
  by_cases e:t.f2.data.toList=[]
  ·rw[if_pos e];exact .same
  rw[if_neg e]at h⊢;cases hj:ou op out with
  |true=>
   rw[if_pos rfl];unfold ou at hj;cases hL:out.getLast? with
   |none=>rw[hL]at hj;cases hj
   |some y=>
    rw[hL]at hj;simp only[Bool.and_eq_true,decide_eq_true_eq]at hj;have hpos:0<out.length:=by cases out with|nil=>cases hL|cons a l=>simp
    have hr:=BA out hpos;rw[hL]at hr;rw[←Option.some.inj hr];obtain⟨pre,rfl⟩:=List.getLast?_eq_some_iff.1 hL
    have:(pre++[y]).set ((pre++[y]).length - 1) (tV y t.f2)=pre++[tV y t.f2]:=by
     simp
    show Grown t _ ((pre++[y]).set ((pre++[y]).length - 1) (tV y t.f2));rw[this];exact .text pre y rfl hj.1 e
  |false=>
   rw[hj]at h;rw[if_neg (by decide)]at h⊢;refine yR t op out ⟨0,1,⟨#[]⟩,t.f2,[]⟩ h ?_ (Nat.le_refl _) (Nat.zero_le _);intro d;unfold ou at hj;simp only[xg,e,decide_true,decide_false,Bool.true_and,Bool.false_or];exact hj
 rw[if_neg k0]at h⊢
 by_cases k3:t.f0=3
 ·rw[if_pos k3]at h⊢
  exact yR t op out ⟨0,2,⟨#[]⟩,t.f2,[]⟩ h (fun d=>Ko _ _ (by simp)) (Nat.le_refl _) (Nat.zero_le _)
 rw[if_neg k3]at h⊢
 by_cases k1:t.f0=1
 ·rw[if_pos k1]at h⊢
  unfold ko at h⊢
  by_cases e1:t.f1.data.toList=[]
  ·rw[if_pos e1];exact .same
  rw[if_neg e1]at h⊢
  by_cases e2:lD t.f1=true
  ·rw[if_pos e2];exact .same
  rw[if_neg e2]at h⊢;refine yR t _ out ⟨0,0,t.f1,⟨#[]⟩,mh t.f3⟩ h (fun d=>Ko _ _ (by simp)) (Nat.zero_le _) ?_;have:=Hz t.f3 [];simpa [mh]using this
 rw[if_neg k1]at h⊢
 by_cases k2:t.f0=2
 ·rw[if_pos k2]at h⊢
  unfold iy at h⊢
  by_cases e1:t.f1.data.toList=[]
  ·rw[if_pos e1];exact .same
  rw[if_neg e1]at h⊢
  by_cases e2:lD t.f1=true
  ·rw[if_pos e2];exact .same
  rw[if_neg e2]at h⊢
  by_cases e3:jv t.f1=true
  ·rw[if_pos e3];exact .same
  rw[if_neg e3]at h⊢
  by_cases e4:0≤dU op [t.f1] (y9 t.f1) op.length
  ·rw[if_pos e4];exact .same
  rw[if_neg e4]at h⊢
  by_cases e5:t.f1.data.toList=[112]
  ·rw[if_pos e5]at h⊢
   exact yR t op out ⟨0,0,t.f1,⟨#[]⟩,[]⟩ h (fun d=>Ko _ _ (by simp)) (Nat.zero_le _) (Nat.zero_le _)
  ·rw[if_neg e5];exact .same
 rw[if_neg k2];exact .same
structure Built (op:List Bt) (out:List Rw) (S:Nat):Prop where
 len:out.length≤4096
 open_:op.length≤60
 depth:∀x∈out,0≤x.f0∧x.f0<60
 normal:zR none out=true
 size:∀x∈out,x.f3.size≤S
 attrs:∀x∈out,x.f4.length≤1000000
theorem HV:Built [] [] 0:=⟨by simp,by simp,by simp,rfl,by simp,by simp⟩
theorem ba_nil(a:Bt):a.data.toList=[]↔a.size=0:=by
 show _↔a.data.size=0;rw[←Array.length_toList,List.length_eq_zero_iff]
theorem Oq{op:List Bt}{out:List Rw}{S:Nat}(hB:Built op out S)(t:Tk)(ht:t.f3.length≤1000000)(h:(fV op out t).2.2=false):Built (fV op out t).1 (fV op out t).2.1 (S+t.f2.size):=by
 have hs:=EA op out t hB.len hB.open_ h;have hg:=FJ op out t h;generalize fV op out t=R at *;obtain⟨op2,out2,big⟩:=R;simp only at hs hg h⊢;cases hg with
 |same=>exact⟨hs.1,hs.2,hB.depth,hB.normal,fun x hx=>by have:=hB.size x hx;omega,hB.attrs⟩
 |app x h0 h1 hd hz ha=>
  refine⟨hs.1,hs.2,?_,?_,?_,?_⟩
  ·intro y hy
   rcases List.mem_append.1 hy with hy|hy
   ·exact hB.depth y hy
   ·obtain rfl:=List.mem_singleton.1 hy
    exact⟨h0,h1⟩
  ·rw[BD,hB.normal]
   simp[zR,hd]
  ·intro y hy
   rcases List.mem_append.1 hy with hy|hy
   ·have:=hB.size y hy;omega
   ·obtain rfl:=List.mem_singleton.1 hy
    omega
  ·intro y hy
   rcases List.mem_append.1 hy with hy|hy
   ·exact hB.attrs y hy
   ·obtain rfl:=List.mem_singleton.1 hy
    omega
 |text pre y he hy hn=>
  subst he;have hy0:=hB.depth y (by simp);have hy1:=hB.size y (by simp);have hy2:=hB.attrs y (by simp);refine⟨hs.1,hs.2,?_,?_,?_,?_⟩
  ·intro x hx
   rcases List.mem_append.1 hx with hx|hx
   ·exact hB.depth x (by simp[hx])
   ·obtain rfl:=List.mem_singleton.1 hx
    exact hy0
  ·have:=hB.normal
   rw[BD]at this⊢;simp only[Bool.and_eq_true]at this⊢;refine⟨this.1,?_⟩;have h2:=this.2;simp only[zR,Bool.and_true,Bool.not_eq_true']at h2⊢;simp only[xg,hy,tV,decide_true,Bool.true_and,Bool.or_eq_false_iff,decide_eq_false_iff_not]at h2⊢;refine⟨?_,h2.2⟩;rw[ba_nil,ByteArray.size_append];rw[Ne,ba_nil]at hn;omega
  ·intro x hx
   rcases List.mem_append.1 hx with hx|hx
   ·have:=hB.size x (by simp[hx]);omega
   ·obtain rfl:=List.mem_singleton.1 hx
    show(y.f3++t.f2).size≤_;rw[ByteArray.size_append];omega
  ·intro x hx
   rcases List.mem_append.1 hx with hx|hx
   ·exact hB.attrs x (by simp[hx])
   ·obtain rfl:=List.mem_singleton.1 hx
    exact hy2
def o8(l:List Tk):Nat:=(l.map fun t=>t.f2.size).sum
theorem CB:∀(l:List Tk) (op:List Bt) (out:List Rw) (S:Nat),Built op out S→S+o8 l≤9223372036854775807→(∀t∈l,t.f3.length≤1000000)→
 Da l op out=some (match jY l op out with|none=>([],2)|some o=>(o,0))∧∀o,jY l op out=some o→∃op2,Built op2 o (S+o8 l)
 | [],op,out,S,hB,_,_=>by
   simp only[Da,jY];rw[RX out (by have:=hB.len;omega) (fun x hx=>by have:=hB.depth x hx;omega) hB.attrs hB.normal,Option.bind_some];refine⟨rfl,fun o ho=>?_⟩;obtain rfl:=Option.some.inj ho;exact⟨op,hB⟩
 |t::r,op,out,S,hB,hS,ha=>by
  have e:o8 (t::r)=t.f2.size+o8 r:=by simp[o8]
  rw[e]at hS⊢
  have hok:okT out t=true:=by
   unfold okT
   split
   ·unfold szB
    rw[List.all_eq_true];intro x hx;have:=hB.size x hx;exact decide_eq_true (by omega)
   ·split
    ·rw[BF,decide_eq_true (ha t (by simp))]
     rfl
    ·split
     ·exact BF _
     ·rfl
  simp only[Da,jY];rw[if_pos hok];cases hb:(fV op out t).2.2 with
  |true=>exact⟨rfl,fun o ho=>by cases ho⟩
  |false=>
   rw[if_neg (by decide),if_neg (by decide)];obtain⟨h1,h2⟩:=CB r _ _ _ (Oq hB t (ha t (by simp)) hb) (by omega) (fun x hx=>ha x (List.mem_cons_of_mem _ hx));refine⟨h1,fun o ho=>?_⟩;obtain⟨op2,h3⟩:=h2 o ho;exact⟨op2,by rw[←Nat.add_assoc];exact h3⟩
theorem tree_f(l:List Tk)(hS:o8 l≤9223372036854775807)(ha:∀t∈l,t.f3.length≤1000000):
 jR.f l=some (match jY l [] []with|none=>([],2)|some o=>(o,0)):=by
 unfold jR.f;rw[BF,BF,BF];exact(CB l [] [] 0 HV (by omega) ha).1
theorem Ot(l:List Tk)(hS:o8 l≤9223372036854775807)(ha:∀t∈l,t.f3.length≤1000000)(o:List Rw)(h:jY l [] []=some o):∃op,Built op o (o8 l):=by
 obtain⟨op,hb⟩:=(CB l [] [] 0 HV (by omega) ha).2 o h;exact⟨op,by rwa [Nat.zero_add]at hb⟩
theorem FL(M:Nat):∀(l:List Tk) (op:List Bt) (out:List Rw),(∀t∈l,t.f3.length≤M)→(∀x∈out,x.f4.length≤M)→∀o,jY l op out=some o→∀x∈o,x.f4.length≤M
 | [],op,out,_,h,o,ho=>by
   obtain rfl:=Option.some.inj ho;exact h
 |t::r,op,out,hl,h,o,ho=>by
  simp only[jY]at ho;cases hb:(fV op out t).2.2 with
  |true=>rw[hb,if_pos rfl]at ho;cases ho
  |false=>
   rw[hb,if_neg (by decide)]at ho;have hg:=FJ op out t hb;refine FL M r _ _ (fun x hx=>hl x (List.mem_cons_of_mem _ hx)) ?_ o ho;have ht:=hl t (by simp);generalize (fV op out t).2.1=out2 at *;cases hg with
   |same=>exact h
   |app x h0 h1 hd hs ha=>
    intro y hy
    rcases List.mem_append.1 hy with hy|hy
    ·exact h y hy
    ·obtain rfl:=List.mem_singleton.1 hy
     omega
   |text pre y he hy hn=>
    subst he;intro z hz
    rcases List.mem_append.1 hz with hz|hz
    ·exact h z (by simp[hz])
    ·obtain rfl:=List.mem_singleton.1 hz
     exact h y (by simp)
theorem MP(l:List Tk)(hS:o8 l≤9223372036854775807)(M:Nat)(ha:∀t∈l,t.f3.length≤M∧M≤1000000)(o:List Rw)(h:jY l [] []=some o):∃op,Built op o (o8 l)∧∀x∈o,x.f4.length≤M:=by
 obtain⟨op,hb⟩:=Ot l hS (fun t ht=>by have:=ha t ht;omega) o h;exact⟨op,hb,FL M l [] [] (fun t ht=>(ha t ht).1) (by simp) o h⟩
def uK(s:Bt)(l:List Bt):Bool:=!(parL s&&decide (0≤dU l [pN] (eY pN) l.length))&&decide (dU l (gX s) (eY s) l.length<0)
end Go.Proofs.aj.W7
namespace Go.Proofs.aj.W7
open Go.RowKit Go.Proofs.ah.aD Go.Proofs.ah.bG Go.Proofs.ah.bR
attribute [local go_sem] dD dF dV dW bU bV dG dH
def om.j0:Nat→List Bt→Bt→List Bt→Bool→Option (List Bt×Bool)
 |0,_,_,_,_=>none
 |k+1,x0,x1,x6,x15=>if x15=true then((fZ.f k (⟨#[116,114]⟩:Bt)).bind fun t480=>((iZ.f k x0 (([x1] :List Bt)) t480).bind fun t486=>(if t486<0 then(some (x0,false))else((some (([] :List Bt):List Bt)).bind fun y487=>(if 0≤t486 then(if t486≤(x0.length:Int)then((some (x0.take (t486:Int).toNat:List Bt)).bind fun y490=>(if y487.length+y490.length<8796093022208 then(some ((y487++y490),true))else(none)))else(none))else(none))))))else((iZ.f k x0 (([x1] :List Bt)) x6).bind fun t500=>(if t500<0 then(some (x0,false))else((some (([] :List Bt):List Bt)).bind fun y501=>(if 0≤t500 then(if t500≤(x0.length:Int)then((some (x0.take (t500:Int).toNat:List Bt)).bind fun y504=>(if y501.length+y504.length<8796093022208 then(some ((y501++y504),true))else(none)))else(none))else(none)))))
def om.f(k:Nat)(l0:List Bt)(a1:Bt):Option (List Bt×Bool):=(fZ.f k (⟨#[112]⟩:Bt)).bind fun t473=>(if a1.toList=([116,97,98,108,101] :List UInt8)then(om.j0 k l0 a1 t473 true)else((gJ.f).bind fun t476=>((iC.f k t476 a1).bind fun t479=>(om.j0 k l0 a1 t473 t479))))
mutual
def iP.l0:Nat→List (S36)→List (S36)→Int→Option ((List (S36)))
 |0,_,_,_=>none
 |k+1,x0,x3,x4=>if x4<(x0.length:Int)then(iP.l1 k x0 x3 x4 true 0)else(some x3)
def iP.l1:Nat→List (S36)→List (S36)→Int→Bool→Int→Option ((List (S36)))
 |0,_,_,_,_,_=>none
 |k+1,x0,x3,x4,x5,x6=>if x6<x4 then(if x5=true then(if 0≤x6 then(if x6<(x0.length:Int)then(if 0≤x4 then(if x4<(x0.length:Int)then(iP.l1 k x0 x3 x4 (((bg x0 x6).f0).toList !=((bg x0 x4).f0).toList) (wrap64 (x6+1)))else(none))else(none))else(none))else(none))else(iP.l1 k x0 x3 x4 false (wrap64 (x6+1))))else(if x5=true then(if 0≤x4 then(if x4<(x0.length:Int)then(if x3.length<4398046511104 then(iP.l0 k x0 (x3++[(⟨(bg x0 x4).f0,(bg x0 x4).f1⟩:S36)]) (wrap64 (x4+1)))else(none))else(none))else(none))else(iP.l0 k x0 x3 (wrap64 (x4+1))))
end
def iP.f(k:Nat)(l0:List (S36)):Option ((List (S36))):=iP.l0 k l0 (([] :List (S36))) 0
def Pt.f:Option (List Bt):=some (([(⟨#[98,111,100,121]⟩:Bt),(⟨#[102,114,97,109,101,115,101,116]⟩:Bt),(⟨#[104,101,97,100]⟩:Bt),(⟨#[104,116,109,108]⟩:Bt)] :List Bt))
def AJ.f:Option (List Bt):=some (([(⟨#[97,114,101,97]⟩:Bt),(⟨#[98,97,115,101]⟩:Bt),(⟨#[98,114]⟩:Bt),(⟨#[99,111,108]⟩:Bt),(⟨#[101,109,98,101,100]⟩:Bt),(⟨#[104,114]⟩:Bt),(⟨#[105,109,103]⟩:Bt),(⟨#[105,110,112,117,116]⟩:Bt),(⟨#[108,105,110,107]⟩:Bt),(⟨#[109,101,116,97]⟩:Bt),(⟨#[112,97,114,97,109]⟩:Bt),(⟨#[115,111,117,114,99,101]⟩:Bt),(⟨#[116,114,97,99,107]⟩:Bt),(⟨#[119,98,114]⟩:Bt)] :List Bt))
end Go.Proofs.aj.W7
namespace Go.Proofs.aj.W7
open Go.RowKit Go.Proofs Go.Proofs.aj Go.Proofs.YtkcmghlhpbepcaaGreatDoor Go.Proofs.ah.aD
theorem QM(a b:At):eqN a b=true↔a.f0.toList=b.f0.toList:=by unfold eqN;exact beq_iff_eq
theorem tabs(s:Bt):oZ tabR s=Lib.containsS (gX tbN) s:=by
 rw[←FH];have e:gX tbN=[⟨#[116,98,111,100,121]⟩,⟨#[116,100]⟩,⟨#[116,102,111,111,116]⟩,⟨#[116,104]⟩,⟨#[116,104,101,97,100]⟩,⟨#[116,114]⟩]:=by kernel_rfl
 rw[e];show oZ ((gJ.f).getD []) s=_;simp only[gJ.f,Option.getD_some,oZ,List.any_cons,List.any_nil,Bool.or_false]
 try ac_rfl
def distinct(l:List At):Prop:=∀i j:Nat,(hi:i<l.length)→(hj:j<l.length)→l[i].f0.toList=l[j].f0.toList→i=j
structure RowOk (x:Rw):Prop where
 kind:x.f1=0∨x.f1=1∨x.f1=2
 el:x.f1=0→x.f2.data.toList≠[]∧x.f3.data.toList=[]∧distinct x.f4
 no:x.f1≠0→x.f2.data.toList=[]∧x.f4=[]
structure Stands (st:List Bt) (x:Rw):Prop where
 lo:0≤x.f0
 hi:x.f0≤st.length
 ok:RowOk x
 void:∀n,(st.take x.f0.toNat).getLast? =some n→jv n=false
 nest:x.f1=0→uK x.f2 (st.take x.f0.toNat)=true∧lD x.f2=false
def after(st:List Bt)(x:Rw):List Bt:=if x.f1=0 then st.take x.f0.toNat++[x.f2]else st.take x.f0.toNat
inductive Laws:List Rw→List Bt→Prop
 |nil:Laws [] []
 |snoc (out:List Rw) (st:List Bt) (x:Rw) (h:Laws out st) (hx:Stands st x):Laws (out++[x]) (after st x)
def Chain(op:List Bt):Prop:=∀i:Nat,(h:i<op.length)→uK op[i] (op.take i)=true∧jv op[i]=false
theorem Chain.take{op:List Bt}(h:Chain op)(n:Nat):Chain (op.take n):=by
 intro i hi;rw[List.length_take]at hi;have:=h i (by omega);rw[List.getElem_take,List.take_take,Nat.min_eq_left (by omega)];exact this
theorem Chain.push{op:List Bt}(h:Chain op){n:Bt}(hn:uK n op=true)(hv:jv n=false):Chain (op++[n]):=by
 intro i hi;rw[List.length_append]at hi;simp only[List.length_cons,List.length_nil]at hi
 rcases Nat.lt_or_ge i op.length with e|e
 ·rw[List.getElem_append_left e,List.take_append_of_le_length (by omega)]
  exact h i e
 ·obtain rfl:i=op.length:=by omega
  rw[List.getElem_append_right (Nat.le_refl _),List.take_append_of_le_length (Nat.le_refl _),List.take_length];simpa using⟨hn,hv⟩
structure Fits (op:List Bt) (out:List Rw) (st:List Bt):Prop where
 laws:Laws out st
 pre:op=st.take op.length
 chain:Chain op
theorem Fits.len{op:List Bt}{out:List Rw}{st:List Bt}(h:Fits op out st):op.length≤st.length:=by
 have:=congrArg List.length h.pre;rw[List.length_take]at this;omega
theorem Fits.take{op:List Bt}{out:List Rw}{st:List Bt}(h:Fits op out st)(n:Nat):Fits (op.take n) out st:=by
 refine⟨h.laws,?_,h.chain.take n⟩;have hl:=h.len;rw[List.length_take]
 conv=>lhs;rw[h.pre]
 rw[List.take_take]
theorem Fits.row{op:List Bt}{out:List Rw}{st:List Bt}(h:Fits op out st)(x:Rw)(hd:x.f0=op.length)(hk:RowOk x)(hn:x.f1=0→uK x.f2 op=true∧lD x.f2=false):Stands st x:=by
 have hl:=h.len;have ht:st.take x.f0.toNat=op:=by rw[hd,Int.toNat_natCast];exact h.pre.symm
 refine⟨by omega,by omega,hk,fun n hn2=>?_,fun h0=>by rw[ht];exact hn h0⟩;rw[ht]at hn2;obtain⟨ys,rfl⟩:=List.getLast?_eq_some_iff.1 hn2;have:=(h.chain ys.length (by simp)).2;simpa using this
theorem Fits.lay{op:List Bt}{out:List Rw}{st:List Bt}(h:Fits op out st)(x:Rw)(hd:x.f0=op.length)(hk:RowOk x)(hn:x.f1=0→uK x.f2 op=true∧lD x.f2=false):Fits op (out++[x]) (after st x)∧(x.f1=0→jv x.f2=false→Fits (op++[x.f2]) (out++[x]) (after st x)):=by
 have hs:=h.row x hd hk hn;have ht:st.take x.f0.toNat=op:=by rw[hd,Int.toNat_natCast];exact h.pre.symm
 refine⟨⟨.snoc out st x h.laws hs,?_,h.chain⟩,fun h0 hv=>⟨.snoc out st x h.laws hs,?_,h.chain.push (hn h0).1 hv⟩⟩
 ·unfold after
  rw[ht]
  split
  ·rw[List.take_append_of_le_length (Nat.le_refl _),List.take_length]
  ·rw[List.take_length]
 ·unfold after
  rw[if_pos h0,ht,List.take_length]
theorem FM(xs a b:List Bt):∀k,k≤xs.length→0≤dU xs a b k→∃j:Nat,dU xs a b k=j∧j<k∧Lib.containsS a (xs.getD j ⟨#[]⟩)=true∧∀i,j<i→i<k→Lib.containsS a (xs.getD i ⟨#[]⟩)=false∧Lib.containsS b (xs.getD i ⟨#[]⟩)=false
 |0,_,h=>by simp[dU]at h
 |k+1,hk,h=>by
  simp only[dU]at h⊢;cases h1:Lib.containsS a (xs.getD k ⟨#[]⟩)with
  |true=>
   rw[if_pos rfl];exact⟨k,rfl,by omega,h1,fun i h2 h3=>by omega⟩
  |false=>
   rw[h1,if_neg (by decide)]at h;rw[if_neg (by decide)];cases h2:Lib.containsS b (xs.getD k ⟨#[]⟩)with
   |true=>rw[h2,if_pos rfl]at h;omega
   |false=>
    rw[h2,if_neg (by decide)]at h;rw[if_neg (by decide)];obtain⟨j,e,hj,hc,hf⟩:=FM xs a b k (by omega) h;refine⟨j,e,by omega,hc,fun i h3 h4=>?_⟩
    by_cases e2:i=k
    ·subst e2;exact⟨h1,h2⟩
    ·exact hf i h3 (by omega)
theorem FN(xs a b:List Bt):∀k j,j<k→Lib.containsS a (xs.getD j ⟨#[]⟩)=true→(∀i,j<i→i<k→Lib.containsS b (xs.getD i ⟨#[]⟩)=false)→0≤dU xs a b k
 |0,j,h,_,_=>by omega
 |k+1,j,h,hc,hf=>by
  simp only[dU];cases h1:Lib.containsS a (xs.getD k ⟨#[]⟩)with
  |true=>rw[if_pos rfl];omega
  |false=>
   rw[if_neg (by decide)]
   have hjk:j<k:=by
    rcases Nat.lt_or_ge j k with e|e
    ·exact e
    ·have:j=k:=by omega
     subst this;rw[h1]at hc;cases hc
   rw[hf k hjk (by omega),if_neg (by decide)];exact FN xs a b k j hjk hc (fun i h2 h3=>hf i h2 (by omega))
theorem FP(xs a b:List Bt)(n:Nat):∀k,k≤n→dU (xs.take n) a b k=dU xs a b k
 |0,_=>rfl
 |k+1,h=>by
  have e:(xs.take n).getD k ⟨#[]⟩=xs.getD k ⟨#[]⟩:=by simp[List.getD_eq_getElem?_getD,List.getElem?_take,show k<n by omega]
  simp only[dU];rw[e,FP xs a b n k (by omega)]
theorem CF(a b:List Bt):∀(n:Nat) (op:List Bt),op.length<n→∃m,m≤op.length∧kS a b n op=op.take m∧dU (kS a b n op) a b (kS a b n op).length<0
 |0,op,h=>by omega
 |n+1,op,h=>by
  simp only[kS];have hle:=Hu op a b op.length
  by_cases hneg:dU op a b op.length<0
  ·rw[if_pos hneg]
   exact⟨op.length,Nat.le_refl _,(List.take_length).symm,hneg⟩
  ·rw[if_neg hneg]
   generalize hj:dU op a b op.length=j at *;obtain⟨m,hm,e,hf⟩:=CF a b n (op.take j.toNat) (by rw[List.length_take];omega);rw[List.length_take]at hm;refine⟨m,by omega,?_,hf⟩;rw[e,List.take_take,Nat.min_eq_left (by omega)]
theorem Dr(a b:List Bt)(hW:∀w,Lib.containsS b w=true→Lib.containsS (eY pN) w=true∨(gX w=[pN]∧eY w=eY pN))(hp:Lib.containsS b pN=false):∀(n:Nat) (op:List Bt),Chain op→dU op a b op.length<0→dU (kS [pN] (eY pN) n op) a b (kS [pN] (eY pN) n op).length<0
 |0,op,_,h=>h
 |n+1,op,hc,h=>by
  simp only[kS]
  by_cases hneg:dU op [pN] (eY pN) op.length<0
  ·rw[if_pos hneg];exact h
  ·rw[if_neg hneg]
   obtain⟨j,e,hj,hpj,hf⟩:=FM op [pN] (eY pN) op.length (Nat.le_refl _) (by omega);rw[e,Int.toNat_natCast];refine Dr a b hW hp n (op.take j) (hc.take j) ?_;have hl:(op.take j).length=j:=by rw[List.length_take];omega
   rw[hl,FP op a b j j (Nat.le_refl _)]
   rcases Int.lt_or_le (dU op a b j) 0 with h0|h0
   ·exact h0
   ·exfalso
    obtain⟨q,eq,hq,hqa,hqf⟩:=FM op a b j (by omega) h0
    have hpn:op.getD j ⟨#[]⟩=pN:=by
     rw[Lib.containsS_iff]at hpj;simpa using hpj
    have hwall:∀i,q<i→i<op.length→Lib.containsS b (op.getD i ⟨#[]⟩)=false:=by
     intro i h1 h2
     rcases Nat.lt_or_ge i j with h3|h3
     ·exact(hqf i h1 h3).2
     ·by_cases h4:i=j
      ·subst h4;rw[hpn];exact hp
      ·cases hb:Lib.containsS b (op.getD i ⟨#[]⟩)with
       |false=>rfl
       |true=>
        exfalso
        have hno:=(hf i (by omega) h2).2
        rcases hW _ hb with h5|⟨h5,h6⟩
        ·rw[h5]at hno;cases hno
        ·have hch:=(hc i h2).1
         have eg:op.getD i ⟨#[]⟩=op[i]:=by simp[List.getD_eq_getElem?_getD,List.getElem?_eq_getElem h2]
         rw[eg]at h5 h6;unfold uK at hch;rw[h5,h6]at hch;simp only[Bool.and_eq_true,decide_eq_true_eq]at hch;have hlt:(op.take i).length=i:=by rw[List.length_take];omega
         have:=FN (op.take i) [pN] (eY pN) i j (by omega) (by
          rw[show(op.take i).getD j ⟨#[]⟩=op.getD j ⟨#[]⟩from by simp[List.getD_eq_getElem?_getD,List.getElem?_take,show j<i by omega]];exact hpj) (fun t h7 h8=>by
          rw[show(op.take i).getD t ⟨#[]⟩=op.getD t ⟨#[]⟩from by simp[List.getD_eq_getElem?_getD,List.getElem?_take,show t<i by omega]];exact(hf t h7 (by omega)).2)
         have h9:=hch.2;rw[hlt]at h9;omega
    have:=FN op a b op.length q (by omega) hqa hwall;omega
theorem RZ(n:Bt)(h:parL n=true):n=⟨#[108,105]⟩∨n=⟨#[100,100]⟩∨n=⟨#[100,116]⟩:=by
 have e:n.data.toList=[108,105]∨n.data.toList=[100,100]∨n.data.toList=[100,116]:=by
  unfold parL fG.f at h
  by_cases h1:n.toList=[108,105]
  ·rw[Lib.toList_data]at h1;exact Or.inl h1
  rw[if_neg h1]at h
  by_cases h2:n.toList=[100,100]
  ·rw[Lib.toList_data]at h2;exact Or.inr (Or.inl h2)
  rw[if_neg h2]at h;rw[Lib.toList_data]at h;exact Or.inr (Or.inr (by simpa using h))
 have hn:∀x:List UInt8,n.data.toList=x→n=⟨x.toArray⟩:=fun x hx=>by
  obtain⟨⟨y⟩⟩:=n;simp only at hx;rw[hx]
 rcases e with e|e|e
 ·exact .inl (hn _ e)
 ·exact .inr (.inl (hn _ e))
 ·exact .inr (.inr (hn _ e))
def isIn(L:List Bt)(w:Bt):Bool:=L.any fun x=>x.data.toList==w.data.toList
theorem R3(n:Bt)(h:parL n=true):(∀w,Lib.containsS (eY n) w=true→Lib.containsS (eY pN) w=true∨(gX w=[pN]∧eY w=eY pN))∧Lib.containsS (eY n) pN=false:=by
 have key:∀L:List Bt,(L.all fun w=>Lib.containsS (eY pN) w||(decide (gX w=[pN])&&decide (eY w=eY pN)))=true→∀w,Lib.containsS L w=true→Lib.containsS (eY pN) w=true∨(gX w=[pN]∧eY w=eY pN):=by
  intro L hL w hw;rw[Lib.containsS_iff]at hw;have:=List.all_eq_true.1 hL w hw;simp only[Bool.or_eq_true,Bool.and_eq_true,decide_eq_true_eq]at this;exact this
 rcases RZ n h with rfl|rfl|rfl
 ·exact⟨key _ (by kernel_rfl),by kernel_rfl⟩
 ·exact⟨key _ (by kernel_rfl),by kernel_rfl⟩
 ·exact⟨key _ (by kernel_rfl),by kernel_rfl⟩
theorem R4(op:List Bt)(nm:Bt)(hc:Chain op):∃m,m≤op.length∧fQ op nm=op.take m∧uK nm (fQ op nm)=true:=by
 obtain⟨m,hm,e,hf⟩:=CF (gX nm) (eY nm) (op.length+1) op (Nat.lt_succ_self _);unfold fQ nZ uK;cases hp:parL nm with
 |false=>
  rw[if_neg (by decide)];exact⟨m,hm,e,by simp[hf]⟩
 |true=>
  rw[if_pos rfl];obtain⟨hW,hpw⟩:=R3 nm hp;have hk:=Dr (gX nm) (eY nm) hW hpw ((kS (gX nm) (eY nm) (op.length+1) op).length+1) (kS (gX nm) (eY nm) (op.length+1) op) (by rw[e];exact hc.take m) hf;obtain⟨m2,hm2,e2,hf2⟩:=CF [pN] (eY pN) ((kS (gX nm) (eY nm) (op.length+1) op).length+1) (kS (gX nm) (eY nm) (op.length+1) op) (Nat.lt_succ_self _);generalize kS [pN] (eY pN) ((kS (gX nm) (eY nm) (op.length+1) op).length+1) (kS (gX nm) (eY nm) (op.length+1) op)=op2 at *;rw[e]at e2 hm2;rw[List.length_take]at hm2;refine⟨m2,by omega,by rw[e2,List.take_take,Nat.min_eq_left (by omega)],?_⟩;have h1:¬0≤dU op2 [pN] (eY pN) op2.length:=by omega
  simp[h1,hk]
theorem wX:distinct []:=fun i j hi=>by simp at hi
theorem tF:∀(l out:List At),distinct out→distinct (pq out l)
 | [],out,h=>h
 |a::r,out,h=>by
  simp only[pq];refine tF r _ ?_;cases hh:Al out a with
  |true=>rw[if_pos rfl];exact h
  |false=>
   rw[if_neg (by decide)]
   have hno:∀i:Nat,(hi:i<out.length)→out[i].f0.toList≠a.f0.toList:=by
    intro i hi e
    have:Al out a=true:=by
     unfold Al;rw[List.any_eq_true];exact⟨out[i],List.getElem_mem hi,(QM _ _).2 e.symm⟩
    rw[hh]at this;cases this
   intro i j hi hj e;rw[List.length_append]at hi hj;simp only[List.length_cons,List.length_nil]at hi hj
   rcases Nat.lt_or_ge i out.length with h1|h1<;>rcases Nat.lt_or_ge j out.length with h2|h2
   ·rw[List.getElem_append_left h1,List.getElem_append_left h2]at e
    exact h i j h1 h2 e
   ·rw[List.getElem_append_left h1,List.getElem_append_right h2]at e
    simp only[show j - out.length=0 from by omega,List.getElem_cons_zero]at e;exact absurd e (hno i h1)
   ·rw[List.getElem_append_right h1,List.getElem_append_left h2]at e
    simp only[show i - out.length=0 from by omega,List.getElem_cons_zero]at e;exact absurd e.symm (hno j h2)
   ·omega
theorem MQ:y9 pN=eY pN:=by kernel_rfl
theorem nest_p(op:List Bt)(h:¬0≤dU op [pN] (y9 pN) op.length):uK pN op=true∧lD pN=false:=by
 have h1:parL pN=false:=by kernel_rfl
 have h2:gX pN=[pN]:=by kernel_rfl
 have h3:lD pN=false:=by kernel_rfl
 refine⟨?_,h3⟩;unfold uK;rw[h1,h2,←MQ];simp;omega
theorem R5{op:List Bt}{out st:List _}(h:Fits op out st)(t:Tk)(hb:(fV op out t).2.2=false):∃st2,Fits (fV op out t).1 (fV op out t).2.1 st2:=by
 have layer:∀(op2:List Bt) (x:Rw),(kg op2 out false x).2=false→(kg op2 out false x).1=out++[⟨(op2.length:Int),x.f1,x.f2,x.f3,x.f4⟩]:=by
  intro op2 x hl;unfold kg at hl⊢
  split
  ·rename_i g
   rw[if_pos g]at hl;cases hl
  ·rfl
 unfold fV at hb⊢
 by_cases k0:t.f0=0
 ·rw[if_pos k0]at hb⊢
  unfold Go.Proofs.aj.W7.gI at hb⊢
  by_cases e:t.f2.data.toList=[]
  ·rw[if_pos e];exact⟨st,h⟩
  rw[if_neg e]at hb⊢;cases hj:ou op out with
  |true=>
   rw[if_pos rfl];unfold ou at hj;cases hL:out.getLast? with
   |none=>rw[hL]at hj;cases hj
   |some y=>
    rw[hL]at hj;simp only[Bool.and_eq_true,decide_eq_true_eq]at hj;have hpos:0<out.length:=by cases out with|nil=>cases hL|cons a l=>simp
    have hr:=BA out hpos;rw[hL]at hr;rw[←Option.some.inj hr];obtain⟨pre,rfl⟩:=List.getLast?_eq_some_iff.1 hL;have e2:(pre++[y]).set ((pre++[y]).length - 1) (tV y t.f2)=pre++[tV y t.f2]:=by simp
    show∃st2,Fits op ((pre++[y]).set ((pre++[y]).length - 1) (tV y t.f2)) st2
    rw[e2];refine⟨st,?_,h.pre,h.chain⟩;generalize hout:pre++[y]=o at *;cases h.laws with
    |nil=>simp at hout
    |snoc o2 st2 x hl hs=>
     obtain⟨rfl,hyx⟩:=List.append_inj' hout rfl;obtain rfl:y=x:=by simpa using hyx
     have ha:after st2 y=after st2 (tV y t.f2):=rfl;rw[ha];refine .snoc pre st2 _ hl ⟨hs.lo,hs.hi,⟨hs.ok.kind,fun h0=>?_,hs.ok.no⟩,hs.void,hs.nest⟩;have:y.f1=0:=h0;omega
  |false=>
   rw[hj,if_neg (by decide)]at hb;rw[if_neg (by decide)];show∃st2,Fits op (kg op out false ⟨0,1,⟨#[]⟩,t.f2,[]⟩).1 st2
   rw[layer op _ hb];exact⟨_,(h.lay ⟨(op.length:Int),1,⟨#[]⟩,t.f2,[]⟩ rfl ⟨by simp,by simp,by simp⟩ (by simp)).1⟩
 rw[if_neg k0]at hb⊢
 by_cases k3:t.f0=3
 ·rw[if_pos k3]at hb⊢
  show∃st2,Fits op (kg op out false ⟨0,2,⟨#[]⟩,t.f2,[]⟩).1 st2
  rw[layer op _ hb];exact⟨_,(h.lay ⟨(op.length:Int),2,⟨#[]⟩,t.f2,[]⟩ rfl ⟨by simp,by simp,by simp⟩ (by simp)).1⟩
 rw[if_neg k3]at hb⊢
 by_cases k1:t.f0=1
 ·rw[if_pos k1]at hb⊢
  unfold ko at hb⊢
  by_cases e1:t.f1.data.toList=[]
  ·rw[if_pos e1];exact⟨st,h⟩
  rw[if_neg e1]at hb⊢;cases e2:lD t.f1 with
  |true=>rw[if_pos rfl];exact⟨st,h⟩
  |false=>
   rw[e2,if_neg (by decide)]at hb;rw[if_neg (by decide)];obtain⟨m,hm,em,hn⟩:=R4 op t.f1 h.chain;have h2:Fits (fQ op t.f1) out st:=by rw[em];exact h.take m
   have h3:=h2.lay ⟨((fQ op t.f1).length:Int),0,t.f1,⟨#[]⟩,mh t.f3⟩ rfl ⟨by simp,fun _=>⟨e1,rfl,tF t.f3 [] wX⟩,by simp⟩ (fun _=>⟨hn,e2⟩);show∃st2,Fits (if jv t.f1 then fQ op t.f1 else fQ op t.f1++[t.f1]) (kg (fQ op t.f1) out false ⟨0,0,t.f1,⟨#[]⟩,mh t.f3⟩).1 st2
   rw[layer _ _ hb];cases hv:jv t.f1 with
   |true=>exact⟨_,h3.1⟩
   |false=>exact⟨_,h3.2 rfl hv⟩
 rw[if_neg k1]at hb⊢
 by_cases k2:t.f0=2
 ·rw[if_pos k2]at hb⊢
  unfold Go.Proofs.aj.W7.iy at hb⊢
  by_cases e1:t.f1.data.toList=[]
  ·rw[if_pos e1];exact⟨st,h⟩
  rw[if_neg e1]at hb⊢
  by_cases e2:lD t.f1=true
  ·rw[if_pos e2];exact⟨st,h⟩
  rw[if_neg e2]at hb⊢
  by_cases e3:jv t.f1=true
  ·rw[if_pos e3];exact⟨st,h⟩
  rw[if_neg e3]at hb⊢
  by_cases e4:0≤dU op [t.f1] (y9 t.f1) op.length
  ·rw[if_pos e4];exact⟨st,h.take _⟩
  rw[if_neg e4]at hb⊢
  by_cases e5:t.f1.data.toList=[112]
  ·rw[if_pos e5]at hb⊢
   have hnm:t.f1=pN:=by
    obtain⟨f0,⟨⟨x⟩⟩,f2,f3,f4⟩:=t;simp only at e5;simp only[e5]
   rw[hnm]at e4 hb⊢;show∃st2,Fits op (kg op out false ⟨0,0,pN,⟨#[]⟩,[]⟩).1 st2
   rw[layer op _ hb];exact⟨_,(h.lay ⟨(op.length:Int),0,pN,⟨#[]⟩,[]⟩ rfl ⟨by simp,fun _=>⟨by simp,rfl,wX⟩,by simp⟩ (fun _=>nest_p op e4)).1⟩
  ·rw[if_neg e5];exact⟨st,h⟩
 rw[if_neg k2];exact⟨st,h⟩
theorem HY:∀(l:List Tk) (op:List Bt) (out:List Rw) (st:List Bt),Fits op out st→∀o,jY l op out=some o→∃st2,Laws o st2
 | [],op,out,st,h,o,ho=>by
   obtain rfl:=Option.some.inj ho;exact⟨st,h.laws⟩
 |t::r,op,out,st,h,o,ho=>by
  simp only[jY]at ho;cases hb:(fV op out t).2.2 with
  |true=>rw[hb,if_pos rfl]at ho;cases ho
  |false=>
   rw[hb,if_neg (by decide)]at ho;obtain⟨st2,h2⟩:=R5 h t hb;exact HY r _ _ st2 h2 o ho
theorem R6(l:List Tk)(o:List Rw)(h:jY l [] []=some o):∃st,Laws o st:=HY l [] [] [] ⟨.nil,rfl,fun i hi=>by simp at hi⟩ o h
end Go.Proofs.aj.W7
