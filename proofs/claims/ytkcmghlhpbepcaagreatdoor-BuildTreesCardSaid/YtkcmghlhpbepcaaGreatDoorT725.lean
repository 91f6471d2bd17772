/- Lemmas and walks, part 25. -/
import Derived.Test.YtkcmghlhpbepcaaGreatDoorT724
set_option linter.unusedVariables false
set_option linter.unusedSimpArgs false
namespace Go.Proofs.aj.W7
open Go.RowKit Go.Proofs Go.Proofs.aj Go.Proofs.YtkcmghlhpbepcaaGreatDoor Go.Proofs.ah.aG
def Gt:List Bt:=[⟨#[98,111,100,121]⟩,⟨#[102,114,97,109,101,115,101,116]⟩,⟨#[104,101,97,100]⟩,⟨#[104,116,109,108]⟩]
def Gv:List Bt:=[[97,114,101,97],[98,97,115,101],[98,114],[99,111,108],[101,109,98,101,100],[104,114],[105,109,103],[105,110,112,117,116],[108,105,110,107],[109,101,116,97],[112,97,114,97,109],[115,111,117,114,99,101],[116,114,97,99,107],[119,98,114]].map fun l=>⟨l.toArray⟩
theorem JC(s:Bt)(k:Nat)(hk:20≤k):jF.f k s=some (mZ Gt s):=by
 unfold jF.f;rw[oW _ _ _ (by simp) (by simp;omega),Option.bind_some];rfl
theorem JD(s:Bt)(k:Nat)(hk:20≤k):jG.f k s=some (mZ Gv s):=by
 unfold jG.f;rw[oW _ _ _ (by simp) (by simp;omega),Option.bind_some];rfl
theorem sS(s:Bt):nmB s=true:=by
 unfold nmB;obtain⟨c,hc,-⟩:=xU s 200 (by omega);obtain⟨w,hw,-⟩:=AV s 200 (by omega);obtain⟨p,hp⟩:=par_some s;rw[hc,hw,hp,JC _ _ (by omega),JD _ _ (by omega)];rfl
theorem goneL_eq(s:Bt):oH s=mZ Gt s:=by unfold oH;rw[JC _ _ (by omega)];rfl
theorem voidL_eq(s:Bt):nL s=mZ Gv s:=by unfold nL;rw[JD _ _ (by omega)];rfl
def rT:List Tk→List Bt→List Rw→Option (List Rw)
 | [],_,out=>some out
 |t::r,op,out=>if(jw op out t).2.2 then none else rT r (jw op out t).1 (jw op out t).2.1
inductive Grown (t:Tk) (out:List Rw):List Rw→Prop
 |same:Grown t out out
 |app (x:Rw) (h0:0≤x.f0) (h1:x.f0<60) (hd:tT out.getLast? x=false) (hs:x.f3.size≤t.f2.size) (ha:x.f4.length≤t.f3.length):Grown t out (out++[x])
 |text (pre:List Rw) (y:Rw) (he:out=pre++[y]) (hy:y.f1=1) (hn:t.f2.data.toList≠[]):Grown t out (pre++[addT y t.f2])
theorem xw:∀(l out:List At),(lK out l).length≤out.length+l.length
 | [],out=>by simp[lK]
 |a::r,out=>by
  simp only[lK];have:=xw r (if pV out a then out else out++[a])
  split at this
  ·rename_i h
   rw[if_pos h];simp only[List.length_cons];omega
  ·rename_i h
   rw[if_neg h];simp only[List.length_append,List.length_cons,List.length_nil]at this⊢;omega
theorem sU(t:Tk)(op:List Bt)(out:List Rw)(x:Rw)(h:(kK op out false x).2=false)(hd:∀d,tT out.getLast? ⟨op.length,x.f1,x.f2,x.f3,d⟩=false)(hs:x.f3.size≤t.f2.size)(ha:x.f4.length≤t.f3.length):Grown t out (kK op out false x).1:=by
 have hl:=pW op out x h;unfold kK at h⊢
 split
 ·rename_i g
  rw[if_pos g]at h;cases h
 ·exact .app _ (by simp) (by simp;omega) (hd _) hs ha
theorem Ef(p:Option Rw)(x:Rw)(h:x.f1≠1):tT p x=false:=by simp[tT,h]
theorem AY(op:List Bt)(out:List Rw)(t:Tk)(h:(jw op out t).2.2=false):Grown t out (jw op out t).2.1:=by
 unfold jw at h⊢
 by_cases k0:t.f0=0
 ·rw[if_pos k0]at h⊢
  unfold jC at h⊢
  by_cases e:t.f2.data.toList=[]
  ·rw[if_pos e];exact .same
  rw[if_neg e]at h⊢;cases hj:uL op out with
  |true=>
   rw[if_pos rfl];unfold uL at hj;cases hL:out.getLast? with
   |none=>rw[hL]at hj;cases hj
   |some y=>
    rw[hL]at hj;simp only[Bool.and_eq_true,decide_eq_true_eq]at hj;have hpos:0<out.length:=by cases out with|nil=>cases hL|cons a l=>simp
    have hr:=Jz out hpos;rw[hL]at hr;rw[←Option.some.inj hr];obtain⟨pre,rfl⟩:=List.getLast?_eq_some_iff.1 hL
    have:(pre++[y]).set ((pre++[y]).length - 1) (addT y t.f2)=pre++[addT y t.f2]:=by
     simp
    show Grown t _ ((pre++[y]).set ((pre++[y]).length - 1) (addT y t.f2));rw[this];exact .text pre y rfl hj.1 e
  |false=>
   rw[hj]at h;rw[if_neg (by decide)]at h⊢;refine sU t op out ⟨0,1,⟨#[]⟩,t.f2,[]⟩ h ?_ (Nat.le_refl _) (Nat.zero_le _);intro d;unfold uL at hj;simp only[tT,e,decide_true,decide_false,Bool.true_and,Bool.false_or];exact hj
 rw[if_neg k0]at h⊢
 by_cases k3:t.f0=3
 ·rw[if_pos k3]at h⊢
  exact sU t op out ⟨0,2,⟨#[]⟩,t.f2,[]⟩ h (fun d=>Ef _ _ (by simp)) (Nat.le_refl _) (Nat.zero_le _)
 rw[if_neg k3]at h⊢
 by_cases k1:t.f0=1
 ·rw[if_pos k1]at h⊢
  unfold lM at h⊢
  by_cases e1:t.f1.data.toList=[]
  ·rw[if_pos e1];exact .same
  rw[if_neg e1]at h⊢
  by_cases e2:oH t.f1=true
  ·rw[if_pos e2];exact .same
  rw[if_neg e2]at h⊢;refine sU t _ out ⟨0,0,t.f1,⟨#[]⟩,mM t.f3⟩ h (fun d=>Ef _ _ (by simp)) (Nat.zero_le _) ?_;have:=xw t.f3 [];simpa [mM]using this
 rw[if_neg k1]at h⊢
 by_cases k2:t.f0=2
 ·rw[if_pos k2]at h⊢
  unfold jo at h⊢
  by_cases e1:t.f1.data.toList=[]
  ·rw[if_pos e1];exact .same
  rw[if_neg e1]at h⊢
  by_cases e2:oH t.f1=true
  ·rw[if_pos e2];exact .same
  rw[if_neg e2]at h⊢
  by_cases e3:nL t.f1=true
  ·rw[if_pos e3];exact .same
  rw[if_neg e3]at h⊢
  by_cases e4:0≤dW op [t.f1] (uN t.f1) op.length
  ·rw[if_pos e4];exact .same
  rw[if_neg e4]at h⊢
  by_cases e5:t.f1.data.toList=[112]
  ·rw[if_pos e5]at h⊢
   exact sU t op out ⟨0,0,t.f1,⟨#[]⟩,[]⟩ h (fun d=>Ef _ _ (by simp)) (Nat.zero_le _) (Nat.zero_le _)
  ·rw[if_neg e5];exact .same
 rw[if_neg k2];exact .same
structure Built (op:List Bt) (out:List Rw) (S:Nat):Prop where
 len:out.length≤4096
 open_:op.length≤60
 depth:∀x∈out,0≤x.f0∧x.f0<60
 normal:yx none out=true
 size:∀x∈out,x.f3.size≤S
 attrs:∀x∈out,x.f4.length≤1000000
theorem Cj:Built [] [] 0:=⟨by simp,by simp,by simp,rfl,by simp,by simp⟩
theorem ba_nil(a:Bt):a.data.toList=[]↔a.size=0:=by
 show _↔a.data.size=0;rw[←Array.length_toList,List.length_eq_zero_iff]
theorem uF{op:List Bt}{out:List Rw}{S:Nat}(hB:Built op out S)(t:Tk)(ht:t.f3.length≤1000000)(h:(jw op out t).2.2=false):Built (jw op out t).1 (jw op out t).2.1 (S+t.f2.size):=by
 have hs:=uj op out t hB.len hB.open_ h;have hg:=AY op out t h;generalize jw op out t=R at *;obtain⟨op2,out2,big⟩:=R;simp only at hs hg h⊢;cases hg with
 |same=>exact⟨hs.1,hs.2,hB.depth,hB.normal,fun x hx=>by have:=hB.size x hx;omega,hB.attrs⟩
 |app x h0 h1 hd hz ha=>
  refine⟨hs.1,hs.2,?_,?_,?_,?_⟩
  ·intro y hy
   rcases List.mem_append.1 hy with hy|hy
   ·exact hB.depth y hy
   ·obtain rfl:=List.mem_singleton.1 hy
    exact⟨h0,h1⟩
  ·rw[AX,hB.normal]
   simp[yx,hd]
  ·intro y hy
   rcases List.mem_append.1 hy with hy|hy
   ·have:=hB.size y hy;omega
   ·obtain rfl:=List.mem_singleton.1 hy
    omega
  ·intro y hy
   rcases List.mem_append.1 hy with hy|hy
   ·exact hB.attrs y hy
   ·obtain rfl:=List.mem_singleton.1 hy
    omega
 |text pre y he hy hn=>
  subst he;have hy0:=hB.depth y (by simp);have hy1:=hB.size y (by simp);have hy2:=hB.attrs y (by simp);refine⟨hs.1,hs.2,?_,?_,?_,?_⟩
  ·intro x hx
   rcases List.mem_append.1 hx with hx|hx
   ·exact hB.depth x (by simp[hx])
   ·obtain rfl:=List.mem_singleton.1 hx
    exact hy0
  ·have:=hB.normal
   rw[AX]at this⊢;simp only[Bool.and_eq_true]at this⊢;refine⟨this.1,?_⟩;have h2:=this.2;simp only[yx,Bool.and_true,Bool.not_eq_true']at h2⊢;simp only[tT,hy,addT,decide_true,Bool.true_and,Bool.or_eq_false_iff,decide_eq_false_iff_not]at h2⊢;refine⟨?_,h2.2⟩;rw[ba_nil,ByteArray.size_append];rw[Ne,ba_nil]at hn;omega
  ·intro x hx
   rcases List.mem_append.1 hx with hx|hx
   ·have:=hB.size x (by simp[hx]);omega
   ·obtain rfl:=List.mem_singleton.1 hx
    show(y.f3++t.f2).size≤_;rw[ByteArray.size_append];omega
  ·intro x hx
   rcases List.mem_append.1 hx with hx|hx
   ·exact hB.attrs x (by simp[hx])
   ·obtain rfl:=List.mem_singleton.1 hx
    exact hy2
def tq(l:List Tk):Nat:=(l.map fun t=>t.f2.size).sum
theorem Ck:∀(l:List Tk) (op:List Bt) (out:List Rw) (S:Nat),Built op out S→S+tq l≤9223372036854775807→(∀t∈l,t.f3.length≤1000000)→
 xI l op out=some (match rT l op out with|none=>([],2)|some o=>(o,0))∧∀o,rT l op out=some o→∃op2,Built op2 o (S+tq l)
 | [],op,out,S,hB,_,_=>by
   simp only[xI,rT];rw[Ka out (by have:=hB.len;omega) (fun x hx=>by have:=hB.depth x hx;omega) hB.attrs hB.normal,Option.bind_some];refine⟨rfl,fun o ho=>?_⟩;obtain rfl:=Option.some.inj ho;exact⟨op,hB⟩
 |t::r,op,out,S,hB,hS,ha=>by
  have e:tq (t::r)=t.f2.size+tq r:=by simp[tq]
  rw[e]at hS⊢
  have hok:okT out t=true:=by
   unfold okT
   split
   ·unfold szB
    rw[List.all_eq_true];intro x hx;have:=hB.size x hx;exact decide_eq_true (by omega)
   ·split
    ·rw[sS,decide_eq_true (ha t (by simp))]
     rfl
    ·split
     ·exact sS _
     ·rfl
  simp only[xI,rT];rw[if_pos hok];cases hb:(jw op out t).2.2 with
  |true=>exact⟨rfl,fun o ho=>by cases ho⟩
  |false=>
   rw[if_neg (by decide),if_neg (by decide)];obtain⟨h1,h2⟩:=Ck r _ _ _ (uF hB t (ha t (by simp)) hb) (by omega) (fun x hx=>ha x (List.mem_cons_of_mem _ hx));refine⟨h1,fun o ho=>?_⟩;obtain⟨op2,h3⟩:=h2 o ho;exact⟨op2,by rw[←Nat.add_assoc];exact h3⟩
theorem tree_f(l:List Tk)(hS:tq l≤9223372036854775807)(ha:∀t∈l,t.f3.length≤1000000):
 gZ.f l=some (match rT l [] []with|none=>([],2)|some o=>(o,0)):=by
 unfold gZ.f;rw[sS,sS,sS];exact(Ck l [] [] 0 Cj (by omega) ha).1
theorem nmOk(s:Bt):NmOk s:=wK (sS s)
theorem up_to{α:Type}{f:Nat→Option α}(hm:∀k,LeO (f k) (f (k+1))){n:Nat}{b:α}(h:f n=some b):∀k,n≤k→f k=some b:=by
 intro k hk;obtain⟨d,rfl⟩:∃d,k=n+d:=⟨k - n,by omega⟩
 induction d with
 |zero=>exact h
 |succ d ih=>exact hm (n+d) _ (ih (by omega))
theorem Ce(s:Bt)(k:Nat)(hk:200≤k):bL.f k s=some (iH s):=up_to (f:=fun k=>bL.f k s) (fun k=>bL.mono s k) (nmOk s).closes k hk
theorem Gs(s:Bt)(k:Nat)(hk:200≤k):bV.f k s=some (gP s):=up_to (f:=fun k=>bV.f k s) (fun k=>bV.mono s k) (nmOk s).walls k hk
def nestB(s:Bt)(l:List Bt):Bool:=!(parL s&&decide (0≤dW l [pN] (gP pN) l.length))&&decide (dW l (iH s) (gP s) l.length<0)
end Go.Proofs.aj.W7
