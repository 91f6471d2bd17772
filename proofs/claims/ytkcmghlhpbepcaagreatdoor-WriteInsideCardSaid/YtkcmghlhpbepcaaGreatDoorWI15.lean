/- Lemmas and walks, part 15. -/
import Derived.Test.YtkcmghlhpbepcaaGreatDoorWI14
set_option linter.unusedVariables false
set_option linter.unusedSimpArgs false
namespace Go.Proofs.aj.W7
open Go.RowKit Go.Proofs aj YtkcmghlhpbepcaaGreatDoor ah.aD
def tT(x:Rw):Tk:=if x.f1=0 then⟨1,x.f2,⟨#[]⟩,x.f4,false⟩else if x.f1=1 then⟨0,⟨#[]⟩,x.f3,[],false⟩else⟨3,⟨#[]⟩,x.f3,[],false⟩
def Bl(n:Bt):Tk:=⟨2,n,⟨#[]⟩,[],false⟩
def opA(op:List Bt)(x:Rw):List Bt:=if x.f1=0∧jq x.f2=false then op++[x.f2]else op
def emit:List Rw→List Bt→List Tk
 | [],op=>op.reverse.map Bl
 |x::r,op=>(op.drop x.f0.toNat).reverse.map Bl++tT x::emit r (opA (op.take x.f0.toNat) x)
structure D8 (x:Rw) (op:List Bt) (out:List Rw):Prop where
 lo:0≤x.f0
 hi:x.f0≤op.length
 deep:x.f0<60
 len:out.length<4096
 kind:x.f1=0∨x.f1=1∨x.f1=2
 el:x.f1=0→x.f2.data.toList≠[]∧mo x.f2=false∧rT x.f2 (op.take x.f0.toNat)=true∧x.f3=⟨#[]⟩∧ny x.f4=x.f4
 no:x.f1≠0→x.f2=⟨#[]⟩∧x.f4=[]
 text:x.f1=1→x.f3.data.toList≠[]∧nu (op.take x.f0.toNat) out=false
def RowsFit:List Rw→List Bt→List Rw→Prop
 | [],_,_=>True
 |x::r,op,out=>D8 x op out∧RowsFit r (opA (op.take x.f0.toNat) x) (out++[x])
def Iz(op:List Bt):Prop:=∀n∈op,n.data.toList≠[]∧mo n=false∧jq n=false
theorem EL{a b op:List Bt}(h:dS op a b op.length<0):oW a b op=op:=by
 unfold oW;rw[lK,if_pos h]
theorem Qz{s:Bt}{op:List Bt}(h:rT s op=true):gH op s=op:=by
 unfold rT at h;simp only[Bool.and_eq_true,Bool.not_eq_true',Bool.and_eq_false_iff,decide_eq_true_eq,decide_eq_false_iff_not]at h;unfold gH;rw[EL h.2]
 split
 ·rename_i hp
  rcases h.1 with h1|h1
  ·rw[h1]at hp;cases hp
  ·exact EL (by omega)
 ·rfl
theorem TF{op:List Bt}{out:List Rw}{n:Bt}(h:n.data.toList≠[]∧mo n=false∧jq n=false):iL (op++[n]) out false n=(op,out,false):=by
 unfold iL;rw[if_neg h.1,if_neg (by rw[h.2.1];decide),if_neg (by rw[h.2.2];decide)]
 have e:dS (op++[n]) [n] (zZ n) (op++[n]).length=(op.length:Int):=by
  rw[List.length_append,List.length_cons,List.length_nil,Nat.zero_add,dS];have e1:(op++[n]).getD op.length ⟨#[]⟩=n:=by simp
  rw[e1,if_pos (by simp[Lib.containsS,Lib.idxOfS,Lib.idxFromS])]
 rw[e,if_pos (by omega),Int.toNat_natCast,List.take_append_of_le_length (Nat.le_refl _),List.take_length]
theorem IB(rest:List Tk)(out:List Rw)(op:List Bt):∀(m:List Bt),Iz m→jQ (m.map Bl++rest) (op++m.reverse) out=jQ rest op out
 | [],_=>by simp
 |n::m,h=>by
  have hs:gI (op++(n::m).reverse) out (Bl n)=(op++m.reverse,out,false):=by
   unfold gI Bl;rw[if_neg (by simp),if_neg (by simp),if_neg (by simp),if_pos (by simp),List.reverse_cons,←List.append_assoc];exact TF (h n (by simp))
  rw[List.map_cons,List.cons_append,jQ,hs,if_neg (by simp)];exact IB rest out op m (fun k hk=>h k (by simp[hk]))
theorem JZ(rest:List Tk)(out:List Rw)(ns op:List Bt)(h:Iz ns):jQ (ns.reverse.map Bl++rest) (op++ns) out=jQ rest op out:=by
 have:=IB rest out op ns.reverse (fun n hn=>h n (List.mem_reverse.1 hn))
 rwa [List.reverse_reverse]at this
theorem Mk{op:List Bt}{out:List Rw}(x:Rw)(h1:out.length<4096)(h2:op.length<60):kN op out false x=(out++[⟨op.length,x.f1,x.f2,x.f3,x.f4⟩],false):=by
 unfold kN;rw[if_neg (by omega)]
theorem tL{x:Rw}{op:List Bt}{out:List Rw}(h:D8 x op out):gI (op.take x.f0.toNat) out (tT x)=(opA (op.take x.f0.toNat) x,out++[x],false):=by
 have hl:(op.take x.f0.toNat).length=x.f0.toNat:=by rw[List.length_take];have:=h.hi;have:=h.lo;omega
 have hlo:=h.lo;have hd:=h.deep;have hx:((op.take x.f0.toNat).length:Int)=x.f0:=by rw[hl];omega
 have h60:(op.take x.f0.toNat).length<60:=by omega
 have he:=h.el;have hno:=h.no;have htx:=h.text;have hlen:=h.len;generalize op.take x.f0.toNat=op' at *;obtain⟨d,k,nm,tx,at_⟩:=x;simp only at *
 rcases h.kind with rfl|rfl|rfl
 ·obtain⟨a1,a2,a3,rfl,a5⟩:=he rfl
  have et:gI op' out (tT ⟨d,0,nm,⟨#[]⟩,at_⟩)=kP op' out false nm at_:=by simp[gI,tT]
  rw[et];unfold kP;rw[if_neg a1,if_neg (by rw[a2];decide),Qz a3,Mk _ hlen h60];simp only[a5,hx,opA];cases hv:jq nm<;>simp
 ·obtain⟨rfl,rfl⟩:=hno (by decide)
  obtain⟨a1,a2⟩:=htx rfl;have et:gI op' out (tT ⟨d,1,⟨#[]⟩,tx,[]⟩)=(op',gT op' out false tx):=by simp[gI,tT]
  rw[et];unfold gT;rw[if_neg a1,a2,if_neg (by decide),Mk _ hlen h60];simp[hx,opA]
 ·obtain⟨rfl,rfl⟩:=hno (by decide)
  have et:gI op' out (tT ⟨d,2,⟨#[]⟩,tx,[]⟩)=(op',kN op' out false ⟨0,2,⟨#[]⟩,tx,[]⟩):=by simp[gI,tT]
  rw[et,Mk _ hlen h60];simp[hx,opA]
theorem UU{x:Rw}{op:List Bt}{out:List Rw}(h:D8 x op out)(ho:Iz op):Iz (opA (op.take x.f0.toNat) x):=by
 unfold opA
 split
 ·rename_i hc
  obtain⟨a1,a2,_⟩:=h.el hc.1;intro n hn
  rcases List.mem_append.1 hn with hn|hn
  ·exact ho n (List.mem_of_mem_take hn)
  ·obtain rfl:=List.mem_singleton.1 hn
   exact⟨a1,a2,hc.2⟩
 ·exact fun n hn=>ho n (List.mem_of_mem_take hn)
theorem J2:∀(r:List Rw) (op:List Bt) (out:List Rw),Iz op→RowsFit r op out→jQ (emit r op) op out=some (out++r)
 | [],op,out,ho,_=>by
   have:=JZ [] out op [] ho;rw[List.nil_append,List.append_nil]at this;rw[emit,this,jQ,List.append_nil]
 |x::r,op,out,ho,h=>by
  obtain⟨h1,h2⟩:=h;have e:=JZ (tT x::emit r (opA (op.take x.f0.toNat) x)) out (op.drop x.f0.toNat) (op.take x.f0.toNat) (fun n hn=>ho n (List.mem_of_mem_drop hn));rw[List.take_append_drop]at e;rw[emit,e,jQ,tL h1,if_neg (by simp)];rw[J2 r _ _ (UU h1 ho) h2,List.append_assoc,List.singleton_append]
end Go.Proofs.aj.W7
namespace Go.Proofs.YtkcmghlhpbepcaaGreatDoor
open Go.Proofs
theorem Ia{p:UInt8→Bool}{c:UInt8}{r:Txt}(h:p c=true):∀ {a:Txt},(∀x∈a,p x=false)→(a++c::r).findIdx p=a.length
 | [],_=>by simp[List.findIdx_cons,h]
 |x::a,ha=>by
  rw[List.cons_append,List.findIdx_cons,ha x (by simp),Ia h (fun y hy=>ha y (by simp[hy]))];simp
theorem Ti{p:UInt8→Bool}:∀ {a:Txt},(∀x∈a,p x=false)→a.findIdx p=a.length
 | [],_=>rfl
 |x::a,ha=>by
  rw[List.findIdx_cons,ha x (by simp),Ti (fun y hy=>ha y (by simp[hy]))];simp
theorem run_hit{t a r q:Txt}{ts:List Tok}(ha:(60:UInt8)∉a)(ho:jd r=some (ts,q)):nZ t (a++60::r)=fE (t++a)++ts++nZ [] q:=by
 have hf:gT (a++60::r)=a.length:=Ia (by decide) (fun x hx=>beq_eq_false_iff_ne.2 (fun e=>ha (by rw[←e];exact hx)));rw[zP,hf];simp[ho]
theorem run_none{t a:Txt}(ha:(60:UInt8)∉a):nZ t a=fE (t++a):=by
 have hf:gT a=a.length:=Ti (fun x hx=>beq_eq_false_iff_ne.2 (fun e=>ha (by rw[←e];exact hx)));rw[zP,hf];simp
theorem CK(t:Txt):nZ t []=fE t:=by simpa using run_none (t:=t) (a:=[]) (by simp)
theorem OA{nm r:Txt}{c:UInt8}(hn:∀x∈nm,bY x=false)(hc:bY c=true):fC (nm++c::r)=(kR [] (c::r)).map fun q=>(⟨0,iZ nm,q.1,[],q.2.1⟩,q.2.2):=by
 unfold fC;rw[Ia hc hn];simp
theorem attrs_gt(acc:List (Txt×Txt))(r:Txt):kR acc (62::r)=some (acc,false,r):=by
 have hg:rC (62::r)=0:=by simp[rC,List.findIdx_cons,dz]
 rw[zN,wU,hg];simp
theorem Qp{name r:Txt}{c:UInt8}(hc:bY c=true):gQ name (60::47::(name++c::r))=true:=by
 simp[gQ,hc]
def hasL(l:List UInt8)(c:Nat):Bool:=l.any fun x=>x.toNat==c
end Go.Proofs.YtkcmghlhpbepcaaGreatDoor
namespace Go.Proofs.YtkcmghlhpbepcaaGreatDoor
open Go.RowKit Go.Proofs
theorem QO{c:UInt8}{a r:List UInt8}(h:c∉a):gW c (a++c::r)=(a,r,true):=by
 induction a with
 |nil=>simp[gW]
 |cons x a ih=>
  have hx:x≠c:=fun e=>h (by simp[e])
  rw[List.cons_append,gW,if_neg hx,ih (fun e=>h (by simp[e]))]
theorem vN{name t r:List UInt8}(h:(59:UInt8)∉name)(hm:je name=(t,true)):jc (38::(name++59::r))=t++jc r:=by
 have e:=QO (r:=r) h;rw[Gg (by rw[e]) (by rw[e,hm]),e,hm]
theorem m_amp:je [97,109,112]=([38],true):=by decide +kernel
theorem m_lt:je [108,116]=([60],true):=by decide +kernel
theorem m_gt:je [103,116]=([62],true):=by decide +kernel
theorem m_quot:je [113,117,111,116]=([34],true):=by decide +kernel
theorem m_nbsp:je [110,98,115,112]=([194,160],true):=by decide +kernel
theorem dec_amp(r:List UInt8):jc ([38,97,109,112,59]++r)=38::jc r:=vN (by decide) m_amp
theorem dec_lt(r:List UInt8):jc ([38,108,116,59]++r)=60::jc r:=vN (by decide) m_lt
theorem dec_gt(r:List UInt8):jc ([38,103,116,59]++r)=62::jc r:=vN (by decide) m_gt
theorem dec_quot(r:List UInt8):jc ([38,113,117,111,116,59]++r)=34::jc r:=vN (by decide) m_quot
theorem ML(r:List UInt8):jc ([38,110,98,115,112,59]++r)=194::160::jc r:=vN (by decide) m_nbsp
theorem E5(q:Bool)(c:UInt8)(r:List UInt8):jc (pV q c++r)=c::jc r:=by
 unfold pV
 split
 ·rename_i h;rw[h,dec_amp]
 split
 ·rename_i h;rw[h,dec_lt]
 split
 ·rename_i h;rw[h,dec_gt]
 split
 ·rename_i h;rw[h.1,dec_quot]
 ·rename_i h _ _ _
  rw[List.singleton_append,sI,if_neg h]
theorem Dr(q:Bool):∀l,jc (wrL q l)=l
 | []=>by simp[wrL,q9]
 | [c]=>by
   rw[wrL];have:=E5 q c []
   rwa [List.append_nil,q9]at this
 |c::d::l=>by
  rw[wrL]
  split
  ·rename_i h
   rw[ML,Dr q l,h.1,h.2]
  ·rw[E5,Dr q (d::l)]
theorem Ej(a b:List UInt8)(c:Nat):hasL (a++b) c=(hasL a c||hasL b c):=by simp[hasL]
theorem Kn(q:Bool)(c:UInt8)(n:Nat)(hn:n=60∨n=62∨(n=34∧q=true)):hasL (pV q c) n=false:=by
 unfold pV
 split
 ·rcases hn with rfl|rfl|⟨rfl,_⟩<;>decide
 split
 ·rcases hn with rfl|rfl|⟨rfl,_⟩<;>decide
 split
 ·rcases hn with rfl|rfl|⟨rfl,_⟩<;>decide
 split
 ·rcases hn with rfl|rfl|⟨rfl,_⟩<;>decide
 ·rename_i h1 h2 h3 h4
  simp only[hasL,List.any_cons,List.any_nil,Bool.or_false,beq_eq_false_iff_ne,ne_eq];intro e
  rcases hn with rfl|rfl|⟨rfl,hq⟩
  ·exact h2 (Bz (n:=60) e (by decide))
  ·exact h3 (Bz (n:=62) e (by decide))
  ·exact h4 ⟨Bz (n:=34) e (by decide),hq⟩
theorem BD(q:Bool)(n:Nat)(hn:n=60∨n=62∨(n=34∧q=true)):∀l,hasL (wrL q l) n=false
 | []=>rfl
 | [c]=>by rw[wrL];exact Kn q c n hn
 |c::d::l=>by
  rw[wrL]
  split
  ·rw[Ej,BD q n hn l]
   rcases hn with rfl|rfl|⟨rfl,_⟩<;>decide
  ·rw[Ej,Kn q c n hn,BD q n hn (d::l)]
   rfl
theorem QS(q:Bool)(c:UInt8):(pV q c).length≤6:=by
 unfold pV
 repeat' split
 all_goals simp
theorem Dt(q:Bool):∀l,(wrL q l).length≤6 * l.length
 | []=>by simp[wrL]
 | [c]=>by rw[wrL];have:=QS q c;simp;omega
 |c::d::l=>by
  rw[wrL]
  split
  ·have:=Dt q l
   simp;omega
  ·have:=Dt q (d::l)
   have:=QS q c;simp at *;omega
theorem Jl{l:List UInt8}(h:l.length<2):mJ l=0:=by
 unfold mJ
 repeat rw[if_neg (fun e=>by rw[e]at h;simp at h)]
theorem Na{l:List UInt8}(h:mJ l≠0):2≤l.length:=by
 rcases Nat.lt_or_ge l.length 2 with e|e
 ·exact absurd (Jl e) h
 ·exact e
theorem Gz{b:Nat}{l:List UInt8}(h:jU b l=true):1≤l.length:=by
 unfold jU at h;rw[Bool.and_eq_true]at h;cases l with
 |nil=>simp at h
 |cons c l=>simp
theorem PW{l:List UInt8}(h:(je l).2=true):2≤l.length:=by
 unfold je at h
 split at h
 ·unfold kM at h
  split at h
  ·rename_i hd
   have:=Gz hd;simp at this;omega
  ·cases h
 ·split at h
  ·unfold kM at h
   split at h
   ·rename_i hd
    have:=Gz hd;have:=List.length_tail (l:=l);omega
   ·cases h
  ·unfold sV at h
   split at h
   ·cases h
   ·rename_i hn
    exact Na hn
theorem BQ:∀(n:Nat) (l:List UInt8),l.length≤n→(jc l).length≤l.length
 |0,l,h=>by
  have:l=[]:=List.eq_nil_of_length_eq_zero (by omega);rw[this,q9];exact Nat.le_refl _
 |n+1,[],h=>by rw[q9];exact Nat.le_refl _
 |n+1,c::l,h=>by
  simp only[List.length_cons]at h;rw[sI]
  split
  ·split
   ·rename_i hm
    rw[Bool.and_eq_true]at hm;have h1:=nO 59 l;rw[if_pos hm.1]at h1;have h2:=PW hm.2;have h3:=Gj (gW 59 l).1;have h4:=BQ n (gW 59 l).2.1 (by omega);simp only[List.length_append,List.length_cons];omega
   ·have:=BQ n l (by omega)
    simp only[List.length_cons];omega
  ·have:=BQ n l (by omega)
   simp only[List.length_cons];omega
theorem hasL_mem{l:List UInt8}{c:UInt8}(h:hasL l c.toNat=false):c∉l:=by
 intro hm;unfold hasL at h;rw[List.any_eq_false]at h;exact h c hm (by simp)
theorem Nb(q:Bool)(c:UInt8):1≤(pV q c).length:=by
 unfold pV
 repeat' split
 all_goals simp
theorem wr_ge(q:Bool):∀l,l.length≤(wrL q l).length
 | []=>by simp
 | [c]=>by rw[wrL];exact Nb q c
 |c::d::l=>by
  rw[wrL]
  split
  ·have:=wr_ge q l
   simp;omega
  ·have:=wr_ge q (d::l)
   have:=Nb q c;simp at *;omega
end Go.Proofs.YtkcmghlhpbepcaaGreatDoor
namespace Go.Proofs.YtkcmghlhpbepcaaGreatDoor
open Go.Proofs
def dY(l:List (Txt×Txt)):Txt:=l.flatMap fun a=>32::(a.1++61::34::(wrL true a.2++[34]))
def mY(b:Bool):Txt:=if b then [32,47]else []
def jR(o:Txt)(t:Tok):Txt:=o++t.name++dY t.attrs++mY t.self++[62]
def oG(raw:Bool)(t:Tok):Txt:=
 if t.kind=0 then(if raw then t.data else wrL false t.data)
 else if t.kind=1 then jR [60] t
 else if t.kind=2 then jR [60,47] ⟨0,t.name,[],[],false⟩
 else if t.kind=3 then [60,33,45,45]++t.data++[45,45,62]
 else if t.kind=4 then [60,33,100,111,99,116,121,112,101,32]++t.data++[62]
 else []
def sj(t:Tok):Bool:=t.kind==1&&kX t.name
def eY(raw:Bool):List Tok→Txt
 | []=>[]
 |t::r=>oG raw t++eY (sj t) r
def Bg(l:List Tok):Txt:=eY false l
structure rH (s:Txt):Prop where
 ne:s≠[]
 low:iZ s=s
 first:∀c r,s=c::r→dz c=false∧c≠47∧c≠62
 rest:∀x∈s.tail,bY x=false∧x≠61
structure sF (s:Txt):Prop where
 low:iZ s=s
 letter:gP s=true
 all:∀x∈s,bY x=false
theorem Tp{p:UInt8→Bool}{c:UInt8}{r:Txt}(h:p c=true):(c::r).findIdx p=0:=by simp[List.findIdx_cons,h]
theorem Tq{c:UInt8}{r:Txt}(h:dz c=false):mg (c::r)=c::r:=by
 unfold mg;rw[Tp (by simp[h])];rfl
theorem OB{l:Txt}{n:Nat}{c:UInt8}(e:c.toNat=n)(h:hasL l n=false):c∉l:=by
 subst e;exact hasL_mem h
theorem UD{nm v r:Txt}(hn:rH nm):lU (nm++61::34::(wrL true v++34::r))=((nm,v),r,true):=by
 obtain⟨c,t,rfl⟩:=List.exists_cons_of_ne_nil hn.ne
 have hk:qB (c::t++61::34::(wrL true v++34::r))=(c::t).length:=by
  unfold qB
  rw[List.cons_append,List.tail_cons,Ia (by decide) (fun x hx=>by
   have:=hn.rest x hx;simp[this.1,this.2])]
  simp;omega
 have e1:(c::t++61::34::(wrL true v++34::r)).take (c::t).length=c::t:=List.take_left;have e2:(c::t++61::34::(wrL true v++34::r)).drop (c::t).length=61::34::(wrL true v++34::r):=List.drop_left;have e3:gW 34 (wrL true v++34::r)=(wrL true v,r,true):=QO (OB (by decide) (BD true 34 (by simp) v));unfold lU;rw[hk,e1,e2,hn.low];unfold sS;rw[Tq (by decide)];simp only[if_true];rw[Tq (by decide)];simp[Aw,e3,Dr]
theorem Qr(acc:List (Txt×Txt))(b:Bool)(r:Txt):kR acc (mY b++62::r)=some (acc,b,r):=by
 cases b with
 |false=>exact attrs_gt acc r
 |true=>
  have hg:rC (32::47::62::r)=2:=by simp[rC,List.findIdx_cons,dz]
  show kR acc (32::47::62::r)=_;rw[zN,wU,hg];simp
theorem addA_new{acc:List (Txt×Txt)}{a:Txt×Txt}(h:∀b∈acc,b.1≠a.1):z8 acc a=acc++[a]:=by
 unfold z8;rw[if_neg];rw[List.any_eq_true];rintro⟨b,hb,e⟩;exact h b hb (by simpa using e)
theorem Ie(b:Bool)(r:Txt):∀(l acc:List (Txt×Txt)),(∀a∈l,rH a.1)→((acc++l).map Prod.fst).Nodup→kR acc (dY l++(mY b++62::r))=some (acc++l,b,r)
 | [],acc,_,_=>by simpa [dY]using Qr acc b r
 |a::l,acc,h1,h2=>by
  have ha:=h1 a (by simp);obtain⟨nm,v⟩:=a;simp only at ha;have e0:dY ((nm,v)::l)++(mY b++62::r)=32::(nm++61::34::(wrL true v++34::(dY l++(mY b++62::r)))):=by simp[dY]
  have hb:=UD (v:=v) (r:=dY l++(mY b++62::r)) ha;obtain⟨c,t,rfl⟩:=List.exists_cons_of_ne_nil ha.ne;obtain⟨f1,f2,f3⟩:=ha.first c t rfl
  have hg:rC (32::(c::t++61::34::(wrL true v++34::(dY l++(mY b++62::r)))))=1:=by
   unfold rC;rw[List.findIdx_cons,show(!dz 32&&(32:UInt8) !=47)=false from by decide,List.cons_append,Tp (by simp[f1,f2])];simp
  have hne:∀b∈acc,b.1≠(c::t):=by
   intro x hx e;rw[List.map_append,List.nodup_append]at h2;exact h2.2.2 x.1 (List.mem_map_of_mem hx) (c::t) (by simp) e
  rw[e0,zN,hg];rw[List.cons_append]at hb⊢;simp only[List.drop_succ_cons,List.drop_zero];rw[if_neg f3,hb];simp only[if_true];rw[addA_new hne,Ie b r l _ (fun a ha=>h1 a (by simp[ha])) (by simpa using h2)];simp
theorem Md(l:List (Txt×Txt))(b:Bool)(r:Txt):∃c q,dY l++(mY b++62::r)=c::q∧bY c=true:=by
 cases l with
 |nil=>
  cases b with
  |false=>exact⟨62,r,rfl,by decide⟩
  |true=>exact⟨32,47::62::r,rfl,by decide⟩
 |cons a l=>exact⟨32,_,rfl,by decide⟩
theorem EG{nm r:Txt}{l:List (Txt×Txt)}{b:Bool}(hn:sF nm)(h1:∀a∈l,rH a.1)(h2:(l.map Prod.fst).Nodup):
 fC (nm++(dY l++(mY b++62::r)))=some (⟨0,nm,l,[],b⟩,r):=by
 obtain⟨c,q,e,hc⟩:=Md l b r;have h3:=Ie b r l [] h1 (by simpa using h2);rw[e]at h3⊢;rw[OA hn.all hc,h3,hn.low];rfl
theorem Ig{s r:Txt}(h:gP s=true):gP (s++r)=true:=by
 cases s with
 |nil=>simp[gP]at h
 |cons c t=>exact h
theorem Bc{nm r:Txt}{l:List (Txt×Txt)}{b:Bool}(hn:sF nm)(h1:∀a∈l,rH a.1)(h2:(l.map Prod.fst).Nodup):
 jd (nm++(dY l++(mY b++62::r)))=some (if kX nm||kV nm then(⟨1,nm,l,[],b⟩::jE nm r,jD nm r)else([⟨1,nm,l,[],b⟩],r)):=by
 unfold jd;rw[if_pos (Ig hn.letter),pq,EG hn h1 h2];simp
theorem open_end{nm r:Txt}(hn:sF nm):jd (47::(nm++62::r))=some ([⟨2,nm,[],[],false⟩],r):=by
 have h:=EG (r:=r) (l:=[]) (b:=false) hn (by simp) (by simp);simp only[dY,mY,List.flatMap_nil,List.nil_append,Bool.false_eq_true,if_false]at h;unfold jd;rw[if_neg (by simp[gP,mH]),if_pos (by simp[Lib.hasPrefix,Ig hn.letter]),List.tail_cons,pq,h];simp
theorem Uv{nm r:Txt}:iL nm (60::47::(nm++62::r))=0:=by
 rw[iL,Qp (by decide)];rfl
theorem CP(x:Txt):(60:UInt8)∉wrL false x:=OB (by decide) (BD false 60 (by simp) x)
theorem wr_nil{q:Bool}{x:Txt}(h:x≠[]):wrL q x≠[]:=by
 intro e;have h1:=wr_ge q x;rw[e]at h1;exact h (List.eq_nil_of_length_eq_zero (by simpa using h1))
def okB(c:UInt8):Bool:=!((decide (65≤c.toNat)&&decide (c.toNat≤90))||c==32||c==9||c==10||c==12||c==13||c==62)
def FY(s:Txt):Bool:=s.all okB
structure Ic (s:Txt):Prop where
 ne:s≠[]
 ok:FY s=true
structure yD (l:List (Txt×Txt)):Prop where
 each:∀a∈l,Ic a.1
 once:(l.map Prod.fst).Nodup
structure lZ (t:Tok):Prop where
 ge:0≤t.kind
 le:t.kind≤4
 tag:t.kind=1∨t.kind=2→Ic t.name∧t.data=[]
 other:t.kind≠1→t.kind≠2→t.name=[]
 start:t.kind≠1→t.attrs=[]∧t.self=false
 text:t.kind=0→t.data≠[]
 attrs:yD t.attrs
theorem Uz(i:Int):(Utf8.encode i).data.toList≠[]:=by
 unfold Utf8.encode;simp only
 repeat' split
 all_goals simp
theorem UA{l:Txt}(h:(je l).2=true):(je l).1≠[]:=by
 unfold je kM sV Ae at *
 repeat' split
 all_goals first|exact Uz _|simp_all
theorem L9:∀ {l:Txt},l≠[]→jc l≠[]
 | [],h=>absurd rfl h
 |c::l,_=>by
  rw[sI]
  split
  ·split
   ·rename_i h
    rw[Bool.and_eq_true]at h;have:=UA h.2;simp[this]
   ·simp
  ·simp
theorem Ox{p:UInt8→Bool}:∀ {s:Txt} {x:UInt8},x∈s.take (s.findIdx p)→p x=false
 | [],_,h=>by simp at h
 |c::s,x,h=>by
  rw[List.findIdx_cons]at h;cases hc:p c with
  |true=>rw[hc]at h;simp at h
  |false=>
   rw[hc]at h;simp at h
   rcases h with rfl|h
   ·exact hc
   ·exact Ox h
theorem Qf{p:UInt8→Bool}:∀ {s r:Txt} {c:UInt8},s.drop (s.findIdx p)=c::r→p c=true
 | [],_,_,h=>by simp at h
 |x::s,r,c,h=>by
  rw[List.findIdx_cons]at h;cases hx:p x with
  |true=>
   rw[hx]at h;simp at h;rw[←h.1];exact hx
  |false=>
   rw[hx]at h;simp at h;exact Qf h
theorem low_ok:∀c:UInt8,(bY c||okB (mI c))=true:=jw (by decide +kernel)
theorem UC:∀c:UInt8,(dz c||c==62||okB (mI c))=true:=jw (by decide +kernel)
theorem JM:∀c:UInt8,(!mH c|| !bY c)=true:=jw (by decide +kernel)
theorem Tj{s:Txt}(h:∀x∈s,bY x=false):FY (iZ s)=true:=by
 unfold FY iZ;rw[List.all_eq_true];intro x hx;obtain⟨y,hy,rfl⟩:=List.mem_map.1 hx;have:=low_ok y;rw[h y hy]at this;simpa using this
theorem JK(s:Txt):(lU s).1.1=iZ (s.take (qB s)):=by
 unfold lU sS Aw
 repeat' split
 all_goals rfl
theorem Bf{c:UInt8}{s:Txt}(h1:dz c=false)(h2:c≠62):Ic (lU (c::s)).1.1:=by
 have e:qB (c::s)=s.findIdx (fun c=>bY c||c==61)+1:=by unfold qB;simp only[List.tail_cons];omega
 rw[JK,e,List.take_succ_cons];refine⟨by simp[iZ],?_⟩;have h3:=UC c;rw[h1,show(c==62)=false from beq_eq_false_iff_ne.2 h2]at h3
 have h4:=Tj (s:=s.take (s.findIdx (fun c=>bY c||c==61))) (fun x hx=>by
  have:=Ox hx;simp only[Bool.or_eq_false_iff]at this;exact this.1)
 unfold FY iZ at *;rw[List.map_cons,List.all_cons,h4];simpa using h3
theorem addA_ok{acc:List (Txt×Txt)}{a:Txt×Txt}(h:yD acc)(ha:Ic a.1):yD (z8 acc a):=by
 unfold z8
 split
 ·exact h
 ·rename_i hn
  refine⟨?_,?_⟩
  ·intro b hb
   rw[List.mem_append]at hb
   rcases hb with hb|hb
   ·exact h.each b hb
   ·simp at hb
    subst hb;exact ha
  ·rw[List.map_append,List.nodup_append]
   refine⟨h.once,by simp,?_⟩;intro x hx y hy;simp at hy;subst hy;intro e;subst e;obtain⟨b,hb,hb2⟩:=List.mem_map.1 hx;exact hn (List.any_eq_true.2 ⟨b,hb,by simp[hb2]⟩)
theorem H9{s r:Txt}{c:UInt8}(h:s.drop (rC s)=c::r):dz c=false∧c≠47:=by
 have:=Qf h;simpa using this
theorem JQ:∀(n:Nat) (acc:List (Txt×Txt)) (s:Txt) r,yD acc→lS n acc s=some r→yD r.1
 |0,_,_,_,_,h=>by simp[lS]at h
 |n+1,acc,s,r,ha,h=>by
  unfold lS at h;cases hd:s.drop (rC s)with
  |nil=>rw[hd]at h;simp at h
  |cons c s1=>
   rw[hd]at h;have hg:=H9 hd;simp only at h
   split at h
   ·simp at h
    subst h;exact ha
   ·rename_i hc
    split at h
    ·exact JQ n _ _ r (addA_ok ha (Bf hg.1 hc)) h
    ·simp at h
theorem Ma:yD []:=⟨by simp,by simp⟩
theorem JL{s:Txt}{r:Tok×Txt}(hl:gP s=true)(h:fC s=some r):r.1.kind=0∧Ic r.1.name∧(∀x∈r.1.name,bY x=false)∧r.1.data=[]∧yD r.1.attrs:=by
 unfold fC at h;cases ha:kR [] (s.drop (s.findIdx bY))with
 |none=>rw[ha]at h;simp at h
 |some q=>
  rw[ha]at h;simp at h;have hq:=JQ _ _ _ _ Ma ha;have hl2:∀c:UInt8,(bY c|| !bY (mI c))=true:=jw (by decide +kernel)
  subst h;refine⟨rfl,⟨?_,Tj fun x hx=>Ox hx⟩,?_,rfl,hq⟩
  ·cases s with
   |nil=>simp[gP]at hl
   |cons c t=>
    have:=JM c;have hc:mH c=true:=hl;rw[hc]at this;have hc2:bY c=false:=by simpa using this
    simp[iZ,List.findIdx_cons,hc2]
  ·intro x hx
   unfold iZ at hx;obtain⟨y,hy,rfl⟩:=List.mem_map.1 hx;have:=hl2 y;rw[Ox hy]at this;simpa using this
theorem Tm{d:Txt}(h:d≠[]):lZ ⟨0,[],[],d,false⟩:=⟨by simp,by simp,by simp,by simp,by simp,fun _=>h,Ma⟩
theorem JR(nm s:Txt):∀t∈jE nm s,lZ t:=by
 unfold jE
 split
 ·simp
 ·rename_i h
  intro t ht;simp only[List.mem_singleton]at ht;subst ht;refine Tm ?_
  split
  ·exact L9 h
  ·exact h
theorem tag_ok{k:Int}{s:Txt}(hk:k=1∨k=2)(hl:gP s=true):∀t∈(pq k s).1,lZ t:=by
 unfold pq;cases ho:fC s with
 |none=>simp
 |some r=>
  obtain⟨h1,h2,h3,h4,h5⟩:=JL hl ho;obtain⟨t,q⟩:=r;simp only at *
  split
  ·intro x hx
   simp only[List.mem_singleton]at hx;subst hx;exact⟨by simp,by simp,fun _=>⟨h2,rfl⟩,by simp,by simp,by simp,Ma⟩
  ·rename_i hk2
   have hk1:k=1:=by omega
   subst hk1;have h0:lZ ⟨1,t.name,t.attrs,t.data,t.self⟩:=⟨by simp,by simp,fun _=>⟨h2,h4⟩,by simp,by simp,by simp,h5⟩
   split
   ·intro x hx
    rw[List.mem_cons]at hx
    rcases hx with rfl|hx
    ·exact h0
    ·exact JR _ _ x hx
   ·intro x hx
    simp only[List.mem_singleton]at hx;subst hx;exact h0
theorem Tn{k:Int}{d:Txt}(hk:k=3∨k=4):lZ ⟨k,[],[],d,false⟩:=by
 rcases hk with rfl|rfl<;>exact⟨by simp,by simp,by simp,by simp,by simp,by simp,Ma⟩
theorem zA{k:Int}(s e:Txt)(hk:k=3∨k=4):∀t∈(mF k s e).1,lZ t:=by
 intro t ht;unfold mF at ht;simp only[List.mem_singleton]at ht;subst ht;exact Tn hk
theorem Qq(s:Txt):∀t∈(jk s).1,lZ t:=by
 have h3:lZ ⟨3,[],[],[],false⟩:=Tn (.inl rfl);unfold jk
 split
 ·simpa using h3
 ·split
  ·simpa using h3
  ·exact zA _ _ (.inl rfl)
theorem open_ok{s:Txt}{r:List Tok×Txt}(h:jd s=some r):∀t∈r.1,lZ t:=by
 unfold jd at h
 split at h
 ·rename_i hl
  simp at h;subst h;exact tag_ok (.inl rfl) hl
 ·split at h
  ·rename_i hl
   rw[Bool.and_eq_true]at hl;simp at h;subst h;exact tag_ok (.inr rfl) hl.2
  ·split at h
   ·simp at h;subst h;simp
   ·split at h
    ·simp at h;subst h;exact Qq _
    ·split at h
     ·simp at h;subst h;exact zA _ _ (.inr rfl)
     ·split at h
      ·simp at h;subst h;exact zA _ _ (.inl rfl)
      ·split at h
       ·simp at h;subst h;exact zA _ _ (.inl rfl)
       ·split at h
        ·simp at h;subst h;exact zA _ _ (.inl rfl)
        ·simp at h
theorem Mc(t:Txt):∀x∈fE t,lZ x:=by
 unfold fE
 split
 ·simp
 ·rename_i h
  intro x hx;simp only[List.mem_singleton]at hx;subst hx;exact Tm (L9 h)
theorem FZ:∀(n:Nat) (t s:Txt),∀x∈runN n t s,lZ x
 |0,t,s,x,h=>Mc t x h
 |n+1,t,s,x,h=>by
  unfold runN at h;cases hd:s.drop (gT s)with
  |nil=>rw[hd]at h;exact Mc _ x h
  |cons c s1=>
   rw[hd]at h;simp only at h;cases ho:jd s1 with
   |none=>rw[ho]at h;exact FZ n _ _ x h
   |some r=>
    rw[ho]at h;obtain⟨ts,q⟩:=r;simp only[List.mem_append]at h
    rcases h with(h|h)|h
    ·exact Mc _ x h
    ·exact open_ok ho x h
    ·exact FZ n _ _ x h
theorem Ta{c:UInt8}{r:Txt}:∀ {a:Txt},c∉a→gW c (a++c::r)=(a,r,true)
 | [],_=>by simp[gW]
 |x::a,h=>by
  simp only[List.mem_cons,not_or]at h;rw[List.cons_append,gW,if_neg (fun e=>h.1 e.symm),Ta h.2]
theorem LX{X sub:Txt}{i:Nat}(h:Lib.occAt X sub i=true)(k:Nat)(hk:k<sub.length):X[i+k]?=sub[k]?:=by
 obtain⟨t,ht⟩:=List.isPrefixOf_iff_prefix.1 h;rw[←List.getElem?_drop,←ht,List.getElem?_append_left hk]
theorem yC{p:UInt8→Bool}:∀l:Txt,(l.dropWhile p).length≤l.length
 | []=>by simp
 |c::l=>by
  have:=yC (p:=p) l;rw[List.dropWhile_cons]
  split
  ·simp only[List.length_cons];omega
  ·exact Nat.le_refl _
structure tN (d:Txt):Prop where
 no1:∀j,Lib.occAt d [45,45,62] j=false
 no2:∀j,Lib.occAt d [45,45,33,62] j=false
 gt:Lib.hasPrefix d [62]=false
 arrow:Lib.hasPrefix d [45,62]=false
structure DocOK (d:Txt):Prop where
 no:(62:UInt8)∉d
 trim:jS (32::d)=d
structure sD (nm:Txt) (l:List (Txt×Txt)):Prop where
 name:sF nm
 attrs:∀a∈l,rH a.1
 once:(l.map Prod.fst).Nodup
def Closed(nm:Txt)(r:List Tok):Prop:=r=[]∨∃q,r=⟨2,nm,[],[],false⟩::q
def H8(nm d:Txt):Prop:=∀j,j<d.length→gQ nm (d.drop j)=false
inductive Good:List Tok→Prop
 |nil:Good []
 |text {d:Txt} {r:List Tok}:d≠[]→Good r→Good (⟨0,[],[],d,false⟩::r)
 |start {nm:Txt} {l:List (Txt×Txt)} {b:Bool} {r:List Tok}:sD nm l→(kX nm||kV nm)=false→Good r→Good (⟨1,nm,l,[],b⟩::r)
 |shut {nm:Txt} {l:List (Txt×Txt)} {b:Bool} {r:List Tok}:sD nm l→(kX nm||kV nm)=true→Closed nm r→Good r→Good (⟨1,nm,l,[],b⟩::r)
 |full {nm:Txt} {l:List (Txt×Txt)} {b:Bool} {d:Txt} {r:List Tok}:sD nm l→(kX nm||kV nm)=true→d≠[]→(kX nm=true→H8 nm d)→Closed nm r→Good r→Good (⟨1,nm,l,[],b⟩::⟨0,[],[],d,false⟩::r)
 |shuts {nm:Txt} {r:List Tok}:sF nm→Good r→Good (⟨2,nm,[],[],false⟩::r)
 |note {d:Txt} {r:List Tok}:tN d→Good r→Good (⟨3,[],[],d,false⟩::r)
 |doct {d:Txt} {r:List Tok}:DocOK d→Good r→Good (⟨4,[],[],d,false⟩::r)
theorem Oq{s sub:Txt}{n j:Nat}(h:Lib.occAt (s.take n) sub j=true)(hs:sub≠[]):Lib.occAt s sub j=true∧j+sub.length≤n:=by
 have hp:=List.isPrefixOf_iff_prefix.1 h;have hl:=hp.length_le;have h0:0<sub.length:=List.length_pos_iff.2 hs;rw[List.length_drop,List.length_take]at hl;refine⟨List.isPrefixOf_iff_prefix.2 ?_,by omega⟩;rw[List.drop_take]at hp;exact hp.trans (List.take_prefix _ _)
theorem occ_room{s sub:Txt}{j:Nat}(h:Lib.occAt s sub j=true)(hs:sub≠[]):j+sub.length≤s.length:=by
 have hp:=List.isPrefixOf_iff_prefix.1 h;have hl:=hp.length_le;have h0:0<sub.length:=List.length_pos_iff.2 hs;rw[List.length_drop]at hl;omega
theorem wF{s sub:Txt}{j:Nat}(h:Lib.occAt s sub j=true)(hs:sub≠[]):0≤Lib.index s sub∧Lib.index s sub≤j:=by
 have:=occ_room h hs
 rcases Lib.index_spec s sub with⟨h1,h2⟩|⟨i,h1,h2,h3,h4⟩
 ·rw[h2 j (by omega)]at h
  cases h
 ·rw[h1]
  refine⟨by omega,?_⟩
  rcases Nat.lt_or_ge j i with e|e
  ·rw[h4 j e]at h
   cases h
  ·omega
theorem Ot{s sub:Txt}(h:Lib.index s sub<0)(hs:sub≠[])(j:Nat):Lib.occAt s sub j=false:=by
 cases ho:Lib.occAt s sub j with
 |false=>rfl
 |true=>
  have:=wF ho hs;omega
theorem Ou{s p:Txt}{n:Nat}(h:Lib.hasPrefix s p=false):Lib.hasPrefix (s.take n) p=false:=by
 cases hp:Lib.hasPrefix (s.take n) p with
 |false=>rfl
 |true=>
  have h1:=List.isPrefixOf_iff_prefix.1 hp;have:Lib.hasPrefix s p=true:=List.isPrefixOf_iff_prefix.2 (h1.trans (List.take_prefix _ _));rw[h]at this;cases this
theorem Tc{d:Txt}(h:(62:UInt8)∉d):tN d:=by
 have occ:∀(sub:Txt) j,(62:UInt8)∈sub→Lib.occAt d sub j=false:=by
  intro sub j hm;cases ho:Lib.occAt d sub j with
  |false=>rfl
  |true=>
   have hp:=List.isPrefixOf_iff_prefix.1 ho;exact absurd (List.mem_of_mem_drop (hp.subset hm)) h
 refine⟨fun j=>occ _ j (by decide),fun j=>occ _ j (by decide),?_,?_⟩
 ·exact occ [62] 0 (by decide)
 ·exact occ [45,62] 0 (by decide)
theorem LY{s e:Txt}{i:Nat}(h:Lib.index s e=i):Lib.cut s e=(s.take i,s.drop (i+e.length),true):=by
 unfold Lib.cut;rw[if_pos (by omega),h];simp
theorem cut_miss{s e:Txt}(h:Lib.index s e<0):Lib.cut s e=(s,[],false):=by
 unfold Lib.cut;rw[if_neg (by omega)]
theorem L8{s:Txt}(h1:Lib.hasPrefix s [62]=false)(h2:Lib.hasPrefix s [45,62]=false):tN (jM s (if 0≤Lib.index s [45,45,33,62]∧(Lib.index s [45,45,62]<0∨Lib.index s [45,45,33,62]<Lib.index s [45,45,62])then [45,45,33,62]else [45,45,62])).1:=by
 have key:∀n,(∀j,Lib.occAt s [45,45,62] j=true→n<j+3)→(∀j,Lib.occAt s [45,45,33,62] j=true→n<j+4)→tN (s.take n):=by
  intro n k1 k2;refine⟨?_,?_,Ou h1,Ou h2⟩
  ·intro j
   cases ho:Lib.occAt (s.take n) [45,45,62] j with
   |false=>rfl
   |true=>
    have:=Oq ho (by simp);have h3:=k1 j this.1;have h4:=this.2;simp at h4;omega
  ·intro j
   cases ho:Lib.occAt (s.take n) [45,45,33,62] j with
   |false=>rfl
   |true=>
    have:=Oq ho (by simp);have h3:=k2 j this.1;have h4:=this.2;simp at h4;omega
 split
 ·rename_i hc
  obtain⟨k,hk⟩:=Int.eq_ofNat_of_zero_le hc.1;unfold jM;rw[LY hk];refine key k ?_ ?_
  ·intro j hj
   have:=wF hj (by simp);omega
  ·intro j hj
   have:=wF hj (by simp);omega
 ·rename_i hc
  unfold jM
  by_cases hi:Lib.index s [45,45,62]<0
  ·rw[cut_miss hi]
   have hk:Lib.index s [45,45,33,62]<0:=by
    rcases Int.lt_or_le (Lib.index s [45,45,33,62]) 0 with e|e
    ·exact e
    ·exact absurd ⟨e,.inl hi⟩ hc
   exact⟨Ot hi (by simp),Ot hk (by simp),h1,h2⟩
  ·obtain⟨i,hi2⟩:=Int.eq_ofNat_of_zero_le (Int.not_lt.1 hi)
   rw[LY hi2];refine key i ?_ ?_
   ·intro j hj
    have:=wF hj (by simp);omega
   ·intro j hj
    have:=wF hj (by simp)
    rcases Int.lt_or_le (Lib.index s [45,45,33,62]) (Lib.index s [45,45,62])with e|e
    ·exact absurd ⟨this.1,.inr e⟩ hc
    ·omega
theorem Ov(s:Txt):(62:UInt8)∉(jM s [62]).1:=by
 unfold jM;rw[Pz];exact MU 62 s
theorem dw_head{p:UInt8→Bool}:∀ {l:Txt} {c:UInt8} {r:Txt},l.dropWhile p=c::r→p c=false
 | [],_,_,h=>by simp at h
 |x::l,c,r,h=>by
  rw[List.dropWhile_cons]at h
  split at h
  ·exact dw_head h
  ·rename_i hx
   simp only[List.cons.injEq]at h;rw[←h.1];simpa using hx
theorem Td{p:UInt8→Bool}{l:Txt}(h:∀c r,l=c::r→p c=false):l.dropWhile p=l:=by
 cases l with
 |nil=>rfl
 |cons c r=>rw[List.dropWhile_cons,h c r rfl];simp
theorem Qj{p:UInt8→Bool}{x:UInt8}:∀ {l:Txt},x∈l.dropWhile p→x∈l
 | [],h=>by simp at h
 |c::l,h=>by
  rw[List.dropWhile_cons]at h
  split at h
  ·exact List.mem_cons_of_mem _ (Qj h)
  ·exact h
theorem trim_mem{x:UInt8}{s:Txt}(h:x∈jS s):x∈s:=by
 unfold jS at h;rw[List.mem_reverse]at h;have:=Qj h;rw[List.mem_reverse]at this;exact Qj this
theorem JJ{p:UInt8→Bool}:∀l:Txt,∃a,l=a++l.dropWhile p
 | []=>⟨[],rfl⟩
 |c::l=>by
  rw[List.dropWhile_cons]
  split
  ·obtain⟨a,ha⟩:=JJ (p:=p) l
   exact⟨c::a,by rw[List.cons_append,←ha]⟩
  ·exact⟨[],rfl⟩
theorem Ux(s:Txt):jS (32::jS s)=jS s:=by
 have e:(32::jS s).dropWhile dz=(jS s).dropWhile dz:=by rw[List.dropWhile_cons,if_pos (by decide)]
 have h1:(jS s).dropWhile dz=jS s:=by
  refine Td ?_;intro c r hc;unfold jS at hc;obtain⟨a,ha⟩:=JJ (p:=dz) (s.dropWhile dz).reverse;have h2:=congrArg List.reverse ha;rw[List.reverse_reverse,List.reverse_append,hc]at h2;rw[List.cons_append]at h2;exact dw_head h2
 have h2:(jS s).reverse.dropWhile dz=(jS s).reverse:=by
  refine Td ?_;intro c r hc;unfold jS at hc;rw[List.reverse_reverse]at hc;exact dw_head hc
 show(((32::jS s).dropWhile dz).reverse.dropWhile dz).reverse=jS s;rw[e,h1,h2,List.reverse_reverse]
theorem doc_ok(s:Txt):DocOK (jS (jM s [62]).1):=⟨fun h=>Ov s (trim_mem h),Ux _⟩
theorem Te(s:Txt):iZ (iZ s)=iZ s:=by
 have h:∀c:UInt8,(mI (mI c)==mI c)=true:=jw (by decide +kernel)
 unfold iZ;rw[List.map_map];refine List.map_congr_left fun c _=>?_
 exact beq_iff_eq.1 (h c)
theorem Qk:∀c:UInt8,(!mH c||mH (mI c))=true:=jw (by decide +kernel)
theorem Ow:∀c:UInt8,(!mH (mI c)||mH c)=true:=jw (by decide +kernel)
theorem EC:∀c:UInt8,(bY (mI c)==bY c)=true:=jw (by decide +kernel)
theorem low_eq61:∀c:UInt8,((mI c==61)==(c==61))=true:=jw (by decide +kernel)
theorem low_gap:∀c:UInt8,((dz (mI c)||mI c==47||mI c==62)==(dz c||c==47||c==62))=true:=jw (by decide +kernel)
theorem Ql{c:UInt8}{s:Txt}(h1:dz c=false)(h3:c≠47)(h2:c≠62):rH (lU (c::s)).1.1:=by
 have e:qB (c::s)=s.findIdx (fun c=>bY c||c==61)+1:=by unfold qB;simp only[List.tail_cons];omega
 have hne:=(Bf (s:=s) h1 h2).ne;rw[JK,e,List.take_succ_cons]at hne⊢;refine⟨hne,Te _,?_,?_⟩
 ·intro d r hd
  simp only[iZ,List.map_cons,List.cons.injEq]at hd;have:=low_gap c;rw[h1,show(c==47)=false from beq_eq_false_iff_ne.2 h3,show(c==62)=false from beq_eq_false_iff_ne.2 h2,hd.1]at this;simp at this;exact⟨this.1.1,this.1.2,this.2⟩
 ·intro x hx
  simp only[iZ,List.map_cons,List.tail_cons,List.mem_map]at hx;obtain⟨y,hy,rfl⟩:=hx;have h4:=Ox hy;simp only[Bool.or_eq_false_iff]at h4;have h5:=EC y;have h6:=low_eq61 y;rw[h4.1]at h5;rw[h4.2]at h6;simp at h5 h6;exact⟨h5,h6⟩
theorem ED:∀(n:Nat) (acc:List (Txt×Txt)) (s:Txt) r,(∀a∈acc,rH a.1)→lS n acc s=some r→∀a∈r.1,rH a.1
 |0,_,_,_,_,h=>by simp[lS]at h
 |n+1,acc,s,r,ha,h=>by
  unfold lS at h;cases hd:s.drop (rC s)with
  |nil=>rw[hd]at h;simp at h
  |cons c s1=>
   rw[hd]at h;have hg:=H9 hd;simp only at h
   split at h
   ·simp at h
    subst h;exact ha
   ·rename_i hc
    split at h
    ·refine ED n _ _ r ?_ h
     intro a hm;unfold z8 at hm
     split at hm
     ·exact ha a hm
     ·rw[List.mem_append]at hm
      rcases hm with hm|hm
      ·exact ha a hm
      ·simp only[List.mem_singleton]at hm
       subst hm;exact Ql hg.1 hg.2 hc
    ·simp at h
theorem CQ{s:Txt}{r:Tok×Txt}(hl:gP s=true)(h:fC s=some r):sD r.1.name r.1.attrs∧r.1.data=[]∧r.1.name=iZ (s.take (s.findIdx bY)):=by
 obtain⟨k1,k2,k3,k4,k5⟩:=JL hl h;unfold fC at h;cases ha:kR [] (s.drop (s.findIdx bY))with
 |none=>rw[ha]at h;simp at h
 |some q=>
  rw[ha]at h;simp at h;have hq:=ED _ _ _ _ (by simp) ha;subst h;refine⟨⟨⟨Te _,?_,k3⟩,hq,k5.once⟩,rfl,rfl⟩;cases s with
  |nil=>simp[gP]at hl
  |cons c t=>
   have hc:mH c=true:=hl;have h1:=JM c;rw[hc]at h1;have hc2:bY c=false:=by simpa using h1
   have h2:=Qk c;rw[hc]at h2;simp only[List.findIdx_cons,hc2,cond_false,List.take_succ_cons,iZ,List.map_cons];simpa [gP]using h2
theorem Qm{nm x y:Txt}(h:gQ nm x=true):gQ nm (x++y)=true:=by
 unfold gQ at h
 split at h
 ·rename_i r
  simp only[Bool.and_eq_true,decide_eq_true_eq,beq_iff_eq]at h;obtain⟨⟨h1,h2⟩,h3⟩:=h;have e1:(r++y).take nm.length=r.take nm.length:=List.take_append_of_le_length (by omega);have e2:(r++y).drop nm.length=r.drop nm.length++y:=List.drop_append_of_le_length (by omega);cases hd:r.drop nm.length with
  |nil=>rw[hd]at h3;simp at h3
  |cons c t=>
   rw[hd]at h3;simp only[List.cons_append,gQ];rw[e1,h2,e2,hd];simp[h3];omega
 ·cases h
theorem zO(nm:Txt):∀s:Txt,iL nm s≤s.length
 | []=>by simp[iL]
 |c::t=>by
  have:=zO nm t;rw[iL]
  split
  ·omega
  ·simp only[List.length_cons];omega
theorem CF(nm:Txt):∀(s:Txt) (j:Nat),j<iL nm s→gQ nm (s.drop j)=false
 | [],j,h=>by simp[iL]at h
 |c::t,j,h=>by
  rw[iL]at h
  split at h
  ·omega
  ·rename_i hc
   cases j with
   |zero=>simpa using hc
   |succ j=>
    rw[List.drop_succ_cons];exact CF nm t j (by omega)
theorem CG(nm:Txt):∀(s:Txt),s.drop (iL nm s)=[]∨gQ nm (s.drop (iL nm s))=true
 | []=>by simp
 |c::t=>by
  rw[iL]
  split
  ·rename_i hc
   exact .inr hc
  ·rw[Nat.add_comm,List.drop_succ_cons]
   exact CG nm t
theorem raw_ok(nm s:Txt):H8 nm (s.take (iL nm s)):=by
 intro j hj;have hl:=zO nm s;rw[List.length_take]at hj;cases hc:gQ nm ((s.take (iL nm s)).drop j)with
 |false=>rfl
 |true=>
  have h1:=Qm (y:=s.drop (iL nm s)) hc;rw[←List.drop_append_of_le_length (by rw[List.length_take];omega),List.take_append_drop]at h1;rw[CF nm s j (by omega)]at h1;cases h1
theorem JN{t:Txt}{L:List Tok}(h:Good L):Good (fE t++L):=by
 unfold fE
 split
 ·exact h
 ·rename_i hn
  exact .text (L9 hn) h
theorem Oy{nm r:Txt}(hn:sF nm)(h:gQ nm (60::47::r)=true):gP r=true∧iZ (r.take (r.findIdx bY))=nm:=by
 simp only[gQ,Bool.and_eq_true,decide_eq_true_eq,beq_iff_eq]at h;obtain⟨⟨h1,h2⟩,h3⟩:=h;rw[hn.low]at h2;cases hd:r.drop nm.length with
 |nil=>rw[hd]at h3;simp at h3
 |cons c q=>
  rw[hd]at h3;have er:r=r.take nm.length++c::q:=by rw[←hd,List.take_append_drop]
  have ha:∀x∈r.take nm.length,bY x=false:=by
   intro x hx;have hm:mI x∈nm:=by rw[←h2];exact List.mem_map_of_mem hx
   have h4:=hn.all _ hm;have h5:=EC x;rw[h4]at h5;simpa using h5
  have hf:r.findIdx bY=nm.length:=by
   conv=>lhs;rw[er]
   rw[Ia h3 ha,List.length_take];omega
  rw[hf];refine⟨?_,h2⟩;have hl:=hn.letter;rw[←h2]at hl;rw[er];cases ht:r.take nm.length with
  |nil=>rw[ht]at hl;simp[iZ,gP]at hl
  |cons x y=>
   rw[ht]at hl;simp only[iZ,List.map_cons,gP]at hl;have h6:=Ow x;rw[hl]at h6;simpa [gP]using h6
theorem Tf{s:Txt}(hl:gP s=true):pq 2 s=([],[])∨∃q,pq 2 s=([⟨2,iZ (s.take (s.findIdx bY)),[],[],false⟩],q)∧sF (iZ (s.take (s.findIdx bY))):=by
 unfold pq;cases ho:fC s with
 |none=>exact .inl rfl
 |some r=>
  obtain⟨h1,h2,h3⟩:=CQ hl ho;obtain⟨t,q⟩:=r;simp only at *;refine .inr ⟨q,?_,?_⟩
  ·rw[h3];simp
  ·rw[←h3];exact h1.name
theorem Qn{s:Txt}(hl:gP s=true):jd (47::s)=some (pq 2 s):=by
 unfold jd;rw[if_neg (by simp[gP,mH]),if_pos (by simp[Lib.hasPrefix,hl])];rfl
theorem tO{t r:Txt}{x:List Tok×Txt}(ho:jd r=some x):nZ t (60::r)=fE t++x.1++nZ [] x.2:=by
 have:=run_hit (t:=t) (a:=[]) (by simp) ho;simpa using this
theorem Qo{nm s:Txt}(hn:sF nm)(h:s=[]∨gQ nm s=true):Closed nm (nZ [] s):=by
 rcases h with rfl|h
 ·left
  rw[CK];rfl
 ·have h0:=h
  unfold gQ at h0
  split at h0
  ·rename_i r
   obtain⟨h1,h2⟩:=Oy hn h;rw[tO (Qn h1)]
   rcases Tf h1 with e|⟨q,e,_⟩
   ·rw[e]
    left
    simp[fE,CK]
   ·rw[e,h2]
    right
    exact⟨nZ [] q,by simp[fE]⟩
  ·cases h0
theorem Qh(nm s:Txt):(jD nm s).length≤s.length:=by simp[jD]
theorem Ib:∀(n:Nat) (t s:Txt),s.length<n→Good (nZ t s)
 |0,_,_,h=>absurd h (Nat.not_lt_zero _)
 |n+1,t,s,h=>by
  rw[zP];cases hd:s.drop (gT s)with
  |nil=>
   have:=JN (t:=t++s.take (gT s)) .nil;simpa using this
  |cons c s1=>
   have h1:s1.length<s.length:=by
    have:=congrArg List.length hd;simp at this;omega
   simp only;cases ho:jd s1 with
   |none=>exact Ib n _ _ (by omega)
   |some x=>
    have hle:=CO ho;obtain⟨ts,r⟩:=x;simp only at hle⊢;rw[List.append_assoc];refine JN ?_;have ih:=Ib n [] r (by omega);unfold jd at ho
    split at ho
    ·rename_i hl
     simp only[Option.some.injEq]at ho;unfold pq at ho;cases hop:fC s1 with
     |none=>
      rw[hop]at ho;simp only[Prod.mk.injEq]at ho;obtain⟨rfl,rfl⟩:=ho;exact ih
     |some y=>
      rw[hop]at ho;have hyl:=yB hop;obtain⟨k1,k2,k3⟩:=CQ hl hop;obtain⟨y,q⟩:=y;simp only at k1 k2 k3 ho hyl;rw[if_neg (by decide)]at ho
      split at ho
      ·rename_i hrs
       simp only[Prod.mk.injEq]at ho;obtain⟨rfl,rfl⟩:=ho;rw[k2];have hcl:Closed y.name (nZ [] (jD y.name q)):=Qo k1.name (CG y.name q);unfold jE
       split
       ·exact .shut k1 hrs hcl ih
       ·rename_i hne
        refine .full k1 hrs ?_ ?_ hcl ih
        ·split
         ·exact L9 hne
         ·exact hne
        ·intro hr
         have hs:kV y.name=false:=by
          unfold kX inB at hr;rw[List.contains_iff_mem]at hr;simp only[Ep,List.mem_cons,List.not_mem_nil,or_false]at hr
          rcases hr with e|e|e|e|e|e<;>(rw[e];decide)
         rw[hs];exact raw_ok y.name q
      ·rename_i hrs
       simp only[Prod.mk.injEq]at ho;obtain⟨rfl,rfl⟩:=ho;rw[k2];exact .start k1 (by simpa using hrs) ih
    ·split at ho
     ·rename_i hl
      rw[Bool.and_eq_true]at hl;simp only[Option.some.injEq]at ho
      rcases Tf hl.2 with e|⟨q,e,hn⟩
      ·rw[e]at ho
       simp only[Prod.mk.injEq]at ho;obtain⟨rfl,rfl⟩:=ho;exact ih
      ·rw[e]at ho
       simp only[Prod.mk.injEq]at ho;obtain⟨rfl,rfl⟩:=ho;exact .shuts hn ih
     ·have note:∀u,mF 3 u [62]=(ts,r)→Good (ts++nZ [] r):=by
       intro u e;unfold mF at e;simp only[Prod.mk.injEq]at e;rw[←e.1];exact .note (by rw[if_neg (by decide)];exact Tc (Ov u)) ih
      split at ho
      ·simp only[Option.some.injEq,Prod.mk.injEq]at ho
       obtain⟨rfl,rfl⟩:=ho;exact ih
      ·split at ho
       ·simp only[Option.some.injEq]at ho
        have n0:tN []:=Tc (by simp);unfold jk at ho
        split at ho
        ·simp only[Prod.mk.injEq]at ho
         rw[←ho.1];exact .note n0 ih
        ·rename_i p1
         split at ho
         ·simp only[Prod.mk.injEq]at ho
          rw[←ho.1];exact .note n0 ih
         ·rename_i p2
          unfold mF at ho;simp only[Prod.mk.injEq]at ho;rw[←ho.1];exact .note (by rw[if_neg (by decide)];exact L8 (by simpa using p1) (by simpa using p2)) ih
       ·split at ho
        ·simp only[Option.some.injEq]at ho
         unfold mF at ho;simp only[Prod.mk.injEq]at ho;rw[←ho.1];exact .doct (by simp only[if_true];exact doc_ok _) ih
        ·split at ho
         ·simp only[Option.some.injEq]at ho
          exact note _ ho
         ·split at ho
          ·simp only[Option.some.injEq]at ho
           exact note _ ho
          ·split at ho
           ·simp only[Option.some.injEq]at ho
            exact note _ ho
           ·simp at ho
theorem cut_good(s:Txt):Good (cutL s):=Ib (s.length+1) [] s (Nat.lt_succ_self _)
theorem Oj{d X sub:Txt}{j:Nat}(h:Lib.occAt (d++X) sub j=true)(hl:j+sub.length≤d.length):Lib.occAt d sub j=true:=by
 have hp:=List.isPrefixOf_iff_prefix.1 h;rw[List.drop_append_of_le_length (by omega)]at hp;refine List.isPrefixOf_iff_prefix.2 ?_;exact List.prefix_of_prefix_length_le hp (List.prefix_append _ _) (by rw[List.length_drop];omega)
theorem LW{d X:Txt}(h:tN d):jk (d++45::45::62::X)=([⟨3,[],[],d,false⟩],X):=by
 have g:∀k,(d++45::45::62::X)[d.length+k]?=(45::45::62::X)[k]?:=by
  intro k;rw[List.getElem?_append_right (by omega)]
  congr 1
  omega
 have g0:=g 0;have g1:=g 1;have g2:=g 2;simp only[List.getElem?_cons_zero,List.getElem?_cons_succ]at g0 g1 g2
 have n1:Lib.hasPrefix (d++45::45::62::X) [62]=false:=by
  have:=h.gt;cases d with
  |nil=>simp[Lib.hasPrefix,List.isPrefixOf]
  |cons c t=>simp[Lib.hasPrefix,List.isPrefixOf]at this⊢;exact this
 have n2:Lib.hasPrefix (d++45::45::62::X) [45,62]=false:=by
  have:=h.arrow
  match d,this with
  | [],_=>simp[Lib.hasPrefix,List.isPrefixOf]
  | [c],_=>simp[Lib.hasPrefix,List.isPrefixOf]
  |c::e::t,this=>simp[Lib.hasPrefix,List.isPrefixOf]at this⊢;exact this
 have i1:Lib.index (d++45::45::62::X) [45,45,62]=d.length:=by
  refine Lib.index_hit (i:=d.length) ?_ (by simp) (by simp[Lib.occAt]);intro j hj;cases hp:Lib.occAt (d++45::45::62::X) [45,45,62] j with
  |false=>rfl
  |true=>
   by_cases hl:j+3≤d.length
   ·have:=Oj hp (by simpa using hl)
    rw[h.no1 j]at this;cases this
   ·have h3:=LX hp 2 (by simp)
    rcases(by omega:j+2=d.length+0∨j+2=d.length+1)with e|e
    ·rw[e,g0]at h3;simp at h3
    ·rw[e,g1]at h3;simp at h3
 have i2:¬(0≤Lib.index (d++45::45::62::X) [45,45,33,62]∧(Lib.index (d++45::45::62::X) [45,45,62]<0∨Lib.index (d++45::45::62::X) [45,45,33,62]<Lib.index (d++45::45::62::X) [45,45,62])):=by
  rw[i1]
  rcases Lib.index_spec (d++45::45::62::X) [45,45,33,62]with⟨h1,h2⟩|⟨j,h1,h2,hp,h4⟩
  ·omega
  ·rw[h1]
   rintro⟨_,hj⟩;have hj:j<d.length:=by omega
   by_cases hl:j+4≤d.length
   ·have:=Oj hp (by simpa using hl)
    rw[h.no2 j]at this;cases this
   ·have h3:=LX hp 3 (by simp)
    have h5:=LX hp 2 (by simp)
    rcases(by omega:j+3=d.length+0∨j+3=d.length+1∨j+3=d.length+2)with e|e|e
    ·rw[e,g0]at h3;simp at h3
    ·rw[e,g1]at h3;simp at h3
    ·rw[(by omega:j+2=d.length+1),g1]at h5;simp at h5
 unfold jk;rw[n1,n2];simp only[Bool.false_eq_true,if_false];rw[if_neg i2];simp[mF,jM,LY i1]
theorem LZ{d X:Txt}(h:tN d):jd (33::45::45::(d++45::45::62::X))=some ([⟨3,[],[],d,false⟩],X):=by
 unfold jd;rw[if_neg (by simp[gP,mH]),if_neg (by simp[Lib.hasPrefix]),if_neg (by simp[Lib.hasPrefix]),if_pos (by simp[Lib.hasPrefix])];simp[LW h]
theorem open_doc{d X:Txt}(h:DocOK d):jd (33::100::111::99::116::121::112::101::32::(d++62::X))=some ([⟨4,[],[],d,false⟩],X):=by
 have hc:Lib.cut (32::(d++62::X)) [62]=(32::d,X,true):=by
  rw[Pz,show 32::(d++62::X)=(32::d)++62::X from rfl];exact Ta (by simp[h.no])
 unfold jd;rw[if_neg (by simp[gP,mH]),if_neg (by simp[Lib.hasPrefix]),if_neg (by simp[Lib.hasPrefix]),if_neg (by simp[Lib.hasPrefix]),if_pos (by simp[jN,iZ,mI,gP,mH])];simp[mF,jM,hc,h.trim]
theorem Bb(q:Bool):∀l r,jc (wrL q l++r)=l++jc r
 | [],r=>by simp[wrL]
 | [c],r=>by
   rw[wrL,E5];rfl
 |c::d::l,r=>by
  rw[wrL]
  split
  ·rename_i h
   rw[List.append_assoc,ML,Bb q l r,h.1,h.2];rfl
  ·rw[List.append_assoc,E5,Bb q (d::l) r]
   rfl
theorem run_push{q a Y:Txt}(ha:(60:UInt8)∉a):nZ q (a++Y)=nZ (q++a) Y:=by
 have hf:gT (a++Y)=a.length+gT Y:=by
  unfold gT;rw[List.findIdx_append]
  have h2:¬(a.findIdx (fun c=>c==60)<a.length):=by
   rw[List.findIdx_lt_length];rintro⟨x,hx,e⟩;exact ha (by rw[←beq_iff_eq.1 e];exact hx)
  rw[if_neg h2,Nat.add_comm]
 have e1:(a++Y).take (a.length+gT Y)=a++Y.take (gT Y):=by rw[List.take_append,List.take_of_length_le (by omega),Nat.add_sub_cancel_left]
 have e2:(a++Y).drop (a.length+gT Y)=Y.drop (gT Y):=by
  rw[List.drop_append,List.drop_eq_nil_of_le (by omega),Nat.add_sub_cancel_left,List.nil_append]
 rw[zP,hf,zP (q++a),e2,e1];cases hd:Y.drop (gT Y)with
 |nil=>simp
 |cons c s1=>
  simp only;cases jd s1 with
  |none=>simp
  |some x=>simp
def wE(p:Txt):List Tok:=if p=[]then []else [⟨0,[],[],p,false⟩]
def pO:Txt→List Tok→List Tok
 |p,[]=>wE p
 |p,t::r=>if t.kind=0 then pO (p++t.data) r else wE p++t::pO [] r
structure Pend (q p:Txt):Prop where
 dec:∀r,jc (q++r)=p++jc r
 no:(60:UInt8)∉q
 nil:q=[]↔p=[]
theorem H6:Pend [] []:=⟨fun r=>rfl,by simp,by simp⟩
theorem qR{q p:Txt}(h:Pend q p):fE q=wE p:=by
 unfold fE wE;have h1:=h.dec [];rw[q9,List.append_nil,List.append_nil]at h1
 by_cases e:q=[]
 ·rw[if_pos e,if_pos (h.nil.1 e)]
 ·rw[if_neg e,if_neg (fun x=>e (h.nil.2 x)),h1]
theorem Uu{q p d:Txt}(h:Pend q p)(hd:d≠[]):Pend (q++wrL false d) (p++d):=by
 refine⟨fun r=>?_,?_,?_⟩
 ·rw[List.append_assoc,h.dec,Bb,List.append_assoc]
 ·rw[List.mem_append]
  rintro(e|e)
  ·exact h.no e
  ·exact CP d e
 ·simp[hd,wr_nil hd]
theorem L6{nm:Txt}{r:List Tok}(h:Closed nm r)(b:Bool):eY b r=eY false r:=by
 rcases h with rfl|⟨q,rfl⟩
 ·rfl
 ·rfl
theorem Ol{nm:Txt}{r:List Tok}(h:Closed nm r)(p:Txt):pO p r=wE p++pO [] r:=by
 rcases h with rfl|⟨q,rfl⟩
 ·simp[pO,wE]
 ·simp[pO,wE]
theorem DY(nm:Txt)(q:List Tok)(b:Bool):eY b (⟨2,nm,[],[],false⟩::q)=60::47::(nm++62::eY false q):=by
 simp[eY,oG,jR,dY,mY,sj]
theorem zx(nm:Txt)(l:List (Txt×Txt))(b:Bool)(q:List Tok):eY false (⟨1,nm,l,[],b⟩::q)=60::(nm++(dY l++(mY b++62::eY (kX nm) q))):=by
 simp[eY,oG,jR,sj]
theorem EB{nm:Txt}{r:List Tok}(h:Closed nm r):iL nm (eY false r)=0:=by
 rcases h with rfl|⟨q,rfl⟩
 ·rfl
 ·rw[DY]
  exact Uv
theorem DZ{nm X:Txt}:∀ {a:Txt},(60:UInt8)∉a→iL nm (a++X)=a.length+iL nm X
 | [],_=>by simp
 |c::a,h=>by
  have hc:c≠60:=fun e=>h (by simp[e])
  have h0:gQ nm (c::(a++X))=false:=by
   unfold gQ
   split
   ·rename_i e
    simp only[List.cons.injEq]at e;exact absurd e.1 hc
   ·rfl
  rw[List.cons_append,iL,h0,DZ (a:=a) (fun e=>h (by simp[e]))];simp;omega
theorem Jm{nm x y:Txt}(hn:(60:UInt8)∉nm)(hl:iZ nm=nm)(hx:x≠[])(h0:gQ nm x=false)(hy:y=[]∨∃z,y=60::z):gQ nm (x++y)=false:=by
 rcases hy with rfl|⟨z,rfl⟩
 ·rw[List.append_nil];exact h0
 ·cases hc:gQ nm (x++60::z)with
  |false=>rfl
  |true=>
   exfalso
   match x,hx with
   | [a],_=>simp[gQ]at hc
   |a::b::r,_=>
    unfold gQ at hc
    split at hc
    ·rename_i r' e
     simp only[List.cons_append,List.cons.injEq]at e;obtain⟨rfl,rfl,rfl⟩:=e;simp only[Bool.and_eq_true,decide_eq_true_eq,beq_iff_eq,hl]at hc;obtain⟨⟨h1,h2⟩,h3⟩:=hc
     rcases Nat.lt_trichotomy nm.length r.length with hlt|heq|hgt
     ·have e1:(r++60::z).take nm.length=r.take nm.length:=List.take_append_of_le_length (by omega)
      have e2:(r++60::z).drop nm.length=r.drop nm.length++60::z:=List.drop_append_of_le_length (by omega);rw[e1]at h2;rw[e2]at h3;cases hd:r.drop nm.length with
      |nil=>
       have:=congrArg List.length hd;simp at this;omega
      |cons c t=>
       rw[hd,List.cons_append]at h3;simp only at h3;simp[gQ,h2,hl,hd,h3,hlt]at h0
     ·rw[heq,List.drop_left]at h3
      exact absurd h3 (by simp[bY,dz])
     ·have hm:(60:UInt8)∈(r++60::z).take nm.length:=by
       rw[List.take_append,List.mem_append]
       right
       obtain⟨k,hk⟩:∃k,nm.length - r.length=k+1:=⟨nm.length - r.length - 1,by omega⟩
       rw[hk];simp
      have hm2:mI 60∈nm:=by rw[←h2];exact List.mem_map_of_mem hm
      exact hn hm2
    ·cases hc
theorem H7{nm y:Txt}(hn:(60:UInt8)∉nm)(hl:iZ nm=nm)(hy:y=[]∨∃z,y=60::z):∀ {d:Txt},H8 nm d→iL nm (d++y)=d.length+iL nm y
 | [],_=>by simp
 |c::d,h=>by
  have h0:gQ nm (c::d)=false:=by simpa using h 0 (by simp)
  have h1:=Jm hn hl (by simp) h0 hy;rw[List.cons_append]at h1
  rw[List.cons_append,iL,h1,H7 hn hl hy (d:=d) (fun j hj=>by
   have:=h (j+1) (by simpa using hj);simpa using this)]
  simp;omega
theorem raw_name{nm:Txt}(h:kX nm=true):(60:UInt8)∉nm∧kV nm=false:=by
 unfold kX inB at h;rw[List.contains_iff_mem]at h;simp only[Ep,List.mem_cons,List.not_mem_nil,or_false]at h
 rcases h with e|e|e|e|e|e<;>(rw[e];decide)
theorem Om{nm:Txt}{r:List Tok}(h:Closed nm r):eY false r=[]∨∃z,eY false r=60::z:=by
 rcases h with rfl|⟨q,rfl⟩
 ·exact .inl rfl
 ·rw[DY]
  exact .inr ⟨_,rfl⟩
theorem Oo{nm Y:Txt}(h:iL nm Y=0):jE nm Y=[]∧jD nm Y=Y:=by
 unfold jE jD;rw[h];simp
theorem uW{nm a Y:Txt}(ha:a≠[])(h:iL nm (a++Y)=a.length):jE nm (a++Y)=[⟨0,[],[],if kV nm then jc a else a,false⟩]∧jD nm (a++Y)=Y:=by
 unfold jE jD;rw[h,List.take_left,List.drop_left];simp[ha]
theorem Uw{L:List Tok}(h:Good L):∀q p,Pend q p→nZ q (eY false L)=pO p L:=by
 induction h with
 |nil=>intro q p hp;rw[eY,CK,qR hp,pO]
 | @text d r hd _ ih=>
   intro q p hp;have e:eY false (⟨0,[],[],d,false⟩::r)=wrL false d++eY false r:=by simp[eY,oG,sj]
   rw[e,run_push (CP d),ih _ _ (Uu hp hd)];simp[pO]
 | @start nm l b r hs hrs _ ih=>
   intro q p hp
   have hr:kX nm=false:=by
    rw[Bool.or_eq_false_iff]at hrs;exact hrs.1
   rw[zx,tO (Bc hs.name hs.attrs hs.once),qR hp,hrs,hr];simp[pO,ih _ _ H6]
 | @shut nm l b r hs hrs hcl _ ih=>
   intro q p hp;obtain⟨i1,i2⟩:=Oo (EB hcl);rw[zx,tO (Bc hs.name hs.attrs hs.once),qR hp,hrs,L6 hcl];simp[pO,i1,i2,ih _ _ H6]
 | @full nm l b d r hs hrs hd hraw hcl _ ih=>
   intro q p hp
   have hj:pO p (⟨1,nm,l,[],b⟩::⟨0,[],[],d,false⟩::r)=wE p++⟨1,nm,l,[],b⟩::⟨0,[],[],d,false⟩::pO [] r:=by
    simp[pO,Ol hcl d,wE,hd]
   have he0:=EB hcl
   have key:∃a,eY (kX nm) (⟨0,[],[],d,false⟩::r)=a++eY false r∧jE nm (a++eY false r)=[⟨0,[],[],d,false⟩]∧jD nm (a++eY false r)=eY false r:=by
    cases hr:kX nm with
    |true=>
     obtain⟨h60,pK⟩:=raw_name hr;have he:=H7 h60 hs.name.low (Om hcl) (hraw hr);rw[he0,Nat.add_zero]at he;obtain⟨i1,i2⟩:=uW hd he;refine⟨d,by simp[eY,oG,sj],?_,i2⟩;rw[i1,pK];rfl
    |false=>
     have pK:kV nm=true:=by rw[hr]at hrs;simpa using hrs
     have he:=DZ (nm:=nm) (X:=eY false r) (CP d);rw[he0,Nat.add_zero]at he;obtain⟨i1,i2⟩:=uW (wr_nil hd) he;refine⟨wrL false d,by simp[eY,oG,sj],?_,i2⟩;rw[i1,pK];simp[Dr]
   obtain⟨a,k1,k2,k3⟩:=key;rw[zx,tO (Bc hs.name hs.attrs hs.once),qR hp,hrs,k1,k2,k3,hj];simp[ih _ _ H6]
 | @shuts nm r hn _ ih=>
   intro q p hp;rw[DY,tO (open_end hn),qR hp];simp[pO,ih _ _ H6]
 | @note d r hd _ ih=>
   intro q p hp;have e:eY false (⟨3,[],[],d,false⟩::r)=60::(33::45::45::(d++45::45::62::eY false r)):=by simp[eY,oG,sj]
   rw[e,tO (LZ hd),qR hp];simp[pO,ih _ _ H6]
 | @doct d r hd _ ih=>
   intro q p hp;have e:eY false (⟨4,[],[],d,false⟩::r)=60::(33::100::111::99::116::121::112::101::32::(d++62::eY false r)):=by simp[eY,oG,sj]
   rw[e,tO (open_doc hd),qR hp];simp[pO,ih _ _ H6]
end Go.Proofs.YtkcmghlhpbepcaaGreatDoor
