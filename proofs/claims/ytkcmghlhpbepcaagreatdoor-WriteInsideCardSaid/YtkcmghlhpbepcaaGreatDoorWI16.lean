/- Lemmas and walks, part 16. -/
import Derived.Test.YtkcmghlhpbepcaaGreatDoorWI15
import Derived.Shelf.Unicode.ValidAny
set_option linter.unusedVariables false
set_option linter.unusedSimpArgs false
set_option maxHeartbeats 8000000
set_option maxRecDepth 100000
namespace Go.Proofs.YtkcmghlhpbepcaaGreatDoor
open Go.Proofs
def wt(t:Tok):Nat:=if t.kind=0 then 6 * t.data.length else(oG false t).length
def wts(l:List Tok):Nat:=(l.map wt).sum
theorem Me(a b:List Tok):wts (a++b)=wts a+wts b:=by simp[wts]
theorem wts_nil:wts []=0:=rfl
theorem yE(t:Tok):wts [t]=wt t:=by simp[wts]
theorem CU(t:Tok)(l:List Tok):wts (t::l)=wt t+wts l:=by simp[wts]
theorem tokW_le(raw:Bool)(t:Tok):(oG raw t).length≤wt t:=by
 unfold wt
 by_cases h:t.kind=0
 ·rw[if_pos h]
  have:=Dt false t.data;cases raw with
  |true=>
   rw[show oG true t=t.data from by simp[oG,h]];omega
  |false=>
   rw[show oG false t=wrL false t.data from by simp[oG,h]];exact this
 ·rw[if_neg h,show oG raw t=oG false t from by simp[oG,h]]
  exact Nat.le_refl _
theorem F3(l:Txt):(jc l).length≤l.length:=BQ _ l (Nat.le_refl _)
theorem valF_len(nm s:Txt):(Aw nm s).1.1=nm∧(Aw nm s).1.2.length+(Aw nm s).2.1.length≤s.length:=by
 unfold Aw
 split
 ·simp
 ·rename_i q t
  split
  ·have h1:=nO q t
   have h2:=F3 (gW q t).1;refine⟨rfl,?_⟩;simp only[List.length_cons];omega
  ·have h2:=F3 ((q::t).take (BA (q::t)))
   refine⟨rfl,?_⟩;simp only[List.length_take,List.length_drop]at *;omega
theorem UE(nm s:Txt):(sS nm s).1.1=nm∧(sS nm s).1.2.length+(sS nm s).2.1.length≤s.length:=by
 have h1:=CS s;unfold sS
 split
 ·simp
 ·rename_i c t h
  rw[h]at h1;simp only[List.length_cons]at h1
  split
  ·have h2:=valF_len nm (mg t)
   have h3:=CS t;refine⟨h2.1,?_⟩;omega
  ·simp
theorem UF(s:Txt):(lU s).1.1.length+(lU s).1.2.length+(lU s).2.1.length≤s.length:=by
 have h:=UE (iZ (s.take (qB s))) (s.drop (qB s));unfold lU;rw[h.1];have h2:=h.2;simp only[iZ,List.length_map,List.length_take,List.length_drop]at *;omega
theorem addA_len(acc:List (Txt×Txt))(a:Txt×Txt):(dY (z8 acc a)).length≤(dY acc).length+4+a.1.length+6 * a.2.length:=by
 unfold z8
 split
 ·omega
 ·have e:dY (acc++[a])=dY acc++dY [a]:=by simp only[dY,List.flatMap_append]
  have h:=Dt true a.2;rw[e,List.length_append];simp only[dY,List.flatMap_cons,List.flatMap_nil,List.append_nil,List.length_cons,List.length_append,List.length_nil];omega
theorem Ih:∀(n:Nat) (acc:List (Txt×Txt)) (s:Txt) r,lS n acc s=some r→(dY r.1).length+12 * (r.2.2.length+1)≤(dY acc).length+12 * s.length
 |0,_,_,_,h=>by simp[lS]at h
 |n+1,acc,s,r,h=>by
  unfold lS at h;cases hd:s.drop (rC s)with
  |nil=>rw[hd]at h;simp at h
  |cons c s1=>
   rw[hd]at h;have hg:=H9 hd
   have h1:s1.length+1≤s.length:=by
    have:=congrArg List.length hd;simp at this;omega
   simp only at h
   split at h
   ·simp at h
    subst h;simp only;omega
   ·rename_i hc
    split at h
    ·have ih:=Ih n _ _ r h
     have h2:=addA_len acc (lU (c::s1)).1;have h3:=UF (c::s1);have h4:=(Bf (s:=s1) hg.1 hc).ne;have h5:=List.length_pos_iff.2 h4;simp only[List.length_cons]at h3;omega
    ·simp at h
theorem Qs{s r:Txt}{t:Tok}(h:fC s=some (t,r)):t.name.length+(dY t.attrs).length+12 * r.length+12≤12 * s.length∧t.data=[]:=by
 unfold fC at h;cases ha:kR [] (s.drop (s.findIdx bY))with
 |none=>rw[ha]at h;simp at h
 |some q=>
  rw[ha]at h;simp at h;have h2:=Ih _ _ _ _ ha;obtain⟨rfl,rfl⟩:=h;have hk:s.findIdx bY≤s.length:=List.findIdx_le_length;refine⟨?_,rfl⟩;simp only[iZ,List.length_map,List.length_take,List.length_drop,dY,List.flatMap_nil,List.length_nil]at *;omega
theorem Ii(nm s:Txt):wts (jE nm s)+12 * (jD nm s).length≤12 * s.length:=by
 have hl:=zO nm s;unfold jE jD;rw[List.length_drop]
 split
 ·rw[wts_nil];omega
 ·rw[yE,wt,if_pos rfl]
  have h2:=F3 (s.take (iL nm s));rw[List.length_take]at h2
  split
  ·simp only;omega
  ·simp only[List.length_take];omega
theorem OC(nm:Txt)(l:List (Txt×Txt))(d:Txt)(b:Bool):wt ⟨1,nm,l,d,b⟩=(jR [60] ⟨1,nm,l,d,b⟩).length:=rfl
theorem wt_k2(nm:Txt):wt ⟨2,nm,[],[],false⟩=(jR [60,47] ⟨0,nm,[],[],false⟩).length:=rfl
theorem wt_k3(d:Txt):wt ⟨3,[],[],d,false⟩=([60,33,45,45]++d++[45,45,62]).length:=rfl
theorem wt_k4(d:Txt):wt ⟨4,[],[],d,false⟩=([60,33,100,111,99,116,121,112,101,32]++d++[62]).length:=rfl
theorem Tt{k:Int}(hk:k=1∨k=2)(s:Txt):wts (pq k s).1+12 * (pq k s).2.length≤12 * (s.length+1):=by
 unfold pq;cases ho:fC s with
 |none=>simp[wts]
 |some x=>
  obtain⟨t,r⟩:=x;obtain⟨h1,hd⟩:=Qs ho;have hs:(mY t.self).length≤2:=by unfold mY;split<;>simp
  have w1:wt ⟨1,t.name,t.attrs,t.data,t.self⟩≤t.name.length+(dY t.attrs).length+4:=by
   rw[OC];simp only[jR,List.length_append,List.length_cons,List.length_nil];omega
  have w2:wt ⟨2,t.name,[],[],false⟩≤t.name.length+4:=by
   rw[wt_k2];simp only[jR,dY,mY,List.flatMap_nil,List.length_append,List.length_cons,List.length_nil,Bool.false_eq_true,if_false];omega
  simp only
  rcases hk with rfl|rfl
  ·rw[if_neg (by decide)]
   split
   ·have h2:=Ii t.name r
    simp only[CU];omega
   ·rw[yE]
    simp only;omega
  ·rw[if_pos rfl,yE]
   simp only;omega
theorem cut_sum(s e:Txt):(Lib.cut s e).1.length+(Lib.cut s e).2.1.length≤s.length:=by
 unfold Lib.cut
 split
 ·simp
  omega
 ·simp
theorem trim_len(s:Txt):(jS s).length≤s.length:=by
 unfold jS;rw[List.length_reverse];have h1:=yC (p:=dz) (s.dropWhile dz).reverse;have h2:=yC (p:=dz) s;rw[List.length_reverse]at h1;omega
theorem zB{k:Int}(hk:k=3∨k=4)(s e:Txt):wts (mF k s e).1+12 * (mF k s e).2.length≤12 * s.length+11:=by
 have h:=cut_sum s e;have h2:=trim_len (Lib.cut s e).1;unfold mF jM;rw[yE]
 rcases hk with rfl|rfl
 ·rw[wt_k3,if_neg (by decide)]
  simp only[List.length_append,List.length_cons,List.length_nil];omega
 ·rw[wt_k4]
  simp only[if_true,List.length_append,List.length_cons,List.length_nil];omega
theorem OD(s:Txt):wts (jk s).1+12 * (jk s).2.length≤12 * s.length+11:=by
 have w3:wt ⟨3,[],[],[],false⟩=7:=by decide
 unfold jk
 split
 ·rw[yE,w3];simp;omega
 ·split
  ·rw[yE,w3];simp;omega
  ·exact zB (.inl rfl) _ _
theorem open_len{s r:Txt}{ts:List Tok}(h:jd s=some (ts,r)):wts ts+12 * r.length≤12 * (s.length+1):=by
 have hx:∀ {x:List Tok×Txt} {n:Nat},some x=some (ts,r)→wts x.1+12 * x.2.length≤n→wts ts+12 * r.length≤n:=by
  intro x n e hn;simp only[Option.some.injEq]at e;rw[e]at hn;exact hn
 unfold jd at h
 split at h
 ·exact hx h (Tt (.inl rfl) s)
 ·split at h
  ·have:=Tt (.inr rfl) s.tail
   rw[List.length_tail]at this;exact hx h (by omega)
  ·split at h
   ·exact hx h (by simp[wts];omega)
   ·split at h
    ·have:=OD (s.drop 3)
     rw[List.length_drop]at this;exact hx h (by omega)
    ·split at h
     ·have:=zB (.inr rfl) (s.drop 8) [62]
      rw[List.length_drop]at this;exact hx h (by omega)
     ·split at h
      ·have:=zB (.inl rfl) s.tail [62]
       rw[List.length_tail]at this;exact hx h (by omega)
      ·split at h
       ·have:=zB (.inl rfl) s [62]
        exact hx h (by omega)
       ·split at h
        ·have:=zB (.inl rfl) s.tail [62]
         rw[List.length_tail]at this;exact hx h (by omega)
        ·simp at h
theorem OE(t:Txt):wts (fE t)≤12 * t.length:=by
 unfold fE
 split
 ·simp[wts]
 ·have:=F3 t
  rw[yE,wt,if_pos rfl];simp only;omega
theorem CV:∀(n:Nat) (t s:Txt),wts (runN n t s)≤12 * (t.length+s.length)
 |0,t,s=>by
  have:=OE t;rw[runN];omega
 |n+1,t,s=>by
  have ht:=OE (t++s.take (gT s));have hf:gT s≤s.length:=List.findIdx_le_length;rw[List.length_append,List.length_take]at ht;unfold runN;cases hd:s.drop (gT s)with
  |nil=>
   simp only;omega
  |cons c s1=>
   have h1:gT s+(s1.length+1)=s.length:=by
    have:=congrArg List.length hd;simp at this;omega
   simp only;cases ho:jd s1 with
   |none=>
    have:=CV n (t++s.take (gT s)++[60]) s1;simp only[List.length_append,List.length_take,List.length_cons,List.length_nil]at this;simp only;omega
   |some x=>
    obtain⟨ts,r⟩:=x;have h2:=open_len ho;have h3:=CV n [] r;simp only[List.length_nil]at h3;simp only;rw[Me,Me];omega
end Go.Proofs.YtkcmghlhpbepcaaGreatDoor
namespace Go.Proofs.aj.W7
open Go.RowKit Go.Proofs aj YtkcmghlhpbepcaaGreatDoor ah.aD
def mP(x:Rw):Tok:=if x.f1=0 then⟨1,x.f2.data.toList,x.f4.map lV,[],false⟩else if x.f1=1 then⟨0,[],[],x.f3.data.toList,false⟩else⟨3,[],[],x.f3.data.toList,false⟩
def endP(n:Bt):Tok:=⟨2,n.data.toList,[],[],false⟩
def kT:List Rw→List Bt→List Tok
 | [],op=>op.reverse.map endP
 |x::r,op=>(op.drop x.f0.toNat).reverse.map endP++mP x::kT r (opA (op.take x.f0.toNat) x)
theorem pairsTS7(l:List At):(l.map lV).map pairT=l:=by
 induction l with
 |nil=>rfl
 |cons a l ih=>
  rw[List.map_cons,List.map_cons,ih];rfl
theorem tokT_P(x:Rw):kZ (mP x)=tT x:=by
 unfold mP tT
 split
 ·show(⟨1,⟨x.f2.data.toList.toArray⟩,⟨#[]⟩,(x.f4.map lV).map pairT,false⟩:Tk)=_
  rw[pairsTS7]
 ·split<;>rfl
theorem F4:∀(r:List Rw) (op:List Bt),(kT r op).map kZ=emit r op
 | [],op=>by
   rw[kT,emit,List.map_map];rfl
 |x::r,op=>by
  rw[kT,emit,List.map_append,List.map_map,List.map_cons,tokT_P,F4 r];rfl
abbrev OT:=YtkcmghlhpbepcaaGreatDoor.Good
def Shut(d:Int):List Rw→Prop
 | []=>True
 |z::_=>z.f0≤d
structure F5 (x:Rw) (r:List Rw):Prop where
 start:x.f1=0→sD x.f2.data.toList (x.f4.map lV)
 note:x.f1=2→tN x.f3.data.toList
 inner:x.f1=0→(kX x.f2.data.toList||kV x.f2.data.toList)=true→jq x.f2=false∧
  (Shut x.f0 r∨∃y r',r=y::r'∧y.f1=1∧y.f0=x.f0+1∧(kX x.f2.data.toList=true→H8 x.f2.data.toList y.f3.data.toList)∧Shut x.f0 r')
def zD:List Rw→Prop
 | []=>True
 |x::r=>F5 x r∧zD r
def C8(op:List Bt):Prop:=∀n∈op,sF n.data.toList
theorem zS{L:List Tok}(hL:OT L):∀(m:List Bt),C8 m→OT (m.map endP++L)
 | [],_=>hL
 |n::m,h=>.shuts (h n (by simp)) (zS hL m (fun k hk=>h k (by simp[hk])))
theorem EM{n:Bt}{op:List Bt}{out:List Rw}:∀ {r:List Rw},Shut op.length r→RowsFit r (op++[n]) out→Closed n.data.toList (kT r (op++[n]))
 | [],_,_=>.inr ⟨op.reverse.map endP,by rw[kT,List.reverse_append];rfl⟩
 |z::r,hz,hf=>by
  have h0:=hf.1.lo;have hz':z.f0≤op.length:=hz;refine .inr ⟨(op.drop z.f0.toNat).reverse.map endP++mP z::kT r (opA ((op++[n]).take z.f0.toNat) z),?_⟩;rw[kT,List.drop_append_of_le_length (by omega),List.reverse_append];rfl
theorem UW{x:Rw}{r:List Rw}{op:List Bt}(h:F5 x r)(ho:C8 op):C8 (opA (op.take x.f0.toNat) x):=by
 unfold opA
 split
 ·rename_i hc
  intro n hn
  rcases List.mem_append.1 hn with hn|hn
  ·exact ho n (List.mem_of_mem_take hn)
  ·obtain rfl:=List.mem_singleton.1 hn
   exact(h.start hc.1).name
 ·exact fun n hn=>ho n (List.mem_of_mem_take hn)
theorem UY:∀(N:Nat) (r:List Rw) (op:List Bt) (out:List Rw),r.length≤N→RowsFit r op out→zD r→C8 op→OT (kT r op):=by
 intro N
 induction N with
 |zero=>
  intro r op out hN _ _ ho;obtain rfl:r=[]:=List.eq_nil_of_length_eq_zero (by omega);have:=zS .nil op.reverse (fun n hn=>ho n (List.mem_reverse.1 hn))
  rwa [List.append_nil]at this
 |succ N ih=>
  intro r op out hN hf hg ho;cases r with
  |nil=>
   have:=zS .nil op.reverse (fun n hn=>ho n (List.mem_reverse.1 hn))
   rwa [List.append_nil]at this
  |cons x r=>
   obtain⟨f1,f2⟩:=hf;obtain⟨g1,g2⟩:=hg;have ho2:=UW g1 ho;have hN':r.length≤N:=by simpa using hN
   refine zS ?_ _ (fun n hn=>ho n (List.mem_of_mem_drop (List.mem_reverse.1 hn)));have hrec:=ih r _ _ hN' f2 g2 ho2;have hlen:(op.take x.f0.toNat).length=x.f0.toNat:=by rw[List.length_take];have:=f1.hi;have:=f1.lo;omega
   have hlo:=f1.lo
   rcases f1.kind with k|k|k
   ·have e:mP x=⟨1,x.f2.data.toList,x.f4.map lV,[],false⟩:=by unfold mP;rw[if_pos k]
    rw[e];cases hrs:(kX x.f2.data.toList||kV x.f2.data.toList)with
    |false=>exact .start (g1.start k) hrs hrec
    |true=>
     obtain⟨hv,hin⟩:=g1.inner k hrs;have eo:opA (op.take x.f0.toNat) x=op.take x.f0.toNat++[x.f2]:=by unfold opA;rw[if_pos ⟨k,hv⟩]
     rw[eo]at hrec f2 ho2⊢;have hd:((op.take x.f0.toNat).length:Int)=x.f0:=by omega
     rcases hin with hs|⟨y,r',rfl,y1,y2,y3,y4⟩
     ·exact .shut (g1.start k) hrs (EM (by rw[hd];exact hs) f2) hrec
     ·obtain⟨q1,q2⟩:=f2
      have hy:(op.take x.f0.toNat++[x.f2]).length=y.f0.toNat:=by rw[List.length_append,List.length_singleton];omega
      have hdr:(op.take x.f0.toNat++[x.f2]).drop y.f0.toNat=[]:=List.drop_eq_nil_of_le (by omega);have htk:(op.take x.f0.toNat++[x.f2]).take y.f0.toNat=op.take x.f0.toNat++[x.f2]:=List.take_of_length_le (by omega);have e2:mP y=⟨0,[],[],y.f3.data.toList,false⟩:=by unfold mP;rw[if_neg (by omega),if_pos y1]
      have eo2:opA ((op.take x.f0.toNat++[x.f2]).take y.f0.toNat) y=op.take x.f0.toNat++[x.f2]:=by unfold opA;rw[if_neg (by omega),htk]
      rw[eo2]at q2;have hr2:=ih r' _ _ (by simp only[List.length_cons]at hN';omega) q2 g2.2 ho2;rw[kT,hdr,e2,eo2];exact .full (g1.start k) hrs (q1.text y1).1 y3 (EM (by rw[hd];exact y4) q2) hr2
   ·have e:mP x=⟨0,[],[],x.f3.data.toList,false⟩:=by unfold mP;rw[if_neg (by omega),if_pos k]
    rw[e];exact .text (f1.text k).1 hrec
   ·have e:mP x=⟨3,[],[],x.f3.data.toList,false⟩:=by unfold mP;rw[if_neg (by omega),if_neg (by omega)]
    rw[e];exact .note (g1.note k) hrec
def Apart:Bool→List Tok→Prop
 |_,[]=>True
 |b,t::r=>(t.kind=0→b=false∧t=⟨0,[],[],t.data,false⟩∧t.data≠[])∧Apart (decide (t.kind=0)) r
theorem Bn:∀(L:List Tok) (p:Txt),Apart (decide (p≠[])) L→pO p L=wE p++L
 | [],p,_=>by rw[pO,List.append_nil]
 |t::r,p,h=>by
  obtain⟨h1,h2⟩:=h;rw[pO]
  by_cases k:t.kind=0
  ·obtain⟨a,b,c⟩:=h1 k
   have hp:p=[]:=by simpa using a
   subst hp;rw[if_pos k,List.nil_append,Bn r t.data (by simpa [k,c]using h2),wE,if_neg c,wE,if_pos rfl];rw[←b];rfl
  ·rw[if_neg k,Bn r [] (by simpa [k]using h2)]
   rfl
theorem IC{L:List Tok}(hL:Apart false L):∀(m:List Bt) (b:Bool),(m=[]→b=false)→Apart b (m.map endP++L)
 | [],b,h=>by rw[h rfl];exact hL
 |n::m,b,h=>⟨fun k=>by simp[endP]at k,IC hL m _ (fun _=>rfl)⟩
theorem IE:∀(r:List Rw) (op:List Bt) (out:List Rw) (b:Bool),RowsFit r op out→(b=true→nu op out=true)→Apart b (kT r op)
 | [],op,out,b,_,_=>by
   rw[kT];generalize op.reverse=m
   induction m generalizing b with
   |nil=>trivial
   |cons n m ih=>exact⟨fun k=>by simp[endP]at k,ih _ (by simp[endP])⟩
 |x::r,op,out,b,hf,hb=>by
  obtain⟨f1,f2⟩:=hf;have hlo:=f1.lo;have hhi:=f1.hi;have hlen:(op.take x.f0.toNat).length=x.f0.toNat:=by rw[List.length_take];omega
  rw[kT]
  have hrest:∀c:Bool,(c=true→nu (op.take x.f0.toNat) out=true)→Apart c (mP x::kT r (opA (op.take x.f0.toNat) x)):=by
   intro c hc;refine⟨fun k=>?_,IE r _ (out++[x]) _ f2 (fun k=>?_)⟩
   ·have k1:x.f1=1:=by
     rcases f1.kind with k'|k'|k'
     ·simp[mP,k']at k
     ·exact k'
     ·simp[mP,k']at k
    obtain⟨t1,t2⟩:=f1.text k1;have e:mP x=⟨0,[],[],x.f3.data.toList,false⟩:=by unfold mP;rw[if_neg (by omega),if_pos k1]
    rw[e];refine⟨?_,rfl,t1⟩;cases c with
    |false=>rfl
    |true=>rw[hc rfl]at t2;cases t2
   ·have k:=of_decide_eq_true k
    have k1:x.f1=1:=by
     rcases f1.kind with k'|k'|k'
     ·simp[mP,k']at k
     ·exact k'
     ·simp[mP,k']at k
    have eo:opA (op.take x.f0.toNat) x=op.take x.f0.toNat:=by unfold opA;rw[if_neg (by omega)]
    rw[eo];unfold nu;simp only[List.getLast?_append,List.getLast?_singleton,Option.some_or];simp[k1,hlen];omega
  by_cases hd:op.drop x.f0.toNat=[]
  ·have ht:op.take x.f0.toNat=op:=by
    have:=List.take_append_drop x.f0.toNat op;rw[hd,List.append_nil]at this;exact this
   rw[hd];exact hrest b (by rw[ht];exact hb)
  ·exact IC (hrest false (by simp)) _ b (fun h=>absurd (by simpa using h) hd)
theorem emit_cut{r:List Rw}(hf:RowsFit r [] [])(hg:zD r):cutL (Bg (kT r []))=kT r []:=by
 have h1:=Uw (UY r.length r [] [] (Nat.le_refl _) hf hg (by intro n hn;cases hn)) [] [] H6;have h2:=Bn (kT r []) [] (by simpa using IE r [] [] false hf (by simp));rw[wE,if_pos rfl,List.nil_append]at h2;unfold cutL Bg;rw[h1,h2]
end Go.Proofs.aj.W7
namespace Go.Proofs.aj.W7
open Go.RowKit ah.aD ah.bH ah.bU
attribute [local go_sem] dB dD dW dX bZ cu dF dG
def mG.f(l0:List (S34))(a1:Int):Option (Bool):=if a1≥0 then(some (decide (a1<(l0.length:Int))))else(some false)
theorem mG.calls(A0:Option Addr)(c0:Nat)(l0:List (S34))(a1:Int)(r:Bool)(w:World)(hr0:Kd.C k34 w A0 l0.length l0)(hc0:l0.length≤c0)(h:mG.f l0 a1=some r):
 Calls Tryz.prog 143 #[.slice A0 l0.length c0,.int .i64 a1] w fun e w'=>e=.returned (.bool r)∧bJ w w':=by
 have HR0:=ak.mk hr0;have HC0:=ak.mk hc0;clear hr0 hc0;have H:(if a1≥0 then(some (decide (a1<(l0.length:Int))))else(some false))=some r:=h;clear h
 by_cases c3:a1≥0
 ·rw[if_pos c3]at H
  have oD:=decide_eq_true c3;clear c3;obtain rfl:=Option.some.inj H;go_enter Tryz.func143,Tryz.ntmps143;go_wp2;go_ret;exact⟨q'c,by repeat(first|exact bJ.refl _|apply bJ.step)⟩
 ·rw[if_neg c3]at H
  have oD:=decide_eq_false c3;clear c3;obtain rfl:=Option.some.inj H;go_enter Tryz.func143,Tryz.ntmps143;go_wp2;go_ret;exact⟨q'c,by repeat(first|exact bJ.refl _|apply bJ.step)⟩
def kS.l0:Nat→List (S34)→Int→Int→Option (Int)
 |0,_,_,_=>none
 |k+1,x0,x1,x5=>if x5<(x0.length:Int)then(if 0≤x5 then(if 0≤x1 then(if x1<(x0.length:Int)then(if((au x0 x5).f0)>((au x0 x1).f0)then(kS.l0 k x0 x1 (wrap64 (x5+1)))else(some x5))else(none))else(none))else(none))else(some x5)
def kS.f(k:Nat)(l0:List (S34))(a1:Int):Option (Int):=(mG.f l0 a1).bind fun t110=>(if t110=true then(kS.l0 k l0 a1 (wrap64 (a1+1)))else(some 0))
theorem kS.calls(k:Nat)(A0:Option Addr)(c0:Nat)(l0:List (S34))(a1 r:Int)(w:World)(hr0:Kd.C k34 w A0 l0.length l0)(hc0:l0.length≤c0)(h:kS.f k l0 a1=some r):
 Calls Tryz.prog 184 #[.slice A0 l0.length c0,.int .i64 a1] w fun e w'=>e=.returned (.int .i64 r)∧bJ w w':=by
 have HR0:=ak.mk hr0;have HC0:=ak.mk hc0;clear hr0 hc0;have H:((mG.f l0 a1).bind fun t110=>(if t110=true then(kS.l0 k l0 a1 (wrap64 (a1+1)))else(some 0)))=some r:=h;clear h;replace H:=Option.bind_eq_some_iff.mp H;obtain⟨t110,A30,H⟩:=H
 try dsimp only at H
 have A3:=ak.mk A30;clear A30
 by_cases c4:t110=true
 ·subst c4
  rw[if_pos rfl]at H
  try dsimp only at H
  have H':=ak.mk H;clear H;go_enter Tryz.func184,Tryz.ntmps184
  go_wp2_with(first|(go_at_call 143;(with_reducible refine(mG.calls _ _ l0 a1 true _ ?dI ?dJ A3.out).mono ?_);(case dI=>repeat(first|exact HR0.out|(with_reducible refine Kd.eH ?_ _)|(with_reducible refine Kd.eP ?_ _)|(with_reducible refine Kd.fA ?_)));(case dJ=>exact HC0.out);rintro e w' ⟨rfl,⟨nd,rfl⟩⟩;(try first|exact⟨rfl,_,World.drewN_drewN _ _ _⟩|exact⟨rfl,_,Eq.trans (World.drewN_drewN _ _ _) (congrArg (World.drewN _) (Nat.add_assoc _ _ _))⟩)))
  repeat(go_quiet (first|(go_at_call 143;(with_reducible refine(mG.calls _ _ l0 a1 true _ ?dI ?dJ A3.out).mono ?_);(case dI=>repeat(first|exact HR0.out|(with_reducible refine Kd.eH ?_ _)|(with_reducible refine Kd.eP ?_ _)|(with_reducible refine Kd.fA ?_)));(case dJ=>exact HC0.out);rintro e w' ⟨rfl,⟨nd,rfl⟩⟩;(try first|exact⟨rfl,_,World.drewN_drewN _ _ _⟩|exact⟨rfl,_,Eq.trans (World.drewN_drewN _ _ _) (congrArg (World.drewN _) (Nat.add_assoc _ _ _))⟩)));try go_wp2_with(first|(go_at_call 143;(with_reducible refine(mG.calls _ _ l0 a1 true _ ?dI ?dJ A3.out).mono ?_);(case dI=>repeat(first|exact HR0.out|(with_reducible refine Kd.eH ?_ _)|(with_reducible refine Kd.eP ?_ _)|(with_reducible refine Kd.fA ?_)));(case dJ=>exact HC0.out);rintro e w' ⟨rfl,⟨nd,rfl⟩⟩;(try first|exact⟨rfl,_,World.drewN_drewN _ _ _⟩|exact⟨rfl,_,Eq.trans (World.drewN_drewN _ _ _) (congrArg (World.drewN _) (Nat.add_assoc _ _ _))⟩))))
  go_loopg [5] k (fun kq v5 w'=>∃(jh:Int),v5=.int .i64 jh∧ak (kS.l0 kq l0 a1 jh=some r)∧ak (kq≤k)∧bJ w w')
  case atStart=>exact⟨(wrap64 (a1+1)),q'c,H',⟨Nat.le_refl _⟩,by repeat(first|exact bJ.refl _|apply bJ.step)⟩
  case round=>
   clear H'
   try clear c1
   try clear p2
   try clear c4
   obtain⟨jh,rfl,HA,HK1,⟨m1,rfl⟩⟩:=hrel;cases gk with
   |zero=>exact absurd HA.out (by simp[kS.l0])
   |succ k1=>
    have H:=HA.out;clear HA;simp only[kS.l0]at H
    by_cases c5:jh<(l0.length:Int)
    ·rw[if_pos c5]at H
     have tX:=decide_eq_true c5;clear c5
     by_cases c6:0≤jh
     ·rw[if_pos c6]at H
      have AO:=decide_eq_true c6;clear c6
      by_cases c7:0≤a1
      ·rw[if_pos c7]at H
       have GI:=decide_eq_true c7;clear c7
       by_cases c8:a1<(l0.length:Int)
       ·rw[if_pos c8]at H
        have yZ:=decide_eq_true c8;clear c8
        by_cases c9:((au l0 jh).f0)>((au l0 a1).f0)
        ·rw[if_pos c9]at H
         have GY:=decide_eq_true c9;clear c9;have H':=ak.mk H;clear H;have p111:0≤(jh:Int):=q'b;have q111:jh<(l0.length:Int):=q'b;obtain⟨ad111,A111_4,c111_4,e111,hx111_0,hx111_1,hx111_2,hx111_3,hx111_4,Cu,Cv⟩:=iM HR0.out jh p111 q111;cases e111;have HR111_4:=ak.mk Cv;have HC111_4:=ak.mk Cu;clear Cv Cu;replace p111:=eq_true p111;replace q111:=eq_true q111;have p112:0≤(a1:Int):=q'b;have q112:a1<(l0.length:Int):=q'b;obtain⟨ad112,A112_4,c112_4,e112,hx112_0,hx112_1,hx112_2,hx112_3,hx112_4,Cw,Cx⟩:=iM HR0.out a1 p112 q112;obtain rfl:ad111=ad112:=(by injection e112);have HR112_4:=ak.mk Cx;have HC112_4:=ak.mk Cw;clear Cx Cw;replace p112:=eq_true p112;replace q112:=eq_true q112;go_wp2
         repeat(go_quiet (fail);try go_wp2)
         go_roundg k1
         case measure=>have:=HK1.out;omega
         case rel=>exact⟨(wrap64 (jh+1)),q'c,H',⟨lz HK1.out⟩,by repeat(first|exact bJ.refl _|apply bJ.step)⟩
        ·rw[if_neg c9]at H
         have GY:=decide_eq_false c9;clear c9;obtain rfl:=Option.some.inj H;have p111:0≤(jh:Int):=q'b;have q111:jh<(l0.length:Int):=q'b;obtain⟨ad111,A111_4,c111_4,e111,hx111_0,hx111_1,hx111_2,hx111_3,hx111_4,Cu,Cv⟩:=iM HR0.out jh p111 q111;cases e111;have HR111_4:=ak.mk Cv;have HC111_4:=ak.mk Cu;clear Cv Cu;replace p111:=eq_true p111;replace q111:=eq_true q111;have p112:0≤(a1:Int):=q'b;have q112:a1<(l0.length:Int):=q'b;obtain⟨ad112,A112_4,c112_4,e112,hx112_0,hx112_1,hx112_2,hx112_3,hx112_4,Cw,Cx⟩:=iM HR0.out a1 p112 q112;obtain rfl:ad111=ad112:=(by injection e112);have HR112_4:=ak.mk Cx;have HC112_4:=ak.mk Cw;clear Cx Cw;replace p112:=eq_true p112;replace q112:=eq_true q112;go_wp2
         repeat(go_quiet (fail);try go_wp2)
         go_ret;exact⟨q'c,by repeat(first|exact bJ.refl _|apply bJ.step)⟩
       ·rw[if_neg c8]at H
        exact absurd H (by simp)
      ·rw[if_neg c7]at H
       exact absurd H (by simp)
     ·rw[if_neg c6]at H
      exact absurd H (by simp)
    ·rw[if_neg c5]at H
     have tX:=decide_eq_false c5;clear c5;obtain rfl:=Option.some.inj H;go_wp2
     repeat(go_quiet (fail);try go_wp2)
     go_ret;exact⟨q'c,by repeat(first|exact bJ.refl _|apply bJ.step)⟩
 ·replace c4:=Bool.eq_false_iff.mpr c4
  subst c4;have H1:(some 0)=some r:=by rw[if_neg (show¬(false=true) by decide)]at H;first|exact H|(simp only[eq_self]at H⊢;exact H)|(simp only[eq_self,if_true]at H⊢;exact H)
  clear H;have H:=H1;clear H1;obtain rfl:=Option.some.inj H;go_enter Tryz.func184,Tryz.ntmps184
  go_wp2_with(first|(go_at_call 143;(with_reducible refine(mG.calls _ _ l0 a1 false _ ?dI ?dJ A3.out).mono ?_);(case dI=>repeat(first|exact HR0.out|(with_reducible refine Kd.eH ?_ _)|(with_reducible refine Kd.eP ?_ _)|(with_reducible refine Kd.fA ?_)));(case dJ=>exact HC0.out);rintro e w' ⟨rfl,⟨nd,rfl⟩⟩;(try first|exact⟨rfl,_,World.drewN_drewN _ _ _⟩|exact⟨rfl,_,Eq.trans (World.drewN_drewN _ _ _) (congrArg (World.drewN _) (Nat.add_assoc _ _ _))⟩)))
  repeat(go_quiet (first|(go_at_call 143;(with_reducible refine(mG.calls _ _ l0 a1 false _ ?dI ?dJ A3.out).mono ?_);(case dI=>repeat(first|exact HR0.out|(with_reducible refine Kd.eH ?_ _)|(with_reducible refine Kd.eP ?_ _)|(with_reducible refine Kd.fA ?_)));(case dJ=>exact HC0.out);rintro e w' ⟨rfl,⟨nd,rfl⟩⟩;(try first|exact⟨rfl,_,World.drewN_drewN _ _ _⟩|exact⟨rfl,_,Eq.trans (World.drewN_drewN _ _ _) (congrArg (World.drewN _) (Nat.add_assoc _ _ _))⟩)));try go_wp2_with(first|(go_at_call 143;(with_reducible refine(mG.calls _ _ l0 a1 false _ ?dI ?dJ A3.out).mono ?_);(case dI=>repeat(first|exact HR0.out|(with_reducible refine Kd.eH ?_ _)|(with_reducible refine Kd.eP ?_ _)|(with_reducible refine Kd.fA ?_)));(case dJ=>exact HC0.out);rintro e w' ⟨rfl,⟨nd,rfl⟩⟩;(try first|exact⟨rfl,_,World.drewN_drewN _ _ _⟩|exact⟨rfl,_,Eq.trans (World.drewN_drewN _ _ _) (congrArg (World.drewN _) (Nat.add_assoc _ _ _))⟩))))
  go_ret;exact⟨q'c,by repeat(first|exact bJ.refl _|apply bJ.step)⟩
end Go.Proofs.aj.W7
namespace Go.Proofs.aj.W7
open Go.RowKit Go.Shelf Go.Proofs YtkcmghlhpbepcaaGreatDoor
attribute [local go_sem] Oper.semAt_some
def pI(d:Int):List Rw→Nat
 | []=>0
 |y::ys=>if d<y.f0 then pI d ys+1 else 0
theorem Oc(d:Int):∀xs:List Rw,pI d xs≤xs.length
 | []=>Nat.le_refl _
 |y::ys=>by
  have:=Oc d ys;simp only[pI,List.length_cons]
  split<;>omega
def fK(xs:List Rw)(i:Nat):Nat:=i+1+pI (au xs i).f0 (xs.drop (i+1))
theorem lg(xs:List Rw)(i:Nat):i<fK xs i:=by unfold fK;omega
theorem oP(xs:List Rw)(i:Nat)(h:i<xs.length):fK xs i≤xs.length:=by
 have:=Oc (au xs i).f0 (xs.drop (i+1));rw[List.length_drop]at this;unfold fK;omega
theorem wr64{x:Int}(h0: -9223372036854775808≤x)(h1:x≤9223372036854775807):wrap64 x=x:=by unfold wrap64;omega
theorem end_l0(xs:List Rw)(hl:xs.length≤9223372036854775807)(i:Nat)(hi:i<xs.length):∀(d j k:Nat),xs.length - j≤d→j≤xs.length→d<k→
 kS.l0 k xs i j=some ((j+pI (au xs i).f0 (xs.drop j):Nat):Int):=by
 intro d
 induction d with
 |zero=>
  intro j k hd hj hk;obtain⟨k,rfl⟩:∃m,k=m+1:=⟨k - 1,by omega⟩
  simp only[kS.l0];rw[if_neg (by omega),List.drop_of_length_le (by omega)];rfl
 |succ d ih=>
  intro j k hd hj hk;obtain⟨k,rfl⟩:∃m,k=m+1:=⟨k - 1,by omega⟩
  simp only[kS.l0]
  by_cases h:j<xs.length
  ·have hdj:au xs (j:Int)=xs[j]:=by simp[au,h]
   rw[if_pos (by omega),if_pos (by omega),if_pos (by omega),if_pos (by omega),List.drop_eq_getElem_cons h,hdj];simp only[pI,gt_iff_lt]
   split
   ·rw[wr64 (by omega) (by omega),show((j:Int)+1)=((j+1:Nat):Int)from by omega,ih (j+1) k (by omega) (by omega) (by omega)]
    congr 2
    omega
   ·rfl
  ·rw[if_neg (by omega),List.drop_of_length_le (by omega)]
   rfl
theorem end_f(xs:List Rw)(hl:xs.length≤9223372036854775807)(i:Nat)(hi:i<xs.length):kS.f (xs.length+1) xs i=some ((fK xs i:Nat):Int):=by
 unfold kS.f mG.f;rw[if_pos (by omega),Option.bind_some,decide_eq_true (by omega),if_pos rfl,wr64 (by omega) (by omega),show((i:Int)+1)=((i+1:Nat):Int)from by omega,end_l0 xs hl i hi xs.length (i+1) _ (by omega) (by omega) (by omega)];rfl
def kE(xs:List Rw)(t j:Nat):List Nat:=
 if h:j<t∧j<xs.length then j::kE xs t (fK xs j)else []
termination_by xs.length - j
decreasing_by have:=lg xs j;omega
theorem sK{xs:List Rw}{t j:Nat}(h:j<t)(h2:j<xs.length):kE xs t j=j::kE xs t (fK xs j):=by rw[kE,dif_pos ⟨h,h2⟩]
theorem qx{xs:List Rw}{t j:Nat}(h:¬j<t):kE xs t j=[]:=by rw[kE,dif_neg (fun e=>h e.1)]
def kQ(xs:List Rw)(i:Int):List Nat:=
 if i= -1 then kE xs xs.length 0 else if 0≤i∧i<xs.length then kE xs (fK xs i.toNat) (i.toNat+1)else []
def BO(i:Int):Nat:=if i= -1 then 0 else i.toNat+1
def toI(xs:List Rw)(i:Int):Nat:=if i= -1 then xs.length else fK xs i.toNat
theorem vU{xs:List Rw}{i:Int}(h:i= -1∨0≤i∧i<xs.length):kQ xs i=kE xs (toI xs i) (BO i):=by
 unfold kQ toI BO
 rcases h with rfl|h
 ·rfl
 ·rw[if_neg (by omega),if_pos h,if_neg (by omega),if_neg (by omega)]
theorem CB(w:World)(n:Nat)(row:Option Nat):w.grownBy (w.drewN n) row:=⟨rfl,rfl,rfl,Nat.le_refl _,fun _ _ _=>rfl⟩
def KpK(n₀ B:Nat)(v:Value)(W W':World):Prop:=Below n₀ W W'∧(Boxed W B 22 v→Boxed W' B 22 v)
theorem kpK_t{n₀ B:Nat}{v:Value}{X Y Z:World}(h:KpK n₀ B v X Y)(k:KpK n₀ B v Y Z):KpK n₀ B v X Z:=⟨h.1.trans k.1,fun e=>k.2 (h.2 e)⟩
theorem kpK_b{n₀ B:Nat}{v:Value}{w:World}(hn:n₀≤w.heap.size)(hB:B<w.heap.size)(W:World)(l:Nat)(o o':Obj)(hl:w.heap.size≤l)(h:W.heap[l]?=some o)(h1:o.isCells=false)(h2:o.isWalk=false):KpK n₀ B v W (W.putObj l o'):=
 ⟨belowK_b hn W l o o' hl h h1 h2,fun e=>e.kept (grownBy_putObj' W l o') (fun e'=>by cases e';omega)⟩
theorem kids1_in(n:Nat)(hn:1≤n)(l B1 B2:Nat)(A:Option Addr)(c:Nat)(xs:List Rw)(i:Int)(hi:i= -1∨0≤i∧i<xs.length)(hcap:xs.length≤c)(w0:World)(hr:k34.C w0 A xs.length xs)(J Jx:List Nat→World→Prop)
 (hY:∀pre x W,J pre W→pre.length<xs.length→YieldAt Fence.wide (n - 1) Tryz.prog l #[.int .i64 (x:Nat)] W fun e W'=>
   (e=.returned (.bool true)∧J (pre++[x]) W'∧KpK w0.heap.size B1 (.slice A xs.length c) W W')∨(e=.returned (.bool false)∧Jx (pre++[x]) W'))
 (W:World) (hJ:AbidesFrom W.heap.size J) (hW:Below w0.heap.size w0 W) (b1:Boxed W B1 22 (.slice A xs.length c)) (c2:W.cell? ⟨B2,0,none⟩=some (.int .i64 i)) (h0:J [] W):
 CallsIn Fence.wide n Tryz.prog 183 #[.func (.yield l) #[] #[],.pointer (some ⟨B1,0,none⟩),.pointer (some ⟨B2,0,none⟩)] W fun e W'=>(∃v,e=.returned v)∧
  ((∃ys,ys=kQ xs i∧J ys W')∨(∃pre,pre<+:kQ xs i∧Jx pre W')):=by
 have hxl:=hr.2.1;rw[vU hi];refine callsIn_of_wp Tryz.func183 rfl trivial ?_ rfl;simp only[Tryz.ntmps183,List.size_toArray,List.length_cons,List.length_nil,Nat.reduceAdd,Nat.reduceSub,Array.replicate_succ,Array.replicate_zero,List.push_toArray,List.append_toArray,List.nil_append,List.cons_append];have c1:=b1.cell;have hm1:Tryz.prog.follows .mixedOrders=true:=by kernel_rfl
 have hm2:Tryz.prog.follows .lateStores=true:=by kernel_rfl
 have hm3:Tryz.prog.follows .lateStoresUnsure=true:=by kernel_rfl
 have hE:Hid (∀(j:Nat) (hj:j<xs.length) (W':World),Below w0.heap.size w0 W'→CallsIn Fence.wide (n - 1) Tryz.prog 184 #[.slice A xs.length c,.int .i64 j] W' fun e w'=>e=.returned (.int .i64 (fK xs j:Nat))∧∃m,w'=W'.drewN m):=fun j hj W' hW'=>
  callsIn_wide.2 ((kS.calls (xs.length+1) A c xs j _ W' (ah.aD.Kd.bT hr hW') hcap (end_f xs hxl j hj)).mono (fun e w' h=>⟨h.1,h.2.out⟩))
 replace hE:∀(j:Nat) (hj:j<xs.length),Hid _:=fun j hj=>Lib.hid (hE.out j hj)
 have hfn:Fence.wide.fn 184:=trivial
 rcases hi with rfl|hi
 ·rw[show toI xs (-1)=xs.length from rfl,show BO (-1)=0 from rfl]
  have hdr:=hJ _ _ _ none h0 (CB W 1 none) (fun r e=>by cases e)
  gi_wp2
  gi_region_o
  all_goals gi_wp2
  gi_loopw [6] (fun v wr=>∃(j:Nat) (pre:List Nat),v=.int .i64 j∧j≤xs.length∧Hid (pre++kE xs xs.length j=kE xs xs.length 0)∧pre.length≤j∧J pre wr∧Below w0.heap.size w0 wr∧Boxed wr B1 22 (.slice A xs.length c)) (fun v _=>xs.length - (intOf v).toNat)
  case atStart=>exact⟨0,[],rfl,Nat.zero_le _,rfl,Nat.zero_le _,hdr,ah.aD.bE hW 1,b1⟩
  case round=>
   obtain⟨j,pre,rfl,hj,hpre,hpl,hJs,hB,hbx⟩:=hrel;have hT:=Lib.hid (Nat.le_refl xs.length)
   by_cases hlt:j<xs.length
   ·have hjx:j<xs.length:=by have:=hT.out;omega
    obtain⟨fn,tmps,assign,body,hy,hR⟩:=hY pre j wr hJs (by omega);have hstep:=Lib.hid (sK hlt hjx);have hgt:=Lib.hid (lg xs j);have hle:=Lib.hid (oP xs j hjx);have hE2:=hE j hjx
    gi_wp2
    refine hR.mono ?_;rintro e W3 (⟨rfl,hJ3,hk3⟩|⟨rfl,hJx3⟩)
    ·have hb3:=hk3.2 hbx
     have hc3:=hb3.cell;have hB3:=hB.trans hk3.1;generalize fK xs j=q at *
     gi_wp2_with (gi_at_call 184;refine(hE2.out _ hB3).mono ?_;rintro e w1 ⟨rfl,m1,rfl⟩)
     go_roundw
     case rel=>exact⟨q,pre++[j],rfl,hle.out,Lib.hid (by rw[←hpre.out,hstep.out];simp),by have:=hgt.out;simp;omega,hJ _ _ _ none hJ3 (CB _ _ none) (fun r e=>by cases e),ah.aD.bE hB3 m1,hb3⟩
     case measure=>have:=hgt.out;simp[intOf];omega
    ·gi_wp2
     refine bodyPost_ret (results_none rfl _ _ _) rfl ?_;exact⟨⟨_,rfl⟩,.inr ⟨_,⟨kE xs xs.length (fK xs j),by rw[←hpre.out,hstep.out];simp⟩,hJx3⟩⟩
   ·have hres:=qx (xs:=xs) hlt
    have hp2:=hpre.out;rw[hres,List.append_nil]at hp2
    gi_wp2
    go_end0;exact⟨⟨_,rfl⟩,.inl ⟨_,hp2,hJs⟩⟩
 ·obtain⟨m,rfl⟩:∃m:Nat,i=m:=⟨i.toNat,by omega⟩
  have hm:m<xs.length:=by omega
  have hne:((m:Int) != -1)=true:=by rw[bne_iff_ne];omega
  have hto:toI xs (m:Int)=fK xs m:=by unfold toI;rw[if_neg (by omega)];rfl
  have hfrom:BO (m:Int)=m+1:=by unfold BO;rw[if_neg (by omega)];rfl
  rw[hto,hfrom];have hEm:=hE m hm;have hEn:=Lib.hid (oP xs m hm);clear hto hfrom hi;generalize fK xs m=T at *
  gi_wp2
  gi_region_o
  all_goals gi_wp2
  gi_region_with_o (gi_at_call 184;refine(hEm.out _ ?_).mono ?_;exact⟨hW.os,hW.tape,hW.output,hW.size,hW.block⟩;rintro e w1 ⟨rfl,m1,rfl⟩)
  all_goals gi_wp2
  all_goals(
   gi_loopw [6] (fun v wr=>∃(j:Nat) (pre:List Nat),v=.int .i64 j∧j≤xs.length∧Hid (pre++kE xs T j=kE xs T (m+1))∧pre.length≤j∧J pre wr∧Below w0.heap.size w0 wr∧Boxed wr B1 22 (.slice A xs.length c)) (fun v _=>xs.length - (intOf v).toNat)
   case atStart=>exact⟨m+1,[],rfl,by omega,rfl,Nat.zero_le _,hJ _ _ _ none h0 (CB W _ none) (fun r e=>by cases e),ah.aD.bE hW _,b1⟩
   case round=>
    obtain⟨j,pre,rfl,hj,hpre,hpl,hJs,hB,hbx⟩:=hrel;have hT:=hEn
    by_cases hlt:j<T
    ·have hjx:j<xs.length:=by have:=hT.out;omega
     obtain⟨fn,tmps,assign,body,hy,hR⟩:=hY pre j wr hJs (by omega);have hstep:=Lib.hid (sK hlt hjx);have hgt:=Lib.hid (lg xs j);have hle:=Lib.hid (oP xs j hjx);have hE2:=hE j hjx
     gi_wp2
     refine hR.mono ?_;rintro e W3 (⟨rfl,hJ3,hk3⟩|⟨rfl,hJx3⟩)
     ·have hb3:=hk3.2 hbx
      have hc3:=hb3.cell;have hB3:=hB.trans hk3.1;generalize fK xs j=q at *
      gi_wp2_with (gi_at_call 184;refine(hE2.out _ hB3).mono ?_;rintro e w1 ⟨rfl,m1,rfl⟩)
      go_roundw
      case rel=>exact⟨q,pre++[j],rfl,hle.out,Lib.hid (by rw[←hpre.out,hstep.out];simp),by have:=hgt.out;simp;omega,hJ _ _ _ none hJ3 (CB _ _ none) (fun r e=>by cases e),ah.aD.bE hB3 m1,hb3⟩
      case measure=>have:=hgt.out;simp[intOf];omega
     ·gi_wp2
      refine bodyPost_ret (results_none rfl _ _ _) rfl ?_;exact⟨⟨_,rfl⟩,.inr ⟨_,⟨kE xs T (fK xs j),by rw[←hpre.out,hstep.out];simp⟩,hJx3⟩⟩
    ·have hres:=qx (xs:=xs) hlt
     have hp2:=hpre.out;rw[hres,List.append_nil]at hp2
     gi_wp2
     go_end0;exact⟨⟨_,rfl⟩,.inl ⟨_,hp2,hJs⟩⟩)
theorem QW(n:Nat)(A:Option Addr)(len c:Nat)(i:Int)(w:World):
 CallsIn Fence.wide n Tryz.prog 144 #[.slice A len c,.int .i64 i] w fun e w'=>e=.returned (.func (.func 183) #[] #[.pointer (some ⟨w.heap.size,0,none⟩),.pointer (some ⟨w.heap.size+1,0,none⟩)])∧w'=(w.alloc (.cells #[.slice A len c] 22)).alloc (.cells #[.int .i64 i] 3):=by
 refine callsIn_of_wp Tryz.func144 rfl trivial ?_ rfl;simp only[Tryz.ntmps144,List.size_toArray,List.length_cons,List.length_nil,Nat.reduceAdd,Nat.reduceSub,Array.replicate_succ,Array.replicate_zero,List.push_toArray,List.append_toArray,List.nil_append,List.cons_append]
 gi_wp2
 go_ret;exact⟨rfl,rfl⟩
theorem Gv(n:Nat)(hn:1≤n)(B1 B2:Nat)(A:Option Addr)(c:Nat)(xs:List Rw)(i:Int)(hi:i= -1∨0≤i∧i<xs.length)(hcap:xs.length≤c)(w0 w:World)(hr:k34.C w0 A xs.length xs)(hB:Below w0.heap.size w0 w)
 (b1:Boxed w B1 22 (.slice A xs.length c)) (b2:Boxed w B2 3 (.int .i64 i)):
 SeqStopsK Fence.wide n Tryz.prog 183 #[.pointer (some ⟨B1,0,none⟩),.pointer (some ⟨B2,0,none⟩)] (fun x:Nat=>#[Value.int .i64 x]) (KpK w0.heap.size B1 (.slice A xs.length c)) (fun ys=>ys=kQ xs i) (fun pre=>pre<+:kQ xs i) xs.length w:=fun l J Jx W hW hJ _ hY h0=>
 kids1_in n hn l B1 B2 A c xs i hi hcap w0 hr J Jx hY W hJ (hB.trans (hW.mono hB.size)) ((hW.block B1 b1.lt).trans b1) (show W.cell? ⟨B2,0,none⟩=_ from(hW.cell (p:=⟨B2,0,none⟩) b2.lt).trans b2.cell) h0
theorem int_info:(Tryz.prog.info? 3).map (fun i=>(i.zero,i.size,i.bytes))=some (some (.int .i64 0),1,8):=by kernel_rfl
def pE.f(l0:List Rw)(a1:Int):Option (List Int):=if l0.length * 8≤140737488355328 then some ((kQ l0 a1).map (fun x:Nat=>(x:Int)))else none
theorem kids_len(xs:List Rw)(i:Int)(hi:i= -1∨0≤i∧i<xs.length):(kQ xs i).length≤xs.length:=by
 have h:∀(d t j:Nat),xs.length - j≤d→(kE xs t j).length≤xs.length - j:=by
  intro d
  induction d with
  |zero=>
   intro t j hd
   by_cases e:j<t∧j<xs.length
   ·omega
   ·rw[kE,dif_neg e]
    exact Nat.zero_le _
  |succ d ih=>
   intro t j hd
   by_cases e:j<t∧j<xs.length
   ·rw[kE,dif_pos e,List.length_cons]
    have:=ih t (fK xs j) (by have:=lg xs j;omega);have:=lg xs j;omega
   ·rw[kE,dif_neg e]
    exact Nat.zero_le _
 rw[vU hi];exact Nat.le_trans (h _ _ _ (Nat.le_refl _)) (by omega)
theorem kidsM_in(n:Nat)(hn:3≤n)(A:Option Addr)(c:Nat)(xs:List Rw)(i:Int)(hi:i= -1∨0≤i∧i<xs.length)(hcap:xs.length≤c)(hsz:xs.length * 8≤140737488355328)(w:World)(hr:k34.C w A xs.length xs):
 CallsIn Fence.wide n Tryz.prog 96 #[.slice A xs.length c,.int .i64 i] w fun e w'=>∃v,e=.returned v∧w'.ownsRow w.heap.size 3 1 v (kQ xs i).length ((kQ xs i).map (fun x:Nat=>Value.int .i64 x))∧Below w.heap.size w w':=by
 have hxl:=hr.2.1;have h1:1≤n:=by omega
 obtain⟨i0,hi0,hz0,hz1,hz2⟩:=info_parts int_info;have hfn:Fence.wide.fn 143:=trivial;have hfn2:Fence.wide.fn 144:=trivial;refine callsIn_of_wp_marks Tryz.func96 rfl trivial ?_ rfl;simp only[Tryz.ntmps96,List.size_toArray,List.length_cons,List.length_nil,Nat.reduceAdd,Nat.reduceSub,Array.replicate_succ,Array.replicate_zero,List.push_toArray,List.append_toArray,List.nil_append,List.cons_append]
 rcases hi with rfl|hi
 ·gi_wp2_with (gi_at_call 144;refine(QW _ _ _ _ _ _).mono ?_;rintro e w' ⟨rfl,rfl⟩)
  have bO:Boxed (w.alloc (.cells #[.slice none 0 0] 85)) w.heap.size 85 (.slice none 0 0):=Boxed.new w 85 (.slice none 0 0);have hBa:Below w.heap.size w (w.alloc (.cells #[.slice none 0 0] 85)):=(Below.refl _ w).alloc (Nat.le_refl _) _;have bL:Boxed ((w.alloc (.cells #[.slice none 0 0] 85)).alloc (.cells #[.slice A xs.length c] 22)) (w.heap.size+1) 22 (.slice A xs.length c):=by have h:=Boxed.new (w.alloc (.cells #[.slice none 0 0] 85)) 22 (.slice A xs.length c);rw[World.size_alloc]at h;exact h
  have bI:Boxed (((w.alloc (.cells #[.slice none 0 0] 85)).alloc (.cells #[.slice A xs.length c] 22)).alloc (.cells #[.int .i64 (-1)] 3)) (w.heap.size+1+1) 3 (.int .i64 (-1)):=by have h:=Boxed.new ((w.alloc (.cells #[.slice none 0 0] 85)).alloc (.cells #[.slice A xs.length c] 22)) 3 (.int .i64 (-1));rw[World.size_alloc,World.size_alloc]at h;exact h
  have hB0:Below w.heap.size w (((w.alloc (.cells #[.slice none 0 0] 85)).alloc (.cells #[.slice A xs.length c] 22)).alloc (.cells #[.int .i64 (-1)] 3)):=(hBa.alloc hBa.size _).alloc (hBa.alloc hBa.size _).size _;have bL3:=(bL.alloc (.cells #[.int .i64 (-1)] 3)).lt
  refine wpIn_rangeFunc_ownG rfl h1 (gf:=183) (lb:=#[.pointer (some ⟨w.heap.size+1,0,none⟩),.pointer (some ⟨w.heap.size+1+1,0,none⟩)]) rfl trivial (enters_of Tryz.func183 (by kernel_rfl) rfl)
   (Gv (n - 1) (by omega) (w.heap.size+1) (w.heap.size+1+1) A c xs (-1) (.inl rfl) hcap w _ hr hB0 (bL.alloc _) bI) (fun h k=>kpK_t h k) (kpK_b hB0.size bL3) (Below.refl _ _) (fun _=>rfl)
   (fun pre W=>(∃v,Boxed W w.heap.size 85 v∧W.ownsRow w.heap.size 3 1 v pre.length (pre.map (fun x:Nat=>Value.int .i64 x))∧True)∧Below w.heap.size w W)
   (fun _ _ _=>False)
   (OwnFrom.and (Own.from (holdsRow_own w.heap.size w.heap.size 85 3 1 (fun pre:List Nat=>pre.length) (fun pre=>pre.map (fun x:Nat=>Value.int .i64 x)) (fun _ _=>True)) _) (ownFrom_below (Nat.le_refl _) hB0.size))
   (fun _ _ _ _ _ hs _ _=>hs.elim)
   ⟨⟨_,(bO.alloc _).alloc _,World.ownsRow_nil _ _ _ _,trivial⟩,hB0⟩
   ?a1 ?assign ?body ?done ?stop
  case assign=>
   intro l x W K hK
   gi_wp2
   exact hK
  case body=>
   rintro l pre x W ⟨⟨v,hv,hrow,_⟩,hB⟩ hlt;have hc:=hv.cell
   gi_wp2_with (gi_at_builtin;refine wpListIn_append_own _ rfl _ _ 85 rfl w.heap.size 3 i0 (.int .i64 0) 1 8 Tryz.underlying85 hi0 hz0 hz1 hz2 rfl (by decide) _ _ _ rfl (hrow.alloc _) ⟨W.heap.size,0,none⟩ 1 1 [.int .i64 x] rfl rfl (cell_one_new _ _ _) (by simp[Value.oneCell']) (by unfold maxLen;omega) (by omega) (by have:=hB.size;simp;omega) ?_;intro v' w1 hown' hgrow _;obtain⟨g',cap',rfl⟩:=ownsRow_succ hown';obtain⟨hv1,hv2,hr2,hk2,hb2⟩:=hv.appended (by decide) hrow hB.size (Nat.le_refl _) hown' hgrow;have hc1:=hv1.cell;have hf1:=hv1.frozen)
   exact⟨hk2.from _,⟨hb2,fun e=>((e.alloc _).kept hgrow (e.not_row (by decide) hrow)).kept (grownBy_setCell' _ _ _) (by simp)⟩,⟨⟨_,hv2,by simpa using hr2,trivial⟩,hB.trans hb2⟩⟩
  case done=>
   rintro D ys W hD rfl ⟨⟨v,hv,hrow,_⟩,hB⟩ hK;have hc:=hv.cell
   gi_wp2
   refine⟨by simp,.inl ⟨_,_,rfl,run_takeDeferred hK,?_⟩⟩;exact⟨_,results_tmp rfl _ _ _,v,rfl,ownsRow_putObj hrow _ hK rfl,hB.trans (belowK_b (w:=w) (Nat.le_refl _) W D _ _ (Nat.le_trans hB0.size hD) hK rfl rfl)⟩
  case stop=>
   rintro D c pre W _ _ h _;exact h.elim
 ·have hne:(i != -1)=true:=by rw[bne_iff_ne];omega
  have his:=Lib.hid ((mG.calls A c xs i true w hr hcap (by unfold mG.f;rw[if_pos (by omega),decide_eq_true (by omega)])).mono (R':=fun e w'=>e=.returned (.bool true)∧∃m,w'=w.drewN m) (fun e w' h=>⟨h.1,h.2.out⟩));have hid:=Lib.hid hi;clear hi
  gi_wp2_with (first|(gi_at_call 143;refine(callsIn_wide.2 his.out).mono ?_;rintro e w' ⟨rfl,m1,rfl⟩)|(gi_at_call 144;refine(QW _ _ _ _ _ _).mono ?_;rintro e w' ⟨rfl,rfl⟩))
  have bO:Boxed ((w.drewN m1).alloc (.cells #[.slice none 0 0] 85)) w.heap.size 85 (.slice none 0 0):=Boxed.new (w.drewN m1) 85 (.slice none 0 0);have hBa:Below w.heap.size w ((w.drewN m1).alloc (.cells #[.slice none 0 0] 85)):=(ah.aD.bE (Below.refl _ w) m1).alloc (Nat.le_refl _) _;have bL:Boxed (((w.drewN m1).alloc (.cells #[.slice none 0 0] 85)).alloc (.cells #[.slice A xs.length c] 22)) (w.heap.size+1) 22 (.slice A xs.length c):=by have h:=Boxed.new ((w.drewN m1).alloc (.cells #[.slice none 0 0] 85)) 22 (.slice A xs.length c);rw[World.size_alloc]at h;exact h
  have bI:Boxed ((((w.drewN m1).alloc (.cells #[.slice none 0 0] 85)).alloc (.cells #[.slice A xs.length c] 22)).alloc (.cells #[.int .i64 i] 3)) (w.heap.size+1+1) 3 (.int .i64 i):=by have h:=Boxed.new (((w.drewN m1).alloc (.cells #[.slice none 0 0] 85)).alloc (.cells #[.slice A xs.length c] 22)) 3 (.int .i64 i);rw[World.size_alloc,World.size_alloc]at h;exact h
  have hB0:Below w.heap.size w ((((w.drewN m1).alloc (.cells #[.slice none 0 0] 85)).alloc (.cells #[.slice A xs.length c] 22)).alloc (.cells #[.int .i64 i] 3)):=(hBa.alloc hBa.size _).alloc (hBa.alloc hBa.size _).size _;have bL3:=(bL.alloc (.cells #[.int .i64 i] 3)).lt
  refine wpIn_rangeFunc_ownG rfl h1 (gf:=183) (lb:=#[.pointer (some ⟨w.heap.size+1,0,none⟩),.pointer (some ⟨w.heap.size+1+1,0,none⟩)]) rfl trivial (enters_of Tryz.func183 (by kernel_rfl) rfl)
   (Gv (n - 1) (by omega) (w.heap.size+1) (w.heap.size+1+1) A c xs i (.inr hid.out) hcap w _ hr hB0 (bL.alloc _) bI) (fun h k=>kpK_t h k) (kpK_b hB0.size bL3) (Below.refl _ _) (fun _=>rfl)
   (fun pre W=>(∃v,Boxed W w.heap.size 85 v∧W.ownsRow w.heap.size 3 1 v pre.length (pre.map (fun x:Nat=>Value.int .i64 x))∧True)∧Below w.heap.size w W)
   (fun _ _ _=>False)
   (OwnFrom.and (Own.from (holdsRow_own w.heap.size w.heap.size 85 3 1 (fun pre:List Nat=>pre.length) (fun pre=>pre.map (fun x:Nat=>Value.int .i64 x)) (fun _ _=>True)) _) (ownFrom_below (Nat.le_refl _) hB0.size))
   (fun _ _ _ _ _ hs _ _=>hs.elim)
   ⟨⟨_,(bO.alloc _).alloc _,World.ownsRow_nil _ _ _ _,trivial⟩,hB0⟩
   ?a2 ?assign ?body ?done ?stop
  case assign=>
   intro l x W K hK
   gi_wp2
   exact hK
  case body=>
   rintro l pre x W ⟨⟨v,hv,hrow,_⟩,hB⟩ hlt;have hc:=hv.cell
   gi_wp2_with (gi_at_builtin;refine wpListIn_append_own _ rfl _ _ 85 rfl w.heap.size 3 i0 (.int .i64 0) 1 8 Tryz.underlying85 hi0 hz0 hz1 hz2 rfl (by decide) _ _ _ rfl (hrow.alloc _) ⟨W.heap.size,0,none⟩ 1 1 [.int .i64 x] rfl rfl (cell_one_new _ _ _) (by simp[Value.oneCell']) (by unfold maxLen;omega) (by omega) (by have:=hB.size;simp;omega) ?_;intro v' w1 hown' hgrow _;obtain⟨g',cap',rfl⟩:=ownsRow_succ hown';obtain⟨hv1,hv2,hr2,hk2,hb2⟩:=hv.appended (by decide) hrow hB.size (Nat.le_refl _) hown' hgrow;have hc1:=hv1.cell;have hf1:=hv1.frozen)
   exact⟨hk2.from _,⟨hb2,fun e=>((e.alloc _).kept hgrow (e.not_row (by decide) hrow)).kept (grownBy_setCell' _ _ _) (by simp)⟩,⟨⟨_,hv2,by simpa using hr2,trivial⟩,hB.trans hb2⟩⟩
  case done=>
   rintro D ys W hD rfl ⟨⟨v,hv,hrow,_⟩,hB⟩ hK;have hc:=hv.cell
   gi_wp2
   refine⟨by simp,.inl ⟨_,_,rfl,run_takeDeferred hK,?_⟩⟩;exact⟨_,results_tmp rfl _ _ _,v,rfl,ownsRow_putObj hrow _ hK rfl,hB.trans (belowK_b (w:=w) (Nat.le_refl _) W D _ _ (Nat.le_trans hB0.size hD) hK rfl rfl)⟩
  case stop=>
   rintro D c pre W _ _ h _;exact h.elim
theorem kidsO_in(n:Nat)(hn:1≤n)(A:Option Addr)(c:Nat)(xs:List Rw)(i:Int)(hi:¬(i= -1∨0≤i∧i<xs.length))(hcap:xs.length≤c)(w:World)(hr:k34.C w A xs.length xs):
 CallsIn Fence.wide n Tryz.prog 96 #[.slice A xs.length c,.int .i64 i] w fun e w'=>e=.returned (.slice none 0 0)∧Below w.heap.size w w':=by
 have hfn:Fence.wide.fn 143:=trivial;have hne:(i != -1)=true:=by rw[bne_iff_ne];omega
 have his:=Lib.hid ((mG.calls A c xs i false w hr hcap (by unfold mG.f;split;rw[decide_eq_false (by omega)];rfl)).mono (R':=fun e w'=>e=.returned (.bool false)∧∃m,w'=w.drewN m) (fun e w' h=>⟨h.1,h.2.out⟩));clear hi;refine callsIn_of_wp_marks Tryz.func96 rfl trivial ?_ rfl;simp only[Tryz.ntmps96,List.size_toArray,List.length_cons,List.length_nil,Nat.reduceAdd,Nat.reduceSub,Array.replicate_succ,Array.replicate_zero,List.push_toArray,List.append_toArray,List.nil_append,List.cons_append];have his2:=Lib.hid ((callsIn_wide (n:=n - 1)).2 his.out)
 gi_wp2_with (gi_at_call 143;refine his2.out.mono ?_;rintro e w' ⟨rfl,m1,rfl⟩)
 exact⟨_,results_tmp rfl _ _ _,rfl,ah.aD.bE (Below.refl _ w) m1⟩
theorem pE.calls(A0:Option Addr)(c0:Nat)(l0:List Rw)(a1:Int)(r:List Int)(w:World)(hr0:k34.C w A0 l0.length l0)(hc0:l0.length≤c0)(h:pE.f l0 a1=some r):
 Calls Tryz.prog 96 #[.slice A0 l0.length c0,.int .i64 a1] w fun e w'=>∃v0_:Value,e=.returned (v0_)∧(ah.aD.Kd.int .i64).R 3 w' w.heap.size (fun _=>True) v0_ r∧Below w.heap.size w w':=by
 unfold pE.f at h
 by_cases hs:l0.length * 8≤140737488355328
 ·rw[if_pos hs]at h
  obtain rfl:=Option.some.inj h
  by_cases hi:a1= -1∨0≤a1∧a1<l0.length
  ·refine((callsIn_wide (n:=3)).1 (kidsM_in 3 (Nat.le_refl _) A0 c0 l0 a1 hi hc0 hs w hr0)).mono ?_
   rintro e w' ⟨v,rfl,ho,hb⟩;refine⟨v,rfl,ah.aD.Kd.R_of_own ?_ (fun _ _=>trivial),hb⟩;unfold ah.aD.encs;rw[List.length_map,List.map_map];exact ho
  ·refine((callsIn_wide (n:=3)).1 (kidsO_in 3 (by omega) A0 c0 l0 a1 hi hc0 w hr0)).mono ?_
   rintro e w' ⟨rfl,hb⟩
   have hn:kQ l0 a1=[]:=by
    unfold kQ;rw[if_neg (fun e=>hi (.inl e)),if_neg (fun e=>hi (.inr e))]
   rw[hn];exact⟨_,rfl,ah.aD.Kd.oz _ _ _ _ _,hb⟩
 ·rw[if_neg hs]at h
  cases h
end Go.Proofs.aj.W7
namespace Go.Proofs.aj.W7
open Go.RowKit Go.Proofs YtkcmghlhpbepcaaGreatDoor
def wrB(b:Bool)(a:Bt):Option Bt:=if a.data.toList.length≤1000000000 then some ⟨(wrL b a.data.toList).toArray⟩else none
theorem M5{b:Bool}{a r:Bt}(h:wrB b a=some r):∃l:List UInt8,a=⟨l.toArray⟩∧l.length≤1000000000∧r=⟨(wrL b l).toArray⟩:=by
 unfold wrB at h
 split at h
 ·rename_i hl
  exact⟨a.data.toList,by simp,hl,(Option.some.inj h).symm⟩
 ·cases h
def tu.f(a0:Bt):Option Bt:=wrB true a0
theorem tu.calls(a0 r:Bt)(w:World)(h:tu.f a0=some r):
 Calls Tryz.prog 176 #[.string a0] w fun e w'=>e=.returned (.string r)∧Below w.heap.size w w':=by
 obtain⟨l,rfl,hl,rfl⟩:=M5 h;exact value_c l hl w
def vV.f(a0:Bt):Option Bt:=wrB false a0
theorem vV.calls(a0 r:Bt)(w:World)(h:vV.f a0=some r):
 Calls Tryz.prog 136 #[.string a0] w fun e w'=>e=.returned (.string r)∧Below w.heap.size w w':=by
 obtain⟨l,rfl,hl,rfl⟩:=M5 h;exact text_c l hl w
end Go.Proofs.aj.W7
namespace Go.Proofs.YtkcmghlhpbepcaaGreatDoor
open Go.RowKit Go.Proofs
def UG:Go.Shelf.Ren:=⟨fun|196=>139|259=>177|n=>n,fun|0=>0|3=>3|4=>4|5=>5|9=>9|12=>12|46=>140|53=>160|119=>136|138=>138|139=>139|n=>n,fun|3=>0|4=>1|n=>n⟩
theorem Ik:Lays.n196 Tryz.prog UG:={
 mixed:=by kernel_rfl
 f196:=Tryz.func139.trans (congrArg some (by kernel_rfl))
 f259:=Tryz.func177.trans (congrArg some (by kernel_rfl))
 t0:=Tryz.underlying0
 a0:=Tryz.isAgg0
 z0:=Tryz.sizeOf0
 v0:=Tryz.zeroValue0
 t3:=Tryz.underlying3
 a3:=Tryz.isAgg3
 z3:=Tryz.sizeOf3
 v3:=Tryz.zeroValue3
 t4:=Tryz.underlying4
 a4:=Tryz.isAgg4
 z4:=Tryz.sizeOf4
 v4:=Tryz.zeroValue4
 t5:=Tryz.underlying5
 a5:=Tryz.isAgg5
 z5:=Tryz.sizeOf5
 v5:=Tryz.zeroValue5
 t9:=Tryz.underlying9
 a9:=Tryz.isAgg9
 z9:=Tryz.sizeOf9
 v9:=Tryz.zeroValue9
 t12:=Tryz.underlying12
 a12:=Tryz.isAgg12
 z12:=Tryz.sizeOf12
 v12:=Tryz.zeroValue12
 t46:=Tryz.underlying140
 a46:=Tryz.isAgg140
 z46:=Tryz.sizeOf140
 v46:=Tryz.zeroValue140
 t53:=Tryz.underlying160
 a53:=Tryz.isAgg160
 z53:=Tryz.sizeOf160
 v53:=Tryz.zeroValue160
 t119:=Tryz.underlying136
 a119:=Tryz.isAgg136
 z119:=Tryz.sizeOf136
 t138:=Tryz.underlying138
 a138:=Tryz.isAgg138
 z138:=Tryz.sizeOf138
 v138:=Tryz.zeroValue138
 t139:=Tryz.underlying139
 a139:=Tryz.isAgg139
 z139:=Tryz.sizeOf139
 v139:=Tryz.zeroValue139
 g3:=by kernel_rfl
 g4:=by kernel_rfl }
theorem valid_c(s:Bt)(w:World)(hs:s.size≤9223372036854775807)(hT:Lib.Utf8Tabs 0 1 w):
 Calls Tryz.prog 139 #[.string s] w fun e w'=>e=.returned (.bool (Lib.validD s.data.toList))∧Below w.heap.size w w':=Any.utf8_ValidString Ik s w hs hT
end Go.Proofs.YtkcmghlhpbepcaaGreatDoor
namespace Go.Proofs.YtkcmghlhpbepcaaGreatDoor
abbrev Gw:=Std
theorem Gw.below{w w':Go.World}(h:Gw w)(hb:Go.RowKit.Below w.heap.size w w'):Gw w':=Std.below h hb
end Go.Proofs.YtkcmghlhpbepcaaGreatDoor
