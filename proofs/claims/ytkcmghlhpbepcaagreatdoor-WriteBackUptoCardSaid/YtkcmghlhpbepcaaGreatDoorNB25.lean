/- Lemmas and walks, part 25. -/
import Derived.Test.YtkcmghlhpbepcaaGreatDoorNB24
set_option linter.unusedVariables false
set_option linter.unusedSimpArgs false
namespace Go.Proofs.aj.W7
open Go.RowKit Go.Proofs Go.Proofs.aj Go.Proofs.YtkcmghlhpbepcaaGreatDoor Go.Proofs.ah.aD
noncomputable def evB(f:Nat→Option Bool):Bool:=open Classical in if h:∃b,∃n,∀k,n≤k→f k=some b then h.choose else false
theorem evB_of{f:Nat→Option Bool}{n:Nat}(h:∃b,∀k,n≤k→f k=some b):∀k,n≤k→f k=some (evB f):=by
 obtain⟨b,hb⟩:=h;have h2:∃b,∃n,∀k,n≤k→f k=some b:=⟨b,n,hb⟩
 obtain⟨m,hm⟩:=h2.choose_spec;intro k hk;have e:evB f=h2.choose:=by unfold evB;rw[dif_pos h2]
 have a:=hb (max n m) (Nat.le_max_left _ _);rw[hm (max n m) (Nat.le_max_right _ _)]at a;rw[hb k hk,e,Option.some.inj a]
def jr(s:ByteArray):Bool:=Lib.validD s.data.toList&& !Lib.containsAny s.data.toList jD.data.toList
theorem tu(s:ByteArray)(h:s.size<1000000000):dA.f s=some (jr s):=by
 unfold dA.f lu.f jr;rw[if_pos (by omega),Option.bind_some];cases Lib.validD s.data.toList with
 |false=>rw[if_neg (by decide)];rfl
 |true=>
  rw[if_pos rfl];unfold strings_ContainsAny.f;rw[if_pos ⟨rfl,by omega⟩,Option.bind_some];rfl
def C8(s:ByteArray):Bool:=jr s&& !Lib.contains s.data.toList [45,45,62]&& !Lib.contains s.data.toList [45,45,33,62]&& !Lib.hasPrefix s.data.toList [62]&& !Lib.hasPrefix s.data.toList [45,62]
theorem RH(s:ByteArray)(h:s.size<1000000000):jy.f s=some (C8 s):=by
 unfold jy.f C8;rw[tu s h,Option.bind_some];cases jr s with
 |false=>rw[if_neg (by decide)];rfl
 |true=>
  rw[if_pos rfl];unfold strings_Contains.f strings_HasPrefix.f;rw[if_pos (by omega),Option.bind_some];cases h1:Lib.contains s.data.toList [45,45,62]with
  |true=>rw[if_pos rfl];rfl
  |false=>
   rw[if_neg (by decide),if_pos (by omega),Option.bind_some];cases h2:Lib.contains s.data.toList [45,45,33,62]with
   |true=>rw[if_pos rfl];rfl
   |false=>
    rw[if_neg (by decide),Option.bind_some];cases h3:Lib.hasPrefix s.data.toList [62]with
    |true=>rw[if_pos rfl];rfl
    |false=>
     rw[if_neg (by decide),Option.bind_some];rfl
structure SzR (M:Nat) (x:Rw):Prop where
 name:x.f2.size≤M
 data:x.f3.size≤M
 atts:∀a∈x.f4,a.f0.size≤M∧a.f1.size≤M
 few:x.f4.length≤6
theorem elem_l0(l:List S36)(M:Nat)(hM:M<1000000000)(hl:l.length≤6)(ha:∀a∈l,a.f0.size≤M∧a.f1.size≤M):∀d i:Nat,i+d=l.length→∃b,∀k,200 * M+2+d≤k→bg.l0 k l (l.length:Int) i=some b:=by
 intro d
 induction d with
 |zero=>
  intro i hi;refine⟨true,fun k hk=>?_⟩;obtain⟨k,rfl⟩:∃m,k=m+1:=⟨k - 1,by omega⟩
  simp only[bg.l0];rw[if_neg (by omega)]
 |succ d ih=>
  intro i hi;have hlt:i<l.length:=by omega
  obtain⟨b,hb⟩:=ih (i+1) (by omega);have hm:=ha l[i] (List.getElem_mem hlt);refine⟨wY l[i].f0&&jr l[i].f0&&jr l[i].f1&&b,fun k hk=>?_⟩;obtain⟨k,rfl⟩:∃m,k=m+1:=⟨k - 1,by omega⟩
  simp only[bg.l0];rw[if_pos (by omega),if_pos (by omega),if_pos (by omega),Bt l i hlt,Qy _ (by omega) k (by omega),Option.bind_some];cases wY l[i].f0 with
  |false=>rw[if_neg (by decide)];rfl
  |true=>
   rw[if_pos rfl,tu _ (by omega),Option.bind_some];cases jr l[i].f0 with
   |false=>rw[if_neg (by decide)];rfl
   |true=>
    rw[if_pos rfl,tu _ (by omega),Option.bind_some];cases jr l[i].f1 with
    |false=>rw[if_neg (by decide)];rfl
    |true=>rw[if_pos rfl,wN (by omega),hb k (by omega)];rfl
theorem elem_ev(x:Rw)(M:Nat)(hM:M<1000000000)(hx:SzR M x)(ar:List ByteArray):∃b,∀k,200 * M+300≤k→bg.f k x.f0 x.f1 x.f2 x.f3 x.f4 ar=some b:=by
 have hn:=hx.name
 have hj:∀c,∃b,∀k,200 * M+300≤k→bg.j0 k c x.f0 x.f1 x.f2 x.f3 x.f4=some b:=by
  intro c;obtain⟨b,hb⟩:=elem_l0 x.f4 M hM hx.few hx.atts x.f4.length 0 (by omega);have:=hx.few;refine⟨!c&&b,fun k hk=>?_⟩;obtain⟨k,rfl⟩:∃m,k=m+1:=⟨k - 1,by omega⟩
  simp only[bg.j0];cases c with
  |true=>rw[if_pos rfl];rfl
  |false=>rw[if_neg (by decide)];exact hb k (by omega)
 unfold bg.f;refine jB ⟨_,fun k hk=>LX _ (by omega) k (by omega)⟩ fun b=>kR (jB ⟨_,fun k hk=>gone_f _ k (by omega)⟩ fun b=>kR (hj _) (jB ⟨_,fun k hk=>tu _ (by omega)⟩ fun b=>kR (jB ⟨_,fun k hk=>nested_f _ _ k (by omega)⟩ fun b=>hj _) (hj _))) (hj _)
noncomputable def Mr(x:Rw)(ar:List ByteArray):Bool:=evB fun k=>bg.f k x.f0 x.f1 x.f2 x.f3 x.f4 ar
theorem elem_f(x:Rw)(M:Nat)(hM:M<1000000000)(hx:SzR M x)(ar:List ByteArray)(k:Nat)(hk:200 * M+300≤k):bg.f k x.f0 x.f1 x.f2 x.f3 x.f4 ar=some (Mr x ar):=evB_of (elem_ev x M hM hx ar) k hk
theorem NG(y0 y1:Int)(y2 y3:ByteArray)(l:List S36)(hn:l.length≤6):∀k:Nat,
 (∀d i:Nat,i+d=l.length→d * 9+1≤k→∃b,rows_row.l0 k l (l.length:Int) i y0 y1 y2 y3 l=some b)∧
 (∀d e i j:Nat,∀(a0 a1:ByteArray),i+d+1=l.length→j+e=i→e+2+d * 9≤k→∃b,rows_row.l1 k l (l.length:Int) i (l.take i) (i:Int) j y0 y1 y2 y3 l a0 a1=some b):=by
 intro k
 induction k with
 |zero=>exact⟨fun d i _ h=>by omega,fun d e i j a0 a1 _ _ h=>by omega⟩
 |succ k ih=>
  refine⟨?_,?_⟩
  ·intro d i hd hk
   cases d with
   |zero=>
    simp only[rows_row.l0];rw[if_neg (by omega)];exact⟨_,rfl⟩
   |succ d=>
    simp only[rows_row.l0];rw[if_pos (by omega),if_pos (by omega),if_pos (by omega),if_pos (by omega),Option.bind_some];have h1:(l.take ((i:Int):Int).toNat)=l.take i:=by rw[Int.toNat_natCast]
    rw[h1];have h2:((l.take i).length:Int)=(i:Int):=by rw[List.length_take];omega
    rw[h2];exact ih.2 d i i 0 _ _ (by omega) (by omega) (by omega)
  ·intro d e i j a0 a1 hd he hk
   cases e with
   |zero=>
    simp only[rows_row.l1];rw[if_neg (by omega),wN (by omega)];exact ih.1 d (i+1) (by omega) (by omega)
   |succ e=>
    simp only[rows_row.l1];rw[if_pos (by omega),if_pos (by omega),if_pos (by rw[List.length_take];omega),wN (by omega)]
    split
    ·exact⟨_,rfl⟩
    ·exact ih.2 d e i (j+1) a0 a1 (by omega) (by omega) (by omega)
theorem JU(x:Rw)(hn:x.f4.length≤6)(c:Bool)(k:Nat)(hk:60≤k):∃b,rows_row.j1 k c x.f0 x.f1 x.f2 x.f3 x.f4=some b∧(b=true→c=false):=by
 obtain⟨k,rfl⟩:∃m,k=m+1:=⟨k - 1,by omega⟩
 simp only[rows_row.j1];cases c with
 |true=>rw[if_pos rfl];exact⟨false,rfl,by decide⟩
 |false=>
  rw[if_neg (by decide)];obtain⟨b,hb⟩:=(NG x.f0 x.f1 x.f2 x.f3 x.f4 hn k).1 x.f4.length 0 (by omega) (by omega);exact⟨b,hb,fun _=>rfl⟩
theorem rows_one(x:Rw)(hn:x.f4.length≤6)(k:Nat)(hk:70≤k):∃b,rows_row.f k x.f0 x.f1 x.f2 x.f3 x.f4=some b∧(b=true→x.f1=0∨x.f1=1∨x.f1=2):=by
 obtain⟨k,rfl⟩:∃m,k=m+1:=⟨k - 1,by omega⟩
 unfold rows_row.f;simp only[rows_row.j0]
 by_cases h1:x.f1=1
 ·simp only[if_pos h1,if_true]
  split
  ·exact⟨_,rfl,fun _=>.inr (.inl h1)⟩
  ·exact⟨_,rfl,fun _=>.inr (.inl h1)⟩
 ·rw[if_neg h1]
  by_cases h2:x.f1=2
  ·rw[if_pos (by simpa using h2)]
   split
   ·exact⟨_,rfl,fun _=>.inr (.inr h2)⟩
   ·exact⟨_,rfl,fun _=>.inr (.inr h2)⟩
  ·rw[if_neg (by simpa using h2)]
   by_cases h0:x.f1=0
   ·rw[if_pos h0]
    split
    ·obtain⟨b,hb,_⟩:=JU x hn true k (by omega)
     exact⟨b,hb,fun _=>.inl h0⟩
    ·obtain⟨b,hb,_⟩:=JU x hn (x.f3.toList !=[]) k (by omega)
     exact⟨b,hb,fun _=>.inl h0⟩
   ·rw[if_neg h0]
    obtain⟨b,hb,hc⟩:=JU x hn true k (by omega);exact⟨b,hb,fun e=>by have:=hc e;cases this⟩
theorem mono_up{α:Type}{f:Nat→Option α}(hm:∀k,LeO (f k) (f (k+1))){n:Nat}{b:α}(h:f n=some b):∀k,n≤k→f k=some b:=by
 intro k hk
 induction k with
 |zero=>rw[show 0=n from by omega];exact h
 |succ k ih=>
  by_cases e:n=k+1
  ·rw[←e];exact h
  ·exact hm k b (ih (by omega))
noncomputable def rowB(x:Rw):Bool:=evB fun k=>rows_row.f k x.f0 x.f1 x.f2 x.f3 x.f4
theorem JV(x:Rw)(hn:x.f4.length≤6):(∀k,70≤k→rows_row.f k x.f0 x.f1 x.f2 x.f3 x.f4=some (rowB x))∧(rowB x=true→x.f1=0∨x.f1=1∨x.f1=2):=by
 obtain⟨b,hb,hk⟩:=rows_one x hn 70 (Nat.le_refl _);have h1:=mono_up (f:=fun k=>rows_row.f k x.f0 x.f1 x.f2 x.f3 x.f4) (rows_row.mono x.f0 x.f1 x.f2 x.f3 x.f4) hb;have h2:=evB_of (n:=70) ⟨b,h1⟩;refine⟨h2,fun e=>hk ?_⟩;have:=h2 70 (Nat.le_refl _);rw[show rowB x=evB fun k=>rows_row.f k x.f0 x.f1 x.f2 x.f3 x.f4 from rfl]at e;rw[e]at this;exact Option.some.inj (hb.symm.trans this)
noncomputable def kM:List Rw→Int→Bool
 | [],_=>true
 |x::r,dp=>if x.f0<0∨dp<x.f0 then false else if rowB x then kM r (if x.f1=0 then x.f0+1 else x.f0)else false
theorem RI(xs:List Rw)(hl:xs.length<100000)(ha:∀x∈xs,x.f4.length≤6):∀(d i k:Nat) (dp:Int),i+d=xs.length→2 * d+100≤k→0≤dp→dp≤i→dU.l0 k dp xs (xs.length:Int) i=some (kM (xs.drop i) dp):=by
 intro d
 induction d with
 |zero=>
  intro i k dp hi hk h0 hdp;obtain⟨k,rfl⟩:∃m,k=m+1:=⟨k - 1,by omega⟩
  simp only[dU.l0];rw[if_neg (by omega),List.drop_of_length_le (by omega)];rfl
 |succ d ih=>
  intro i k dp hi hk h0 hdp;obtain⟨k,rfl⟩:∃m,k=m+1+1:=⟨k - 2,by omega⟩
  have hlt:i<xs.length:=by omega
  rw[List.drop_eq_getElem_cons hlt];simp only[dU.l0,kM];rw[if_pos (by omega),if_pos (by omega),if_pos (by omega),nH xs i hlt];have hr:=(JV xs[i] (ha _ (List.getElem_mem hlt))).1
  by_cases h1:xs[i].f0<0
  ·rw[if_pos h1,if_pos (.inl h1)]
   simp only[dU.j1,if_true]
  ·rw[if_neg h1]
   by_cases h2:xs[i].f0>dp
   ·rw[if_pos h2,if_pos (.inr h2)]
    simp only[dU.j1,if_true]
   ·rw[if_neg h2,if_neg (by omega),hr (k+1) (by omega),Option.bind_some]
    simp only[dU.j1];cases rowB xs[i]with
    |false=>rw[if_pos (by decide),if_neg (by decide)]
    |true=>
     rw[if_neg (by decide),if_pos rfl]
     by_cases h3:xs[i].f1=0
     ·rw[if_pos h3,if_pos h3,wN (by omega),w64 (by omega) (by omega)]
      exact ih (i+1) k _ (by omega) (by omega) (by omega) (by omega)
     ·rw[if_neg h3,if_neg h3,wN (by omega)]
      exact ih (i+1) k _ (by omega) (by omega) (by omega) (by omega)
theorem rightg_f(xs:List Rw)(hl:xs.length<100000)(ha:∀x∈xs,x.f4.length≤6)(k:Nat)(hk:2 * xs.length+100≤k):dU.f k xs=some (kM xs 0):=by
 unfold dU.f;have:=RI xs hl ha xs.length 0 k 0 (by omega) hk (by omega) (by omega)
 rwa [List.drop_zero]at this
theorem NH(xs:List Rw)(ha:∀x∈xs,x.f4.length≤6):∀(d i:Nat) (dp:Int),i+d=xs.length→0≤dp→dp≤i→(0<i→dp≤l7 xs (i - 1)+1)→kM (xs.drop i) dp=true→∀j,i≤j→j<xs.length→OkAt xs j:=by
 intro d
 induction d with
 |zero=>intro i dp hi _ _ _ _ j h1 h2;omega
 |succ d ih=>
  intro i dp hi h0 hdp hs h j hij hj;have hlt:i<xs.length:=by omega
  rw[List.drop_eq_getElem_cons hlt]at h;simp only[kM]at h
  by_cases c:xs[i].f0<0∨dp<xs[i].f0
  ·rw[if_pos c]at h;cases h
  ·rw[if_neg c]at h
   by_cases c2:rowB xs[i]=true
   ·rw[if_pos c2]at h
    have hk:=(JV xs[i] (ha _ (List.getElem_mem hlt))).2 c2;have hd:=iI xs i hlt
    have ok:OkAt xs i:=by
     refine⟨by rw[nH xs i hlt];exact hk,by omega,by omega,fun h=>?_⟩;have:=hs h;omega
    by_cases e:j=i
    ·subst e;exact ok
    ·refine ih (i+1) _ (by omega) ?_ ?_ ?_ h j (by omega) hj
     ·split<;>omega
     ·split<;>omega
     ·intro _
      rw[Nat.add_sub_cancel]
      split<;>omega
   ·rw[if_neg c2]at h;cases h
theorem Ct(xs:List Rw)(ha:∀x∈xs,x.f4.length≤6)(h:kM xs 0=true):JR xs:=fun j hj=>NH xs ha xs.length 0 0 (by omega) (by omega) (by omega) (fun a=>by omega) (by rw[List.drop_zero];exact h) j (Nat.zero_le _) hj
def zy(outs:List Rw):Nat:=match outs.getLast? with|none=>0|some y=>y.f3.size
theorem step_drop(outs:List Rw)(x:Rw)(h:qH outs.getLast? x=true)(hs:zy outs+x.f3.size≤9223372036854775807):∃o,uz outs x=some o∧o.length=outs.length∧zy o≤zy outs+x.f3.size:=by
 unfold uz
 by_cases h1:x.f1=1∧x.f3.data.toList=[]
 ·rw[if_pos h1]
  exact⟨_,rfl,rfl,by omega⟩
 ·rw[if_neg h1]
  have hk:x.f1=1:=by
   by_cases c:x.f1=1
   ·exact c
   ·simp[qH,c]at h
  have hne:x.f3.data.toList≠[]:=fun e=>h1 ⟨hk,e⟩
  have hlen:0<outs.length:=by
   cases outs with
   |nil=>simp[qH,hne]at h
   |cons a l=>simp
  have hL:=JL outs hlen;have hz:zy outs=(au outs ((outs.length:Int) - 1)).f3.size:=by unfold zy;rw[hL]
  rw[hL]at h;simp only[qH,hk,decide_true,Bool.true_and,hne,decide_false,Bool.false_or,Bool.and_eq_true,decide_eq_true_eq]at h;rw[if_pos ⟨hk,hlen,h.1,h.2⟩,if_pos (by omega)];refine⟨_,rfl,by simp,?_⟩
  have:∀(y:Rw),(outs.set (outs.length - 1) y).getLast? =some y:=by
   intro y;rw[List.getLast?_eq_getElem?,List.length_set,List.getElem?_set_self (by omega)]
  unfold zy;rw[this];show(_:ByteArray).size≤_;rw[ByteArray.size_append,hL];exact Nat.le_refl _
def sumS(xs:List Rw):Nat:=(xs.map fun x=>x.f3.size).sum
theorem FL:∀(xs outs:List Rw),outs.length+xs.length≤1000000→zy outs+sumS xs≤10000000000→
 ∃r,qK outs xs=some r∧r.length≤outs.length+xs.length∧(rT outs.getLast? xs=true→r=outs++xs)∧(rT outs.getLast? xs=false→r.length<outs.length+xs.length)
 | [],outs,h1,h2=>⟨outs,rfl,by simp,fun _=>by simp,fun h=>by simp[rT]at h⟩
 |x::xs,outs,h1,h2=>by
  have hs:sumS (x::xs)=x.f3.size+sumS xs:=by simp[sumS]
  rw[hs]at h2;simp only[List.length_cons]at h1;simp only[qK,rT];cases hd:qH outs.getLast? x with
  |false=>
   rw[Md outs x hd (by omega),Option.bind_some];have hl2:zy (outs++[x])=x.f3.size:=by unfold zy;rw[Fv]
   obtain⟨r,e,a,b,c⟩:=FL xs (outs++[x]) (by simp;omega) (by rw[hl2];omega);rw[Fv]at b c;simp only[List.length_append,List.length_cons,List.length_nil]at a c;refine⟨r,e,by simp only[List.length_cons];omega,fun h=>?_,fun h=>?_⟩
   ·rw[b (by simpa using h)]
    simp
   ·have:=c (by simpa using h)
    simp only[List.length_cons];omega
  |true=>
   obtain⟨o,e,a,b⟩:=step_drop outs x hd (by omega);rw[e,Option.bind_some];obtain⟨r,e2,a2,-,-⟩:=FL xs o (by omega) (by omega);refine⟨r,e2,by simp only[List.length_cons];omega,fun h=>by simp at h,fun _=>by simp only[List.length_cons];omega⟩
theorem moved_l0(xs:List Rw)(hl:xs.length<1000000)(hd:∀x∈xs,0≤x.f0∧x.f0≤1000000)(ha:∀x∈xs,x.f4.length≤6):∀(d i k:Nat) (acc:List Rw),i+d=xs.length→acc.length=i→d<k→fQ.l0 k 0 acc xs (xs.length:Int) i=some (acc++xs.drop i):=by
 intro d
 induction d with
 |zero=>
  intro i k acc hi hacc hk;obtain⟨k,rfl⟩:∃m,k=m+1:=⟨k - 1,by omega⟩
  simp only[fQ.l0];rw[if_neg (by omega),List.drop_of_length_le (by omega),List.append_nil]
 |succ d ih=>
  intro i k acc hi hacc hk;obtain⟨k,rfl⟩:∃m,k=m+1:=⟨k - 1,by omega⟩
  have hlt:i<xs.length:=by omega
  have h0:=hd xs[i] (List.getElem_mem hlt);have h4:=ha xs[i] (List.getElem_mem hlt);simp only[fQ.l0];rw[if_pos (by omega),if_pos (by omega),if_pos (by omega),nH xs i hlt];unfold rA.f;rw[if_pos (by omega),Option.bind_some,if_pos (by omega),wN (by omega),w64 (by omega) (by omega),Int.add_zero];rw[ih (i+1) k _ (by omega) (by simp[hacc]) (by omega),List.append_assoc,List.drop_eq_getElem_cons hlt];rfl
theorem moved_f(xs:List Rw)(hl:xs.length<1000000)(hd:∀x∈xs,0≤x.f0∧x.f0≤1000000)(ha:∀x∈xs,x.f4.length≤6)(k:Nat)(hk:xs.length<k):fQ.f k xs 0=some xs:=by
 unfold fQ.f;have:=moved_l0 xs hl hd ha xs.length 0 k [] (by omega) rfl hk;simpa using this
theorem norm_f(xs:List Rw)(hl:xs.length<1000000)(hd:∀x∈xs,0≤x.f0∧x.f0≤1000000)(ha:∀x∈xs,x.f4.length≤6)(hs:sumS xs≤10000000000):∃r,iX.f xs=some r∧nu.f r xs=some (rT none xs):=by
 unfold iX.f;rw[moved_f xs hl hd ha _ (by omega),Option.bind_some];obtain⟨r,e,a,b,c⟩:=FL xs [] (by simp;omega) (by simpa [zy]using hs);refine⟨r,e,?_⟩;unfold nu.f
 congr 1
 simp only[List.getLast?_nil,List.length_nil,Nat.zero_add,List.nil_append]at b c;cases h:rT none xs with
 |true=>rw[b h];simp
 |false=>
  refine decide_eq_false (fun e=>?_);have:=congrArg List.length e;simp only[List.length_map]at this;have:=c h;omega
theorem RJ(xs:List Rw)(M:Nat)(hM:M<1000000000)(hl:xs.length<100000)(hx:∀x∈xs,SzR M x)(i:Nat)(hi:i<xs.length):∃b,gD.f xs i=some b:=by
 unfold gD.f;rw[dif_pos ⟨by omega,by omega⟩];unfold lW.f;rw[if_pos (by omega),Option.bind_some,NC _ _ (by omega),Option.bind_some,raw_f _ _ (by omega),Option.bind_some,soft_f _ _ (by omega),Option.bind_some];have hk:=DY xs i;generalize jh xs i=ks at *
 rcases ks with _|⟨k0,_|⟨k1,ks⟩⟩
 ·exact⟨_,rfl⟩
 ·simp only[List.map_cons,List.map_nil,wiF]
  have h0:=hk k0 (by simp)
  split
  ·exact⟨_,rfl⟩
  ·split
   ·exact⟨_,rfl⟩
   ·unfold Kt
    rw[dif_pos ⟨by omega,by omega⟩];have hd:=(hx xs[(k0:Int).toNat] (List.getElem_mem _)).data
    split
    ·split
     ·exact⟨_,rfl⟩
     ·unfold strings_Contains.f strings_HasSuffix.f
      rw[if_pos (by omega),if_pos (by omega),Option.bind_some,Option.bind_some]
      split<;>exact⟨_,rfl⟩
    ·exact⟨_,rfl⟩
 ·simp only[List.map_cons,wiF]
  split
  ·exact⟨_,rfl⟩
  ·split<;>exact⟨_,rfl⟩
def G5(xs:List Rw)(i:Nat):Bool:=(gD.f xs i).getD false
theorem JW(xs:List Rw)(M:Nat)(hM:M<1000000000)(hl:xs.length<100000)(hx:∀x∈xs,SzR M x)(i:Nat)(hi:i<xs.length):gD.f xs i=some (G5 xs i):=by
 obtain⟨b,hb⟩:=RJ xs M hM hl hx i hi;unfold G5;rw[hb];rfl
noncomputable def rV(xs:List Rw):List Rw→Nat→List ByteArray→Bool
 | [],_,_=>true
 |x::r,i,ar=>
  if x.f1=1 then jr x.f3&&rV xs r (i+1) (ar.take x.f0.toNat)
  else if x.f1=2 then C8 x.f3&&rV xs r (i+1) (ar.take x.f0.toNat)
  else Mr x (ar.take x.f0.toNat)&&G5 xs i&&rV xs r (i+1) (ar.take x.f0.toNat++[x.f2])
theorem take_mn{α:Type}(l:List α)(d:Int)(h:0≤d):l.take (mn (l.length:Int) d).toNat=l.take d.toNat:=by
 unfold mn
 split
 ·rfl
 ·rw[Int.toNat_natCast,List.take_of_length_le (Nat.le_refl _),List.take_of_length_le (by omega)]
theorem mn_in(n:Nat)(d:Int)(h:0≤d):0≤mn (n:Int) d∧mn (n:Int) d≤n:=by unfold mn;split<;>omega
theorem leg_l0(xs:List Rw)(M:Nat)(hM:M<1000000000)(hl:xs.length<100000)(hx:∀x∈xs,SzR M x)(hd:∀x∈xs,0≤x.f0∧x.f0≤1000000):∀(d i k:Nat) (ar:List ByteArray),i+d=xs.length→200 * M+301+d≤k→ar.length≤i→bF.l0 k xs ar xs (xs.length:Int) i=some (rV xs (xs.drop i) i ar):=by
 intro d
 induction d with
 |zero=>
  intro i k ar hi hk har;obtain⟨k,rfl⟩:∃m,k=m+1:=⟨k - 1,by omega⟩
  simp only[bF.l0];rw[if_neg (by omega),List.drop_of_length_le (by omega)];rfl
 |succ d ih=>
  intro i k ar hi hk har;obtain⟨k,rfl⟩:∃m,k=m+1:=⟨k - 1,by omega⟩
  have hlt:i<xs.length:=by omega
  have h0:=hd xs[i] (List.getElem_mem hlt);have hz:=hx xs[i] (List.getElem_mem hlt);have hz3:=hz.data;have hm:=mn_in ar.length xs[i].f0 h0.1;have hal:(ar.take xs[i].f0.toNat).length≤i:=by rw[List.length_take];omega
  rw[List.drop_eq_getElem_cons hlt];simp only[bF.l0,rV];rw[if_pos (by omega),if_pos (by omega),if_pos (by omega),nH xs i hlt,if_pos hm.1,if_pos hm.2,take_mn ar _ h0.1,Option.bind_some,wN (by omega)]
  by_cases h1:xs[i].f1=1
  ·rw[if_pos h1,if_pos h1,tu _ (by omega),Option.bind_some]
   cases jr xs[i].f3 with
   |false=>rw[if_neg (by decide)];rfl
   |true=>rw[if_pos rfl,ih (i+1) k _ (by omega) (by omega) (by omega)];rfl
  ·rw[if_neg h1,if_neg h1]
   by_cases h2:xs[i].f1=2
   ·rw[if_pos h2,if_pos h2,RH _ (by omega),Option.bind_some]
    cases C8 xs[i].f3 with
    |false=>rw[if_neg (by decide)];rfl
    |true=>rw[if_pos rfl,ih (i+1) k _ (by omega) (by omega) (by omega)];rfl
   ·rw[if_neg h2,if_neg h2,elem_f xs[i] M hM hz _ k (by omega),Option.bind_some]
    cases Mr xs[i] (ar.take xs[i].f0.toNat)with
    |false=>rw[if_neg (by decide)];rfl
    |true=>
     rw[if_pos rfl,JW xs M hM hl hx i hlt,Option.bind_some];cases G5 xs i with
     |false=>rw[if_neg (by decide)];rfl
     |true=>rw[if_pos rfl,if_pos (by omega),ih (i+1) k _ (by omega) (by omega) (by simp;omega)];rfl
noncomputable def zZ(xs:List Rw):Bool:=!(decide (4096<xs.length)||xs.any wX)&&kM xs 0&&rT none xs&&rV xs xs 0 []
theorem legal_f(xs:List Rw)(M:Nat)(hM:M<1000000000)(hl:xs.length<100000)(hx:∀x∈xs,SzR M x)(hs:sumS xs≤10000000000)(k:Nat)(hk:200 * M+400+2 * xs.length≤k):bF.f k xs=some (zZ xs):=by
 have ha:∀x∈xs,x.f4.length≤6:=fun x h=>(hx x h).few
 have hj:∀b,bF.j0 k xs b=if b then some false else bF.l0 (k - 1) xs [] xs (xs.length:Int) 0:=by
  intro b;obtain⟨k,rfl⟩:∃m,k=m+1:=⟨k - 1,by omega⟩
  simp only[bF.j0];rfl
 unfold bF.f oo.f zZ qw.f;rw[Option.bind_some];cases hb:(decide (4096<xs.length)||xs.any wX)with
 |true=>rw[if_pos rfl,Option.bind_some,if_neg (by decide),hj];rfl
 |false=>
  rw[if_neg (by decide),rightg_f xs hl ha k (by omega),Option.bind_some];cases hr:kM xs 0 with
  |false=>rw[if_neg (by decide),Option.bind_some,if_neg (by decide),hj];rfl
  |true=>
   rw[if_pos rfl,Option.bind_some,if_pos rfl];have hp:=Ct xs ha hr
   have hd:∀x∈xs,0≤x.f0∧x.f0≤1000000:=by
    intro x hm;obtain⟨j,hj,rfl⟩:=List.getElem_of_mem hm;have h1:=(hp j hj).low;have h2:=(hp j hj).high;rw[iI xs j hj]at h1 h2;omega
   obtain⟨r,e1,e2⟩:=norm_f xs (by omega) hd ha hs;rw[e1,Option.bind_some,e2,Option.bind_some,hj];cases rT none xs with
   |false=>rfl
   |true=>
    have:=leg_l0 xs M hM hl hx hd xs.length 0 (k - 1) [] (by omega) (by omega) (by simp);rw[List.drop_zero]at this;exact this
end Go.Proofs.aj.W7
namespace Go.Proofs.aj.W7
open Go.RowKit Go.Proofs.ah.aD Go.Proofs.ah.bJ Go.Proofs.ah.bW
attribute [local go_sem] dB dD dR dS bZ cu dF dG
def iV.l0:Nat→List ByteArray→List ByteArray→List ByteArray→Int→Option (Int)
 |0,_,_,_,_=>none
 |k+1,x0,x1,x2,x7=>if x7≥0 then(if 0≤x7 then(if x7<(x0.length:Int)then((iB.f k x1 (xq ByteArray.empty x0 x7)).bind fun t215=>(if t215=true then(some x7)else((iB.f k x2 (xq ByteArray.empty x0 x7)).bind fun t217=>(if t217=true then(some (-1))else(iV.l0 k x0 x1 x2 (wrap64 (x7 - 1)))))))else(none))else(none))else(some (-1))
def iV.f(k:Nat)(l0 l1 l2:List ByteArray):Option (Int):=iV.l0 k l0 l1 l2 (wrap64 ((l0.length:Int) - 1))
def jM.l0:Nat→List ByteArray→List ByteArray→List ByteArray→Int→Option (List ByteArray)
 |0,_,_,_,_=>none
 |k+1,x0,x1,x2,x7=>if x7≥0 then(if 0≤x7 then(if x7≤(x0.length:Int)then((some (x0.take (x7:Int).toNat:List ByteArray)).bind fun y219=>((iV.f k y219 x1 x2).bind fun t224=>(jM.l0 k y219 x1 x2 t224)))else(none))else(none))else((some (([] :List ByteArray):List ByteArray)).bind fun y225=>(if y225.length+x0.length<8796093022208 then(some (y225++x0))else(none)))
def jM.f(k:Nat)(l0 l1 l2:List ByteArray):Option (List ByteArray):=(iV.f k l0 l1 l2).bind fun t218=>(jM.l0 k l0 l1 l2 t218)
def gK.f:Option (List ByteArray):=some (([(⟨#[116,98,111,100,121]⟩:ByteArray),(⟨#[116,100]⟩:ByteArray),(⟨#[116,102,111,111,116]⟩:ByteArray),(⟨#[116,104]⟩:ByteArray),(⟨#[116,104,101,97,100]⟩:ByteArray),(⟨#[116,114]⟩:ByteArray)] :List ByteArray))
def rF.f:Option (List ByteArray):=some (([(⟨#[97,100,100,114,101,115,115]⟩:ByteArray),(⟨#[97,114,116,105,99,108,101]⟩:ByteArray),(⟨#[97,115,105,100,101]⟩:ByteArray),(⟨#[98,108,111,99,107,113,117,111,116,101]⟩:ByteArray),(⟨#[99,101,110,116,101,114]⟩:ByteArray),(⟨#[100,100]⟩:ByteArray),(⟨#[100,101,116,97,105,108,115]⟩:ByteArray),(⟨#[100,105,97,108,111,103]⟩:ByteArray),(⟨#[100,105,114]⟩:ByteArray),(⟨#[100,105,118]⟩:ByteArray),(⟨#[100,108]⟩:ByteArray),(⟨#[100,116]⟩:ByteArray),(⟨#[102,105,101,108,100,115,101,116]⟩:ByteArray),(⟨#[102,105,103,99,97,112,116,105,111,110]⟩:ByteArray),(⟨#[102,105,103,117,114,101]⟩:ByteArray),(⟨#[102,111,111,116,101,114]⟩:ByteArray),(⟨#[102,111,114,109]⟩:ByteArray),(⟨#[104,49]⟩:ByteArray),(⟨#[104,50]⟩:ByteArray),(⟨#[104,51]⟩:ByteArray),(⟨#[104,52]⟩:ByteArray),(⟨#[104,53]⟩:ByteArray),(⟨#[104,54]⟩:ByteArray),(⟨#[104,101,97,100,101,114]⟩:ByteArray),(⟨#[104,103,114,111,117,112]⟩:ByteArray),(⟨#[104,114]⟩:ByteArray),(⟨#[108,105]⟩:ByteArray),(⟨#[109,97,105,110]⟩:ByteArray),(⟨#[109,101,110,117]⟩:ByteArray),(⟨#[110,97,118]⟩:ByteArray),(⟨#[111,108]⟩:ByteArray),(⟨#[112]⟩:ByteArray),(⟨#[112,114,101]⟩:ByteArray),(⟨#[115,101,99,116,105,111,110]⟩:ByteArray),(⟨#[115,117,109,109,97,114,121]⟩:ByteArray),(⟨#[116,97,98,108,101]⟩:ByteArray),(⟨#[117,108]⟩:ByteArray),(⟨#[120,109,112]⟩:ByteArray)] :List ByteArray))
mutual
def fM.j0:Nat→ByteArray→Bool→Option (List ByteArray)
 |0,_,_=>none
 |k+1,x0,x8=>if x8=true then(some (([x0] :List ByteArray)))else(if x0.toList=([100,100] :List UInt8)then(fM.j1 k x0 true)else(fM.j1 k x0 (x0.toList==([100,116] :List UInt8))))
def fM.j1:Nat→ByteArray→Bool→Option (List ByteArray)
 |0,_,_=>none
 |k+1,x0,x16=>if x16=true then(some (([(⟨#[100,100]⟩:ByteArray),(⟨#[100,116]⟩:ByteArray)] :List ByteArray)))else(if x0.toList=([111,112,116,103,114,111,117,112] :List UInt8)then(some (([(⟨#[111,112,116,103,114,111,117,112]⟩:ByteArray),(⟨#[111,112,116,105,111,110]⟩:ByteArray)] :List ByteArray)))else(if x0.toList=([116,114] :List UInt8)then(some (([(⟨#[116,100]⟩:ByteArray),(⟨#[116,104]⟩:ByteArray),(⟨#[116,114]⟩:ByteArray)] :List ByteArray)))else(if x0.toList=([116,100] :List UInt8)then(fM.j2 k x0 true)else(fM.j2 k x0 (x0.toList==([116,104] :List UInt8))))))
def fM.j2:Nat→ByteArray→Bool→Option (List ByteArray)
 |0,_,_=>none
 |k+1,x0,x29=>if x29=true then(some (([(⟨#[116,100]⟩:ByteArray),(⟨#[116,104]⟩:ByteArray)] :List ByteArray)))else((gK.f).bind fun t252=>((iB.f k t252 x0).bind fun t255=>(if t255=true then((gK.f).bind fun t256=>(some t256))else((rF.f).bind fun t259=>((iB.f k t259 x0).bind fun t262=>(if t262=true then(some (([(⟨#[112]⟩:ByteArray)] :List ByteArray)))else(some (([] :List ByteArray)))))))))
end
def fM.f(k:Nat)(a0:ByteArray):Option (List ByteArray):=if a0.toList=([108,105] :List UInt8)then(fM.j0 k a0 true)else(fM.j0 k a0 (a0.toList==([111,112,116,105,111,110] :List UInt8)))
mutual
def fU.j0:Nat→ByteArray→Bool→Option (List ByteArray)
 |0,_,_=>none
 |k+1,x0,x11=>if x11=true then(some (([(⟨#[100,108]⟩:ByteArray),(⟨#[116,101,109,112,108,97,116,101]⟩:ByteArray)] :List ByteArray)))else(if x0.toList=([111,112,116,105,111,110] :List UInt8)then(fU.j1 k x0 true)else(fU.j1 k x0 (x0.toList==([111,112,116,103,114,111,117,112] :List UInt8))))
def fU.j1:Nat→ByteArray→Bool→Option (List ByteArray)
 |0,_,_=>none
 |k+1,x0,x18=>if x18=true then(some (([(⟨#[115,101,108,101,99,116]⟩:ByteArray),(⟨#[116,101,109,112,108,97,116,101]⟩:ByteArray)] :List ByteArray)))else((gK.f).bind fun t278=>((iB.f k t278 x0).bind fun t281=>(if t281=true then(some (([(⟨#[116,97,98,108,101]⟩:ByteArray),(⟨#[116,101,109,112,108,97,116,101]⟩:ByteArray)] :List ByteArray)))else(some (([(⟨#[98,117,116,116,111,110]⟩:ByteArray),(⟨#[99,97,112,116,105,111,110]⟩:ByteArray),(⟨#[116,97,98,108,101]⟩:ByteArray),(⟨#[116,100]⟩:ByteArray),(⟨#[116,101,109,112,108,97,116,101]⟩:ByteArray),(⟨#[116,104]⟩:ByteArray)] :List ByteArray))))))
end
def fU.f(k:Nat)(a0:ByteArray):Option (List ByteArray):=if a0.toList=([108,105] :List UInt8)then(some (([(⟨#[109,101,110,117]⟩:ByteArray),(⟨#[111,108]⟩:ByteArray),(⟨#[116,101,109,112,108,97,116,101]⟩:ByteArray),(⟨#[117,108]⟩:ByteArray)] :List ByteArray)))else(if a0.toList=([100,100] :List UInt8)then(fU.j0 k a0 true)else(fU.j0 k a0 (a0.toList==([100,116] :List UInt8))))
def Az.f(a0:ByteArray):Option (Bool):=if a0.toList=([108,105] :List UInt8)then(some true)else(if a0.toList=([100,100] :List UInt8)then(some true)else(some (a0.toList==([100,116] :List UInt8))))
def zh.f(k:Nat)(l0:List ByteArray)(a1:ByteArray):Option (List ByteArray):=(fM.f k a1).bind fun t288=>((fU.f k a1).bind fun t291=>((jM.f k l0 t288 t291).bind fun t294=>((Az.f a1).bind fun t297=>(if t297=true then((fU.f k (⟨#[112]⟩:ByteArray)).bind fun t301=>((jM.f k t294 (([(⟨#[112]⟩:ByteArray)] :List ByteArray)) t301).bind fun t304=>(some t304)))else(some t294)))))
def MJ.f(k:Nat)(a0:ByteArray)(l1:List ByteArray):Option (Bool):=(zh.f k l1 a0).bind fun t307=>(some ((t307.length:Int)==(l1.length:Int)))
end Go.Proofs.aj.W7
namespace Go.Proofs.aj.W7
open Go.RowKit Go.Proofs Go.Proofs.aj Go.Proofs.YtkcmghlhpbepcaaGreatDoor Go.Proofs.ah.aD
def tabR:List ByteArray:=(gK.f).getD []
theorem Qs(s:ByteArray)(k:Nat)(hk:20≤k):dQ.f k s=some (nO tabR s):=by
 unfold dQ.f;rw[oV _ _ _ (by simp) (by simp;omega),Option.bind_some]
 congr 1
 show nO _ s=nO ((gK.f).getD []) s;simp only[gK.f,Option.getD_some,nO,List.any_cons,List.any_nil,Bool.or_false]
 ac_rfl
def blkR:List ByteArray:=(rF.f).getD []
theorem block_f(s:ByteArray)(k:Nat)(hk:90≤k):fJ.f k s=some (nO blkR s):=by
 unfold fJ.f;rw[oV _ _ _ (by simp) (by simp;omega),Option.bind_some];rfl
theorem Fq(l:List ByteArray)(s:ByteArray):nO l s=Lib.containsS l s:=by
 rw[Bool.eq_iff_iff,Lib.containsS_iff];simp only[nO,List.any_eq_true,beq_iff_eq];constructor
 ·rintro⟨x,hx,e⟩
  obtain⟨⟨a⟩⟩:=x;obtain⟨⟨b⟩⟩:=s;simp only at e;subst e;exact hx
 ·intro h
  exact⟨s,h,rfl⟩
def closeR(a b:List ByteArray):Nat→List ByteArray→List ByteArray
 |0,op=>op
 |n+1,op=>if fT op a b op.length<0 then op else closeR a b n (op.take (fT op a b op.length).toNat)
theorem LY(s:ByteArray)(k:Nat)(hk:101≤k):∃c,bH.f k s=some c∧c.length<1000:=by
 obtain⟨k,rfl⟩:∃m,k=m+1:=⟨k - 1,by omega⟩
 have h:∀b,∃c,bH.j0 (k+1) s s b=some c∧c.length<1000:=by
  intro b;simp only[bH.j0];rw[Qs _ _ (by omega),Option.bind_some,block_f _ _ (by omega),Option.bind_some]
  repeat' split
  all_goals exact⟨_,rfl,by simp⟩
 unfold bH.f
 split
 ·exact h _
 ·exact h _
theorem Nt(s:ByteArray)(k:Nat)(hk:101≤k):∃c,cB.f k s=some c∧c.length<1000:=by
 unfold cB.f;rw[oV _ _ _ (by simp) (by simp;omega),Option.bind_some,oV _ _ _ (by simp) (by simp;omega),Option.bind_some,Qs _ _ (by omega),Option.bind_some]
 repeat' split
 all_goals exact⟨_,rfl,by simp⟩
theorem par_some(s:ByteArray):∃p,eX.f s=some p:=by
 unfold eX.f
 repeat' split
 all_goals exact⟨_,rfl⟩
end Go.Proofs.aj.W7
namespace Go.Proofs.aj.W7
open Go.RowKit Go.Proofs Go.Proofs.YtkcmghlhpbepcaaGreatDoor Go.Proofs.ah.bJ
def bitsL:Nat→Nat→List Bool
 |0,_=>[]
 |n+1,m=>(m % 2==1)::bitsL n (m / 2)
def bits(n m:Nat):Array Bool:=(bitsL n m).toArray
section
variable {P : Program} {ops : Array Oper} {Q : Exit → Act → World → Prop} {md : Region.Mode} {S : World → Prop} {ds : List Nat}
theorem sw(i T:Nat){n m:Nat}{oi:Oper}{v:Value}{fuel:Nat}{a:Act}{w:World}{a':Act}(h:cK P md ops Q S ds fuel (bits n (m+2^i)) a' w)
 (hi:ops[i]?=some oi:=by rfl) (hN:oi.dst=some T:=by rfl) (hc:anyB md ops (bits n m) (bits n (m+2^i)) i=true:=by kernel_rfl) (hQ:∀c a w,Q (.panic c) (a.put oi.dst v) w→Q (.panic c) a w:=by exact fun _ _ _ h=>h)
 (hy:Yields P ops oi v a:=by(refine Or.inl ⟨by rfl,?_⟩);intro w';go_simp;with_reducible rfl)
 (ha:a.put (some T) v=a':=by simp only[Act.put,List.setIfInBounds_toArray,List.set_cons_zero,List.set_cons_succ,oO,oP];rfl):cK P md ops Q S ds (fuel+1) (bits n m) a w:=pure_ _ hi hN hc hQ hy ha h
theorem su(i T:Nat){n m:Nat}{oi:Oper}{fuel:Nat}{a:Act}{w:World}{a':Act}(h:cK P md ops Q S ds fuel (bits n (m+2^i)) a' w)
 (hi:ops[i]?=some oi:=by rfl) (hN:oi.dst=some T:=by rfl) (hc:anyB md ops (bits n m) (bits n (m+2^i)) i=true:=by kernel_rfl) (hQ:∀c a w,Q (.panic c) (a.put oi.dst undef) w→Q (.panic c) a w:=by exact fun _ _ _ h=>h)
 (hy:Yields P ops oi undef a:=by exact Or.inr ⟨by rfl,rfl⟩)
 (ha:a.put (some T) undef=a':=by simp only[Act.put,List.setIfInBounds_toArray,List.set_cons_zero,List.set_cons_succ,oO,oP];rfl):cK P md ops Q S ds (fuel+1) (bits n m) a w:=pure_ _ hi hN hc hQ hy ha h
theorem st(i T:Nat){n m:Nat}{oi:Oper}{v:Value}{fuel:Nat}{a:Act}{w:World}{a':Act}(h:cK P md ops Q S ds fuel (bits n (m+2^i)) a' w)
 (hi:ops[i]?=some oi:=by rfl) (hN:oi.dst=some T:=by rfl) (hc:takeB md ops ds (bits n m) (bits n (m+2^i)) i=true:=by kernel_rfl) (hQ:∀c a w,Q (.panic c) (a.put oi.dst v) w→Q (.panic c) a w:=by exact fun _ _ _ h=>h)
 (hy:YieldsIf P ops S oi v a:=by(refine Or.inl ⟨by rfl,?_⟩);intro w' hs_;(repeat(have s_:=hs_.1;replace hs_:=hs_.2));go_simp;with_reducible rfl)
 (hS:S w:=by exact hHeld)
 (ha:a.put (some T) v=a':=by simp only[Act.put,List.setIfInBounds_toArray,List.set_cons_zero,List.set_cons_succ,oO,oP];rfl):cK P md ops Q S ds (fuel+1) (bits n m) a w:=take_ _ hi hN hc hQ hy hS ha h
theorem so(i:Nat){n m:Nat}{N:Option Tmp}{oi:Oper}{fuel:Nat}{a:Act}{w:World}
 (h:∀K:Act→World→Prop,Shut (∀a' w',S w'→(S w'→cK P md ops Q S ds fuel (bits n (m+2^i)) a' w')→K a' w')→if Region.wanted oi (yielded ops a.tmps)=true then Oper.wp P oi a w K Q else K (a.put N undef) w)
 (hi:ops[i]?=some oi:=by rfl) (hN:oi.dst=N:=by rfl) (hc:tV md ops (bits n m) (bits n (m+2^i)) i=true:=by kernel_rfl) (hd:i∉ds:=by decide):cK P md ops Q S ds (fuel+1) (bits n m) a w:=one_ _ hi hN hc hd h
theorem sl(i:Nat){n m:Nat}{N:Option Tmp}{oi:Oper}{fuel:Nat}{a:Act}{w:World}
 (h:∀K:Act→World→Prop,Shut (∀a' w',cK P md ops Q S ds fuel (bits n (m+2^i)) a' w'→K a' w')→if Region.wanted oi (yielded ops a.tmps)=true then Oper.wp P oi a w K Q else K (a.put N undef) w)
 (hi:ops[i]?=some oi:=by rfl) (hN:oi.dst=N:=by rfl) (hc:tV md ops (bits n m) (bits n (m+2^i)) i=true:=by kernel_rfl) (hd:i∈ds:=by decide):cK P md ops Q S ds (fuel+1) (bits n m) a w:=last_ _ hi hN hc hd h
theorem sc(i T:Nat){n m:Nat}{oi:Oper}{fuel:Nat}{a:Act}{w:World}
 (h:∀K:Act→World→Prop,Shut (∀a' w',S w'→(S w'→cK P md ops Q S ds fuel (bits n (m+2^i)) a' w')→K a' w')→if Region.wanted oi (yielded ops a.tmps)=true then Oper.wp P oi a w K Q else K (a.put (some T) undef) w)
 (hi:ops[i]?=some oi:=by rfl) (hN:oi.dst=some T:=by rfl) (hc:tV md ops (bits n m) (bits n (m+2^i)) i=true:=by kernel_rfl) (hd:i∉ds:=by decide):cK P md ops Q S ds (fuel+1) (bits n m) a w:=one_ _ hi hN hc hd h
theorem sd(i T:Nat){n m:Nat}{oi:Oper}{fuel:Nat}{a:Act}{w:World}
 (h:∀K:Act→World→Prop,Shut (∀a' w',cK P md ops Q S ds fuel (bits n (m+2^i)) a' w'→K a' w')→if Region.wanted oi (yielded ops a.tmps)=true then Oper.wp P oi a w K Q else K (a.put (some T) undef) w)
 (hi:ops[i]?=some oi:=by rfl) (hN:oi.dst=some T:=by rfl) (hc:tV md ops (bits n m) (bits n (m+2^i)) i=true:=by kernel_rfl) (hd:i∈ds:=by decide):cK P md ops Q S ds (fuel+1) (bits n m) a w:=last_ _ hi hN hc hd h
theorem sn{fuel:Nat}{l:Array Bool}{a a':Act}{w:World}(h:cK P md ops Q S ds fuel l a' w)(ha:a=a':=by(show Act.put _ _ _=_);simp only[Act.put,List.setIfInBounds_toArray,List.set_cons_zero,List.set_cons_succ,oO,oP];rfl):cK P md ops Q S ds fuel l a w:=norm_ ha h
end
end Go.Proofs.aj.W7
