/- Lemmas and walks, part 44. -/
import Derived.Test.YtkcmghlhpbepcaaGreatDoorNB43
set_option linter.unusedVariables false
set_option linter.unusedSimpArgs false
namespace Go.Proofs.aj.W7
open Go.RowKit Go.Proofs Go.Proofs.aj Go.Proofs.YtkcmghlhpbepcaaGreatDoor Go.Proofs.ah.aD
noncomputable def evB(f:Nat→Option Bool):Bool:=open Classical in if h:∃b,∃n,∀k,n≤k→f k=some b then h.choose else false
theorem evB_of{f:Nat→Option Bool}{n:Nat}(h:∃b,∀k,n≤k→f k=some b):∀k,n≤k→f k=some (evB f):=by
 obtain⟨b,hb⟩:=h;have h2:∃b,∃n,∀k,n≤k→f k=some b:=⟨b,n,hb⟩
 obtain⟨m,hm⟩:=h2.choose_spec;intro k hk;have e:evB f=h2.choose:=by unfold evB;rw[dif_pos h2]
 have a:=hb (max n m) (Nat.le_max_left _ _);rw[hm (max n m) (Nat.le_max_right _ _)]at a;rw[hb k hk,e,Option.some.inj a]
def jr(s:Bt):Bool:=Lib.validD s.data.toList&& !Lib.containsAny s.data.toList jD.data.toList
theorem tu(s:Bt)(h:s.size<1000000000):dA.f s=some (jr s):=by
 unfold dA.f lq.f jr;rw[if_pos (by omega),Option.bind_some];cases Lib.validD s.data.toList with
 |false=>rw[if_neg (by decide)];rfl
 |true=>
  rw[if_pos rfl];unfold strings_ContainsAny.f;rw[if_pos ⟨rfl,by omega⟩,Option.bind_some];rfl
def C9(s:Bt):Bool:=jr s&& !Lib.contains s.data.toList [45,45,62]&& !Lib.contains s.data.toList [45,45,33,62]&& !Lib.hasPrefix s.data.toList [62]&& !Lib.hasPrefix s.data.toList [45,62]
theorem RI(s:Bt)(h:s.size<1000000000):jy.f s=some (C9 s):=by
 unfold jy.f C9;rw[tu s h,Option.bind_some];cases jr s with
 |false=>rw[if_neg (by decide)];rfl
 |true=>
  rw[if_pos rfl];unfold strings_Contains.f strings_HasPrefix.f;rw[if_pos (by omega),Option.bind_some];cases h1:Lib.contains s.data.toList [45,45,62]with
  |true=>rw[if_pos rfl];rfl
  |false=>
   rw[if_neg (by decide),if_pos (by omega),Option.bind_some];cases h2:Lib.contains s.data.toList [45,45,33,62]with
   |true=>rw[if_pos rfl];rfl
   |false=>
    rw[if_neg (by decide),Option.bind_some];cases h3:Lib.hasPrefix s.data.toList [62]with
    |true=>rw[if_pos rfl];rfl
    |false=>
     rw[if_neg (by decide),Option.bind_some];rfl
structure SzR (M:Nat) (x:Rw):Prop where
 name:x.f2.size≤M
 data:x.f3.size≤M
 EZ:∀a∈x.f4,a.f0.size≤M∧a.f1.size≤M
 few:x.f4.length≤6
theorem elem_l0(l:List S36)(M:Nat)(hM:M<1000000000)(hl:l.length≤6)(ha:∀a∈l,a.f0.size≤M∧a.f1.size≤M):∀d i:Nat,i+d=l.length→∃b,∀k,200 * M+2+d≤k→bg.l0 k l (l.length:Int) i=some b:=by
 intro d
 induction d with
 |zero=>
  intro i hi;refine⟨true,fun k hk=>?_⟩;obtain⟨k,rfl⟩:∃m,k=m+1:=⟨k - 1,by omega⟩
  simp only[bg.l0];rw[if_neg (by omega)]
 |succ d ih=>
  intro i hi;have hlt:i<l.length:=by omega
  obtain⟨b,hb⟩:=ih (i+1) (by omega);have hm:=ha l[i] (List.getElem_mem hlt);refine⟨wY l[i].f0&&jr l[i].f0&&jr l[i].f1&&b,fun k hk=>?_⟩;obtain⟨k,rfl⟩:∃m,k=m+1:=⟨k - 1,by omega⟩
  simp only[bg.l0];rw[if_pos (by omega),if_pos (by omega),if_pos (by omega),zQ9 l i hlt,Qy _ (by omega) k (by omega),Option.bind_some];cases wY l[i].f0 with
  |false=>rw[if_neg (by decide)];rfl
  |true=>
   rw[if_pos rfl,tu _ (by omega),Option.bind_some];cases jr l[i].f0 with
   |false=>rw[if_neg (by decide)];rfl
   |true=>
    rw[if_pos rfl,tu _ (by omega),Option.bind_some];cases jr l[i].f1 with
    |false=>rw[if_neg (by decide)];rfl
    |true=>rw[if_pos rfl,wN (by omega),hb k (by omega)];rfl
theorem elem_ev(x:Rw)(M:Nat)(hM:M<1000000000)(hx:SzR M x)(ar:List Bt):∃b,∀k,200 * M+300≤k→bg.f k x.f0 x.f1 x.f2 x.f3 x.f4 ar=some b:=by
 have hn:=hx.name
 have hj:∀c,∃b,∀k,200 * M+300≤k→bg.j0 k c x.f0 x.f1 x.f2 x.f3 x.f4=some b:=by
  intro c;obtain⟨b,hb⟩:=elem_l0 x.f4 M hM hx.few hx.EZ x.f4.length 0 (by omega);have:=hx.few;refine⟨!c&&b,fun k hk=>?_⟩;obtain⟨k,rfl⟩:∃m,k=m+1:=⟨k - 1,by omega⟩
  simp only[bg.j0];cases c with
  |true=>rw[if_pos rfl];rfl
  |false=>rw[if_neg (by decide)];exact hb k (by omega)
 unfold bg.f;refine jB ⟨_,fun k hk=>LZ _ (by omega) k (by omega)⟩ fun b=>kR (jB ⟨_,fun k hk=>gone_f _ k (by omega)⟩ fun b=>kR (hj _) (jB ⟨_,fun k hk=>tu _ (by omega)⟩ fun b=>kR (jB ⟨_,fun k hk=>nested_f _ _ k (by omega)⟩ fun b=>hj _) (hj _))) (hj _)
noncomputable def Ms(x:Rw)(ar:List Bt):Bool:=evB fun k=>bg.f k x.f0 x.f1 x.f2 x.f3 x.f4 ar
theorem elem_f(x:Rw)(M:Nat)(hM:M<1000000000)(hx:SzR M x)(ar:List Bt)(k:Nat)(hk:200 * M+300≤k):bg.f k x.f0 x.f1 x.f2 x.f3 x.f4 ar=some (Ms x ar):=evB_of (elem_ev x M hM hx ar) k hk
theorem NG(y0 y1:Int)(y2 y3:Bt)(l:List S36)(hn:l.length≤6):∀k:Nat,
 (∀d i:Nat,i+d=l.length→d * 9+1≤k→∃b,rows_row.l0 k l (l.length:Int) i y0 y1 y2 y3 l=some b)∧
 (∀d e i j:Nat,∀(a0 a1:Bt),i+d+1=l.length→j+e=i→e+2+d * 9≤k→∃b,rows_row.l1 k l (l.length:Int) i (l.take i) (i:Int) j y0 y1 y2 y3 l a0 a1=some b):=by
 intro k
 induction k with
 |zero=>exact⟨fun d i _ h=>by omega,fun d e i j a0 a1 _ _ h=>by omega⟩
 |succ k ih=>
  refine⟨?_,?_⟩
  ·intro d i hd hk
   cases d with
   |zero=>
    simp only[rows_row.l0];rw[if_neg (by omega)];exact⟨_,rfl⟩
   |succ d=>
    simp only[rows_row.l0];rw[if_pos (by omega),if_pos (by omega),if_pos (by omega),if_pos (by omega),Option.bind_some];have h1:(l.take ((i:Int):Int).toNat)=l.take i:=by rw[Int.toNat_natCast]
    rw[h1];have h2:((l.take i).length:Int)=(i:Int):=by rw[List.length_take];omega
    rw[h2];exact ih.2 d i i 0 _ _ (by omega) (by omega) (by omega)
  ·intro d e i j a0 a1 hd he hk
   cases e with
   |zero=>
    simp only[rows_row.l1];rw[if_neg (by omega),wN (by omega)];exact ih.1 d (i+1) (by omega) (by omega)
   |succ e=>
    simp only[rows_row.l1];rw[if_pos (by omega),if_pos (by omega),if_pos (by rw[List.length_take];omega),wN (by omega)]
    split
    ·exact⟨_,rfl⟩
    ·exact ih.2 d e i (j+1) a0 a1 (by omega) (by omega) (by omega)
theorem JW(x:Rw)(hn:x.f4.length≤6)(c:Bool)(k:Nat)(hk:60≤k):∃b,rows_row.j1 k c x.f0 x.f1 x.f2 x.f3 x.f4=some b∧(b=true→c=false):=by
 obtain⟨k,rfl⟩:∃m,k=m+1:=⟨k - 1,by omega⟩
 simp only[rows_row.j1];cases c with
 |true=>rw[if_pos rfl];exact⟨false,rfl,by decide⟩
 |false=>
  rw[if_neg (by decide)];obtain⟨b,hb⟩:=(NG x.f0 x.f1 x.f2 x.f3 x.f4 hn k).1 x.f4.length 0 (by omega) (by omega);exact⟨b,hb,fun _=>rfl⟩
theorem rows_one(x:Rw)(hn:x.f4.length≤6)(k:Nat)(hk:70≤k):∃b,rows_row.f k x.f0 x.f1 x.f2 x.f3 x.f4=some b∧(b=true→x.f1=0∨x.f1=1∨x.f1=2):=by
 obtain⟨k,rfl⟩:∃m,k=m+1:=⟨k - 1,by omega⟩
 unfold rows_row.f;simp only[rows_row.j0]
 by_cases h1:x.f1=1
 ·simp only[if_pos h1,if_true]
  split
  ·exact⟨_,rfl,fun _=>.inr (.inl h1)⟩
  ·exact⟨_,rfl,fun _=>.inr (.inl h1)⟩
 ·rw[if_neg h1]
  by_cases h2:x.f1=2
  ·rw[if_pos (by simpa using h2)]
   split
   ·exact⟨_,rfl,fun _=>.inr (.inr h2)⟩
   ·exact⟨_,rfl,fun _=>.inr (.inr h2)⟩
  ·rw[if_neg (by simpa using h2)]
   by_cases h0:x.f1=0
   ·rw[if_pos h0]
    split
    ·obtain⟨b,hb,_⟩:=JW x hn true k (by omega)
     exact⟨b,hb,fun _=>.inl h0⟩
    ·obtain⟨b,hb,_⟩:=JW x hn (x.f3.toList !=[]) k (by omega)
     exact⟨b,hb,fun _=>.inl h0⟩
   ·rw[if_neg h0]
    obtain⟨b,hb,hc⟩:=JW x hn true k (by omega);exact⟨b,hb,fun e=>by have:=hc e;cases this⟩
theorem mono_up{α:Type}{f:Nat→Option α}(hm:∀k,LeO (f k) (f (k+1))){n:Nat}{b:α}(h:f n=some b):∀k,n≤k→f k=some b:=by
 intro k hk
 induction k with
 |zero=>rw[show 0=n from by omega];exact h
 |succ k ih=>
  by_cases e:n=k+1
  ·rw[←e];exact h
  ·exact hm k b (ih (by omega))
noncomputable def rowB(x:Rw):Bool:=evB fun k=>rows_row.f k x.f0 x.f1 x.f2 x.f3 x.f4
theorem JX(x:Rw)(hn:x.f4.length≤6):(∀k,70≤k→rows_row.f k x.f0 x.f1 x.f2 x.f3 x.f4=some (rowB x))∧(rowB x=true→x.f1=0∨x.f1=1∨x.f1=2):=by
 obtain⟨b,hb,hk⟩:=rows_one x hn 70 (Nat.le_refl _);have h1:=mono_up (f:=fun k=>rows_row.f k x.f0 x.f1 x.f2 x.f3 x.f4) (rows_row.mono x.f0 x.f1 x.f2 x.f3 x.f4) hb;have h2:=evB_of (n:=70) ⟨b,h1⟩;refine⟨h2,fun e=>hk ?_⟩;have:=h2 70 (Nat.le_refl _);rw[show rowB x=evB fun k=>rows_row.f k x.f0 x.f1 x.f2 x.f3 x.f4 from rfl]at e;rw[e]at this;exact Option.some.inj (hb.symm.trans this)
noncomputable def kM:List Rw→Int→Bool
 | [],_=>true
 |x::r,dp=>if x.f0<0∨dp<x.f0 then false else if rowB x then kM r (if x.f1=0 then x.f0+1 else x.f0)else false
theorem RJ(xs:List Rw)(hl:xs.length<100000)(ha:∀x∈xs,x.f4.length≤6):∀(d i k:Nat) (dp:Int),i+d=xs.length→2 * d+100≤k→0≤dp→dp≤i→dU.l0 k dp xs (xs.length:Int) i=some (kM (xs.drop i) dp):=by
 intro d
 induction d with
 |zero=>
  intro i k dp hi hk h0 hdp;obtain⟨k,rfl⟩:∃m,k=m+1:=⟨k - 1,by omega⟩
  simp only[dU.l0];rw[if_neg (by omega),List.drop_of_length_le (by omega)];rfl
 |succ d ih=>
  intro i k dp hi hk h0 hdp;obtain⟨k,rfl⟩:∃m,k=m+1+1:=⟨k - 2,by omega⟩
  have hlt:i<xs.length:=by omega
  rw[List.drop_eq_getElem_cons hlt];simp only[dU.l0,kM];rw[if_pos (by omega),if_pos (by omega),if_pos (by omega),nH xs i hlt];have hr:=(JX xs[i] (ha _ (List.getElem_mem hlt))).1
  by_cases h1:xs[i].f0<0
  ·rw[if_pos h1,if_pos (.inl h1)]
   simp only[dU.j1,if_true]
  ·rw[if_neg h1]
   by_cases h2:xs[i].f0>dp
   ·rw[if_pos h2,if_pos (.inr h2)]
    simp only[dU.j1,if_true]
   ·rw[if_neg h2,if_neg (by omega),hr (k+1) (by omega),Option.bind_some]
    simp only[dU.j1];cases rowB xs[i]with
    |false=>rw[if_pos (by decide),if_neg (by decide)]
    |true=>
     rw[if_neg (by decide),if_pos rfl]
     by_cases h3:xs[i].f1=0
     ·rw[if_pos h3,if_pos h3,wN (by omega),w64 (by omega) (by omega)]
      exact ih (i+1) k _ (by omega) (by omega) (by omega) (by omega)
     ·rw[if_neg h3,if_neg h3,wN (by omega)]
      exact ih (i+1) k _ (by omega) (by omega) (by omega) (by omega)
theorem rightg_f(xs:List Rw)(hl:xs.length<100000)(ha:∀x∈xs,x.f4.length≤6)(k:Nat)(hk:2 * xs.length+100≤k):dU.f k xs=some (kM xs 0):=by
 unfold dU.f;have:=RJ xs hl ha xs.length 0 k 0 (by omega) hk (by omega) (by omega)
 rwa [List.drop_zero]at this
theorem NH(xs:List Rw)(ha:∀x∈xs,x.f4.length≤6):∀(d i:Nat) (dp:Int),i+d=xs.length→0≤dp→dp≤i→(0<i→dp≤l7 xs (i - 1)+1)→kM (xs.drop i) dp=true→∀j,i≤j→j<xs.length→OkAt xs j:=by
 intro d
 induction d with
 |zero=>intro i dp hi _ _ _ _ j h1 h2;omega
 |succ d ih=>
  intro i dp hi h0 hdp hs h j hij hj;have hlt:i<xs.length:=by omega
  rw[List.drop_eq_getElem_cons hlt]at h;simp only[kM]at h
  by_cases c:xs[i].f0<0∨dp<xs[i].f0
  ·rw[if_pos c]at h;cases h
  ·rw[if_neg c]at h
   by_cases c2:rowB xs[i]=true
   ·rw[if_pos c2]at h
    have hk:=(JX xs[i] (ha _ (List.getElem_mem hlt))).2 c2;have hd:=iI xs i hlt
    have ok:OkAt xs i:=by
     refine⟨by rw[nH xs i hlt];exact hk,by omega,by omega,fun h=>?_⟩;have:=hs h;omega
    by_cases e:j=i
    ·subst e;exact ok
    ·refine ih (i+1) _ (by omega) ?_ ?_ ?_ h j (by omega) hj
     ·split<;>omega
     ·split<;>omega
     ·intro _
      rw[Nat.add_sub_cancel]
      split<;>omega
   ·rw[if_neg c2]at h;cases h
theorem Ct(xs:List Rw)(ha:∀x∈xs,x.f4.length≤6)(h:kM xs 0=true):FJ xs:=fun j hj=>NH xs ha xs.length 0 0 (by omega) (by omega) (by omega) (fun a=>by omega) (by rw[List.drop_zero];exact h) j (Nat.zero_le _) hj
def zy(outs:List Rw):Nat:=match outs.getLast? with|none=>0|some y=>y.f3.size
theorem step_drop(outs:List Rw)(x:Rw)(h:qH outs.getLast? x=true)(hs:zy outs+x.f3.size≤9223372036854775807):∃o,uz outs x=some o∧o.length=outs.length∧zy o≤zy outs+x.f3.size:=by
 unfold uz
 by_cases h1:x.f1=1∧x.f3.data.toList=[]
 ·rw[if_pos h1]
  exact⟨_,rfl,rfl,by omega⟩
 ·rw[if_neg h1]
  have hk:x.f1=1:=by
   by_cases c:x.f1=1
   ·exact c
   ·simp[qH,c]at h
  have hne:x.f3.data.toList≠[]:=fun e=>h1 ⟨hk,e⟩
  have hlen:0<outs.length:=by
   cases outs with
   |nil=>simp[qH,hne]at h
   |cons a l=>simp
  have hL:=JO outs hlen;have hz:zy outs=(au outs ((outs.length:Int) - 1)).f3.size:=by unfold zy;rw[hL]
  rw[hL]at h;simp only[qH,hk,decide_true,Bool.true_and,hne,decide_false,Bool.false_or,Bool.and_eq_true,decide_eq_true_eq]at h;rw[if_pos ⟨hk,hlen,h.1,h.2⟩,if_pos (by omega)];refine⟨_,rfl,by simp,?_⟩
  have:∀(y:Rw),(outs.set (outs.length - 1) y).getLast? =some y:=by
   intro y;rw[List.getLast?_eq_getElem?,List.length_set,List.getElem?_set_self (by omega)]
  unfold zy;rw[this];show(_:Bt).size≤_;rw[ByteArray.size_append,hL];exact Nat.le_refl _
def sumS(xs:List Rw):Nat:=(xs.map fun x=>x.f3.size).sum
theorem FN:∀(xs outs:List Rw),outs.length+xs.length≤1000000→zy outs+sumS xs≤10000000000→
 ∃r,qK outs xs=some r∧r.length≤outs.length+xs.length∧(rT outs.getLast? xs=true→r=outs++xs)∧(rT outs.getLast? xs=false→r.length<outs.length+xs.length)
 | [],outs,h1,h2=>⟨outs,rfl,by simp,fun _=>by simp,fun h=>by simp[rT]at h⟩
 |x::xs,outs,h1,h2=>by
  have hs:sumS (x::xs)=x.f3.size+sumS xs:=by simp[sumS]
  rw[hs]at h2;simp only[List.length_cons]at h1;simp only[qK,rT];cases hd:qH outs.getLast? x with
  |false=>
   rw[Mf outs x hd (by omega),Option.bind_some];have hl2:zy (outs++[x])=x.f3.size:=by unfold zy;rw[Fx]
   obtain⟨r,e,a,b,c⟩:=FN xs (outs++[x]) (by simp;omega) (by rw[hl2];omega);rw[Fx]at b c;simp only[List.length_append,List.length_cons,List.length_nil]at a c;refine⟨r,e,by simp only[List.length_cons];omega,fun h=>?_,fun h=>?_⟩
   ·rw[b (by simpa using h)]
    simp
   ·have:=c (by simpa using h)
    simp only[List.length_cons];omega
  |true=>
   obtain⟨o,e,a,b⟩:=step_drop outs x hd (by omega);rw[e,Option.bind_some];obtain⟨r,e2,a2,-,-⟩:=FN xs o (by omega) (by omega);refine⟨r,e2,by simp only[List.length_cons];omega,fun h=>by simp at h,fun _=>by simp only[List.length_cons];omega⟩
theorem moved_l0(xs:List Rw)(hl:xs.length<1000000)(hd:∀x∈xs,0≤x.f0∧x.f0≤1000000)(ha:∀x∈xs,x.f4.length≤6):∀(d i k:Nat) (acc:List Rw),i+d=xs.length→acc.length=i→d<k→fQ.l0 k 0 acc xs (xs.length:Int) i=some (acc++xs.drop i):=by
 intro d
 induction d with
 |zero=>
  intro i k acc hi hacc hk;obtain⟨k,rfl⟩:∃m,k=m+1:=⟨k - 1,by omega⟩
  simp only[fQ.l0];rw[if_neg (by omega),List.drop_of_length_le (by omega),List.append_nil]
 |succ d ih=>
  intro i k acc hi hacc hk;obtain⟨k,rfl⟩:∃m,k=m+1:=⟨k - 1,by omega⟩
  have hlt:i<xs.length:=by omega
  have h0:=hd xs[i] (List.getElem_mem hlt);have h4:=ha xs[i] (List.getElem_mem hlt);simp only[fQ.l0];rw[if_pos (by omega),if_pos (by omega),if_pos (by omega),nH xs i hlt];unfold rA.f;rw[if_pos (by omega),Option.bind_some,if_pos (by omega),wN (by omega),w64 (by omega) (by omega),Int.add_zero];rw[ih (i+1) k _ (by omega) (by simp[hacc]) (by omega),List.append_assoc,List.drop_eq_getElem_cons hlt];rfl
theorem moved_f(xs:List Rw)(hl:xs.length<1000000)(hd:∀x∈xs,0≤x.f0∧x.f0≤1000000)(ha:∀x∈xs,x.f4.length≤6)(k:Nat)(hk:xs.length<k):fQ.f k xs 0=some xs:=by
 unfold fQ.f;have:=moved_l0 xs hl hd ha xs.length 0 k [] (by omega) rfl hk;simpa using this
theorem norm_f(xs:List Rw)(hl:xs.length<1000000)(hd:∀x∈xs,0≤x.f0∧x.f0≤1000000)(ha:∀x∈xs,x.f4.length≤6)(hs:sumS xs≤10000000000):∃r,iX.f xs=some r∧nu.f r xs=some (rT none xs):=by
 unfold iX.f;rw[moved_f xs hl hd ha _ (by omega),Option.bind_some];obtain⟨r,e,a,b,c⟩:=FN xs [] (by simp;omega) (by simpa [zy]using hs);refine⟨r,e,?_⟩;unfold nu.f
 congr 1
 simp only[List.getLast?_nil,List.length_nil,Nat.zero_add,List.nil_append]at b c;cases h:rT none xs with
 |true=>rw[b h];simp
 |false=>
  refine decide_eq_false (fun e=>?_);have:=congrArg List.length e;simp only[List.length_map]at this;have:=c h;omega
theorem RL(xs:List Rw)(M:Nat)(hM:M<1000000000)(hl:xs.length<100000)(hx:∀x∈xs,SzR M x)(i:Nat)(hi:i<xs.length):∃b,gD.f xs i=some b:=by
 unfold gD.f;rw[dif_pos ⟨by omega,by omega⟩];unfold lW.f;rw[if_pos (by omega),Option.bind_some,NC _ _ (by omega),Option.bind_some,raw_f _ _ (by omega),Option.bind_some,soft_f _ _ (by omega),Option.bind_some];have hk:=DZ xs i;generalize jf xs i=ks at *
 rcases ks with _|⟨k0,_|⟨k1,ks⟩⟩
 ·exact⟨_,rfl⟩
 ·simp only[List.map_cons,List.map_nil,wiF]
  have h0:=hk k0 (by simp)
  split
  ·exact⟨_,rfl⟩
  ·split
   ·exact⟨_,rfl⟩
   ·unfold Kv
    rw[dif_pos ⟨by omega,by omega⟩];have hd:=(hx xs[(k0:Int).toNat] (List.getElem_mem _)).data
    split
    ·split
     ·exact⟨_,rfl⟩
     ·unfold strings_Contains.f strings_HasSuffix.f
      rw[if_pos (by omega),if_pos (by omega),Option.bind_some,Option.bind_some]
      split<;>exact⟨_,rfl⟩
    ·exact⟨_,rfl⟩
 ·simp only[List.map_cons,wiF]
  split
  ·exact⟨_,rfl⟩
  ·split<;>exact⟨_,rfl⟩
def G8(xs:List Rw)(i:Nat):Bool:=(gD.f xs i).getD false
theorem JY(xs:List Rw)(M:Nat)(hM:M<1000000000)(hl:xs.length<100000)(hx:∀x∈xs,SzR M x)(i:Nat)(hi:i<xs.length):gD.f xs i=some (G8 xs i):=by
 obtain⟨b,hb⟩:=RL xs M hM hl hx i hi;unfold G8;rw[hb];rfl
noncomputable def rV(xs:List Rw):List Rw→Nat→List Bt→Bool
 | [],_,_=>true
 |x::r,i,ar=>
  if x.f1=1 then jr x.f3&&rV xs r (i+1) (ar.take x.f0.toNat)
  else if x.f1=2 then C9 x.f3&&rV xs r (i+1) (ar.take x.f0.toNat)
  else Ms x (ar.take x.f0.toNat)&&G8 xs i&&rV xs r (i+1) (ar.take x.f0.toNat++[x.f2])
theorem take_mn{α:Type}(l:List α)(d:Int)(h:0≤d):l.take (mn (l.length:Int) d).toNat=l.take d.toNat:=by
 unfold mn
 split
 ·rfl
 ·rw[Int.toNat_natCast,List.take_of_length_le (Nat.le_refl _),List.take_of_length_le (by omega)]
theorem mn_in(n:Nat)(d:Int)(h:0≤d):0≤mn (n:Int) d∧mn (n:Int) d≤n:=by unfold mn;split<;>omega
theorem leg_l0(xs:List Rw)(M:Nat)(hM:M<1000000000)(hl:xs.length<100000)(hx:∀x∈xs,SzR M x)(hd:∀x∈xs,0≤x.f0∧x.f0≤1000000):∀(d i k:Nat) (ar:List Bt),i+d=xs.length→200 * M+301+d≤k→ar.length≤i→bF.l0 k xs ar xs (xs.length:Int) i=some (rV xs (xs.drop i) i ar):=by
 intro d
 induction d with
 |zero=>
  intro i k ar hi hk har;obtain⟨k,rfl⟩:∃m,k=m+1:=⟨k - 1,by omega⟩
  simp only[bF.l0];rw[if_neg (by omega),List.drop_of_length_le (by omega)];rfl
 |succ d ih=>
  intro i k ar hi hk har;obtain⟨k,rfl⟩:∃m,k=m+1:=⟨k - 1,by omega⟩
  have hlt:i<xs.length:=by omega
  have h0:=hd xs[i] (List.getElem_mem hlt);have hz:=hx xs[i] (List.getElem_mem hlt);have hz3:=hz.data;have hm:=mn_in ar.length xs[i].f0 h0.1;have hal:(ar.take xs[i].f0.toNat).length≤i:=by rw[List.length_take];omega
  rw[List.drop_eq_getElem_cons hlt];simp only[bF.l0,rV];rw[if_pos (by omega),if_pos (by omega),if_pos (by omega),nH xs i hlt,if_pos hm.1,if_pos hm.2,take_mn ar _ h0.1,Option.bind_some,wN (by omega)]
  by_cases h1:xs[i].f1=1
  ·rw[if_pos h1,if_pos h1,tu _ (by omega),Option.bind_some]
   cases jr xs[i].f3 with
   |false=>rw[if_neg (by decide)];rfl
   |true=>rw[if_pos rfl,ih (i+1) k _ (by omega) (by omega) (by omega)];rfl
  ·rw[if_neg h1,if_neg h1]
   by_cases h2:xs[i].f1=2
   ·rw[if_pos h2,if_pos h2,RI _ (by omega),Option.bind_some]
    cases C9 xs[i].f3 with
    |false=>rw[if_neg (by decide)];rfl
    |true=>rw[if_pos rfl,ih (i+1) k _ (by omega) (by omega) (by omega)];rfl
   ·rw[if_neg h2,if_neg h2,elem_f xs[i] M hM hz _ k (by omega),Option.bind_some]
    cases Ms xs[i] (ar.take xs[i].f0.toNat)with
    |false=>rw[if_neg (by decide)];rfl
    |true=>
     rw[if_pos rfl,JY xs M hM hl hx i hlt,Option.bind_some];cases G8 xs i with
     |false=>rw[if_neg (by decide)];rfl
     |true=>rw[if_pos rfl,if_pos (by omega),ih (i+1) k _ (by omega) (by omega) (by simp;omega)];rfl
noncomputable def zZ(xs:List Rw):Bool:=!(decide (4096<xs.length)||xs.any wX)&&kM xs 0&&rT none xs&&rV xs xs 0 []
theorem legal_f(xs:List Rw)(M:Nat)(hM:M<1000000000)(hl:xs.length<100000)(hx:∀x∈xs,SzR M x)(hs:sumS xs≤10000000000)(k:Nat)(hk:200 * M+400+2 * xs.length≤k):bF.f k xs=some (zZ xs):=by
 have ha:∀x∈xs,x.f4.length≤6:=fun x h=>(hx x h).few
 have hj:∀b,bF.j0 k xs b=if b then some false else bF.l0 (k - 1) xs [] xs (xs.length:Int) 0:=by
  intro b;obtain⟨k,rfl⟩:∃m,k=m+1:=⟨k - 1,by omega⟩
  simp only[bF.j0];rfl
 unfold bF.f oo.f zZ qw.f;rw[Option.bind_some];cases hb:(decide (4096<xs.length)||xs.any wX)with
 |true=>rw[if_pos rfl,Option.bind_some,if_neg (by decide),hj];rfl
 |false=>
  rw[if_neg (by decide),rightg_f xs hl ha k (by omega),Option.bind_some];cases hr:kM xs 0 with
  |false=>rw[if_neg (by decide),Option.bind_some,if_neg (by decide),hj];rfl
  |true=>
   rw[if_pos rfl,Option.bind_some,if_pos rfl];have hp:=Ct xs ha hr
   have hd:∀x∈xs,0≤x.f0∧x.f0≤1000000:=by
    intro x hm;obtain⟨j,hj,rfl⟩:=List.getElem_of_mem hm;have h1:=(hp j hj).low;have h2:=(hp j hj).high;rw[iI xs j hj]at h1 h2;omega
   obtain⟨r,e1,e2⟩:=norm_f xs (by omega) hd ha hs;rw[e1,Option.bind_some,e2,Option.bind_some,hj];cases rT none xs with
   |false=>rfl
   |true=>
    have:=leg_l0 xs M hM hl hx hd xs.length 0 (k - 1) [] (by omega) (by omega) (by simp);rw[List.drop_zero]at this;exact this
end Go.Proofs.aj.W7
namespace Go.Proofs.aj.W7
open Go.RowKit Go.Proofs Go.Proofs.aj Go.Proofs.YtkcmghlhpbepcaaGreatDoor Go.Proofs.ah.aD Go.Proofs.YtkcmghlhpbepcaaGreatDoor.Ch
theorem Da(s t:Bt):∀d i,tX s t d i=true→∀j:Nat,i≤j→j<i+d→okC t (bt s (j:Int))=true
 |0,i,h,j,h1,h2=>by omega
 |d+1,i,h,j,h1,h2=>by
  simp only[tX,Bool.and_eq_true]at h
  by_cases e:j=i
  ·subst e;exact h.1
  ·exact Da s t d (i+1) h.2 j (by omega) (by omega)
theorem G9{s t:Bt}(h:ou s t=true):s.data.toList≠[]∧∀c∈s.data.toList,okC t (c.toNat:Int)=true:=by
 unfold ou at h;refine⟨?_,fun c hc=>?_⟩
 ·have:=zT _ _ _ _ h
  rwa [Lib.toList_data]at this
 ·obtain⟨j,hj,e⟩:=bt_mem s c hc
  rw[←e];exact Da s t _ _ h j (Nat.zero_le _) (by omega)
def fineN(c:UInt8):Bool:=!(Go.Proofs.YtkcmghlhpbepcaaGreatDoor.dM c||(decide (65≤c.toNat)&&decide (c.toNat≤90))||c==0||[47,62].contains c)
theorem RP:∀c:UInt8,okC ⟨#[47,62]⟩ (c.toNat:Int)=true→fineN c=true:=by
 intro c h;have:=kZ (p:=fun c=>!okC ⟨#[47,62]⟩ (c.toNat:Int)||fineN c) (by decide +kernel) c;rw[h]at this;exact this
def fineA(c:UInt8):Bool:=!(Go.Proofs.YtkcmghlhpbepcaaGreatDoor.dM c||(decide (65≤c.toNat)&&decide (c.toNat≤90))||c==0||[47,62,34,39,60,61].contains c)
theorem okc_attr:∀c:UInt8,okC ⟨#[47,62,34,39,60,61]⟩ (c.toNat:Int)=true→fineA c=true:=by
 intro c h;have:=kZ (p:=fun c=>!okC ⟨#[47,62,34,39,60,61]⟩ (c.toNat:Int)||fineA c) (by decide +kernel) c;rw[h]at this;exact this
theorem letter_b:∀c:UInt8,Go.Proofs.aj.W7.mh (c.toNat:Int)=true→Go.Proofs.YtkcmghlhpbepcaaGreatDoor.mh c=true:=by
 intro c h;have:=kZ (p:=fun c=>!Go.Proofs.aj.W7.mh (c.toNat:Int)||Go.Proofs.YtkcmghlhpbepcaaGreatDoor.mh c) (by decide +kernel) c;rw[h]at this;exact this
theorem attr_nm{s:Bt}(h:Go.Proofs.aj.W7.wY s=true):rQ s.data.toList:=by
 refine Rp ?_;obtain⟨h1,h2⟩:=G9 h;unfold Go.Proofs.YtkcmghlhpbepcaaGreatDoor.wY Go.Proofs.YtkcmghlhpbepcaaGreatDoor.ou;rw[Bool.and_eq_true,List.all_eq_true];refine⟨fun c hc=>okc_attr c (h2 c hc),?_⟩;simpa using h1
theorem right_nm{s:Bt}(h:Go.Proofs.aj.W7.rR s=true):sZ s.data.toList:=by
 unfold Go.Proofs.aj.W7.rR at h;rw[Bool.and_eq_true]at h;obtain⟨h1,h2⟩:=G9 h.1;refine Ns ?_;unfold Go.Proofs.YtkcmghlhpbepcaaGreatDoor.rR Go.Proofs.YtkcmghlhpbepcaaGreatDoor.ou;rw[Bool.and_eq_true,Bool.and_eq_true,List.all_eq_true];refine⟨⟨fun c hc=>RP c (h2 c hc),by simpa using h1⟩,?_⟩;have hz:s.data.toList.length=s.size:=Array.length_toList;have hp:=List.length_pos_iff.2 h1;have hl:=h.2;rw[show(0:Int)=((0:Nat):Int)from rfl,←jT s ((0:Nat):Int) (by show 0<s.size;omega)]at hl;obtain⟨c,r,e⟩:=List.exists_cons_of_ne_nil h1
 have ec:(s[((0:Nat):Int).toNat]'(by show 0<s.size;omega))=c:=by
  show s.data[0]=c;have:s.data.toList[0]?=some c:=by rw[e];rfl
  rw[Array.getElem?_toList]at this;rw[Array.getElem?_eq_getElem (by show 0<s.data.size;rw[←Array.length_toList];omega)]at this;exact Option.some.inj this
 rw[ec]at hl;rw[e];exact letter_b c hl
theorem J2(chars:List UInt8)(c:UInt8)(hc:c∈chars):∀l:List UInt8,c∈l→0≤Lib.indexAny l chars
 | [],h=>by cases h
 |b::l,h=>by
  unfold Lib.indexAny
  by_cases e:b∈chars
  ·simp[e]
  ·rcases List.mem_cons.1 h with rfl|h
   ·exact absurd hc e
   ·have:=J2 chars c hc l h
    simp[e]
    split<;>omega
theorem vB{s:Bt}(h:jr s=true):Cln s.data.toList:=by
 unfold jr at h;rw[Bool.and_eq_true,Bool.not_eq_true']at h;have h2:=of_decide_eq_false h.2;refine⟨h.1,fun hm=>h2 (J2 _ 0 ?_ _ hm),fun hm=>h2 (J2 _ 13 ?_ _ hm)⟩
 all_goals(show _∈[0,13];simp)
theorem yC{s sub:List UInt8}(hs:sub≠[])(h:Lib.contains s sub=false)(j:Nat):Lib.occAt s sub j=false:=by
 have h2:=of_decide_eq_false h
 rcases Lib.index_spec s sub with⟨h1,h3⟩|⟨j',h1,-⟩
 ·by_cases hj:j≤s.length
  ·exact h3 j hj
  ·show sub.isPrefixOf (s.drop j)=false
   rw[List.drop_eq_nil_of_le (by omega)];cases sub with
   |nil=>exact absurd rfl hs
   |cons a t=>rfl
 ·omega
theorem JI{s:Bt}(h:C9 s=true):Fa s.data.toList∧Cln s.data.toList:=by
 unfold C9 at h;simp only[Bool.and_eq_true,Bool.not_eq_true']at h;obtain⟨⟨⟨⟨h1,h2⟩,h3⟩,h4⟩,h5⟩:=h;exact⟨⟨yC (by simp) h2,yC (by simp) h3,h4,h5⟩,vB h1⟩
theorem raw_ok{nm d:Txt}(h:Lib.contains d [60,47]=false):LM nm d:=by
 intro j hj;cases hc:gN nm (d.drop j)with
 |false=>rfl
 |true=>
  exfalso
  unfold gN at hc
  split at hc
  ·rename_i r e
   have:=yC (by simp) h j
   have h3:Lib.occAt d [60,47] j=true:=by
    show([60,47] :List UInt8).isPrefixOf (d.drop j)=true;rw[e];simp[List.isPrefixOf]
   rw[this]at h3;cases h3
  ·cases hc
theorem soft_t(s:Bt)(k:Nat)(hk:100≤k):kP.f k s=some (Go.Proofs.YtkcmghlhpbepcaaGreatDoor.lu s.data.toList):=by
 unfold kP.f;rw[oV _ _ _ (by simp) (by simp;omega)]
 have e:∀l:List Bt,nP l s=(l.map (fun x=>x.data.toList)).contains s.data.toList:=by
  intro l;unfold nP;rw[List.contains_eq_any_beq,List.any_map]
  congr 1
  funext x
  exact Bool.eq_iff_iff.2 ⟨fun h=>by simpa using(by simpa using h:x.data.toList=s.data.toList).symm,fun h=>by simpa using(by simpa using h:s.data.toList=x.data.toList).symm⟩
 rw[e];rfl
theorem kids_end(xs:List Rw)(i:Nat)(hi:i<xs.length):(jf xs i=[]→gq xs i=i+1)∧(∀k0,jf xs i=[k0]→k0=i+1∧i+1<gq xs i∧gq xs (i+1)=gq xs i):=by
 have hgt:=kW xs i;have hle:=nE xs i hi;rw[yY xs i hi]
 by_cases h:i+1<gq xs i
 ·have hl:i+1<xs.length:=by omega
  rw[pV h hl];refine⟨fun e=>(by cases e),fun k0 e=>?_⟩;obtain⟨e1,e2⟩:=List.cons.inj e;have h3:=DX xs i (i+1) (by omega) h hi;refine⟨e1.symm,h,?_⟩
  by_cases h4:gq xs (i+1)<gq xs i
  ·rw[pV h4 (by omega)]at e2
   cases e2
  ·omega
 ·rw[qA h]
  exact⟨fun _=>by omega,fun k0 e=>by cases e⟩
theorem FU(xs:List Rw)(i:Nat)(hi:i<xs.length)(h:gD.f xs i=some true)(hl:xs.length<100000)(hz:∀x∈xs,x.f3.size<1000000000):
 (kS xs[i].f2=true→gq xs i=i+1)∧((mQ xs[i].f2.data.toList||Go.Proofs.YtkcmghlhpbepcaaGreatDoor.lu xs[i].f2.data.toList)=true→gq xs i=i+1∨
   ∃h1:i+1<xs.length,i+1<gq xs i∧gq xs (i+1)=gq xs i∧xs[i+1].f1=1∧(mQ xs[i].f2.data.toList=true→Lib.contains xs[i+1].f3.data.toList [60,47]=false)):=by
 unfold gD.f at h;rw[dif_pos ⟨by omega,by omega⟩]at h;unfold lW.f at h;rw[if_pos (by omega),Option.bind_some,NC _ _ (by omega),Option.bind_some,raw_f _ _ (by omega),Option.bind_some,soft_t _ _ (by omega),Option.bind_some,FI,Qw]at h;simp only[Int.toNat_natCast]at h;obtain⟨k1,k2⟩:=kids_end xs i hi;have hlt:=DZ xs i;generalize jf xs i=ks at *
 rcases ks with _|⟨k0,_|⟨k3,ks⟩⟩
 ·exact⟨fun _=>k1 rfl,fun _=>.inl (k1 rfl)⟩
 ·obtain⟨rfl,b1,b2⟩:=k2 k0 rfl
  have h1:i+1<xs.length:=hlt (i+1) (by simp);simp only[List.map_cons,List.map_nil,wiF]at h;cases hv:kS xs[i].f2 with
  |true=>rw[hv]at h;simp at h
  |false=>
   rw[hv,if_neg (by decide)]at h;refine⟨fun e=>(by cases e),fun hrs=>.inr ⟨h1,b1,b2,?_⟩⟩;rw[hrs,if_neg (by decide)]at h;unfold Kv at h;rw[dif_pos ⟨by omega,by omega⟩]at h;have e:xs[((i+1:Nat):Int).toNat]'(by rw[Int.toNat_natCast];exact h1)=xs[i+1]:=rfl;simp only[e]at h
   by_cases hk:xs[i+1].f1=1
   ·refine⟨hk,fun hr=>?_⟩
    have hs:Go.Proofs.YtkcmghlhpbepcaaGreatDoor.lu xs[i].f2.data.toList=false:=(LP hr).2;rw[if_pos hk,hs,if_neg (by decide)]at h;unfold strings_Contains.f at h;have hz1:=hz _ (List.getElem_mem h1);rw[if_pos (by omega),Option.bind_some]at h;cases hc:Lib.contains xs[i+1].f3.data.toList [60,47]with
    |false=>rfl
    |true=>
     have e2:Lib.contains xs[i+1].f3.data.toList (⟨#[60,47]⟩:Bt).data.toList=true:=hc;rw[e2]at h;simp at h
   ·rw[if_neg hk]at h
    cases h
 ·simp only[List.map_cons,wiF]at h
  cases hv:kS xs[i].f2 with
  |true=>rw[hv]at h;simp at h
  |false=>
   rw[hv,if_neg (by decide)]at h;refine⟨fun e=>(by cases e),fun hrs=>?_⟩;rw[hrs,if_neg (by decide)]at h;cases h
end Go.Proofs.aj.W7
