/- Lemmas and walks, part 45. -/
import Derived.Test.YtkcmghlhpbepcaaGreatDoorNB44
import Derived.Test.YtkcmghlhpbepcaaGreatDoorRows
import Derived.ProofKit
import Derived.OpenShut
set_option linter.unusedVariables false
set_option linter.unusedSimpArgs false
namespace Go.Proofs.aj.W7
open Go.RowKit Go.Proofs Go.Proofs.aj Go.Proofs.YtkcmghlhpbepcaaGreatDoor Go.Proofs.ah.aD Go.Proofs.YtkcmghlhpbepcaaGreatDoor.Ch
theorem row_dist(l:List At)(hl:l.length≤1000000)(y0 y1:Int)(y2 y3:Bt):∀k:Nat,
 (∀i:Nat,i≤l.length→rows_row.l0 k l (l.length:Int) (i:Int) y0 y1 y2 y3 l=some true→∀i' j':Nat,(h1:i'<l.length)→(h2:j'<i')→i≤i'→l[i'].f0.toList≠(l[j']'(by omega)).f0.toList)∧
 (∀i j:Nat,(hi:i<l.length)→j≤i→∀a1:Bt,rows_row.l1 k l (l.length:Int) (i:Int) (l.take i) (i:Int) (j:Int) y0 y1 y2 y3 l l[i].f0 a1=some true→
   (∀j':Nat,j≤j'→(h2:j'<i)→l[i].f0.toList≠(l[j']'(by omega)).f0.toList)∧∀i' j':Nat,(h1:i'<l.length)→(h2:j'<i')→i+1≤i'→l[i'].f0.toList≠(l[j']'(by omega)).f0.toList):=by
 intro k
 induction k with
 |zero=>exact⟨fun i _ h=>by simp[rows_row.l0]at h,fun i j _ _ a h=>by simp[rows_row.l1]at h⟩
 |succ k ih=>
  obtain⟨ih0,ih1⟩:=ih;refine⟨fun i hi h=>?_,fun i j hi hj a h=>?_⟩
  ·simp only[rows_row.l0]at h
   by_cases hlt:i<l.length
   ·rw[if_pos (by omega),if_pos (by omega),if_pos (by omega),if_pos (by omega),Option.bind_some,Int.toNat_natCast,zQ9 l i hlt,show((l.take i).length:Int)=(i:Int)from by rw[List.length_take];omega]at h
    obtain⟨p1,p2⟩:=ih1 i 0 hlt (Nat.zero_le _) _ h;intro i' j' h1 h2 h3
    by_cases e:i'=i
    ·subst e;exact p1 j' (Nat.zero_le _) h2
    ·exact p2 i' j' h1 h2 (by omega)
   ·intro i' j' h1 h2 h3
    omega
  ·simp only[rows_row.l1]at h
   by_cases hlt:j<i
   ·have hjt:j<(l.take i).length:=by rw[List.length_take];omega
    rw[if_pos (by omega),if_pos (by omega),if_pos (by omega),zQ9 (l.take i) j hjt]at h
    by_cases e:l[i].f0.toList=((l.take i)[j]).f0.toList
    ·rw[if_pos e]at h;cases h
    ·rw[if_neg e,show wrap64 ((j:Int)+1)=((j+1:Nat):Int)from by unfold wrap64;omega]at h
     obtain⟨p1,p2⟩:=ih1 i (j+1) hi (by omega) a h;refine⟨fun j' h1 h2=>?_,p2⟩
     by_cases e2:j'=j
     ·subst e2
      rw[List.getElem_take]at e;exact e
     ·exact p1 j' (by omega) h2
   ·rw[if_neg (by omega),show wrap64 ((i:Int)+1)=((i+1:Nat):Int)from by unfold wrap64;omega]at h
    exact⟨fun j' h1 h2=>by omega,ih0 (i+1) (by omega) h⟩
theorem row_okk(x:Rw)(hl:x.f4.length≤1000000)(k:Nat)(h:rows_row.f k x.f0 x.f1 x.f2 x.f3 x.f4=some true):Mi x:=by
 have hj0t:∀k,rows_row.j0 k true x.f0 x.f1 x.f2 x.f3 x.f4=some true→x.f2.data.toList=[]∧x.f4=[]:=by
  intro k h;cases k with
  |zero=>simp[rows_row.j0]at h
  |succ k=>
   simp only[rows_row.j0]at h;rw[if_pos trivial]at h
   by_cases e:x.f2.toList=[]
   ·rw[if_pos e]at h
    rw[Lib.toList_data]at e;refine⟨e,?_⟩;have:=Option.some.inj h;simpa using this
   ·rw[if_neg e]at h;cases h
 have hj1:∀k b,rows_row.j1 k b x.f0 x.f1 x.f2 x.f3 x.f4=some true→b=false∧distinct x.f4:=by
  intro k b h;cases k with
  |zero=>simp[rows_row.j1]at h
  |succ k=>
   simp only[rows_row.j1]at h;cases b with
   |true=>rw[if_pos rfl]at h;cases h
   |false=>
    rw[if_neg (by decide)]at h;have:=(row_dist x.f4 hl x.f0 x.f1 x.f2 x.f3 k).1 0 (Nat.zero_le _) h;refine⟨rfl,fun i j hi hj e=>?_⟩
    rcases Nat.lt_trichotomy i j with h1|h1|h1
    ·exact absurd e.symm (this j i hj h1 (Nat.zero_le _))
    ·exact h1
    ·exact absurd e (this i j hi h1 (Nat.zero_le _))
 unfold rows_row.f at h
 by_cases k1:x.f1=1
 ·rw[if_pos k1]at h
  obtain⟨a,b⟩:=hj0t _ h;exact⟨.inr (.inl k1),fun e=>by omega,fun _=>⟨a,b⟩⟩
 ·rw[if_neg k1]at h
  by_cases k2:x.f1=2
  ·rw[show(x.f1==2)=true from beq_iff_eq.2 k2]at h
   obtain⟨a,b⟩:=hj0t _ h;exact⟨.inr (.inr k2),fun e=>by omega,fun _=>⟨a,b⟩⟩
  ·rw[show(x.f1==2)=false from beq_eq_false_iff_ne.2 k2]at h
   cases k with
   |zero=>simp[rows_row.j0]at h
   |succ k=>
    simp only[rows_row.j0]at h;rw[if_neg (by decide)]at h
    by_cases k0:x.f1=0
    ·rw[if_pos k0]at h
     by_cases e:x.f2.toList=[]
     ·rw[if_pos e]at h
      have:=(hj1 _ _ h).1;cases this
     ·rw[if_neg e]at h
      obtain⟨a,b⟩:=hj1 _ _ h;rw[Lib.toList_data]at e a;refine⟨.inl k0,fun _=>⟨e,?_,b⟩,fun e2=>absurd k0 e2⟩;simpa using a
    ·rw[if_neg k0]at h
     have:=(hj1 _ _ h).1;cases this
end Go.Proofs.aj.W7
namespace Go.Proofs.aj.W7
open Go.RowKit Go.Proofs Go.Proofs.aj Go.Proofs.YtkcmghlhpbepcaaGreatDoor Go.Proofs.ah.aD
theorem QE:∀(l out:List At),distinct (out++l)→xK out l=out++l
 | [],out,_=>by rw[xK,List.append_nil]
 |a::r,out,h=>by
  have hn:Eh out a=false:=by
   cases e:Eh out a with
   |false=>rfl
   |true=>
    exfalso
    unfold Eh at e;obtain⟨b,hb,hb2⟩:=List.any_eq_true.1 e;obtain⟨i,hi,rfl⟩:=List.getElem_of_mem hb;have hl:(out++a::r).length=out.length+(r.length+1):=by simp
    have:=h out.length i (by omega) (by omega) (by
     rw[List.getElem_append_left hi];have e1:(out++a::r)[out.length]'(by omega)=a:=by simp
     rw[e1];exact(eqN_iff _ _).1 hb2)
    omega
  rw[xK,hn,if_neg (by decide),QE r (out++[a]) (by rw[List.append_assoc];exact h),List.append_assoc];rfl
theorem once_all{l:List At}(h:distinct l):uq l=l:=QE l [] h
theorem Mt{l:List At}(h:distinct l):((l.map rE).map Prod.fst).Nodup:=by
 rw[List.map_map];refine List.pairwise_iff_getElem.2 fun i j hi hj hij e=>?_
 rw[List.length_map]at hi hj;rw[List.getElem_map,List.getElem_map]at e;have e2:l[i].f0.data.toList=l[j].f0.data.toList:=e;have:=h i j hi hj (by rw[Lib.toList_data,Lib.toList_data];exact e2);omega
end Go.Proofs.aj.W7
namespace Go.Proofs.aj.W7
open Go.RowKit Go.Proofs Go.Proofs.aj Go.Proofs.YtkcmghlhpbepcaaGreatDoor Go.Proofs.ah.aD Go.Proofs.YtkcmghlhpbepcaaGreatDoor.Ch
theorem RO(l:List At)(M:Nat)(hM:M<1000000000)(hl:l.length≤6)(ha:∀a∈l,a.f0.size≤M∧a.f1.size≤M):∀d i k:Nat,i+d=l.length→200 * M+2+d≤k→bg.l0 k l (l.length:Int) (i:Int)=some true→
 ∀j:Nat,i≤j→(hj:j<l.length)→wY l[j].f0=true∧jr l[j].f0=true∧jr l[j].f1=true:=by
 intro d
 induction d with
 |zero=>intro i k hi hk h j h1 h2;omega
 |succ d ih=>
  intro i k hi hk h;have hlt:i<l.length:=by omega
  have hm:=ha l[i] (List.getElem_mem hlt);obtain⟨k,rfl⟩:∃m,k=m+1:=⟨k - 1,by omega⟩
  simp only[bg.l0]at h;rw[if_pos (by omega),if_pos (by omega),if_pos (by omega),zQ9 l i hlt,Qy _ (by omega) k (by omega),Option.bind_some]at h;cases h1:wY l[i].f0 with
  |false=>rw[h1,if_neg (by decide)]at h;cases h
  |true=>
   rw[h1,if_pos rfl,tu _ (by omega),Option.bind_some]at h;cases h2:jr l[i].f0 with
   |false=>rw[h2,if_neg (by decide)]at h;cases h
   |true=>
    rw[h2,if_pos rfl,tu _ (by omega),Option.bind_some]at h;cases h3:jr l[i].f1 with
    |false=>rw[h3,if_neg (by decide)]at h;cases h
    |true=>
     rw[h3,if_pos rfl,wN (by omega)]at h;intro j h4 h5
     by_cases e:j=i
     ·subst e;exact⟨h1,h2,h3⟩
     ·exact ih (i+1) k (by omega) (by omega) h j (by omega) h5
theorem FR(x:Rw)(M:Nat)(hM:M<1000000000)(hx:SzR M x)(ar:List Bt)(h:Ms x ar=true):
 rR x.f2=true∧qh x.f2=false∧jr x.f2=true∧yu x.f2 ar=true∧∀a∈x.f4,wY a.f0=true∧jr a.f0=true∧jr a.f1=true:=by
 have hn:=hx.name;have hf:=elem_f x M hM hx ar (200 * M+400) (by omega);rw[h]at hf
 have hj:∀c,bg.j0 (200 * M+400) c x.f0 x.f1 x.f2 x.f3 x.f4=some true→c=false∧∀a∈x.f4,wY a.f0=true∧jr a.f0=true∧jr a.f1=true:=by
  intro c hc;have e:200 * M+400=(200 * M+399)+1:=by omega
  rw[e]at hc;simp only[bg.j0]at hc;cases c with
  |true=>rw[if_pos rfl]at hc;cases hc
  |false=>
   rw[if_neg (by decide)]at hc;have hfew:=hx.few;have:=RO x.f4 M hM hx.few hx.EZ x.f4.length 0 _ (by omega) (by omega) hc;refine⟨rfl,fun a ha=>?_⟩;obtain⟨j,hj,rfl⟩:=List.getElem_of_mem ha;exact this j (Nat.zero_le _) hj
 unfold bg.f at hf;rw[LZ _ (by omega) _ (by omega),Option.bind_some]at hf;cases h1:rR x.f2 with
 |false=>rw[h1,if_neg (by decide)]at hf;have:=(hj _ hf).1;cases this
 |true=>
  rw[h1,if_pos rfl,JQ _ _ (by omega),←goneL_eq,Option.bind_some]at hf;cases h2:qh x.f2 with
  |true=>rw[h2,if_pos rfl]at hf;have:=(hj _ hf).1;cases this
  |false=>
   rw[h2,if_neg (by decide),tu _ (by omega),Option.bind_some]at hf;cases h3:jr x.f2 with
   |false=>rw[h3,if_neg (by decide)]at hf;have:=(hj _ hf).1;cases this
   |true=>
    rw[h3,if_pos rfl,Nv _ _ _ (by omega),Option.bind_some]at hf;obtain⟨a,b⟩:=hj _ hf;refine⟨rfl,rfl,rfl,?_,b⟩;simpa using a
theorem pY{x:Rw}{r:List Rw}{dp:Int}(h:kM (x::r) dp=true):0≤x.f0∧x.f0≤dp∧rowB x=true∧kM r (if x.f1=0 then x.f0+1 else x.f0)=true:=by
 simp only[kM]at h
 by_cases c:x.f0<0∨dp<x.f0
 ·rw[if_pos c]at h;cases h
 ·rw[if_neg c]at h
  cases hb:rowB x with
  |false=>rw[hb]at h;simp at h
  |true=>
   rw[hb,if_pos rfl]at h;exact⟨by omega,by omega,rfl,h⟩
theorem Bw{xs:List Rw}(h:kM xs 0=true):∀i:Nat,∃dp,kM (xs.drop i) dp=true
 |0=>⟨0,by simpa using h⟩
 |i+1=>by
  obtain⟨dp,hd⟩:=Bw h i
  by_cases hi:i<xs.length
  ·rw[List.drop_eq_getElem_cons hi]at hd
   exact⟨_,(pY hd).2.2.2⟩
  ·rw[List.drop_eq_nil_of_le (by omega)]
   exact⟨0,rfl⟩
theorem FT{xs:List Rw}{x:Rw}{r:List Rw}{i:Nat}{ar:List Bt}(h:rV xs (x::r) i ar=true):
 (x.f1=1→jr x.f3=true∧rV xs r (i+1) (ar.take x.f0.toNat)=true)∧(x.f1=2→C9 x.f3=true∧rV xs r (i+1) (ar.take x.f0.toNat)=true)∧
 (x.f1=0→Ms x (ar.take x.f0.toNat)=true∧G8 xs i=true∧rV xs r (i+1) (ar.take x.f0.toNat++[x.f2])=true):=by
 simp only[rV]at h;refine⟨fun k=>?_,fun k=>?_,fun k=>?_⟩
 ·rw[if_pos k,Bool.and_eq_true]at h
  exact h
 ·rw[if_neg (by omega),if_pos k,Bool.and_eq_true]at h
  exact h
 ·rw[if_neg (by omega),if_neg (by omega),Bool.and_eq_true,Bool.and_eq_true]at h
  exact⟨h.1.1,h.1.2,h.2⟩
theorem leg_at{xs:List Rw}(hk:∀x∈xs,x.f1=0∨x.f1=1∨x.f1=2)(h:rV xs xs 0 []=true):∀i:Nat,∃ar,rV xs (xs.drop i) i ar=true
 |0=>⟨[],by simpa using h⟩
 |i+1=>by
  obtain⟨ar,hd⟩:=leg_at hk h i
  by_cases hi:i<xs.length
  ·rw[List.drop_eq_getElem_cons hi]at hd
   obtain⟨a,b,c⟩:=FT hd
   rcases hk _ (List.getElem_mem hi)with k|k|k
   ·exact⟨_,(c k).2.2⟩
   ·exact⟨_,(a k).2⟩
   ·exact⟨_,(b k).2⟩
  ·rw[List.drop_eq_nil_of_le (by omega)]
   exact⟨[],rfl⟩
theorem Mw{s:Bt}(h:s.data.toList=[]):s=⟨#[]⟩:=by
 have e:s=⟨s.data.toList.toArray⟩:=by cases s;simp
 rw[e,h]
theorem Mx(xs:List Rw)(h:∀m,(hm:m<xs.length)→yT xs[m] (xs.drop (m+1))):∀d i,xs.length - i≤d→vv (xs.drop i):=by
 intro d
 induction d with
 |zero=>intro i hi;rw[List.drop_eq_nil_of_le (by omega)];trivial
 |succ d ih=>
  intro i hi
  by_cases hl:i<xs.length
  ·rw[List.drop_eq_getElem_cons hl]
   exact⟨h i hl,ih (i+1) (by omega)⟩
  ·rw[List.drop_eq_nil_of_le (by omega)];trivial
structure Bz (xs:List Rw) (M:Nat):Prop where
 ok:∀x∈xs,Mi x
 el:∀i,(hi:i<xs.length)→xs[i].f1=0→(∃ar,rR xs[i].f2=true∧qh xs[i].f2=false∧jr xs[i].f2=true∧yu xs[i].f2 ar=true∧∀a∈xs[i].f4,wY a.f0=true∧jr a.f0=true∧jr a.f1=true)∧G8 xs i=true
 text:∀i,(hi:i<xs.length)→xs[i].f1=1→jr xs[i].f3=true
 note:∀i,(hi:i<xs.length)→xs[i].f1=2→C9 xs[i].f3=true
theorem facts_of(xs:List Rw)(M:Nat)(hM:M<1000000000)(hx:∀x∈xs,SzR M x)(hr:kM xs 0=true)(hl:rV xs xs 0 []=true):Bz xs M:=by
 have hok:∀x∈xs,Mi x:=by
  intro x hm;obtain⟨i,hi,rfl⟩:=List.getElem_of_mem hm;obtain⟨dp,hd⟩:=Bw hr i;rw[List.drop_eq_getElem_cons hi]at hd;have hb:=(pY hd).2.2.1;have hf:=(hx _ hm).few;have:=(JX xs[i] hf).1 70 (Nat.le_refl _);rw[hb]at this;exact row_okk _ (by omega) 70 this
 have hat:=leg_at (fun x hm=>(hok x hm).kind) hl;refine⟨hok,fun i hi k=>?_,fun i hi k=>?_,fun i hi k=>?_⟩
 all_goals
  obtain⟨ar,ha⟩:=hat i;rw[List.drop_eq_getElem_cons hi]at ha;obtain⟨a,b,c⟩:=FT ha
 ·exact⟨⟨_,FR _ M hM (hx _ (List.getElem_mem hi)) _ (c k).1⟩,(c k).2.1⟩
 ·exact(a k).1
 ·exact(b k).1
theorem cln_of{xs:List Rw}{M:Nat}(h:Bz xs M):∀x∈xs,JZ x:=by
 intro x hm;obtain⟨i,hi,rfl⟩:=List.getElem_of_mem hm;have hok:=h.ok _ hm
 rcases hok.kind with k|k|k
 ·obtain⟨⟨ar,a1,a2,a3,a4,a5⟩,-⟩:=h.el i hi k
  refine⟨vB a3,by rw[(hok.el k).2.1];exact nG,fun a ha=>⟨vB (a5 a ha).2.1,vB (a5 a ha).2.2⟩⟩
 ·have e:=hok.no (by omega)
  refine⟨by rw[e.1];exact nG,vB (h.text i hi k),by rw[e.2];simp⟩
 ·have e:=hok.no (by omega)
  refine⟨by rw[e.1];exact nG,(JI (h.note i hi k)).2,by rw[e.2];simp⟩
theorem void_raw{s:Bt}(h:kS s=true):(mQ s.data.toList||Go.Proofs.YtkcmghlhpbepcaaGreatDoor.lu s.data.toList)=false:=by
 rw[Mh]at h;unfold nP at h;obtain⟨v,hv,e⟩:=List.any_eq_true.1 h;rw[←beq_iff_eq.1 e];have hall:∀v∈voidT,(mQ v.data.toList||Go.Proofs.YtkcmghlhpbepcaaGreatDoor.lu v.data.toList)=false:=by decide
 exact hall v hv
theorem good_of{xs:List Rw}{M:Nat}(hM:M<1000000000)(hz:xs.length<100000)(hx:∀x∈xs,SzR M x)(hr:kM xs 0=true)(h:Bz xs M):∀m,(hm:m<xs.length)→yT xs[m] (xs.drop (m+1)):=by
 intro i hi;have hP:=Ct xs (fun x hm=>(hx x hm).few) hr;have hok:=h.ok _ (List.getElem_mem hi);refine⟨fun k=>?_,fun k=>(JI (h.note i hi k)).1,fun k hrs=>?_⟩
 ·obtain⟨⟨ar,a1,a2,a3,a4,a5⟩,-⟩:=h.el i hi k
  refine⟨right_nm a1,fun a ha=>?_,Mt (hok.el k).2.2⟩;obtain⟨y,hy,rfl⟩:=List.mem_map.1 ha;exact attr_nm (a5 y hy).1
 ·obtain⟨-,hw⟩:=h.el i hi k
  have hwf:=JY xs M hM hz hx i hi;rw[hw]at hwf;obtain⟨w1,w2⟩:=FU xs i hi hwf hz (fun x hm=>by have:=(hx x hm).data;omega)
  have hshut:gq xs i=i+1→Shut xs[i].f0 (xs.drop (i+1)):=by
   intro e
   by_cases hl:i+1<xs.length
   ·rw[List.drop_eq_getElem_cons hl]
    have a:=at_end xs i (by omega);rw[iI xs i hi,iI xs _ (by omega)]at a;have e2:xs[gq xs i]'(by omega)=xs[i+1]:=by congr 1
    rw[e2]at a;exact a
   ·rw[List.drop_eq_nil_of_le (by omega)];trivial
  have hnv:kS xs[i].f2=false:=by
   cases hv:kS xs[i].f2 with
   |false=>rfl
   |true=>
    exfalso
    rw[void_raw hv]at hrs;cases hrs
  refine⟨hnv,?_⟩
  rcases w2 hrs with e|⟨h1,b1,b2,b3,b4⟩
  ·exact .inl (hshut e)
  ·refine .inr ⟨xs[i+1],xs.drop (i+2),List.drop_eq_getElem_cons h1,b3,?_,fun hraw=>raw_ok (b4 hraw),?_⟩
   ·have g1:=Br xs i (i+1) (by omega) b1 h1
    have g2:=(hP (i+1) h1).step (by omega);rw[iI xs i hi,iI xs _ h1]at g1;rw[show i+1 - 1=i from rfl,iI xs i hi,iI xs _ h1]at g2;omega
   ·have he:gq xs i=i+2:=by
     have hgt:=kW xs (i+1)
     by_cases hl:i+2<gq xs i
     ·exfalso
      have hle:=nE xs i hi;have g1:=Br xs (i+1) (i+2) (by omega) (by omega) (by omega);rw[iI xs _ h1,iI xs _ (by omega)]at g1;obtain⟨dp,hd⟩:=Bw hr (i+1);rw[List.drop_eq_getElem_cons h1]at hd;have hd2:=(pY hd).2.2.2;rw[List.drop_eq_getElem_cons (by omega),if_neg (by omega)]at hd2;have e4:xs[i+2].f0≤xs[i+1].f0:=(pY hd2).2.1;omega
     ·omega
    by_cases hl:i+2<xs.length
    ·rw[List.drop_eq_getElem_cons hl]
     have a:=at_end xs i (by omega);rw[iI xs i hi,iI xs _ (by omega)]at a;have e2:xs[gq xs i]'(by omega)=xs[i+2]:=by congr 1
     rw[e2]at a;exact a
    ·rw[List.drop_eq_nil_of_le (by omega)];trivial
theorem fit_of(xs:List Rw)(M:Nat)(hM:M<1000000000)(hz:xs.length≤4096)(hx:∀x∈xs,SzR M x)(GX:∀x∈xs,x.f0<60)(hF:Bz xs M):
 ∀(d i:Nat) (op ar:List Bt) (dp:Int),i+d=xs.length→kM (xs.drop i) dp=true→rV xs (xs.drop i) i ar=true→rT (xs.take i).getLast? (xs.drop i)=true→(ar.length:Int)=dp→
  (∀hi:i<xs.length,0≤xs[i].f0→xs[i].f0≤ar.length→xs[i].f0≤op.length∧ar.take xs[i].f0.toNat=op.take xs[i].f0.toNat)→RowsFit (xs.drop i) op (xs.take i):=by
 intro d
 induction d with
 |zero=>
  intro i op ar dp hi _ _ _ _ _;rw[List.drop_eq_nil_of_le (by omega)]
  trivial
 |succ d ih=>
  intro i op ar dp hd hr hl hn ha hop;have hi:i<xs.length:=by omega
  rw[List.drop_eq_getElem_cons hi]at hr hl hn⊢;obtain⟨r1,r2,r3,r4⟩:=pY hr;obtain⟨l1,l2,l3⟩:=FT hl;simp only[rT,Bool.and_eq_true,Bool.not_eq_true']at hn;obtain⟨n1,n2⟩:=hn;obtain⟨o1,o2⟩:=hop hi r1 (by omega);have hok:=hF.ok _ (List.getElem_mem hi);have hlen:(op.take xs[i].f0.toNat).length=xs[i].f0.toNat:=by rw[List.length_take];omega
  have hti:(xs.take i).length=i:=by rw[List.length_take];omega
  have htk:xs.take (i+1)=xs.take i++[xs[i]]:=by rw[List.take_add_one,List.getElem?_eq_getElem hi];rfl
  have hfit:JU xs[i] op (xs.take i):=by
   refine⟨r1,o1,GX _ (List.getElem_mem hi),by rw[hti];omega,hok.kind,fun k=>?_,fun k=>?_,fun k=>?_⟩
   ·obtain⟨q1,q2,q3⟩:=l3 k
    obtain⟨f1,f2,f3,f4,f5⟩:=FR _ M hM (hx _ (List.getElem_mem hi)) _ q1;obtain⟨e1,e2,e3⟩:=hok.el k;rw[o2]at f4;exact⟨e1,f2,f4,Mw e2,once_all e3⟩
   ·obtain⟨e1,e2⟩:=hok.no k
    exact⟨Mw e1,e2⟩
   ·unfold qH at n1
    rw[decide_eq_true k,Bool.true_and,Bool.or_eq_false_iff]at n1;refine⟨of_decide_eq_false n1.1,?_⟩;have h2:=n1.2;unfold wW;cases hg:(xs.take i).getLast? with
    |none=>rfl
    |some y=>
     rw[hg]at h2;rw[hlen,show((xs[i].f0.toNat:Nat):Int)=xs[i].f0 from by omega];exact h2
  refine⟨hfit,?_⟩;rw[←htk]
  have hn2:rT (xs.take (i+1)).getLast? (xs.drop (i+1))=true:=by
   rw[htk,List.getLast?_append,List.getLast?_singleton];exact n2
  rcases hok.kind with k|k|k
  ·obtain⟨q1,q2,q3⟩:=l3 k
   rw[if_pos k]at r4;refine ih (i+1) _ (ar.take xs[i].f0.toNat++[xs[i].f2]) (xs[i].f0+1) (by omega) r4 q3 hn2 (by rw[o2,List.length_append,hlen];simp;omega) (fun hi2 z1 z2=>?_);rw[o2]at z2⊢;cases hv:kS xs[i].f2 with
   |false=>
    have eo:opA (op.take xs[i].f0.toNat) xs[i]=op.take xs[i].f0.toNat++[xs[i].f2]:=by unfold opA;rw[if_pos ⟨k,hv⟩]
    rw[eo];exact⟨z2,rfl⟩
   |true=>
    have eo:opA (op.take xs[i].f0.toNat) xs[i]=op.take xs[i].f0.toNat:=by unfold opA;rw[if_neg (by rw[hv];simp)]
    have hwf:=JY xs M hM (by omega) hx i hi;rw[q2]at hwf;have he:=(FU xs i hi hwf (by omega) (fun x hm=>by have:=(hx x hm).data;omega)).1 hv;have a:=at_end xs i (by omega);rw[iI xs i hi,iI xs _ (by omega)]at a;have e2:xs[gq xs i]'(by omega)=xs[i+1]:=by congr 1
    rw[e2]at a;rw[eo];exact⟨by rw[hlen];omega,List.take_append_of_le_length (by rw[hlen];omega)⟩
  ·rw[if_neg (by omega)]at r4
   have eo:opA (op.take xs[i].f0.toNat) xs[i]=op.take xs[i].f0.toNat:=by unfold opA;rw[if_neg (by omega)]
   rw[eo];refine ih (i+1) _ (ar.take xs[i].f0.toNat) xs[i].f0 (by omega) r4 (l1 k).2 hn2 (by rw[o2,hlen];omega) (fun hi2 z1 z2=>?_);rw[o2]at z2⊢;exact⟨z2,rfl⟩
  ·rw[if_neg (by omega)]at r4
   have eo:opA (op.take xs[i].f0.toNat) xs[i]=op.take xs[i].f0.toNat:=by unfold opA;rw[if_neg (by omega)]
   rw[eo];refine ih (i+1) _ (ar.take xs[i].f0.toNat) xs[i].f0 (by omega) r4 (l2 k).2 hn2 (by rw[o2,hlen];omega) (fun hi2 z1 z2=>?_);rw[o2]at z2⊢;exact⟨z2,rfl⟩
theorem NI(xs:List Rw)(M:Nat)(hM:M<1000000000)(hx:∀x∈xs,SzR M x)(hb:xs.length * M≤1000000000)(h:zZ xs=true)(s:Bt)(hs:s.data.toList=(jf xs (-1)).flatMap (nL xs xs.length false))(hz:s.size≤65536):
 iK.f s=some (xs,0):=by
 unfold zZ at h;simp only[Bool.and_eq_true,Bool.not_eq_true',Bool.or_eq_false_iff,decide_eq_false_iff_not]at h;obtain⟨⟨⟨⟨h1,h2⟩,h3⟩,h4⟩,h5⟩:=h
 have GX:∀x∈xs,x.f0<60:=by
  intro x hm;have:=List.any_eq_false.1 h2 x hm;unfold wX at this;simp at this;omega
 have hF:=facts_of xs M hM hx h3 h5;have hfit:=fit_of xs M hM (by omega) hx GX hF xs.length 0 [] [] 0 (by omega) (by simpa using h3) (by simpa using h5) (by simpa using h4) rfl (fun hi a b=>⟨b,rfl⟩);rw[List.drop_zero,List.take_zero]at hfit;have hgood:=good_of hM (by omega) hx h3 hF;have hk:∀m,(hm:m<xs.length)→xs[m].f1=0∨xs[m].f1=1∨xs[m].f1=2:=fun m hm=>(hF.ok _ (List.getElem_mem hm)).kind
 have h0:∀m,(hm:m<xs.length)→0≤xs[m].f0:=by
  intro m hm;obtain⟨dp,hd⟩:=Bw h3 m;rw[List.drop_eq_getElem_cons hm]at hd;exact(pY hd).1
 rw[NA xs hfit hk hgood h0]at hs;have hrg:vv xs:=by simpa using Mx xs hgood xs.length 0 (by omega)
 exact(NJ xs s hs hz hfit hrg (cln_of hF) M (fun x hm=>⟨(hx x hm).data,by have:=(hx x hm).few;omega⟩) hb).2
end Go.Proofs.aj.W7
namespace Go.Proofs.aj
open Go.RowKit Go.Proofs Go.Proofs.ah.aD
open Go.ChangeShapes Go.WideShapes Go.ChangeAt
open Go.Proofs.YtkcmghlhpbepcaaGreatDoor (Rows.uptoBulk Rows.uptoBulkAll)
theorem cells_at{w:World}{base n:Nat}{a:Addr}{cs:List Value}(h:w.cells? base a n=some cs):cs.length=n∧∀j,j<n→w.cell? (a.add j)=cs[j]?:=by
 unfold World.cells? at h
 split at h
 ·have hl:=mapM_some_length h
  refine⟨by simpa using hl,fun j hj=>?_⟩;have:=mapM_some_get h j j (by simp[hj]);exact this
 ·cases h
theorem add_add(a:Addr)(n m:Nat):(a.add n).add m=a.add (n+m):=by
 unfold Addr.add
 by_cases hm:m=0
 ·subst hm;simp
 ·by_cases hn:n=0
  ·subst hn;simp
  ·simp[hm,hn,Nat.add_assoc]
theorem Ob{α:Type}(P:Nat→α→Prop):∀(n:Nat),(∀i,i<n→∃x,P i x)→∃L:List α,L.length=n∧∀i (h:i<L.length),P i L[i]
 |0,_=>⟨[],rfl,fun i h=>by simp at h⟩
 |n+1,h=>by
  obtain⟨L,hl,hp⟩:=Ob P n (fun i hi=>h i (by omega));obtain⟨x,hx⟩:=h n (by omega);refine⟨L++[x],by simp[hl],fun i hi=>?_⟩
  rcases Nat.lt_or_ge i L.length with e|e
  ·rw[List.getElem_append_left e]
   exact hp i e
  ·have e2:i=L.length:=by simp at hi;omega
   subst e2;rw[List.getElem_append_right (by omega)];simp only[Nat.sub_self,List.getElem_cons_zero];rw[hl];exact hx
def Opn{α:Type}(P:Program)(t:TypeId)(d:Kd α)(wt:α→Nat)(Wf:α→Prop):Prop:=
 ∀ {H:Type} {enc:TypeId×Value→H} {w:World} {base:Nat} {spare:Nat→Bool} {held:Bool} {fuel:Nat} {cs:List Value} {x:DataW H×List MemPlace},
  DataW.trod enc P w base spare held fuel t cs=some x→∃a:α,d.K w a cs∧wt a≤Rows.uptoBulk x.1∧Wf a
section
variable {P : Program} {t e : TypeId}
theorem opn_int{k:IntKind}(hu:P.underlying t=some (.int k)):Opn P t (Kd.int k) (fun _=>1) (fun n=>(Lit.int k n).wf=true):=by
 intro H enc w base spare held fuel cs x h;obtain⟨n,rfl,rfl,hw⟩:=DataW.trod_int hu h;exact⟨n,rfl,by simp[Rows.uptoBulk],hw⟩
theorem M5(hu:P.underlying t=some .string):Opn P t Kd.string (fun s=>s.size+1) (fun s=>s.size≤maxLen):=by
 intro H enc w base spare held fuel cs x h;obtain⟨s,rfl,rfl,hs⟩:=DataW.trod_string hu h;refine⟨s,rfl,?_,hs⟩;simp only[Rows.uptoBulk,Array.length_toList];exact Nat.le_refl _
theorem KE{H α:Type}(wt:α→Nat):∀(l:List α) (es:List (DataW H×List MemPlace)),l.length=es.length→(∀i (h:i<l.length) (h':i<es.length),wt l[i]≤Rows.uptoBulk es[i].1)→(l.map wt).sum≤Rows.uptoBulkAll (es.map (·.1))
 | [],_,_,_=>by simp
 |_::_,[],h,_=>by simp at h
 |a::l,y::es,h,hp=>by
  have h0:=hp 0 (by simp) (by simp)
  have ih:=KE wt l es (by simpa using h) (fun i h1 h2=>by
   have:=hp (i+1) (by simp;omega) (by simp;omega);simpa using this)
  simp only[List.map_cons,List.sum_cons,Rows.uptoBulkAll];simp only[List.getElem_cons_zero]at h0;omega
theorem Gm{α:Type}{d:Kd α}{wt:α→Nat}{Wf:α→Prop}(hu:P.underlying t=some (.slice e))(hsz:P.cellsOf e=d.sz)(ho:Opn P e d wt Wf):
 Opn P t (Kd.slice e d) (fun l=>(l.map wt).sum+1) (fun l=>∀x∈l,Wf x):=by
 intro H enc w base spare held fuel cs x h
 rcases DataW.trod_slice hu h with⟨rfl,rfl⟩|⟨a,len,cap,elems,rest,n,_,rfl,rfl,hb,hle,hc,hlen,hel,_,_⟩
 ·exact⟨[],⟨none,0,rfl,Nat.le_refl _,⟨rfl,by simp,fun h=>by simp at h⟩⟩,by simp[Rows.uptoBulk],by simp⟩
 ·obtain⟨L,hL,hp⟩:=Ob (fun i (y:α)=>∃c:List Value,c.length=d.sz∧d.K w y c∧(∀j u,c[j]?=some u→w.cell? (a.add (i * d.sz+j))=some u)∧(∀(h':i<elems.length),wt y≤Rows.uptoBulk elems[i].1)∧Wf y) len (by
   intro i hi;have h1:=hel i hi;have hi2:i<elems.length:=by omega
   rw[List.getElem?_eq_getElem hi2,Option.bind_eq_some_iff]at h1;obtain⟨c,h2,h3⟩:=h1;obtain⟨y,hK,hw,hf⟩:=ho h3;obtain⟨hcl,h6⟩:=cells_at h2;rw[hsz]at h2 hcl h6;refine⟨y,c,hcl,hK,fun j u hj=>?_,fun _=>hw,hf⟩
   have hjl:j<c.length:=by
    rcases Nat.lt_or_ge j c.length with h7|h7
    ·exact h7
    ·rw[List.getElem?_eq_none h7]at hj;cases hj
   have:=h6 j (by omega);rw[add_add]at this;exact this.trans hj)
  refine⟨L,⟨some a,cap,by rw[hL],by rw[hL];exact hle,⟨rfl,?_,fun _=>⟨a,rfl,fun j p hj=>?_⟩⟩⟩,?_,fun y hy=>?_⟩
  ·unfold maxLen at hc;omega
  ·obtain⟨hj1,rfl⟩:=List.getElem?_eq_some_iff.1 hj
   obtain⟨c,g1,g2,g3,_⟩:=hp j hj1;exact⟨c,g1,g2,g3⟩
  ·have:=KE wt L elems (by omega) (fun i h1 h2=>by obtain⟨_,_,_,_,g4,_⟩:=hp i h1;exact g4 h2)
   simp only[Rows.uptoBulk];omega
  ·obtain⟨i,hi,rfl⟩:=List.getElem_of_mem hy
   obtain⟨_,_,_,_,_,g⟩:=hp i hi;exact g
theorem Aw{α β:Type}{d1:Kd α}{d2:Kd β}{w:World}{a:α}{b:β}{cs:List Value}{o s:Nat}(h1:d1.K w a ((cs.drop o).take s))(h2:d2.K w b (cs.drop (o+s))):(Kd.pair d1 d2).K w (a,b) (cs.drop o):=
 ⟨(cs.drop o).take s,cs.drop (o+s),by rw[←List.drop_drop,List.take_append_drop],h1,h2⟩
theorem last_at{α:Type}{d:Kd α}{w:World}{a:α}{cs:List Value}{o s:Nat}(hl:cs.length=o+s)(h:d.K w a ((cs.drop o).take s)):d.K w a (cs.drop o):=by
 rw[List.take_of_length_le (by simp;omega)]at h;exact h
theorem Et{α:Type}{cs:List α}{n:Nat}(i:Nat)(h:cs.length=n)(hi:i<n):∃a,cs[i]?=some a:=⟨cs[i],List.getElem?_eq_getElem (by omega)⟩
end
end Go.Proofs.aj
namespace Go.Proofs.aj.W7
open Go.RowKit Go.Proofs Go.Proofs.aj Go.Proofs.ah.aD
open Go.Proofs.YtkcmghlhpbepcaaGreatDoor (Rows.uptoBulk Rows.uptoBulkAll)
theorem opn9:Opn Tryz.prog 9 Kd.string (fun s=>s.size+1) (fun s=>s.size≤maxLen):=M5 Tryz.underlying9
def Av(x:S36):Nat:=(fun s=>s.size+1) x.f0+(fun s=>s.size+1) x.f1+1
def wf36(x:S36):Prop:=(fun s=>s.size≤maxLen) x.f0∧(fun s=>s.size≤maxLen) x.f1
theorem opn36:Opn Tryz.prog 36 k36 Av wf36:=by
 intro H enc w base spare held fuel cs x h;obtain⟨xs,n,_,rfl,hl,hlen,hf⟩:=DataW.trod_struct Tryz.underlying36 h;rw[show Tryz.prog.cellsOf 36=2 from by kernel_rfl]at hl;replace hlen:xs.length=2:=hlen;obtain⟨y0,hy0⟩:=Et 0 hlen (by omega);have g0:DataW.trod enc Tryz.prog w base spare held n 9 ((cs.drop 0).take (Tryz.prog.cellsOf 9))=some y0:=(hf 0 _ rfl).trans hy0;rw[show Tryz.prog.cellsOf 9=1 from by kernel_rfl]at g0;obtain⟨a0,k0,b0,p0⟩:=opn9 g0;obtain⟨y1,hy1⟩:=Et 1 hlen (by omega);have g1:DataW.trod enc Tryz.prog w base spare held n 9 ((cs.drop 1).take (Tryz.prog.cellsOf 9))=some y1:=(hf 1 _ rfl).trans hy1;rw[show Tryz.prog.cellsOf 9=1 from by kernel_rfl]at g1;obtain⟨a1,k1,b1,p1⟩:=opn9 g1
 obtain rfl:xs=[y0,y1]:=by
  apply List.ext_getElem?;intro i
  match i with
  |0=>exact hy0
  |1=>exact hy1
  |k+2=>rw[List.getElem?_eq_none (by omega),List.getElem?_eq_none (by simp)]
 refine⟨⟨a0,a1⟩,(Aw (o:=0) (s:=1) k0 (last_at (o:=1) (s:=1) hl k1)),?_,⟨p0,p1⟩⟩;simp only[Av,List.map_cons,List.map_nil,Rows.uptoBulk,Rows.uptoBulkAll];simp only at b0 b1;omega
theorem opn3:Opn Tryz.prog 3 (Kd.int .i64) (fun _=>1) (fun n=>(Lit.int .i64 n).wf=true):=opn_int Tryz.underlying3
theorem opn32:Opn Tryz.prog 32 (Kd.slice 36 k36) (fun l=>(l.map Av).sum+1) (fun l=>∀x∈l,wf36 x):=Gm Tryz.underlying32 (by kernel_rfl) opn36
def qD(x:S34):Nat:=(fun _=>1) x.f0+(fun _=>1) x.f1+(fun s=>s.size+1) x.f2+(fun s=>s.size+1) x.f3+(fun l=>(l.map Av).sum+1) x.f4+1
def wf34(x:S34):Prop:=(fun n=>(Lit.int .i64 n).wf=true) x.f0∧(fun n=>(Lit.int .i64 n).wf=true) x.f1∧(fun s=>s.size≤maxLen) x.f2∧(fun s=>s.size≤maxLen) x.f3∧(fun l=>∀x∈l,wf36 x) x.f4
theorem opn34:Opn Tryz.prog 34 k34 qD wf34:=by
 intro H enc w base spare held fuel cs x h;obtain⟨xs,n,_,rfl,hl,hlen,hf⟩:=DataW.trod_struct Tryz.underlying34 h;rw[show Tryz.prog.cellsOf 34=5 from by kernel_rfl]at hl;replace hlen:xs.length=5:=hlen;obtain⟨y0,hy0⟩:=Et 0 hlen (by omega);have g0:DataW.trod enc Tryz.prog w base spare held n 3 ((cs.drop 0).take (Tryz.prog.cellsOf 3))=some y0:=(hf 0 _ rfl).trans hy0;rw[show Tryz.prog.cellsOf 3=1 from by kernel_rfl]at g0;obtain⟨a0,k0,b0,p0⟩:=opn3 g0;obtain⟨y1,hy1⟩:=Et 1 hlen (by omega);have g1:DataW.trod enc Tryz.prog w base spare held n 3 ((cs.drop 1).take (Tryz.prog.cellsOf 3))=some y1:=(hf 1 _ rfl).trans hy1;rw[show Tryz.prog.cellsOf 3=1 from by kernel_rfl]at g1;obtain⟨a1,k1,b1,p1⟩:=opn3 g1;obtain⟨y2,hy2⟩:=Et 2 hlen (by omega);have g2:DataW.trod enc Tryz.prog w base spare held n 9 ((cs.drop 2).take (Tryz.prog.cellsOf 9))=some y2:=(hf 2 _ rfl).trans hy2;rw[show Tryz.prog.cellsOf 9=1 from by kernel_rfl]at g2;obtain⟨a2,k2,b2,p2⟩:=opn9 g2;obtain⟨y3,hy3⟩:=Et 3 hlen (by omega)
 have g3:DataW.trod enc Tryz.prog w base spare held n 9 ((cs.drop 3).take (Tryz.prog.cellsOf 9))=some y3:=(hf 3 _ rfl).trans hy3;rw[show Tryz.prog.cellsOf 9=1 from by kernel_rfl]at g3;obtain⟨a3,k3,b3,p3⟩:=opn9 g3;obtain⟨y4,hy4⟩:=Et 4 hlen (by omega);have g4:DataW.trod enc Tryz.prog w base spare held n 32 ((cs.drop 4).take (Tryz.prog.cellsOf 32))=some y4:=(hf 4 _ rfl).trans hy4;rw[show Tryz.prog.cellsOf 32=1 from by kernel_rfl]at g4;obtain⟨a4,k4,b4,p4⟩:=opn32 g4
 obtain rfl:xs=[y0,y1,y2,y3,y4]:=by
  apply List.ext_getElem?;intro i
  match i with
  |0=>exact hy0
  |1=>exact hy1
  |2=>exact hy2
  |3=>exact hy3
  |4=>exact hy4
  |k+5=>rw[List.getElem?_eq_none (by omega),List.getElem?_eq_none (by simp)]
 refine⟨⟨a0,a1,a2,a3,a4⟩,(Aw (o:=0) (s:=1) k0 (Aw (o:=1) (s:=1) k1 (Aw (o:=2) (s:=1) k2 (Aw (o:=3) (s:=1) k3 (last_at (o:=4) (s:=1) hl k4))))),?_,⟨p0,p1,p2,p3,p4⟩⟩;simp only[qD,List.map_cons,List.map_nil,Rows.uptoBulk,Rows.uptoBulkAll];simp only at b0 b1 b2 b3 b4;omega
theorem opn22:Opn Tryz.prog 22 (Kd.slice 34 k34) (fun l=>(l.map qD).sum+1) (fun l=>∀x∈l,wf34 x):=Gm Tryz.underlying22 (by kernel_rfl) opn34
end Go.Proofs.aj.W7
