/- Lemmas and walks, part 29. -/
import Derived.Test.YtkcmghlhpbepcaaGreatDoorNB28
import Derived.Test.YtkcmghlhpbepcaaGreatDoorRows
import Derived.ProofKit
import Derived.OpenShut
set_option linter.unusedVariables false
set_option linter.unusedSimpArgs false
set_option maxHeartbeats 8000000
set_option maxRecDepth 100000
namespace Go.Proofs.aj.W7
open Go.RowKit Go.Proofs Go.Proofs.aj Go.Proofs.YtkcmghlhpbepcaaGreatDoor Go.Proofs.ah.aD Go.Proofs.YtkcmghlhpbepcaaGreatDoor.Ch
theorem pJ{x:Rw}{r:List Rw}{dp:Int}(h:wF (x::r) dp=true):0≤x.f0∧x.f0≤dp∧rowB x=true∧wF r (if x.f1=0 then x.f0+1 else x.f0)=true:=by
 simp only[wF]at h
 by_cases c:x.f0<0∨dp<x.f0
 ·rw[if_pos c]at h;cases h
 ·rw[if_neg c]at h
  cases hb:rowB x with
  |false=>rw[hb]at h;simp at h
  |true=>
   rw[hb,if_pos rfl]at h;exact⟨by omega,by omega,rfl,h⟩
theorem AX{xs:List Rw}(h:wF xs 0=true):∀i:Nat,∃dp,wF (xs.drop i) dp=true
 |0=>⟨0,by simpa using h⟩
 |i+1=>by
  obtain⟨dp,hd⟩:=AX h i
  by_cases hi:i<xs.length
  ·rw[List.drop_eq_getElem_cons hi]at hd
   exact⟨_,(pJ hd).2.2.2⟩
  ·rw[List.drop_eq_nil_of_le (by omega)]
   exact⟨0,rfl⟩
theorem E9{xs:List Rw}{x:Rw}{r:List Rw}{i:Nat}{ar:List ByteArray}(h:Cx xs (x::r) i ar=true):
 (x.f1=1→oJ x.f3=true∧Cx xs r (i+1) (ar.take x.f0.toNat)=true)∧(x.f1=2→commB x.f3=true∧Cx xs r (i+1) (ar.take x.f0.toNat)=true)∧
 (x.f1=0→elemB x (ar.take x.f0.toNat)=true∧withB xs i=true∧Cx xs r (i+1) (ar.take x.f0.toNat++[x.f2])=true):=by
 simp only[Cx]at h;refine⟨fun k=>?_,fun k=>?_,fun k=>?_⟩
 ·rw[if_pos k,Bool.and_eq_true]at h
  exact h
 ·rw[if_neg (by omega),if_pos k,Bool.and_eq_true]at h
  exact h
 ·rw[if_neg (by omega),if_neg (by omega),Bool.and_eq_true,Bool.and_eq_true]at h
  exact⟨h.1.1,h.1.2,h.2⟩
theorem leg_at{xs:List Rw}(hk:∀x∈xs,x.f1=0∨x.f1=1∨x.f1=2)(h:Cx xs xs 0 []=true):∀i:Nat,∃ar,Cx xs (xs.drop i) i ar=true
 |0=>⟨[],by simpa using h⟩
 |i+1=>by
  obtain⟨ar,hd⟩:=leg_at hk h i
  by_cases hi:i<xs.length
  ·rw[List.drop_eq_getElem_cons hi]at hd
   obtain⟨a,b,c⟩:=E9 hd
   rcases hk _ (List.getElem_mem hi)with k|k|k
   ·exact⟨_,(c k).2.2⟩
   ·exact⟨_,(a k).2⟩
   ·exact⟨_,(b k).2⟩
  ·rw[List.drop_eq_nil_of_le (by omega)]
   exact⟨[],rfl⟩
theorem Ls{s:ByteArray}(h:s.data.toList=[]):s=⟨#[]⟩:=by
 have e:s=⟨s.data.toList.toArray⟩:=by cases s;simp
 rw[e,h]
theorem Lu(xs:List Rw)(h:∀m,(hm:m<xs.length)→yD xs[m] (xs.drop (m+1))):∀d i,xs.length - i≤d→uK (xs.drop i):=by
 intro d
 induction d with
 |zero=>intro i hi;rw[List.drop_eq_nil_of_le (by omega)];trivial
 |succ d ih=>
  intro i hi
  by_cases hl:i<xs.length
  ·rw[List.drop_eq_getElem_cons hl]
   exact⟨h i hl,ih (i+1) (by omega)⟩
  ·rw[List.drop_eq_nil_of_le (by omega)];trivial
structure AY (xs:List Rw) (M:Nat):Prop where
 ok:∀x∈xs,Lh x
 el:∀i,(hi:i<xs.length)→xs[i].f1=0→(∃ar,MF xs[i].f2=true∧pW xs[i].f2=false∧oJ xs[i].f2=true∧xM xs[i].f2 ar=true∧∀a∈xs[i].f4,K7 a.f0=true∧oJ a.f0=true∧oJ a.f1=true)∧withB xs i=true
 text:∀i,(hi:i<xs.length)→xs[i].f1=1→oJ xs[i].f3=true
 note:∀i,(hi:i<xs.length)→xs[i].f1=2→commB xs[i].f3=true
theorem facts_of(xs:List Rw)(M:Nat)(hM:M<1000000000)(hx:∀x∈xs,SzR M x)(hr:wF xs 0=true)(hl:Cx xs xs 0 []=true):AY xs M:=by
 have hok:∀x∈xs,Lh x:=by
  intro x hm;obtain⟨i,hi,rfl⟩:=List.getElem_of_mem hm;obtain⟨dp,hd⟩:=AX hr i;rw[List.drop_eq_getElem_cons hi]at hd;have hb:=(pJ hd).2.2.1;have hf:=(hx _ hm).few;have:=(row_all xs[i] hf).1 70 (Nat.le_refl _);rw[hb]at this;exact row_okk _ (by omega) 70 this
 have hat:=leg_at (fun x hm=>(hok x hm).kind) hl;refine⟨hok,fun i hi k=>?_,fun i hi k=>?_,fun i hi k=>?_⟩
 all_goals
  obtain⟨ar,ha⟩:=hat i;rw[List.drop_eq_getElem_cons hi]at ha;obtain⟨a,b,c⟩:=E9 ha
 ·exact⟨⟨_,E8 _ M hM (hx _ (List.getElem_mem hi)) _ (c k).1⟩,(c k).2.1⟩
 ·exact(a k).1
 ·exact(b k).1
theorem cln_of{xs:List Rw}{M:Nat}(h:AY xs M):∀x∈xs,Jm x:=by
 intro x hm;obtain⟨i,hi,rfl⟩:=List.getElem_of_mem hm;have hok:=h.ok _ hm
 rcases hok.kind with k|k|k
 ·obtain⟨⟨ar,a1,a2,a3,a4,a5⟩,-⟩:=h.el i hi k
  refine⟨BQ a3,by rw[(hok.el k).2.1];exact ng,fun a ha=>⟨BQ (a5 a ha).2.1,BQ (a5 a ha).2.2⟩⟩
 ·have e:=hok.no (by omega)
  refine⟨by rw[e.1];exact ng,BQ (h.text i hi k),by rw[e.2];simp⟩
 ·have e:=hok.no (by omega)
  refine⟨by rw[e.1];exact ng,(Pq (h.note i hi k)).2,by rw[e.2];simp⟩
theorem void_raw{s:ByteArray}(h:kJ s=true):(mD s.data.toList||Go.Proofs.YtkcmghlhpbepcaaGreatDoor.kS s.data.toList)=false:=by
 rw[Lg]at h;unfold nM at h;obtain⟨v,hv,e⟩:=List.any_eq_true.1 h;rw[←beq_iff_eq.1 e];have hall:∀v∈voidT,(mD v.data.toList||Go.Proofs.YtkcmghlhpbepcaaGreatDoor.kS v.data.toList)=false:=by decide
 exact hall v hv
theorem good_of{xs:List Rw}{M:Nat}(hM:M<1000000000)(hz:xs.length<100000)(hx:∀x∈xs,SzR M x)(hr:wF xs 0=true)(h:AY xs M):∀m,(hm:m<xs.length)→yD xs[m] (xs.drop (m+1)):=by
 intro i hi;have hP:=QM xs (fun x hm=>(hx x hm).few) hr;have hok:=h.ok _ (List.getElem_mem hi);refine⟨fun k=>?_,fun k=>(Pq (h.note i hi k)).1,fun k hrs=>?_⟩
 ·obtain⟨⟨ar,a1,a2,a3,a4,a5⟩,-⟩:=h.el i hi k
  refine⟨right_nm a1,fun a ha=>?_,Lp (hok.el k).2.2⟩;obtain⟨y,hy,rfl⟩:=List.mem_map.1 ha;exact attr_nm (a5 y hy).1
 ·obtain⟨-,hw⟩:=h.el i hi k
  have hwf:=withb_f xs M hM hz hx i hi;rw[hw]at hwf;obtain⟨w1,w2⟩:=Fa xs i hi hwf hz (fun x hm=>by have:=(hx x hm).data;omega)
  have hshut:fV xs i=i+1→Shut xs[i].f0 (xs.drop (i+1)):=by
   intro e
   by_cases hl:i+1<xs.length
   ·rw[List.drop_eq_getElem_cons hl]
    have a:=at_end xs i (by omega);rw[iX xs i hi,iX xs _ (by omega)]at a;have e2:xs[fV xs i]'(by omega)=xs[i+1]:=by congr 1
    rw[e2]at a;exact a
   ·rw[List.drop_eq_nil_of_le (by omega)];trivial
  have hnv:kJ xs[i].f2=false:=by
   cases hv:kJ xs[i].f2 with
   |false=>rfl
   |true=>
    exfalso
    rw[void_raw hv]at hrs;cases hrs
  refine⟨hnv,?_⟩
  rcases w2 hrs with e|⟨h1,b1,b2,b3,b4⟩
  ·exact .inl (hshut e)
  ·refine .inr ⟨xs[i+1],xs.drop (i+2),List.drop_eq_getElem_cons h1,b3,?_,fun hraw=>raw_ok (b4 hraw),?_⟩
   ·have g1:=AQ xs i (i+1) (by omega) b1 h1
    have g2:=(hP (i+1) h1).step (by omega);rw[iX xs i hi,iX xs _ h1]at g1;rw[show i+1 - 1=i from rfl,iX xs i hi,iX xs _ h1]at g2;omega
   ·have he:fV xs i=i+2:=by
     have hgt:=kN xs (i+1)
     by_cases hl:i+2<fV xs i
     ·exfalso
      have hle:=mZ xs i hi;have g1:=AQ xs (i+1) (i+2) (by omega) (by omega) (by omega);rw[iX xs _ h1,iX xs _ (by omega)]at g1;obtain⟨dp,hd⟩:=AX hr (i+1);rw[List.drop_eq_getElem_cons h1]at hd;have hd2:=(pJ hd).2.2.2;rw[List.drop_eq_getElem_cons (by omega),if_neg (by omega)]at hd2;have e4:xs[i+2].f0≤xs[i+1].f0:=(pJ hd2).2.1;omega
     ·omega
    by_cases hl:i+2<xs.length
    ·rw[List.drop_eq_getElem_cons hl]
     have a:=at_end xs i (by omega);rw[iX xs i hi,iX xs _ (by omega)]at a;have e2:xs[fV xs i]'(by omega)=xs[i+2]:=by congr 1
     rw[e2]at a;exact a
    ·rw[List.drop_eq_nil_of_le (by omega)];trivial
theorem fit_of(xs:List Rw)(M:Nat)(hM:M<1000000000)(hz:xs.length≤4096)(hx:∀x∈xs,SzR M x)(Gi:∀x∈xs,x.f0<60)(hF:AY xs M):
 ∀(d i:Nat) (op ar:List ByteArray) (dp:Int),i+d=xs.length→wF (xs.drop i) dp=true→Cx xs (xs.drop i) i ar=true→zA (xs.take i).getLast? (xs.drop i)=true→(ar.length:Int)=dp→
  (∀hi:i<xs.length,0≤xs[i].f0→xs[i].f0≤ar.length→xs[i].f0≤op.length∧ar.take xs[i].f0.toNat=op.take xs[i].f0.toNat)→RowsFit (xs.drop i) op (xs.take i):=by
 intro d
 induction d with
 |zero=>
  intro i op ar dp hi _ _ _ _ _;rw[List.drop_eq_nil_of_le (by omega)]
  trivial
 |succ d ih=>
  intro i op ar dp hd hr hl hn ha hop;have hi:i<xs.length:=by omega
  rw[List.drop_eq_getElem_cons hi]at hr hl hn⊢;obtain⟨r1,r2,r3,r4⟩:=pJ hr;obtain⟨l1,l2,l3⟩:=E9 hl;simp only[zA,Bool.and_eq_true,Bool.not_eq_true']at hn;obtain⟨n1,n2⟩:=hn;obtain⟨o1,o2⟩:=hop hi r1 (by omega);have hok:=hF.ok _ (List.getElem_mem hi);have hlen:(op.take xs[i].f0.toNat).length=xs[i].f0.toNat:=by rw[List.length_take];omega
  have hti:(xs.take i).length=i:=by rw[List.length_take];omega
  have htk:xs.take (i+1)=xs.take i++[xs[i]]:=by rw[List.take_succ,List.getElem?_eq_getElem hi];rfl
  have hfit:Jh xs[i] op (xs.take i):=by
   refine⟨r1,o1,Gi _ (List.getElem_mem hi),by rw[hti];omega,hok.kind,fun k=>?_,fun k=>?_,fun k=>?_⟩
   ·obtain⟨q1,q2,q3⟩:=l3 k
    obtain⟨f1,f2,f3,f4,f5⟩:=E8 _ M hM (hx _ (List.getElem_mem hi)) _ q1;obtain⟨e1,e2,e3⟩:=hok.el k;rw[o2]at f4;exact⟨e1,f2,f4,Ls e2,once_all e3⟩
   ·obtain⟨e1,e2⟩:=hok.no k
    exact⟨Ls e1,e2⟩
   ·unfold xO at n1
    rw[decide_eq_true k,Bool.true_and,Bool.or_eq_false_iff]at n1;refine⟨of_decide_eq_false n1.1,?_⟩;have h2:=n1.2;unfold wG;cases hg:(xs.take i).getLast? with
    |none=>rfl
    |some y=>
     rw[hg]at h2;rw[hlen,show((xs[i].f0.toNat:Nat):Int)=xs[i].f0 from by omega];exact h2
  refine⟨hfit,?_⟩;rw[←htk]
  have hn2:zA (xs.take (i+1)).getLast? (xs.drop (i+1))=true:=by
   rw[htk,List.getLast?_append,List.getLast?_singleton];exact n2
  rcases hok.kind with k|k|k
  ·obtain⟨q1,q2,q3⟩:=l3 k
   rw[if_pos k]at r4;refine ih (i+1) _ (ar.take xs[i].f0.toNat++[xs[i].f2]) (xs[i].f0+1) (by omega) r4 q3 hn2 (by rw[o2,List.length_append,hlen];simp;omega) (fun hi2 z1 z2=>?_);rw[o2]at z2⊢;cases hv:kJ xs[i].f2 with
   |false=>
    have eo:opA (op.take xs[i].f0.toNat) xs[i]=op.take xs[i].f0.toNat++[xs[i].f2]:=by unfold opA;rw[if_pos ⟨k,hv⟩]
    rw[eo];exact⟨z2,rfl⟩
   |true=>
    have eo:opA (op.take xs[i].f0.toNat) xs[i]=op.take xs[i].f0.toNat:=by unfold opA;rw[if_neg (by rw[hv];simp)]
    have hwf:=withb_f xs M hM (by omega) hx i hi;rw[q2]at hwf;have he:=(Fa xs i hi hwf (by omega) (fun x hm=>by have:=(hx x hm).data;omega)).1 hv;have a:=at_end xs i (by omega);rw[iX xs i hi,iX xs _ (by omega)]at a;have e2:xs[fV xs i]'(by omega)=xs[i+1]:=by congr 1
    rw[e2]at a;rw[eo];exact⟨by rw[hlen];omega,List.take_append_of_le_length (by rw[hlen];omega)⟩
  ·rw[if_neg (by omega)]at r4
   have eo:opA (op.take xs[i].f0.toNat) xs[i]=op.take xs[i].f0.toNat:=by unfold opA;rw[if_neg (by omega)]
   rw[eo];refine ih (i+1) _ (ar.take xs[i].f0.toNat) xs[i].f0 (by omega) r4 (l1 k).2 hn2 (by rw[o2,hlen];omega) (fun hi2 z1 z2=>?_);rw[o2]at z2⊢;exact⟨z2,rfl⟩
  ·rw[if_neg (by omega)]at r4
   have eo:opA (op.take xs[i].f0.toNat) xs[i]=op.take xs[i].f0.toNat:=by unfold opA;rw[if_neg (by omega)]
   rw[eo];refine ih (i+1) _ (ar.take xs[i].f0.toNat) xs[i].f0 (by omega) r4 (l2 k).2 hn2 (by rw[o2,hlen];omega) (fun hi2 z1 z2=>?_);rw[o2]at z2⊢;exact⟨z2,rfl⟩
theorem MP(xs:List Rw)(M:Nat)(hM:M<1000000000)(hx:∀x∈xs,SzR M x)(hb:xs.length * M≤1000000000)(h:Jl xs=true)(s:ByteArray)(hs:s.data.toList=(jf xs (-1)).flatMap (ny xs xs.length false))(hz:s.size≤65536):
 iH.f s=some (xs,0):=by
 unfold Jl at h;simp only[Bool.and_eq_true,Bool.not_eq_true',Bool.or_eq_false_iff,decide_eq_false_iff_not]at h;obtain⟨⟨⟨⟨h1,h2⟩,h3⟩,h4⟩,h5⟩:=h
 have Gi:∀x∈xs,x.f0<60:=by
  intro x hm;have:=List.any_eq_false.1 h2 x hm;unfold yU at this;simp at this;omega
 have hF:=facts_of xs M hM hx h3 h5;have hfit:=fit_of xs M hM (by omega) hx Gi hF xs.length 0 [] [] 0 (by omega) (by simpa using h3) (by simpa using h5) (by simpa using h4) rfl (fun hi a b=>⟨b,rfl⟩);rw[List.drop_zero,List.take_zero]at hfit;have hgood:=good_of hM (by omega) hx h3 hF;have hk:∀m,(hm:m<xs.length)→xs[m].f1=0∨xs[m].f1=1∨xs[m].f1=2:=fun m hm=>(hF.ok _ (List.getElem_mem hm)).kind
 have h0:∀m,(hm:m<xs.length)→0≤xs[m].f0:=by
  intro m hm;obtain⟨dp,hd⟩:=AX h3 m;rw[List.drop_eq_getElem_cons hm]at hd;exact(pJ hd).1
 rw[MN xs hfit hk hgood h0]at hs;have hrg:uK xs:=by simpa using Lu xs hgood xs.length 0 (by omega)
 exact(MQ xs s hs hz hfit hrg (cln_of hF) M (fun x hm=>⟨(hx x hm).data,by have:=(hx x hm).few;omega⟩) hb).2
end Go.Proofs.aj.W7
namespace Go.Proofs.aj
open Go.RowKit Go.Proofs Go.Proofs.ah.aD
open Go.ChangeShapes Go.WideShapes Go.ChangeAt
open Go.Proofs.YtkcmghlhpbepcaaGreatDoor (Rows.uptoBulk Rows.uptoBulkAll)
theorem cells_at{w:World}{base n:Nat}{a:Addr}{cs:List Value}(h:w.cells? base a n=some cs):cs.length=n∧∀j,j<n→w.cell? (a.add j)=cs[j]?:=by
 unfold World.cells? at h
 split at h
 ·have hl:=mapM_some_length h
  refine⟨by simpa using hl,fun j hj=>?_⟩;have:=mapM_some_get h j j (by simp[hj]);exact this
 ·cases h
theorem add_add(a:Addr)(n m:Nat):(a.add n).add m=a.add (n+m):=by
 unfold Addr.add
 by_cases hm:m=0
 ·subst hm;simp
 ·by_cases hn:n=0
  ·subst hn;simp
  ·simp[hm,hn,Nat.add_assoc]
theorem Nc{α:Type}(P:Nat→α→Prop):∀(n:Nat),(∀i,i<n→∃x,P i x)→∃L:List α,L.length=n∧∀i (h:i<L.length),P i L[i]
 |0,_=>⟨[],rfl,fun i h=>by simp at h⟩
 |n+1,h=>by
  obtain⟨L,hl,hp⟩:=Nc P n (fun i hi=>h i (by omega));obtain⟨x,hx⟩:=h n (by omega);refine⟨L++[x],by simp[hl],fun i hi=>?_⟩
  rcases Nat.lt_or_ge i L.length with e|e
  ·rw[List.getElem_append_left e]
   exact hp i e
  ·have e2:i=L.length:=by simp at hi;omega
   subst e2;rw[List.getElem_append_right (by omega)];simp only[Nat.sub_self,List.getElem_cons_zero];rw[hl];exact hx
def Opn{α:Type}(P:Program)(t:TypeId)(d:Kd α)(wt:α→Nat)(Wf:α→Prop):Prop:=
 ∀ {H:Type} {enc:TypeId×Value→H} {w:World} {base:Nat} {spare:Nat→Bool} {held:Bool} {fuel:Nat} {cs:List Value} {x:DataW H×List MemPlace},
  DataW.trod enc P w base spare held fuel t cs=some x→∃a:α,d.K w a cs∧wt a≤Rows.uptoBulk x.1∧Wf a
section
variable {P : Program} {t e : TypeId}
theorem opn_int{k:IntKind}(hu:P.underlying t=some (.int k)):Opn P t (Kd.int k) (fun _=>1) (fun n=>(Lit.int k n).wf=true):=by
 intro H enc w base spare held fuel cs x h;obtain⟨n,rfl,rfl,hw⟩:=DataW.trod_int hu h;exact⟨n,rfl,by simp[Rows.uptoBulk],hw⟩
theorem Md(hu:P.underlying t=some .string):Opn P t Kd.string (fun s=>s.size+1) (fun s=>s.size≤maxLen):=by
 intro H enc w base spare held fuel cs x h;obtain⟨s,rfl,rfl,hs⟩:=DataW.trod_string hu h;refine⟨s,rfl,?_,hs⟩;simp only[Rows.uptoBulk,Array.length_toList];exact Nat.le_refl _
theorem JU{H α:Type}(wt:α→Nat):∀(l:List α) (es:List (DataW H×List MemPlace)),l.length=es.length→(∀i (h:i<l.length) (h':i<es.length),wt l[i]≤Rows.uptoBulk es[i].1)→(l.map wt).sum≤Rows.uptoBulkAll (es.map (·.1))
 | [],_,_,_=>by simp
 |_::_,[],h,_=>by simp at h
 |a::l,y::es,h,hp=>by
  have h0:=hp 0 (by simp) (by simp)
  have ih:=JU wt l es (by simpa using h) (fun i h1 h2=>by
   have:=hp (i+1) (by simp;omega) (by simp;omega);simpa using this)
  simp only[List.map_cons,List.sum_cons,Rows.uptoBulkAll];simp only[List.getElem_cons_zero]at h0;omega
theorem FN{α:Type}{d:Kd α}{wt:α→Nat}{Wf:α→Prop}(hu:P.underlying t=some (.slice e))(hsz:P.cellsOf e=d.sz)(ho:Opn P e d wt Wf):
 Opn P t (Kd.slice e d) (fun l=>(l.map wt).sum+1) (fun l=>∀x∈l,Wf x):=by
 intro H enc w base spare held fuel cs x h
 rcases DataW.trod_slice hu h with⟨rfl,rfl⟩|⟨a,len,cap,elems,rest,n,_,rfl,rfl,hb,hle,hc,hlen,hel,_,_⟩
 ·exact⟨[],⟨none,0,rfl,Nat.le_refl _,⟨rfl,by simp,fun h=>by simp at h⟩⟩,by simp[Rows.uptoBulk],by simp⟩
 ·obtain⟨L,hL,hp⟩:=Nc (fun i (y:α)=>∃c:List Value,c.length=d.sz∧d.K w y c∧(∀j u,c[j]?=some u→w.cell? (a.add (i * d.sz+j))=some u)∧(∀(h':i<elems.length),wt y≤Rows.uptoBulk elems[i].1)∧Wf y) len (by
   intro i hi;have h1:=hel i hi;have hi2:i<elems.length:=by omega
   rw[List.getElem?_eq_getElem hi2,Option.bind_eq_some_iff]at h1;obtain⟨c,h2,h3⟩:=h1;obtain⟨y,hK,hw,hf⟩:=ho h3;obtain⟨hcl,h6⟩:=cells_at h2;rw[hsz]at h2 hcl h6;refine⟨y,c,hcl,hK,fun j u hj=>?_,fun _=>hw,hf⟩
   have hjl:j<c.length:=by
    rcases Nat.lt_or_ge j c.length with h7|h7
    ·exact h7
    ·rw[List.getElem?_eq_none h7]at hj;cases hj
   have:=h6 j (by omega);rw[add_add]at this;exact this.trans hj)
  refine⟨L,⟨some a,cap,by rw[hL],by rw[hL];exact hle,⟨rfl,?_,fun _=>⟨a,rfl,fun j p hj=>?_⟩⟩⟩,?_,fun y hy=>?_⟩
  ·unfold maxLen at hc;omega
  ·obtain⟨hj1,rfl⟩:=List.getElem?_eq_some_iff.1 hj
   obtain⟨c,g1,g2,g3,_⟩:=hp j hj1;exact⟨c,g1,g2,g3⟩
  ·have:=JU wt L elems (by omega) (fun i h1 h2=>by obtain⟨_,_,_,_,g4,_⟩:=hp i h1;exact g4 h2)
   simp only[Rows.uptoBulk];omega
  ·obtain⟨i,hi,rfl⟩:=List.getElem_of_mem hy
   obtain⟨_,_,_,_,_,g⟩:=hp i hi;exact g
theorem zY{α β:Type}{d1:Kd α}{d2:Kd β}{w:World}{a:α}{b:β}{cs:List Value}{o s:Nat}(h1:d1.K w a ((cs.drop o).take s))(h2:d2.K w b (cs.drop (o+s))):(Kd.pair d1 d2).K w (a,b) (cs.drop o):=
 ⟨(cs.drop o).take s,cs.drop (o+s),by rw[←List.drop_drop,List.take_append_drop],h1,h2⟩
theorem last_at{α:Type}{d:Kd α}{w:World}{a:α}{cs:List Value}{o s:Nat}(hl:cs.length=o+s)(h:d.K w a ((cs.drop o).take s)):d.K w a (cs.drop o):=by
 rw[List.take_of_length_le (by simp;omega)]at h;exact h
theorem D6{α:Type}{cs:List α}{n:Nat}(i:Nat)(h:cs.length=n)(hi:i<n):∃a,cs[i]?=some a:=⟨cs[i],List.getElem?_eq_getElem (by omega)⟩
end
end Go.Proofs.aj
namespace Go.Proofs.aj.W7
open Go.RowKit Go.Proofs Go.Proofs.aj Go.Proofs.ah.aD
open Go.Proofs.YtkcmghlhpbepcaaGreatDoor (Rows.uptoBulk Rows.uptoBulkAll)
theorem opn9:Opn Tryz.prog 9 Kd.string (fun s=>s.size+1) (fun s=>s.size≤maxLen):=Md Tryz.underlying9
def zX(x:S36):Nat:=(fun s=>s.size+1) x.f0+(fun s=>s.size+1) x.f1+1
def wf36(x:S36):Prop:=(fun s=>s.size≤maxLen) x.f0∧(fun s=>s.size≤maxLen) x.f1
theorem opn36:Opn Tryz.prog 36 k36 zX wf36:=by
 intro H enc w base spare held fuel cs x h;obtain⟨xs,n,_,rfl,hl,hlen,hf⟩:=DataW.trod_struct Tryz.underlying36 h;rw[show Tryz.prog.cellsOf 36=2 from by kernel_rfl]at hl;replace hlen:xs.length=2:=hlen;obtain⟨y0,hy0⟩:=D6 0 hlen (by omega);have g0:DataW.trod enc Tryz.prog w base spare held n 9 ((cs.drop 0).take (Tryz.prog.cellsOf 9))=some y0:=(hf 0 _ rfl).trans hy0;rw[show Tryz.prog.cellsOf 9=1 from by kernel_rfl]at g0;obtain⟨a0,k0,b0,p0⟩:=opn9 g0;obtain⟨y1,hy1⟩:=D6 1 hlen (by omega);have g1:DataW.trod enc Tryz.prog w base spare held n 9 ((cs.drop 1).take (Tryz.prog.cellsOf 9))=some y1:=(hf 1 _ rfl).trans hy1;rw[show Tryz.prog.cellsOf 9=1 from by kernel_rfl]at g1;obtain⟨a1,k1,b1,p1⟩:=opn9 g1
 obtain rfl:xs=[y0,y1]:=by
  apply List.ext_getElem?;intro i
  match i with
  |0=>exact hy0
  |1=>exact hy1
  |k+2=>rw[List.getElem?_eq_none (by omega),List.getElem?_eq_none (by simp)]
 refine⟨⟨a0,a1⟩,(zY (o:=0) (s:=1) k0 (last_at (o:=1) (s:=1) hl k1)),?_,⟨p0,p1⟩⟩;simp only[zX,List.map_cons,List.map_nil,Rows.uptoBulk,Rows.uptoBulkAll];simp only at b0 b1;omega
theorem opn3:Opn Tryz.prog 3 (Kd.int .i64) (fun _=>1) (fun n=>(Lit.int .i64 n).wf=true):=opn_int Tryz.underlying3
theorem opn32:Opn Tryz.prog 32 (Kd.slice 36 k36) (fun l=>(l.map zX).sum+1) (fun l=>∀x∈l,wf36 x):=FN Tryz.underlying32 (by kernel_rfl) opn36
def qo(x:S34):Nat:=(fun _=>1) x.f0+(fun _=>1) x.f1+(fun s=>s.size+1) x.f2+(fun s=>s.size+1) x.f3+(fun l=>(l.map zX).sum+1) x.f4+1
def wf34(x:S34):Prop:=(fun n=>(Lit.int .i64 n).wf=true) x.f0∧(fun n=>(Lit.int .i64 n).wf=true) x.f1∧(fun s=>s.size≤maxLen) x.f2∧(fun s=>s.size≤maxLen) x.f3∧(fun l=>∀x∈l,wf36 x) x.f4
theorem opn34:Opn Tryz.prog 34 k34 qo wf34:=by
 intro H enc w base spare held fuel cs x h;obtain⟨xs,n,_,rfl,hl,hlen,hf⟩:=DataW.trod_struct Tryz.underlying34 h;rw[show Tryz.prog.cellsOf 34=5 from by kernel_rfl]at hl;replace hlen:xs.length=5:=hlen;obtain⟨y0,hy0⟩:=D6 0 hlen (by omega);have g0:DataW.trod enc Tryz.prog w base spare held n 3 ((cs.drop 0).take (Tryz.prog.cellsOf 3))=some y0:=(hf 0 _ rfl).trans hy0;rw[show Tryz.prog.cellsOf 3=1 from by kernel_rfl]at g0;obtain⟨a0,k0,b0,p0⟩:=opn3 g0;obtain⟨y1,hy1⟩:=D6 1 hlen (by omega);have g1:DataW.trod enc Tryz.prog w base spare held n 3 ((cs.drop 1).take (Tryz.prog.cellsOf 3))=some y1:=(hf 1 _ rfl).trans hy1;rw[show Tryz.prog.cellsOf 3=1 from by kernel_rfl]at g1;obtain⟨a1,k1,b1,p1⟩:=opn3 g1;obtain⟨y2,hy2⟩:=D6 2 hlen (by omega);have g2:DataW.trod enc Tryz.prog w base spare held n 9 ((cs.drop 2).take (Tryz.prog.cellsOf 9))=some y2:=(hf 2 _ rfl).trans hy2;rw[show Tryz.prog.cellsOf 9=1 from by kernel_rfl]at g2;obtain⟨a2,k2,b2,p2⟩:=opn9 g2;obtain⟨y3,hy3⟩:=D6 3 hlen (by omega)
 have g3:DataW.trod enc Tryz.prog w base spare held n 9 ((cs.drop 3).take (Tryz.prog.cellsOf 9))=some y3:=(hf 3 _ rfl).trans hy3;rw[show Tryz.prog.cellsOf 9=1 from by kernel_rfl]at g3;obtain⟨a3,k3,b3,p3⟩:=opn9 g3;obtain⟨y4,hy4⟩:=D6 4 hlen (by omega);have g4:DataW.trod enc Tryz.prog w base spare held n 32 ((cs.drop 4).take (Tryz.prog.cellsOf 32))=some y4:=(hf 4 _ rfl).trans hy4;rw[show Tryz.prog.cellsOf 32=1 from by kernel_rfl]at g4;obtain⟨a4,k4,b4,p4⟩:=opn32 g4
 obtain rfl:xs=[y0,y1,y2,y3,y4]:=by
  apply List.ext_getElem?;intro i
  match i with
  |0=>exact hy0
  |1=>exact hy1
  |2=>exact hy2
  |3=>exact hy3
  |4=>exact hy4
  |k+5=>rw[List.getElem?_eq_none (by omega),List.getElem?_eq_none (by simp)]
 refine⟨⟨a0,a1,a2,a3,a4⟩,(zY (o:=0) (s:=1) k0 (zY (o:=1) (s:=1) k1 (zY (o:=2) (s:=1) k2 (zY (o:=3) (s:=1) k3 (last_at (o:=4) (s:=1) hl k4))))),?_,⟨p0,p1,p2,p3,p4⟩⟩;simp only[qo,List.map_cons,List.map_nil,Rows.uptoBulk,Rows.uptoBulkAll];simp only at b0 b1 b2 b3 b4;omega
theorem opn22:Opn Tryz.prog 22 (Kd.slice 34 k34) (fun l=>(l.map qo).sum+1) (fun l=>∀x∈l,wf34 x):=FN Tryz.underlying22 (by kernel_rfl) opn34
end Go.Proofs.aj.W7
namespace Go.Proofs.aj.W7
open Go.RowKit Go.Proofs.ah.aD Go.Proofs.ah.bH Go.Proofs.ah.bV
attribute [local go_sem] dA dB dP dQ bY bZ dD dF
def bP.l0:Nat→List (S34)→List (S34)→Int→Option ((List (S34)))
 |0,_,_,_=>none
 |k+1,x0,x3,x4=>if x4<(x0.length:Int)then(if x4<40 then(if 0≤x4 then(if 0≤(mn (((au x0 x4).f4).length:Int) 6)then(if(mn (((au x0 x4).f4).length:Int) 6)≤(((au x0 x4).f4).length:Int)then(if x3.length<1954687338268 then(bP.l0 k x0 (x3++[(⟨(au x0 x4).f0,(au x0 x4).f1,(au x0 x4).f2,(au x0 x4).f3,(((au x0 x4).f4).take ((mn (((au x0 x4).f4).length:Int) 6):Int).toNat)⟩:S34)]) (wrap64 (x4+1)))else(none))else(none))else(none))else(none))else(some x3))else(some x3)
def bP.f(k:Nat)(l0:List (S34)):Option ((List (S34))):=bP.l0 k l0 (([] :List (S34))) 0
theorem bP.calls(k:Nat)(P0_:Nat→Prop)(A0:Option Addr)(c0:Nat)(l0 r:List (S34))(w:World)(hs0:Kd.V k34 34 w w.heap.size (fun k_=>P0_ k_) (.slice A0 l0.length c0) l0)(h:bP.f k l0=some r):
 Calls Tryz.prog 15 #[.slice A0 l0.length c0] w fun e w'=>∃v0_:Value,e=.returned (v0_)∧Kd.N k34 34 w' w.heap.size (fun k_=>(P0_ k_∨w.heap.size≤k_)) v0_ r∧Below w.heap.size w w':=by
 have hu34:=Tryz.underlying34;have HO0:=ak.mk (show Kd.V k34 34 w w.heap.size (fun k_=>(P0_ k_∨w.heap.size≤k_)) (.slice A0 l0.length c0) l0 from Kd.mF hs0 (fun k_ hk=>.inl hk));have HB:=ak.mk (Below.refl w.heap.size w);have H:(bP.l0 k l0 (([] :List (S34))) 0)=some r:=h;clear h;obtain⟨y637,KG⟩:∃y_:List (S34),y_=(([] :List (S34))):=⟨_,rfl⟩
 replace H:(bP.l0 k l0 y637 0)=some r:=by first|(rw[KG];with_reducible exact H)|(have H2_:=(Option.bind_some _ _).symm.trans H;rw[KG];with_reducible exact H2_)|(have H2_:=(Option.bind_some _ _).symm.trans H;with_reducible exact H2_)|with_reducible exact H|(rw[KG];exact H)|exact H
 have Ny637:=ak.mk KG;clear KG;have H':=ak.mk H;clear H;go_enter Tryz.func15,Tryz.ntmps15
 go_wp2_with(first|((with_reducible refine cB (N:=6) rfl ?_);refine Kd.N_lit k34 _ 34 ?hg (N':=6) ?hd (xs:=([] :List (S34))) (inner:=[]) (ok:=(fun k_=>(P0_ k_∨w.heap.size≤k_))) (okp:=(fun k_=>(P0_ k_∨w.heap.size≤k_))) ?hr ?hp (fun _ hk=>hk) ((show∀k_,w.heap.size≤k_→(fun k_=>(P0_ k_∨w.heap.size≤k_)) k_ from fun k_ hk=>(.inr (Nat.le_trans (aR bz) hk))) _ (Nat.le_refl _)) (Below.refl _ _) (Nat.le_refl _) (by simp) ?_;(case hd=>rfl);(case hg=>rfl);(case hr=>first|(go_simp;done)|(go_simp;rfl));(case hp=>exact(bK.none _ _));intro v638 w2 ho3 hb hg_ fH;clear hg_ fH;(first|rw[←Ny637.out]at ho3|(simp only[Int.reduceToNat]at ho3;rw[←Ny637.out]at ho3));have n0_:=ak.mk (Kd.V_elder' (by(with_reducible repeat(first|apply Kd.mV|apply Kd.mW|apply Kd.pE));exact HO0.out) (by first|exact Kd.IG ho3|exact Kd.jH ho3) hb);have n1_:=ak.mk (Kd.qE ho3 (aR bz));have n2_:=ak.mk (aG bz hb);clear HO0;clear HB;have HO0:=n0_;have HO639:=n1_;have HB:=n2_;clear n0_ n1_ n2_;clear hb ho3))
 go_loopg [3,4] k (fun kq v3 v4 w'=>∃(nI:List (S34)) (dZ:Int),v4=.int .i64 dZ∧ak (bP.l0 kq l0 nI dZ=some r)∧ak (kq≤k)∧ak (Kd.V k34 34 w' w.heap.size (fun k_=>(P0_ k_∨w.heap.size≤k_)∧some k_≠(v3:Value).ownBlock) (.slice A0 l0.length c0) l0)∧ak (Kd.N k34 34 w' w.heap.size (fun k_=>(P0_ k_∨w.heap.size≤k_)) v3 nI)∧ak (Below w.heap.size w w'))
 case atStart=>exact⟨(y637),(0),q'c,H',⟨Nat.le_refl _⟩,⟨by(with_reducible repeat(first|apply Kd.mV|apply Kd.mW|apply Kd.pE));exact HO0.out⟩,⟨by(with_reducible repeat(first|apply Kd.wu|apply Kd.wz|apply Kd.zq));exact HO639.out⟩,⟨bz⟩⟩
 case round=>
  clear H'
  try clear c1
  try clear p2
  obtain⟨nI,dZ,rfl,HA,HK1,yN,gq,HB⟩:=hrel;cases gk with
  |zero=>exact absurd HA.out (by simp[bP.l0])
  |succ k1=>
   have H:=HA.out;clear HA;simp only[bP.l0]at H
   by_cases c4:dZ<(l0.length:Int)
   ·rw[if_pos c4]at H
    have mP:decide (dZ<(l0.length:Int))=true:=decide_eq_true c4;clear c4
    by_cases c5:dZ<40
    ·rw[if_pos c5]at H
     have uf:decide (dZ<40)=true:=decide_eq_true c5;clear c5
     by_cases c6:0≤dZ
     ·rw[if_pos c6]at H
      have zm:decide (0≤dZ)=true:=decide_eq_true c6;clear c6;obtain⟨ji7,hji7⟩:∃j_:Int,(mn (((au l0 dZ).f4).length:Int) 6)=j_:=⟨_,rfl⟩
      replace H:(if 0≤(ji7)then(if(ji7)≤(((au l0 dZ).f4).length:Int)then(if nI.length<1954687338268 then(bP.l0 k1 l0 (nI++[(⟨(au l0 dZ).f0,(au l0 dZ).f1,(au l0 dZ).f2,(au l0 dZ).f3,(((au l0 dZ).f4).take ((ji7):Int).toNat)⟩:S34)]) (wrap64 (dZ+1)))else(none))else(none))else(none))=some r:=by first|(rw[hji7]at H;exact H)|(simp only[hji7]at H⊢;exact H)
      have hji7_:(if 6<(((au l0 dZ).f4).length:Int)then 6 else(((au l0 dZ).f4).length:Int))=ji7:=hji7
      by_cases c8:0≤(ji7)
      ·rw[if_pos c8]at H
       have xB:=eq_true c8;have c8b1:decide (0≤(ji7))=true:=decide_eq_true c8;clear c8
       by_cases c9:(ji7)≤(((au l0 dZ).f4).length:Int)
       ·rw[if_pos c9]at H
        have c9b0:=eq_true c9;have c9b1:decide ((ji7)≤(((au l0 dZ).f4).length:Int))=true:=decide_eq_true c9;clear c9;obtain⟨uq,KH⟩:∃y_:List (S36),y_=(((au l0 dZ).f4).take ((ji7):Int).toNat):=⟨_,rfl⟩
        replace H:(if nI.length<1954687338268 then(bP.l0 k1 l0 (nI++[(⟨(au l0 dZ).f0,(au l0 dZ).f1,(au l0 dZ).f2,(au l0 dZ).f3,uq⟩:S34)]) (wrap64 (dZ+1)))else(none))=some r:=by first|(rw[KH];with_reducible exact H)|(have H2_:=(Option.bind_some _ _).symm.trans H;rw[KH];with_reducible exact H2_)|(have H2_:=(Option.bind_some _ _).symm.trans H;with_reducible exact H2_)|with_reducible exact H|(rw[KH];exact H)|exact H
        have Ny642:=ak.mk KH;clear KH
        by_cases c10:nI.length<1954687338268
        ·rw[if_pos c10]at H
         have LMc10:=ak.mk c10;clear c10;obtain⟨y647,KI⟩:∃y_:List (S34),y_=(nI++[(⟨(au l0 dZ).f0,(au l0 dZ).f1,(au l0 dZ).f2,(au l0 dZ).f3,uq⟩:S34)]):=⟨_,rfl⟩
         replace H:(bP.l0 k1 l0 y647 (wrap64 (dZ+1)))=some r:=by first|(rw[KI];with_reducible exact H)|(have H2_:=(Option.bind_some _ _).symm.trans H;rw[KI];with_reducible exact H2_)|(have H2_:=(Option.bind_some _ _).symm.trans H;with_reducible exact H2_)|with_reducible exact H|(rw[KI];exact H)|exact H
         have Ny647:=ak.mk KI;clear KI;have H':=ak.mk H;clear H;have p640:0≤(dZ:Int):=q'b;have q640:dZ<(l0.length:Int):=q'b;obtain⟨ad640,jX,jK,e640,hx640_0,hx640_1,hx640_2,hx640_3,hx640_4,O4,O5⟩:=kH (Kd.Ep yN.out).2.2 dZ p640 q640;cases e640;obtain⟨ce640,hce640,hMe640,hcc640⟩:=Kd.V_get yN.out z34 dZ p640 (by first|exact q640|exact q'b|(have e_:=(Kd.Ep yN.out).1;omega));obtain⟨ua640_4,uc640_4,rfl,II,IJ⟩:=Qn hMe640;have Dk:=hcc640 4 _ rfl;rw[lH _ _ 4 (by omega)]at Dk;replace Dk:=Option.some.inj (Dk.symm.trans hx640_4);injection Dk with hva_ hvn_ hvc_
         rw[hva_]at IJ;rw[hvc_]at II;have mX:=ak.mk (show Kd.V k36 36 _ w.heap.size _ _ ((au l0 dZ).f4)from Kd.V_mk II IJ);clear hva_ hvn_ hvc_ IJ II;clear hcc640 hce640;have Dl:=ak.mk O5;have HC640_4:=ak.mk O4;clear O5 O4;replace p640:=eq_true p640;replace q640:=eq_true q640
         go_wp2_with(first|((with_reducible refine cB (N:=5) rfl ?_);refine eG ?hg (N:=5) ?hd (cs:=#[.int .i64 0,.int .i64 0,.string (⟨#[]⟩:ByteArray),.string (⟨#[]⟩:ByteArray),.slice none 0 0]) (t:=34) ?hr ?_;(case hd=>rfl);(case hg=>rfl);(case hr=>first|(go_simp;done)|(go_simp;rfl));intro eT hg w11 fK hb;have n0_:=ak.mk (Kd.O6 (Kd.KJ (by(with_reducible repeat(first|apply Kd.mV|apply Kd.mW|apply Kd.pE));exact yN.out) eT (Nat.le_of_eq hg.symm)) hb);have n1_:=ak.mk (Kd.ji (Kd.N_elderB (nz gq.out) eT (Nat.le_of_eq hg.symm)) hb);have n2_:=ak.mk (Kd.O6 (Kd.KJ (by(with_reducible repeat(first|apply Kd.mV|apply Kd.mW|apply Kd.pE));exact mX.out) eT (Nat.le_of_eq hg.symm)) hb);have n3_:=ak.mk (Kd.eD (by repeat(first|(with_reducible exact Dl.out)|(with_reducible refine Kd.lQ ?_ _)|(with_reducible refine Kd.mU ?_ _)|(with_reducible refine Kd.o7 ?_)|exact Dl.out)) hb);have n4_:=ak.mk (aG bz hb);have n5_:=ak.mk (fK);have n6_:=ak.mk ((by rw[hg];exact(aR bz):w.heap.size≤eT));have n7_:=ak.mk ((by rw[hg];exact(aR bz):w.heap.size≤eT));clear yN;clear gq;clear mX;clear Dl;clear HB;have yN:=n0_;have gq:=n1_;have mX:=n2_;have Dl:=n3_;have HB:=n4_;have jc:=n5_;have GW641:=n6_;have F4:=n7_;clear n0_ n1_ n2_ n3_ n4_ n5_ n6_ n7_;clear hb fK hg;have Nu:w11.cell? ⟨eT,0,none⟩=some (.int .i64 0):=(aC jc.out 0).trans rfl;have Nv:w11.cell? ⟨eT,1,none⟩=some (.int .i64 0):=(aC jc.out 1).trans rfl;have Nw:w11.cell? ⟨eT,2,none⟩=some (.string (⟨#[]⟩:ByteArray)):=(aC jc.out 2).trans rfl;have Ny:w11.cell? ⟨eT,3,none⟩=some (.string (⟨#[]⟩:ByteArray)):=(aC jc.out 3).trans rfl;have Nz:w11.cell? ⟨eT,4,none⟩=some (.slice none 0 0):=(aC jc.out 4).trans rfl;have NA:=ay jc.out 0;have NC:=ay jc.out 1;have ND:=ay jc.out 2;have NG:=ay jc.out 3;have NH:=ay jc.out 4)|((with_reducible refine jW (t:=34) (p:=5) rfl ?_);refine jy (t:=34) (p:=5) (v:=?vo_w13) (w1:=(((((w11.setCell ⟨eT,0,none⟩ (.int .i64 ((au l0 dZ).f0))).setCell ⟨eT,1,none⟩ (.int .i64 ((au l0 dZ).f1))).setCell ⟨eT,2,none⟩ (.string ((au l0 dZ).f2))).setCell ⟨eT,3,none⟩ (.string ((au l0 dZ).f3))).setCell ⟨eT,4,none⟩ (.slice jX ((au l0 dZ).f4).length jK))) ?hg ?ho ?hn ?hr ?_;(case ho=>rfl);(case hg=>rfl);(case hn=>rfl);(case hr=>first|(go_simp;done)|(go_simp;rfl));intro w13 hw;have n0_:ak (Kd.V k34 34 w13 w.heap.size (fun k_=>(P0_ k_∨w.heap.size≤k_)∧some k_≠(u3:Value).ownBlock∧k_≠eT) (.slice (some ad640) l0.length c0) l0):=⟨(by rw[hw];exact(by(with_reducible repeat(first|apply Kd.mV|apply Kd.mW|apply Kd.pE));exact Kd.mF (Kd.uw (p:=⟨eT,4,none⟩) (Kd.uw (p:=⟨eT,3,none⟩) (Kd.uw (p:=⟨eT,2,none⟩) (Kd.uw (p:=⟨eT,1,none⟩) (Kd.uw (p:=⟨eT,0,none⟩) (Kd.mF yN.out (fun k_ hk=>(⟨hk,hk.2⟩:_∧k_≠eT))) (fun _ hk=>hk.2) (.int .i64 ((au l0 dZ).f0))) (fun _ hk=>hk.2) (.int .i64 ((au l0 dZ).f1))) (fun _ hk=>hk.2) (.string ((au l0 dZ).f2))) (fun _ hk=>hk.2) (.string ((au l0 dZ).f3))) (fun _ hk=>hk.2) (.slice jX ((au l0 dZ).f4).length jK)) (fun _ hk=>⟨hk.1.1.1,⟨hk.1.1.2,hk.1.2⟩⟩)))⟩;have n1_:ak (Kd.N k34 34 w13 w.heap.size (fun k_=>(P0_ k_∨w.heap.size≤k_)∧k_≠eT) u3 nI):=⟨(by rw[hw];exact(by(with_reducible repeat(first|apply Kd.wu|apply Kd.wz|apply Kd.zq));exact Kd.nU (Kd.F5 (p:=⟨eT,4,none⟩) (Kd.F5 (p:=⟨eT,3,none⟩) (Kd.F5 (p:=⟨eT,2,none⟩) (Kd.F5 (p:=⟨eT,1,none⟩) (Kd.F5 (p:=⟨eT,0,none⟩) (Kd.nU gq.out (fun k_ hk=>(⟨hk,hk.2⟩:_∧k_≠eT))) (fun _ hk=>hk.2) (.int .i64 ((au l0 dZ).f0))) (fun _ hk=>hk.2) (.int .i64 ((au l0 dZ).f1))) (fun _ hk=>hk.2) (.string ((au l0 dZ).f2))) (fun _ hk=>hk.2) (.string ((au l0 dZ).f3))) (fun _ hk=>hk.2) (.slice jX ((au l0 dZ).f4).length jK)) (fun _ hk=>⟨hk.1.1,hk.1.2⟩)))⟩;have n2_:ak (Kd.V k36 36 w13 w.heap.size (fun k_=>(P0_ k_∨w.heap.size≤k_)∧some k_≠(u3:Value).ownBlock∧k_≠eT) (.slice jX ((au l0 dZ).f4).length jK) ((au l0 dZ).f4)):=⟨(by rw[hw];exact(by(with_reducible repeat(first|apply Kd.mV|apply Kd.mW|apply Kd.pE));exact Kd.mF (Kd.uw (p:=⟨eT,4,none⟩) (Kd.uw (p:=⟨eT,3,none⟩) (Kd.uw (p:=⟨eT,2,none⟩) (Kd.uw (p:=⟨eT,1,none⟩) (Kd.uw (p:=⟨eT,0,none⟩) (Kd.mF mX.out (fun k_ hk=>(⟨hk,hk.2⟩:_∧k_≠eT))) (fun _ hk=>hk.2) (.int .i64 ((au l0 dZ).f0))) (fun _ hk=>hk.2) (.int .i64 ((au l0 dZ).f1))) (fun _ hk=>hk.2) (.string ((au l0 dZ).f2))) (fun _ hk=>hk.2) (.string ((au l0 dZ).f3))) (fun _ hk=>hk.2) (.slice jX ((au l0 dZ).f4).length jK)) (fun _ hk=>⟨hk.1.1.1,⟨hk.1.1.2,hk.1.2⟩⟩)))⟩;have n3_:ak (w13.heap[eT]?=some (.cells #[.int .i64 ((au l0 dZ).f0),.int .i64 ((au l0 dZ).f1),.string ((au l0 dZ).f2),.string ((au l0 dZ).f3),.slice jX ((au l0 dZ).f4).length jK] 34 (0,0))):=⟨(by rw[hw];exact(by(with_reducible repeat(first|refine aT ?_ _|refine aY ?_ |refine aU ?_ _));refine bT (cs:=#[.int .i64 ((au l0 dZ).f0),.int .i64 ((au l0 dZ).f1),.string ((au l0 dZ).f2),.string ((au l0 dZ).f3),.slice none 0 0]) ?_ 4 _ rfl;(with_reducible repeat(first|refine aT ?_ _|refine aY ?_ |refine aU ?_ _));refine bT (cs:=#[.int .i64 ((au l0 dZ).f0),.int .i64 ((au l0 dZ).f1),.string ((au l0 dZ).f2),.string (⟨#[]⟩:ByteArray),.slice none 0 0]) ?_ 3 _ rfl;(with_reducible repeat(first|refine aT ?_ _|refine aY ?_ |refine aU ?_ _));refine bT (cs:=#[.int .i64 ((au l0 dZ).f0),.int .i64 ((au l0 dZ).f1),.string (⟨#[]⟩:ByteArray),.string (⟨#[]⟩:ByteArray),.slice none 0 0]) ?_ 2 _ rfl;(with_reducible repeat(first|refine aT ?_ _|refine aY ?_ |refine aU ?_ _));refine bT (cs:=#[.int .i64 ((au l0 dZ).f0),.int .i64 0,.string (⟨#[]⟩:ByteArray),.string (⟨#[]⟩:ByteArray),.slice none 0 0]) ?_ 1 _ rfl;(with_reducible repeat(first|refine aT ?_ _|refine aY ?_ |refine aU ?_ _));refine bT (cs:=#[.int .i64 0,.int .i64 0,.string (⟨#[]⟩:ByteArray),.string (⟨#[]⟩:ByteArray),.slice none 0 0]) ?_ 0 _ rfl;(with_reducible repeat(first|refine aT ?_ _|refine aY ?_ |refine aU ?_ _));exact jc.out))⟩;have n4_:ak (Below w.heap.size w w13):=⟨(by rw[hw];exact(bs F4.out))⟩;clear hw;clear yN;clear gq;clear mX;clear jc;clear HB;have yN:=n0_;have gq:=n1_;have mX:=n2_;have jc:=n3_;have HB:=n4_;clear n0_ n1_ n2_ n3_ n4_;have rP:w13.cell? ⟨eT,0,none⟩=some (.int .i64 ((au l0 dZ).f0)):=(aC jc.out 0).trans rfl;have rQ:w13.cell? ⟨eT,1,none⟩=some (.int .i64 ((au l0 dZ).f1)):=(aC jc.out 1).trans rfl;have rR:w13.cell? ⟨eT,2,none⟩=some (.string ((au l0 dZ).f2)):=(aC jc.out 2).trans rfl;have rT:w13.cell? ⟨eT,3,none⟩=some (.string ((au l0 dZ).f3)):=(aC jc.out 3).trans rfl;have rU:w13.cell? ⟨eT,4,none⟩=some (.slice jX ((au l0 dZ).f4).length jK):=(aC jc.out 4).trans rfl;have rV:=ay jc.out 0;have rW:=ay jc.out 1;have rX:=ay jc.out 2;have rY:=ay jc.out 3;have rZ:=ay jc.out 4;have q15:((ji7):Int)≤((((au l0 dZ).f4).length:Int):Int):=q'b;obtain⟨i015,hi015,_,hsz15,_⟩:=info_parts Gz;have O7:((au l0 dZ).f4).length≤jK:=HC640_4.out;have hC15:Kd.F k36 _ _ jX ((au l0 dZ).f4).length ((au l0 dZ).f4):=(Kd.V_at (base:=w.heap.size) mX.out).2.2;have hcut15:=vZ (P:=Tryz.prog) 32 36 .i64 Tryz.underlying32 hi015 jX ((au l0 dZ).f4).length jK (ji7) (q'b) q15 O7;have hr15:=Kd.F_take (m:=((ji7):Int).toNat) hC15 (by omega);have hy15:uq.length=((ji7):Int).toNat:=(by rw[Ny642.out,List.length_take];omega);rw[←Ny642.out]at hr15;rw[←hy15]at hcut15;have Ci:=ak.mk (show Kd.V k36 36 _ w.heap.size _ (.slice jX uq.length jK) uq from Kd.V_mk (by omega) hr15);have HC646:=ak.mk (show uq.length≤jK from by omega);clear hr15 hC15 O7 hi015 hsz15;have KY15:=ak.mk hy15;clear hy15;replace q15:=eq_true q15)|((with_reducible refine jW (t:=32) (p:=28) rfl ?_);refine jy (t:=32) (p:=28) (v:=?vo_w16) (w1:=(w13.setCell ⟨eT,4,none⟩ (.slice jX uq.length jK))) ?hg ?ho ?hn ?hr ?_;(case ho=>rfl);(case hg=>rfl);(case hn=>rfl);(case hr=>first|(go_simp;done)|(go_simp;rfl));intro w16 hw;have n0_:ak (Kd.V k34 34 w16 w.heap.size (fun k_=>(P0_ k_∨w.heap.size≤k_)∧some k_≠(u3:Value).ownBlock∧k_≠eT) (.slice (some ad640) l0.length c0) l0):=⟨(by rw[hw];exact(by(with_reducible repeat(first|apply Kd.mV|apply Kd.mW|apply Kd.pE));exact Kd.mF (Kd.uw (p:=⟨eT,4,none⟩) (Kd.mF yN.out (fun k_ hk=>(⟨hk,hk.2.2⟩:_∧k_≠eT))) (fun _ hk=>hk.2) (.slice jX uq.length jK)) (fun _ hk=>⟨hk.1.1,⟨hk.1.2.1,hk.1.2.2⟩⟩)))⟩;have n1_:ak (Kd.N k34 34 w16 w.heap.size (fun k_=>(P0_ k_∨w.heap.size≤k_)∧k_≠eT) u3 nI):=⟨(by rw[hw];exact(by(with_reducible repeat(first|apply Kd.wu|apply Kd.wz|apply Kd.zq));exact Kd.nU (Kd.F5 (p:=⟨eT,4,none⟩) (Kd.nU gq.out (fun k_ hk=>(⟨hk,hk.2⟩:_∧k_≠eT))) (fun _ hk=>hk.2) (.slice jX uq.length jK)) (fun _ hk=>⟨hk.1.1,hk.1.2⟩)))⟩;have n2_:ak (Kd.V k36 36 w16 w.heap.size (fun k_=>(P0_ k_∨w.heap.size≤k_)∧some k_≠(u3:Value).ownBlock∧k_≠eT) (.slice jX ((au l0 dZ).f4).length jK) ((au l0 dZ).f4)):=⟨(by rw[hw];exact(by(with_reducible repeat(first|apply Kd.mV|apply Kd.mW|apply Kd.pE));exact Kd.mF (Kd.uw (p:=⟨eT,4,none⟩) (Kd.mF mX.out (fun k_ hk=>(⟨hk,hk.2.2⟩:_∧k_≠eT))) (fun _ hk=>hk.2) (.slice jX uq.length jK)) (fun _ hk=>⟨hk.1.1,⟨hk.1.2.1,hk.1.2.2⟩⟩)))⟩;have n3_:ak (Kd.V k36 36 w16 w.heap.size (fun k_=>(P0_ k_∨w.heap.size≤k_)∧some k_≠(u3:Value).ownBlock∧k_≠eT) (.slice jX uq.length jK) uq):=⟨(by rw[hw];exact(by(with_reducible repeat(first|apply Kd.mV|apply Kd.mW|apply Kd.pE));exact Kd.mF (Kd.uw (p:=⟨eT,4,none⟩) (Kd.mF Ci.out (fun k_ hk=>(⟨hk,hk.2.2⟩:_∧k_≠eT))) (fun _ hk=>hk.2) (.slice jX uq.length jK)) (fun _ hk=>⟨hk.1.1,⟨hk.1.2.1,hk.1.2.2⟩⟩)))⟩;have n4_:ak (w16.heap[eT]?=some (.cells #[.int .i64 ((au l0 dZ).f0),.int .i64 ((au l0 dZ).f1),.string ((au l0 dZ).f2),.string ((au l0 dZ).f3),.slice jX uq.length jK] 34 (0,0))):=⟨(by rw[hw];exact(by(with_reducible repeat(first|refine aT ?_ _|refine aY ?_ |refine aU ?_ _));refine bT (cs:=#[.int .i64 ((au l0 dZ).f0),.int .i64 ((au l0 dZ).f1),.string ((au l0 dZ).f2),.string ((au l0 dZ).f3),.slice jX ((au l0 dZ).f4).length jK]) ?_ 4 _ rfl;(with_reducible repeat(first|refine aT ?_ _|refine aY ?_ |refine aU ?_ _));exact jc.out))⟩;have n5_:ak (Below w.heap.size w w16):=⟨(by rw[hw];exact(bs F4.out))⟩;clear hw;clear yN;clear gq;clear mX;clear Ci;clear jc;clear HB;have yN:=n0_;have gq:=n1_;have mX:=n2_;have Ci:=n3_;have jc:=n4_;have HB:=n5_;clear n0_ n1_ n2_ n3_ n4_ n5_;have NI:w16.cell? ⟨eT,0,none⟩=some (.int .i64 ((au l0 dZ).f0)):=(aC jc.out 0).trans rfl;have NJ:w16.cell? ⟨eT,1,none⟩=some (.int .i64 ((au l0 dZ).f1)):=(aC jc.out 1).trans rfl;have NK:w16.cell? ⟨eT,2,none⟩=some (.string ((au l0 dZ).f2)):=(aC jc.out 2).trans rfl;have NM:w16.cell? ⟨eT,3,none⟩=some (.string ((au l0 dZ).f3)):=(aC jc.out 3).trans rfl;have NP:w16.cell? ⟨eT,4,none⟩=some (.slice jX uq.length jK):=(aC jc.out 4).trans rfl;have NQ:=ay jc.out 0;have NR:=ay jc.out 1;have NS:=ay jc.out 2;have NT:=ay jc.out 3;have NU:=ay jc.out 4)|((with_reducible refine qz (b:=.append) (xs:=#[.tmp 29,.tmp 31]) rfl ?_);at_builtin;refine Kd.N_append k34 (w0:=w) w.heap.size rfl (.tmp 29) (.tmp 31) 22 34 (.agg #[(.int .i64 0),(.int .i64 0),(.string ⟨#[]⟩),(.string ⟨#[]⟩),(.slice none 0 0)]) 72 rfl Tryz.underlying22 qR rfl (by decide) (by omega) u3 nI (⟨(au l0 dZ).f0,(au l0 dZ).f1,(au l0 dZ).f2,(au l0 dZ).f3,uq⟩:S34) [.int .i64 ((au l0 dZ).f0),.int .i64 ((au l0 dZ).f1),.string ((au l0 dZ).f2),.string ((au l0 dZ).f3),.slice jX uq.length jK] (fun k_=>(P0_ k_∨w.heap.size≤k_)∧k_≠eT) (fun k_=>((fun k_=>(P0_ k_∨w.heap.size≤k_)∧k_≠eT)) k_∧some k_≠(u3:Value).ownBlock) rfl rfl ?aP (fun _ hk=>hk) ?aF ?aO ?aB ?aS ?aL ?_;(case aP=>exact(k34_mkF _ _ (⟨(au l0 dZ).f0,(au l0 dZ).f1,(au l0 dZ).f2,(au l0 dZ).f3,uq⟩:S34) (Kd.Ep (Kd.mF (ok':=(fun k_=>((fun k_=>(P0_ k_∨w.heap.size≤k_)∧k_≠eT)) k_∧some k_≠(u3:Value).ownBlock)) (Ci.out) (fun k_ hk=>⟨⟨hk.1,hk.2.2⟩,hk.2.1⟩))).2.1 (Kd.V_F (Kd.mF (ok':=(fun k_=>((fun k_=>(P0_ k_∨w.heap.size≤k_)∧k_≠eT)) k_∧some k_≠(u3:Value).ownBlock)) (Ci.out) (fun k_ hk=>⟨⟨hk.1,hk.2.2⟩,hk.2.1⟩)))));(case aB=>exact(bs F4.out));(case aF=>exact(fun k_ hk=>⟨(.inr (Nat.le_trans (aR (bs F4.out)) hk)),Kd.freshB (g:=eT) (o:=.cells #[.int .i64 ((au l0 dZ).f0),.int .i64 ((au l0 dZ).f1),.string ((au l0 dZ).f2),.string ((au l0 dZ).f3),.slice jX uq.length jK] 34 (0,0)) (kz jc.out) k_ hk⟩));(case aO=>exact(nz gq.out));(case aS=>exact(aR (bs F4.out)));(case aL=>have:=LMc10.out;omega);intro v648 w18 ho hb hg hat;rw[←Ny647.out]at ho;have n0_:=ak.mk (Kd.Er (ok:=(fun k_=>(P0_ k_∨w.heap.size≤k_)∧k_≠eT)) (by(with_reducible repeat(first|apply Kd.mV|apply Kd.mW|apply Kd.pE));exact Kd.mF yN.out (fun _ hk=>⟨⟨hk.1,hk.2.2⟩,hk.2.1⟩)) hg hat);have n1_:=ak.mk (Kd.Er (ok:=(fun k_=>(P0_ k_∨w.heap.size≤k_)∧k_≠eT)) (by(with_reducible repeat(first|apply Kd.mV|apply Kd.mW|apply Kd.pE));exact Kd.mF mX.out (fun _ hk=>⟨⟨hk.1,hk.2.2⟩,hk.2.1⟩)) hg hat);have n2_:=ak.mk (qJ (g:=eT) (o:=.cells #[.int .i64 ((au l0 dZ).f0),.int .i64 ((au l0 dZ).f1),.string ((au l0 dZ).f2),.string ((au l0 dZ).f3),.slice jX uq.length jK] 34 (0,0)) (kz jc.out) hg (Kd.N_away gq.out (fun _ hk=>hk.2)));have n3_:=ak.mk (Kd.Er (ok:=(fun k_=>(P0_ k_∨w.heap.size≤k_)∧k_≠eT)) (by(with_reducible repeat(first|apply Kd.mV|apply Kd.mW|apply Kd.pE));exact Kd.mF Ci.out (fun _ hk=>⟨⟨hk.1,hk.2.2⟩,hk.2.1⟩)) hg hat);have n4_:=ak.mk (hb);have n5_:=ak.mk (ho);clear yN;clear mX;clear jc;clear Ci;clear HB;clear gq;have yN:=n0_;have mX:=n1_;have jc:=n2_;have Ci:=n3_;have HB:=n4_;have HO649:=n5_;clear n0_ n1_ n2_ n3_ n4_ n5_;clear ho hb hg hat))
         go_roundg k1
         case measure=>have:=HK1.out;omega
         case rel=>exact⟨(y647),(wrap64 (dZ+1)),q'c,H',⟨by have:=HK1.out;omega⟩,⟨by(with_reducible repeat(first|apply Kd.mV|apply Kd.mW|apply Kd.pE));exact Kd.mF yN.out (fun _ hk=>⟨hk.1.1,hk.2⟩)⟩,⟨by(with_reducible repeat(first|apply Kd.wu|apply Kd.wz|apply Kd.zq));exact Kd.nU HO649.out (fun _ hk=>hk.1)⟩,⟨bs F4.out⟩⟩
        ·rw[if_neg c10]at H
         exact absurd H (by simp)
       ·rw[if_neg c9]at H
        exact absurd H (by simp)
      ·rw[if_neg c8]at H
       exact absurd H (by simp)
     ·rw[if_neg c6]at H
      exact absurd H (by simp)
    ·rw[if_neg c5]at H
     have uf:decide (dZ<40)=false:=decide_eq_false c5;clear c5;obtain rfl:=Option.some.inj H;go_wp2;go_ret;exact⟨_,by first|rfl|(simp[aJ,aM]<;>rfl)|(simp[*,aJ,aM]<;>rfl),by(with_reducible repeat(first|apply Kd.wu|apply Kd.wz|apply Kd.zq));exact gq.out,bz⟩
   ·rw[if_neg c4]at H
    have mP:decide (dZ<(l0.length:Int))=false:=decide_eq_false c4;clear c4;obtain rfl:=Option.some.inj H;go_wp2;go_ret;exact⟨_,by first|rfl|(simp[aJ,aM]<;>rfl)|(simp[*,aJ,aM]<;>rfl),by(with_reducible repeat(first|apply Kd.wu|apply Kd.wz|apply Kd.zq));exact gq.out,bz⟩
end Go.Proofs.aj.W7
