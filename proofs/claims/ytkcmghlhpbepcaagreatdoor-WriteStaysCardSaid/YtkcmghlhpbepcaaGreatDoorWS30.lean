/- Lemmas and walks, part 30. -/
import Derived.Test.YtkcmghlhpbepcaaGreatDoorWS29
set_option linter.unusedVariables false
set_option linter.unusedSimpArgs false
set_option maxHeartbeats 8000000
set_option maxRecDepth 100000
namespace Go.Proofs.aj.W7
open Go.RowKit Go.Proofs.ah.aD Go.Proofs.ah.bG Go.Proofs.ah.bR
attribute [local go_sem] dD dF dV dW bU bV dG dH
def Cu.f:Option (List Bt):=some (([(⟨#[105,102,114,97,109,101]⟩:Bt),(⟨#[110,111,101,109,98,101,100]⟩:Bt),(⟨#[110,111,102,114,97,109,101,115]⟩:Bt),(⟨#[115,99,114,105,112,116]⟩:Bt),(⟨#[115,116,121,108,101]⟩:Bt),(⟨#[120,109,112]⟩:Bt)] :List Bt))
mutual
def jA.j0:Nat→List (S34)→Int→Bool→Option (Int)
 |0,_,_,_=>none
 |k+1,x0,x1,x13=>if x13=true then(some 0)else(jA.l0 k x0 x1 (wrap64 (x1+1)))
def jA.l0:Nat→List (S34)→Int→Int→Option (Int)
 |0,_,_,_=>none
 |k+1,x0,x1,x5=>if x5<(x0.length:Int)then(if 0≤x5 then(if 0≤x1 then(if x1<(x0.length:Int)then(if((au x0 x5).f0)≤((au x0 x1).f0)then(some x5)else(jA.l0 k x0 x1 (wrap64 (x5+1))))else(none))else(none))else(none))else(some (x0.length:Int))
end
def jA.f(k:Nat)(l0:List (S34))(a1:Int):Option (Int):=if a1<0 then(jA.j0 k l0 a1 true)else(jA.j0 k l0 a1 (decide (a1≥(l0.length:Int))))
end Go.Proofs.aj.W7
namespace Go.Proofs.aj.W7
open Go.RowKit Go.Proofs Go.Proofs.YtkcmghlhpbepcaaGreatDoor Go.Proofs.ah.aD Go.Proofs.ah.bG Go.Proofs.ah.bR
def ny(xs:List Rw)(k:Nat):Int:=(au xs k).f0
def rZ.f(l0:List Rw)(a1:Int):Option (List Int):=
 if l0.length≤1000000000000 then
  if a1< -1∨(l0.length:Int)≤a1 then some []
  else if a1= -1 then some (((List.range l0.length).filter fun k:Nat=>decide (ny l0 k=0)).map (fun k:Nat=>(k:Int)))
  else(jA.f (l0.length+1) l0 a1).bind fun e=>some (((List.range l0.length).filter fun k:Nat=>decide (a1<(k:Int))&&(decide ((k:Int)<e)&&decide (ny l0 k=wrap64 (ny l0 a1.toNat+1)))).map (fun k:Nat=>(k:Int)))
 else none
def rZ.T8:Bool×List (List Nat×List Nat):=(true,[([],[]),([0],[0]),([1],[1]),([2,1],[1,2]),([3,1,1],[1,3]),([4],[4]),([4],[4]),([5,6,4],[4,5,6]),([4,7,1],[1,4,7]),([8,4,1],[1,8]),([9],[9]),([9],[9]),([9],[9]),([11,12,9,9],[9,11,12]),([10,13,9],[9,10,13]),([9,14,1],[1,9,14]),([15,13,1],[1,15]),([16],[16]),([16],[16]),([17,18,16],[16,17,18]),([19,16],[16,19]),([20,16],[16,20]),([16],[16]),([16],[16]),([22,23,16],[16,22,23]),([24,16],[16,24]),([25,16],[16,25]),([26,16],[16,26]),([21,27,16],[16,21,27]),([16,28,1],[1,16,28]),([1,29],[1,29])])
def rZ.B8:List Nat:=[0,1,3,7,15,31,31,127,255,511,1023,1023,1023,7167,16383,32767,65535,131071,131071,524287,1048575,2097151,131071,131071,12713983,29491199,63045631,130154495,268435455,536870911,1073741823]
end Go.Proofs.aj.W7
namespace Go.Proofs.aj.W7
open Go.RowKit Go.Proofs Go.Proofs.aj Go.Proofs.YtkcmghlhpbepcaaGreatDoor Go.Proofs.ah.aD
def voids:List Bt:=(AJ.f).getD []
def raws:List Bt:=(Cu.f).getD []
theorem void_f(s:Bt)(k:Nat)(hk:20≤k):gF.f k s=some (oZ voids s):=by
 unfold gF.f;rw[sJ _ _ _ (by simp) (by simp;omega)];rfl
theorem raw_f(s:Bt)(k:Nat)(hk:20≤k):kZ.f k s=some (oZ raws s):=by
 unfold kZ.f;rw[sJ _ _ _ (by simp) (by simp;omega)];rfl
def atT(a:S36):Txt:=((([32]++a.f0.data.toList)++[61,34])++wrL true a.f1.data.toList)++[34]
def tagT(nm:Bt)(l:List S36):Txt:=([60]++nm.data.toList)++l.flatMap atT++[62]
theorem wrB_at(b:Bool)(v:Bt)(h:v.data.toList.length≤1000000000):wrB b v=some ⟨(wrL b v.data.toList).toArray⟩:=by unfold wrB;rw[if_pos h]
theorem rd45_at(l:List S36)(i:Nat)(h:i<l.length):bg l i=l[i]:=by simp[bg,h]
theorem l32:(⟨#[32]⟩:Bt).data.toList=[32]:=rfl
theorem l61:(⟨#[61,34]⟩:Bt).data.toList=[61,34]:=rfl
theorem l34:(⟨#[34]⟩:Bt).data.toList=[34]:=rfl
theorem l60:(⟨#[60]⟩:Bt).data.toList=[60]:=rfl
theorem lw(b:Bool)(v:List UInt8):(⟨(wrL b v).toArray⟩:Bt).data.toList=wrL b v:=rfl
theorem sz32:(⟨#[32]⟩:Bt).size=1:=rfl
theorem sz61:(⟨#[61,34]⟩:Bt).size=2:=rfl
theorem sz34:(⟨#[34]⟩:Bt).size=1:=rfl
theorem szw(b:Bool)(v:List UInt8):(⟨(wrL b v).toArray⟩:Bt).size=(wrL b v).length:=qG _
theorem Sd(l:List S36)(hl:l.length<100000)(hv:∀a∈l,a.f1.data.toList.length≤1000000000):∀(d i k:Nat) (acc:Bt),l.length - i≤d→i≤l.length→d<k→
 acc.data.toList.length+((l.drop i).flatMap atT).length≤1000000000000→
 ∃r,d9.l0 k acc l (l.length:Int) i=some r∧r.data.toList=(acc.data.toList++(l.drop i).flatMap atT)++[62]:=by
 intro d
 induction d with
 |zero=>
  intro i k acc hd hi hk hz;obtain⟨k,rfl⟩:∃m,k=m+1:=⟨k - 1,by omega⟩
  simp only[d9.l0];rw[List.drop_of_length_le (by omega)]at hz⊢;rw[if_neg (by omega),if_pos (by rw[qd];simp only[List.flatMap_nil,List.length_nil,Nat.add_zero]at hz;omega)];exact⟨_,rfl,by simp⟩
 |succ d ih=>
  intro i k acc hd hi hk hz
  by_cases h:i<l.length
  ·obtain⟨k,rfl⟩:∃m,k=m+1:=⟨k - 1,by omega⟩
   have hva:=hv l[i] (List.getElem_mem h);rw[List.drop_eq_getElem_cons h,List.flatMap_cons]at hz;simp only[List.length_append,atT,List.length_cons,List.length_nil]at hz;simp only[d9.l0];rw[if_pos (by omega),if_pos (by omega),if_pos (by omega),rd45_at l i h];rw[if_pos (by rw[qd];omega),if_pos (by rw[ByteArray.size_append,sz32,qd];omega)];unfold rE.f;rw[wrB_at true _ hva,Option.bind_some];rw[if_pos (by rw[ByteArray.size_append,ByteArray.size_append,sz32,sz61,szw,qd];omega)];rw[if_pos (by rw[ByteArray.size_append,ByteArray.size_append,ByteArray.size_append,sz32,sz61,szw,qd];omega)];rw[if_pos (by rw[ByteArray.size_append,ByteArray.size_append,ByteArray.size_append,ByteArray.size_append,sz32,sz61,sz34,szw,qd,qd];omega)];rw[wN (by omega)]
   obtain⟨r,h1,h2⟩:=ih (i+1) k (acc++((((⟨#[32]⟩:Bt)++l[i].f0)++(⟨#[61,34]⟩:Bt))++(⟨(wrL true l[i].f1.data.toList).toArray⟩:Bt)++(⟨#[34]⟩:Bt))) (by omega) (by omega) (by omega)
    (by rw[kC,kC,kC,kC,kC,l32,l61,lw,l34];simp only[List.length_append,List.length_cons,List.length_nil];omega)
   refine⟨r,h1,?_⟩;rw[h2,List.drop_eq_getElem_cons h,List.flatMap_cons,kC,kC,kC,kC,kC,l32,l61,lw,l34];simp only[atT,List.append_assoc]
  ·exact ih i k acc (by omega) hi (by omega) hz
theorem opened_f(x:Rw)(k:Nat)(hl:x.f4.length<100000)(hk:x.f4.length<k)(hv:∀a∈x.f4,a.f1.data.toList.length≤1000000000)(hz:(tagT x.f2 x.f4).length≤1000000000000):
 ∃r,d9.f k x.f0 x.f1 x.f2 x.f3 x.f4=some r∧r.data.toList=tagT x.f2 x.f4:=by
 unfold tagT at hz⊢;simp only[List.length_append,List.length_cons,List.length_nil]at hz;unfold d9.f;rw[if_pos (by rw[qd];omega)];obtain⟨r,h1,h2⟩:=Sd x.f4 hl hv x.f4.length 0 k ((⟨#[60]⟩:Bt)++x.f2) (by omega) (by omega) hk (by rw[kC,l60,List.drop_zero];simp only[List.length_append,List.length_cons,List.length_nil];omega);exact⟨r,h1,by rw[h2,kC,l60,List.drop_zero]⟩
structure OkAt (xs:List Rw) (i:Nat):Prop where
 kind:(au xs i).f1=0∨(au xs i).f1=1∨(au xs i).f1=2
 low:0≤ny xs i
 high:ny xs i≤i
 step:0<i→ny xs i≤ny xs (i - 1)+1
def Ow(xs:List Rw):Prop:=∀j,j<xs.length→OkAt xs j
theorem MW(d:Int):∀(ys:List Rw) (m:Nat) (h:m<ys.length),m<pF d ys→d<ys[m].f0
 | [],m,h,_=>by simp at h
 |y::ys,0,h,hm=>by
  simp only[pF]at hm
  split at hm
  ·assumption
  ·omega
 |y::ys,m+1,h,hm=>by
  simp only[pF]at hm
  split at hm
  ·exact MW d ys m (by simpa using h) (by omega)
  ·omega
theorem MX(d:Int):∀(ys:List Rw) (h:pF d ys<ys.length),ys[pF d ys].f0≤d
 | [],h=>by simp at h
 |y::ys,h=>by
  by_cases e:d<y.f0
  ·have e2:pF d (y::ys)=pF d ys+1:=by simp only[pF];rw[if_pos e]
   have h':pF d ys<ys.length:=by rw[e2]at h;simpa using h
   have:=MX d ys h';simp only[e2,List.getElem_cons_succ];exact this
  ·have e2:pF d (y::ys)=0:=by simp only[pF];rw[if_neg e]
   simp only[e2,List.getElem_cons_zero];omega
theorem lZ(xs:List Rw)(i:Nat)(h:i<xs.length):ny xs i=xs[i].f0:=by unfold ny;rw[qO xs i h]
theorem Kr(xs:List Rw)(j m:Nat)(h1:j<m)(h2:m<iO xs j)(h3:m<xs.length):ny xs j<ny xs m:=by
 have h:=MW (au xs j).f0 (xs.drop (j+1)) (m - (j+1)) (by rw[List.length_drop];omega) (by unfold iO at h2;omega);rw[List.getElem_drop]at h;rw[lZ xs m h3];have e:j+1+(m - (j+1))=m:=by omega
 simp only[e]at h;exact h
theorem at_end(xs:List Rw)(j:Nat)(h:iO xs j<xs.length):ny xs (iO xs j)≤ny xs j:=by
 have hs:pF (au xs j).f0 (xs.drop (j+1))<(xs.drop (j+1)).length:=by unfold iO at h;rw[List.length_drop];omega
 have h1:=MX _ _ hs;rw[List.getElem_drop]at h1;rw[lZ xs _ h];exact h1
def MV(x:Rw)(t:Txt):Txt:=if oZ voids x.f2 then []else t++(([60,47]++x.f2.data.toList)++[62])
def nL(xs:List Rw):Nat→Bool→Nat→Txt
 |0,_,_=>[]
 |d+1,raw,k=>
  if(au xs k).f1=1 then(if raw then(au xs k).f3.data.toList else wrL false (au xs k).f3.data.toList)
  else if(au xs k).f1=2 then([60,33,45,45]++(au xs k).f3.data.toList)++[45,45,62]
  else tagT (au xs k).f2 (au xs k).f4++MV (au xs k) ((jI xs k).flatMap (nL xs d (oZ raws (au xs k).f2)))
def own(x:Rw):Nat:=6 * x.f3.data.toList.length+(tagT x.f2 x.f4).length+x.f2.data.toList.length+20
def yw(xs:List Rw)(a:Nat):Nat:=((xs.drop a).map own).sum
theorem CK(xs:List Rw)(a:Nat)(h:a<xs.length):yw xs a=own xs[a] +yw xs (a+1):=by unfold yw;rw[List.drop_eq_getElem_cons h,List.map_cons,List.sum_cons]
theorem Ee(xs:List Rw):∀(d a b:Nat),b - a≤d→a≤b→yw xs b≤yw xs a:=by
 intro d
 induction d with
 |zero=>intro a b h1 h2;rw[show a=b from by omega];exact Nat.le_refl _
 |succ d ih=>
  intro a b h1 h2
  by_cases h:a<b
  ·by_cases h3:a<xs.length
   ·have:=ih (a+1) b (by omega) (by omega)
    rw[CK xs a h3];omega
   ·have e1:yw xs b=0:=by unfold yw;rw[List.drop_of_length_le (by omega)];rfl
    omega
  ·rw[show a=b from by omega];exact Nat.le_refl _
theorem Kt(xs:List Rw)(j m:Nat)(h1:j<m)(h2:m<iO xs j)(h3:j<xs.length):iO xs m≤iO xs j:=by
 have hle:=oW xs j h3
 by_cases h:iO xs j<iO xs m
 ·have hm:=oW xs m (by omega)
  have a:=Kr xs m (iO xs j) h2 h (by omega);have b:=at_end xs j (by omega);have c:=Kr xs j m h1 h2 (by omega);omega
 ·omega
theorem CO(xs:List Rw)(f:Nat→Txt)(t:Nat)(ht:t≤xs.length):∀(d j:Nat),t - j≤d→j≤t→(∀m,j≤m→m<t→iO xs m≤t)→(∀m,j≤m→m<t→(f m).length+yw xs (iO xs m)≤yw xs m)→
 ((kD xs t j).flatMap f).length+yw xs t≤yw xs j:=by
 intro d
 induction d with
 |zero=>
  intro j hd hj _ _;rw[rJ (by omega),show j=t from by omega];simp
 |succ d ih=>
  intro j hd hj hc hf
  by_cases h:j<t
  ·have hgt:=mo xs j
   have h1:=hf j (Nat.le_refl _) h;have h2:=hc j (Nat.le_refl _) h;have h3:=ih (iO xs j) (by omega) h2 (fun m a b=>hc m (by omega) b) (fun m a b=>hf m (by omega) b);rw[uz h (by omega),List.flatMap_cons,List.length_append];omega
  ·exact ih j (by omega) hj hc hf
theorem CJ(xs:List Rw)(k:Nat)(hk:k<xs.length):jI xs (k:Int)=kD xs (iO xs k) (k+1):=by
 rw[rC (.inr ⟨by omega,by omega⟩),show toI xs (k:Int)=iO xs k from by unfold toI;rw[if_neg (by omega)];rfl,show Av (k:Int)=k+1 from by unfold Av;rw[if_neg (by omega)];rfl]
theorem H8(xs:List Rw):∀(d:Nat) (raw:Bool) (k:Nat),k<xs.length→(nL xs d raw k).length+yw xs (iO xs k)≤yw xs k:=by
 intro d
 induction d with
 |zero=>intro raw k hk;have:=Ee xs _ k (iO xs k) (Nat.le_refl _) (by have:=mo xs k;omega);simpa [nL]using this
 |succ d ih=>
  intro raw k hk;have hs:=CK xs k hk;have hgt:=mo xs k;have hle:=oW xs k hk;have hm:=Ee xs _ (k+1) (iO xs k) (Nat.le_refl _) (by omega);have hkid:=CO xs (nL xs d (oZ raws (au xs k).f2)) (iO xs k) hle (iO xs k) (k+1) (by omega) (by omega) (fun m a b=>Kt xs k m (by omega) b hk) (fun m a b=>ih _ m (by omega));rw[qO xs k hk]at hkid;have hw:=Em false xs[k].f3.data.toList;unfold own at hs;simp only[nL];rw[qO xs k hk,CJ xs k hk]
  split
  ·split<;>omega
  ·split
   ·simp only[List.length_append,List.length_cons,List.length_nil];omega
   ·rw[List.length_append]
    unfold MV
    split
    ·simp only[List.length_nil];omega
    ·simp only[List.length_append,List.length_cons,List.length_nil];omega
theorem Sg(xs:List Rw)(d:Nat)(raw:Bool)(i:Int)(hi:i= -1∨0≤i∧i<xs.length):((jI xs i).flatMap (nL xs d raw)).length≤yw xs 0:=by
 rcases hi with rfl|hi
 ·have h:=CO xs (nL xs d raw) xs.length (Nat.le_refl _) xs.length 0 (by omega) (by omega) (fun m _ b=>oW xs m b) (fun m _ b=>H8 xs d raw m b)
  rw[rC (.inl rfl)];exact Nat.le_trans (Nat.le_add_right _ _) h
 ·obtain⟨k,rfl⟩:∃k:Nat,i=k:=⟨i.toNat,by omega⟩
  have hk:k<xs.length:=by omega
  have hgt:=mo xs k;have h:=CO xs (nL xs d raw) (iO xs k) (oW xs k hk) (iO xs k) (k+1) (by omega) (by omega) (fun m a b=>Kt xs k m (by omega) b hk) (fun m a b=>H8 xs d raw m (by have:=oW xs k hk;omega));have h2:=Ee xs _ 0 (k+1) (Nat.le_refl _) (by omega);rw[CJ xs k hk];omega
structure SizeP (xs:List Rw):Prop where
 len:xs.length≤200
 total:yw xs 0≤1000000000
 atts:∀x∈xs,x.f4.length≤6
theorem SizeP.one{xs:List Rw}(h:SizeP xs)(k:Nat)(hk:k<xs.length):own xs[k]≤1000000000:=by
 have h1:=Ee xs _ 0 k (Nat.le_refl _) (by omega);have h2:=CK xs k hk;have:=h.total;omega
theorem QU{α:Type}(f:α→Txt):∀(l:List α) (a:α),a∈l→(f a).length≤(l.flatMap f).length
 | [],_,h=>by cases h
 |b::l,a,h=>by
  rw[List.flatMap_cons,List.length_append]
  rcases List.mem_cons.1 h with rfl|h
  ·omega
  ·have:=QU f l a h;omega
theorem own_val{x:Rw}(h:own x≤1000000000):(∀a∈x.f4,a.f1.data.toList.length≤1000000000)∧(tagT x.f2 x.f4).length≤1000000000∧x.f3.data.toList.length≤1000000000∧x.f2.data.toList.length≤1000000000:=by
 unfold own at h;refine⟨fun a ha=>?_,by omega,by omega,by omega⟩;have h1:=QU atT x.f4 a ha;have h2:=wr_ge true a.f1.data.toList;unfold tagT at h;simp only[List.length_append]at h;have h3:(wrL true a.f1.data.toList).length≤(atT a).length:=by unfold atT;simp only[List.length_append];omega
 omega
theorem CP(f:Nat→Option Txt)(g:Nat→Txt):∀(ks:List Nat),(∀j∈ks,f j=some (g j))→catM f ks=some (ks.flatMap g)
 | [],_=>rfl
 |j::ks,h=>by
  simp only[catM];rw[h j (by simp),Option.bind_some,CP f g ks (fun m hm=>h m (by simp[hm])),Option.bind_some,List.flatMap_cons]
theorem QV(xs:List Rw)(i:Int)(j:Nat)(hj:j∈jI xs i):j<xs.length:=by
 have key:∀(t d a:Nat),xs.length - a≤d→j∈kD xs t a→j<xs.length:=by
  intro t d
  induction d with
  |zero=>intro a hd hm;rw[kD,dif_neg (by omega)]at hm;cases hm
  |succ d ih=>
   intro a hd hm
   by_cases h:a<t∧a<xs.length
   ·rw[kD,dif_pos h]at hm
    rcases List.mem_cons.1 hm with rfl|hm
    ·exact h.2
    ·exact ih (iO xs a) (by have:=mo xs a;omega) hm
   ·rw[kD,dif_neg h]at hm;cases hm
 by_cases hi:i= -1∨0≤i∧i<xs.length
 ·rw[rC hi]at hj
  exact key _ _ _ (Nat.le_refl _) hj
 ·have:jI xs i=[]:=by
   unfold jI;rw[if_neg (by omega),if_neg (by omega)]
  rw[this]at hj;cases hj
structure SizeQ (xs:List Rw):Prop where
 len:xs.length≤100000
 each:∀k,(h:k<xs.length)→own xs[k]≤1000000000
 total:yw xs 0≤100000000000
 atts:∀x∈xs,x.f4.length≤90000
theorem SizeP.q{xs:List Rw}(h:SizeP xs):SizeQ xs:=⟨by have:=h.len;omega,h.one,by have:=h.total;omega,fun x hx=>by have:=h.atts x hx;omega⟩
theorem Ox(xs:List Rw)(hz:SizeQ xs)(hp:Ow xs):∀(d:Nat) (raw:Bool) (k:Nat),k<xs.length→xs.length - k≤d→xM xs d raw k=some (nL xs d raw k):=by
 intro d
 induction d with
 |zero=>intro raw k hk hd;omega
 |succ d ih=>
  intro raw k hk hd;have ho:=own_val (hz.each k hk);have hkind:=(hp k hk).kind;have hr:=qO xs k hk;have hcat:=CP (xM xs d (oZ raws xs[k].f2)) (nL xs d (oZ raws xs[k].f2)) (jI xs k) (fun j hj=>ih _ j (QV xs _ j hj) (by have:=OT xs k hk j hj;omega));simp only[xM,nL];rw[if_pos hk];rw[hr]at hkind⊢
  by_cases h1:xs[k].f1=1
  ·rw[if_pos h1,if_pos h1]
   cases raw with
   |true=>rfl
   |false=>
    rw[if_neg (by decide),if_neg (by decide)];unfold uf.f;rw[wrB_at false _ ho.2.2.1];rfl
  ·rw[if_neg h1,if_neg h1]
   by_cases h2:xs[k].f1=2
   ·rw[if_pos h2,if_pos h2]
   ·rw[if_neg h2,if_neg h2,if_pos (by omega)]
    obtain⟨o,e1,e2⟩:=opened_f xs[k] (xs[k].f4.length+1) (by have:=hz.atts _ (List.getElem_mem hk);omega) (by omega) ho.1 (by omega);rw[e1,Option.bind_some,void_f _ 100 (by omega),Option.bind_some];unfold MV;cases hv:oZ voids xs[k].f2
    ·rw[if_neg (by decide),raw_f _ 100 (by omega),Option.bind_some,hcat,Option.bind_some,if_neg (by decide),e2]
     simp only[List.append_assoc]
    ·rw[if_pos rfl,if_pos rfl,e2,List.append_nil]
def FY(xs:List Rw)(i:Int):Bool:=if 0≤i then oZ raws (au xs i).f2 else false
theorem Si(xs:List Rw)(hz:SizeQ xs)(hp:Ow xs)(i:Int)(hi:i= -1∨0≤i∧i<xs.length):fK.f xs i=some ⟨((jI xs i).flatMap (nL xs xs.length (FY xs i))).toArray⟩:=by
 have hlen:=hz.len;have htot:=hz.total
 have hra:IG xs i=some (FY xs i):=by
  unfold IG FY
  rcases hi with rfl|hi
  ·rfl
  ·rw[if_pos hi.1,if_pos hi.2,if_pos hi.1,raw_f _ 100 (by omega)]
 have hc:=CP (xM xs xs.length (FY xs i)) (nL xs xs.length (FY xs i)) (jI xs i) (fun j hj=>Ox xs hz hp _ _ j (QV xs _ j hj) (by omega));have hl:=Sg xs xs.length (FY xs i) i hi;unfold fK.f;rw[if_pos (by omega),hra,Option.bind_some,hc,Option.bind_some,if_pos (by omega)]
def emitC(D:Nat):List Rw→List Bt→List Tok
 | [],op=>(op.drop D).reverse.map endP
 |x::r,op=>(op.drop x.f0.toNat).reverse.map endP++lT x::emitC D r (opA (op.take x.f0.toNat) x)
theorem FW:∀(r:List Rw) (op:List Bt),emitC 0 r op=jZ r op
 | [],op=>rfl
 |x::r,op=>by rw[emitC,jZ,FW r]
def BI:List Rw→List Bt→List Bt
 | [],op=>op
 |x::r,op=>BI r (opA (op.take x.f0.toNat) x)
def Hi:List Rw→List Bt→Prop
 | [],_=>True
 |x::r,op=>0≤x.f0∧x.f0≤op.length∧Hi r (opA (op.take x.f0.toNat) x)
theorem hi_fit:∀(r:List Rw) (op:List Bt) (out:List Rw),RowsFit r op out→Hi r op
 | [],_,_,_=>trivial
 |x::r,op,out,h=>⟨h.1.lo,h.1.hi,hi_fit r _ _ h.2⟩
theorem hi_app:∀(r1 r2:List Rw) (op:List Bt),Hi (r1++r2) op→Hi r1 op∧Hi r2 (BI r1 op)
 | [],r2,op,h=>⟨trivial,h⟩
 |x::r1,r2,op,h=>by
  obtain⟨a,b,c⟩:=h;obtain⟨d,e⟩:=hi_app r1 r2 _ c;exact⟨⟨a,b,d⟩,e⟩
theorem hi_take{D:Nat}:∀ {r:List Rw} {op:List Bt},Hi r op→Shut D r→Hi r (op.take D)
 | [],_,_,_=>trivial
 |z::r,op,h,hs=>by
  obtain⟨a,b,c⟩:=h;have hz:z.f0≤D:=hs;refine⟨a,by rw[List.length_take];omega,?_⟩;rw[List.take_take,Nat.min_eq_left (by omega)];exact c
theorem zV{D:Nat}:∀(r:List Rw) (op:List Bt),Hi r op→D≤op.length→(∀x∈r,(D:Int)≤x.f0)→(BI r op).take D=op.take D∧D≤(BI r op).length
 | [],op,_,hD,_=>⟨rfl,hD⟩
 |x::r,op,h,hD,hx=>by
  obtain⟨a,b,c⟩:=h;have h0:=hx x (by simp);have hl:(op.take x.f0.toNat).length=x.f0.toNat:=by rw[List.length_take];omega
  have hle:D≤(opA (op.take x.f0.toNat) x).length:=by
   unfold opA
   split
   ·rw[List.length_append];omega
   ·omega
  have ht:(opA (op.take x.f0.toNat) x).take D=op.take D:=by
   have e:(op.take x.f0.toNat).take D=op.take D:=by rw[List.take_take,Nat.min_eq_left (by omega)]
   unfold opA
   split
   ·rw[List.take_append_of_le_length (by omega),e]
   ·exact e
  obtain⟨i1,i2⟩:=zV r _ c hle (fun y hy=>hx y (by simp[hy]));exact⟨by rw[BI,i1,ht],i2⟩
theorem FX{α:Type}(op:List α){D E:Nat}(h:E≤D):op.drop E=(op.take D).drop E++op.drop D:=by
 have h1:(op.take D).drop E=(op.drop E).take (D - E):=List.drop_take;have h2:op.drop D=(op.drop E).drop (D - E):=by rw[List.drop_drop];congr 1;omega
 rw[h1,h2,List.take_append_drop]
theorem CG{D E:Nat}(hE:E≤D):∀(r1:List Rw) (op:List Bt) (r2:List Rw),Shut D r2→(∀z∈r2,0≤z.f0)→emitC E (r1++r2) op=emitC D r1 op++emitC E r2 ((BI r1 op).take D)
 | [],op,[],_,_=>by
   rw[List.append_nil,emitC,emitC,emitC,BI,FX op hE,List.reverse_append,List.map_append]
 | [],op,z::r,hs,h0=>by
   have hz:z.f0≤D:=hs;have h0z:=h0 z (by simp);have hd:z.f0.toNat≤D:=by omega
   rw[List.nil_append,emitC,emitC,BI,emitC,List.take_take,Nat.min_eq_left hd,FX op hd,List.reverse_append,List.map_append,List.append_assoc]
 |x::r1,op,r2,hs,h0=>by
  rw[List.cons_append,emitC,emitC,BI,CG hE r1 _ r2 hs h0,List.append_assoc,List.cons_append]
def jU(b:Bool):List Tok→Bool
 | []=>b
 |t::r=>jU (qL t) r
theorem zW(b:Bool):∀(L M:List Tok),eu b (L++M)=eu b L++eu (jU b L) M
 | [],M=>by simp[eu,jU]
 |t::L,M=>by rw[List.cons_append,eu,eu,jU,zW (qL t) L M,List.append_assoc]
theorem zX(b:Bool):∀(L M:List Tok),jU b (L++M)=jU (jU b L) M
 | [],M=>rfl
 |t::L,M=>by rw[List.cons_append,jU,jU,zX (qL t) L M]
theorem MS(s:Bt):oZ voids s=jv s:=by rw[MO];rfl
theorem raws_eq(s:Bt):oZ raws s=mJ s.data.toList:=by
 have e:oZ raws s=EI.any (fun x=>x==s.data.toList):=rfl;rw[e];unfold mJ inB;rw[List.contains_eq_any_beq]
 congr 1
 funext x
 exact Bool.eq_iff_iff.2 ⟨fun h=>by simpa using(by simpa using h:x=s.data.toList).symm,fun h=>by simpa using(by simpa using h:s.data.toList=x).symm⟩
def lY(xs:List Rw)(j t:Nat):List Rw:=(xs.drop j).take (t - j)
theorem oH(xs:List Rw)(j:Nat):lY xs j j=[]:=by simp[lY]
theorem MU(xs:List Rw){j e t:Nat}(h1:j≤e)(h2:e≤t):lY xs j t=lY xs j e++lY xs e t:=by
 unfold lY;rw[show t - j=(e - j)+(t - e)from by omega,List.take_add,List.drop_drop,show j+(e - j)=e from by omega]
theorem pY{xs:List Rw}{j t:Nat}(h:j<t)(hj:j<xs.length):lY xs j t=xs[j]::lY xs (j+1) t:=by
 unfold lY;rw[List.drop_eq_getElem_cons hj,show t - j=(t - (j+1))+1 from by omega,List.take_succ_cons]
theorem yT{xs:List Rw}{x:Rw}:∀(d j t:Nat),t - j≤d→t≤xs.length→x∈lY xs j t→∃m,∃h:m<xs.length,j≤m∧m<t∧x=xs[m]
 |0,j,t,hd,ht,hx=>by
  unfold lY at hx;rw[show t - j=0 from by omega]at hx;simp at hx
 |d+1,j,t,hd,ht,hx=>by
  by_cases h:j<t
  ·rw[pY h (by omega)]at hx
   rcases List.mem_cons.1 hx with rfl|hx
   ·exact⟨j,by omega,Nat.le_refl _,h,rfl⟩
   ·obtain⟨m,hm,a,b,c⟩:=yT d (j+1) t (by omega) ht hx
    exact⟨m,hm,by omega,b,c⟩
  ·unfold lY at hx
   rw[show t - j=0 from by omega]at hx;simp at hx
def NodeS(xs:List Rw)(n m:Nat):Prop:=∀(h:m<xs.length) (op:List Bt),xs[m].f0=(op.length:Int)→Hi (lY xs m (iO xs m)) op→
 eu false (emitC op.length (lY xs m (iO xs m)) op)=nL xs n false m∧jU false (emitC op.length (lY xs m (iO xs m)) op)=false
theorem H7(xs:List Rw)(n D t:Nat)(ht:t≤xs.length):∀(d j:Nat) (op:List Bt),t - j≤d→j≤t→op.length=D→Hi (lY xs j t) op→(∀m,j≤m→m<t→iO xs m≤t)→
 (∀m,(h:m<xs.length)→j≤m→m<t→(D:Int)≤xs[m].f0)→(∀m,j≤m→m<t→NodeS xs n m)→
 eu false (emitC D (lY xs j t) op)=(kD xs t j).flatMap (nL xs n false)∧jU false (emitC D (lY xs j t) op)=false:=by
 intro d
 induction d with
 |zero=>
  intro j op hd hj ho _ _ _ _;obtain rfl:j=t:=by omega
  rw[oH,rJ (by omega),emitC,List.drop_eq_nil_of_le (by omega)];exact⟨rfl,rfl⟩
 |succ d ih=>
  intro j op hd hj ho hh hc hD hN
  by_cases h:j<t
  ·have hjl:j<xs.length:=by omega
   have hgt:=mo xs j;have hle:=hc j (Nat.le_refl _) h;have hs:=MU xs (Nat.le_of_lt hgt) hle;rw[hs]at hh⊢;obtain⟨h1,h2⟩:=hi_app _ _ _ hh
   have hjd:xs[j].f0=(D:Int):=by
    have a:=hD j hjl (Nat.le_refl _) h;rw[pY hgt hjl]at h1;have b:=h1.2.1;omega
   have hsh:Shut D (lY xs (iO xs j) t):=by
    by_cases he:iO xs j<t
    ·rw[pY he (by omega)]
     have a:=at_end xs j (by omega);rw[lZ xs j hjl,lZ xs _ (by omega)]at a;show xs[iO xs j].f0≤D;omega
    ·rw[show iO xs j=t from by omega,oH]
     trivial
   have h0:∀z∈lY xs (iO xs j) t,0≤z.f0:=by
    intro z hz;obtain⟨m,hm,a,b,rfl⟩:=yT _ _ _ (Nat.le_refl _) ht hz;have:=hD m hm (by omega) b;omega
   obtain⟨e1,e2⟩:=zV (D:=D) _ _ h1 (by omega) (fun z hz=>by
    obtain⟨m,hm,a,b,rfl⟩:=yT _ _ _ (Nat.le_refl _) (by omega) hz;exact hD m hm a (by omega))
   have eop:op.take D=op:=List.take_of_length_le (by omega);have h3:=hi_take h2 hsh;rw[e1,eop]at h3;obtain⟨n1,n2⟩:=hN j (Nat.le_refl _) h hjl op (by omega) h1;rw[ho]at n1 n2;obtain⟨k1,k2⟩:=ih (iO xs j) op (by omega) hle ho h3 (fun m a b=>hc m (by omega) b) (fun m hm a b=>hD m hm (by omega) b) (fun m a b=>hN m (by omega) b);rw[CG (Nat.le_refl D) _ _ _ hsh h0,e1,eop,zW,zX,n1,n2,k1,k2,uz h hjl,List.flatMap_cons];exact⟨rfl,rfl⟩
  ·obtain rfl:j=t:=by omega
   rw[oH,rJ (by omega),emitC,List.drop_eq_nil_of_le (by omega)];exact⟨rfl,rfl⟩
theorem yU(nm:Bt)(l:List At)(b:Bool):nP b ⟨1,nm.data.toList,l.map kJ,[],false⟩=tagT nm l:=by
 have e:dS (l.map kJ)=l.flatMap atT:=by
  unfold dS;rw[List.flatMap_map]
  congr 1
  funext a
  simp[atT,kJ]
 unfold nP;rw[if_neg (by simp),if_pos rfl];unfold jG;simp only[e,lX,tagT];simp
theorem Sb(xs:List Rw)(hk:∀m,(h:m<xs.length)→xs[m].f1=0∨xs[m].f1=1∨xs[m].f1=2)(hg:∀m,(h:m<xs.length)→BG xs[m] (xs.drop (m+1))):
 ∀(n m:Nat),xs.length - m≤n→NodeS xs n m:=by
 intro n
 induction n with
 |zero=>intro m hn h;omega
 |succ n ih=>
  intro m hn h op ho hh;have hgt:=mo xs m;have hle:=oW xs m h;have hm1:((m:Nat):Int)=(m:Int):=rfl;rw[pY hgt h]at hh⊢;obtain⟨a0,a1,a2⟩:=hh;have hd:xs[m].f0.toNat=op.length:=by omega
  have hin:∀j (hj:j<xs.length),m<j→j<iO xs m→xs[m].f0<xs[j].f0:=by
   intro j hj b1 b2;have:=Kr xs m j b1 b2 hj
   rwa [lZ xs m h,lZ xs j hj]at this
  have hleaf:opA op xs[m]=op→iO xs m=m+1:=by
   intro e
   by_cases hl:m+1<iO xs m
   ·rw[hd,List.take_length,e,pY hl (by omega)]at a2
    have b:=hin (m+1) (by omega) (by omega) hl;have c:=a2.2.1;omega
   ·omega
  rw[emitC,hd,List.drop_length,List.take_length];simp only[nL];rw[qO xs m h];rw[hd,List.take_length]at a2
  rcases hk m h with k|k|k
  ·have et:lT xs[m]=⟨1,xs[m].f2.data.toList,xs[m].f4.map kJ,[],false⟩:=by unfold lT;rw[if_pos k]
   rw[if_neg (by omega),if_neg (by omega),et];cases hv:jv xs[m].f2 with
   |true=>
    have eo:opA op xs[m]=op:=by unfold opA;rw[if_neg (by rw[hv];simp)]
    have hr:mJ xs[m].f2.data.toList=false:=by
     cases hr:mJ xs[m].f2.data.toList with
     |false=>rfl
     |true=>
      have:=((hg m h).inner k (by rw[hr];rfl)).1;rw[hv]at this;cases this
    rw[eo,hleaf eo,oH,emitC,List.drop_length];unfold MV;rw[MS,hv,if_pos rfl];simp[eu,jU,yU,qL,hr]
   |false=>
    have eo:opA op xs[m]=op++[xs[m].f2]:=by unfold opA;rw[if_pos ⟨k,hv⟩]
    rw[eo]at a2⊢;have hlen:(op++[xs[m].f2]).length=op.length+1:=by simp
    have hdeep:∀j (hj:j<xs.length),m+1≤j→j<iO xs m→((op.length+1:Nat):Int)≤xs[j].f0:=by
     intro j hj b1 b2;have:=hin j hj (by omega) b2;omega
    have hsplit:emitC op.length (lY xs (m+1) (iO xs m)) (op++[xs[m].f2])=emitC (op.length+1) (lY xs (m+1) (iO xs m)) (op++[xs[m].f2])++[endP xs[m].f2]:=by
     have e:=CG (D:=op.length+1) (E:=op.length) (by omega) (lY xs (m+1) (iO xs m)) (op++[xs[m].f2]) [] trivial (by simp)
     obtain⟨e1,-⟩:=zV (D:=op.length+1) _ _ a2 (by omega) (fun z hz=>by
      obtain⟨j,hj,b1,b2,rfl⟩:=yT _ _ _ (Nat.le_refl _) hle hz;exact hdeep j hj b1 b2)
     rw[List.append_nil]at e;rw[e,e1,List.take_of_length_le (by omega),emitC,List.drop_left];rfl
    have hend:nP false (endP xs[m].f2)=([60,47]++xs[m].f2.data.toList)++[62]:=by
     simp[nP,endP,jG,dS,lX]
    unfold MV;rw[MS,hv,if_neg (by decide),raws_eq,hsplit,CJ xs m h];cases hrs:(mJ xs[m].f2.data.toList||mq xs[m].f2.data.toList)with
    |false=>
     have hr:mJ xs[m].f2.data.toList=false:=by rw[Bool.or_eq_false_iff]at hrs;exact hrs.1
     obtain⟨q1,q2⟩:=H7 xs n (op.length+1) (iO xs m) hle _ (m+1) (op++[xs[m].f2]) (Nat.le_refl _) (by omega) hlen a2 (fun j b1 b2=>Kt xs m j (by omega) b2 h) hdeep (fun j b1 b2=>ih j (by omega));rw[hr];have hrt:qL ⟨1,xs[m].f2.data.toList,xs[m].f4.map kJ,[],false⟩=false:=by simp[qL,hr]
     simp only[List.reverse_nil,List.map_nil,List.nil_append];rw[eu,jU,hrt,zW,zX,q1,q2,yU,eu,eu,hend,jU,jU];refine⟨by simp,by simp[qL,endP]⟩
    |true=>
     obtain⟨-,hin2⟩:=(hg m h).inner k hrs;simp only[List.reverse_nil,List.map_nil,List.nil_append]
     rcases hin2 with hs|⟨y,r',hr',y1,y2,y3,y4⟩
     ·have he:iO xs m=m+1:=by
       by_cases hl:m+1<iO xs m
       ·have b:=hin (m+1) (by omega) (by omega) hl
        rw[List.drop_eq_getElem_cons (by omega)]at hs;have c:xs[m+1].f0≤xs[m].f0:=hs;omega
       ·omega
      rw[he,oH,rJ (by omega),emitC,List.drop_eq_nil_of_le (by omega)];simp only[List.reverse_nil,List.map_nil,List.nil_append];rw[eu,eu,eu,yU,jU,jU,jU]
      have hend2:∀b,nP b (endP xs[m].f2)=([60,47]++xs[m].f2.data.toList)++[62]:=by
       intro b;simp[nP,endP,jG,dS,lX]
      rw[hend2];exact⟨by simp,by simp[qL,endP]⟩
     ·have hl1:m+1<xs.length:=by
       by_cases hl:m+1<xs.length
       ·exact hl
       ·rw[List.drop_eq_nil_of_le (by omega)]at hr'
        cases hr'
      rw[List.drop_eq_getElem_cons hl1]at hr';obtain⟨rfl,rfl⟩:=List.cons.inj hr'
      have he:iO xs m=m+2:=by
       have g1:m+1<iO xs m:=by
        by_cases hl:m+1<iO xs m
        ·exact hl
        ·have a:=at_end xs m (by omega)
         have e:iO xs m=m+1:=by omega
         rw[e,lZ xs m h,lZ xs _ hl1]at a;omega
       by_cases hl:m+2<iO xs m
       ·have b:=hin (m+2) (by omega) (by omega) hl
        rw[List.drop_eq_getElem_cons (by omega)]at y4;have c:xs[m+2].f0≤xs[m].f0:=y4;omega
       ·omega
      have hgt2:=mo xs (m+1);rw[he,pY (by omega) hl1,oH,uz (by omega) hl1,rJ (by omega),emitC];have hy:xs[m+1].f0.toNat=op.length+1:=by omega
      have ey:lT xs[m+1]=⟨0,[],[],xs[m+1].f3.data.toList,false⟩:=by unfold lT;rw[if_neg (by omega),if_pos y1]
      have eo2:opA (op++[xs[m].f2]) xs[m+1]=op++[xs[m].f2]:=by unfold opA;rw[if_neg (by omega)]
      rw[hy,List.take_of_length_le (by omega),List.drop_eq_nil_of_le (by omega),eo2,emitC,List.drop_eq_nil_of_le (by omega),ey];obtain⟨n',rfl⟩:∃n',n=n'+1:=⟨n - 1,by omega⟩
      have hend2:∀b,nP b (endP xs[m].f2)=([60,47]++xs[m].f2.data.toList)++[62]:=by
       intro b;simp[nP,endP,jG,dS,lX]
      have hnode:nL xs (n'+1) (mJ xs[m].f2.data.toList) (m+1)=nP (mJ xs[m].f2.data.toList) ⟨0,[],[],xs[m+1].f3.data.toList,false⟩:=by
       simp only[nL];rw[qO xs (m+1) hl1,if_pos y1];simp[nP]
      simp only[List.reverse_nil,List.map_nil,List.nil_append,List.singleton_append,List.cons_append,List.flatMap_cons,List.flatMap_nil,List.append_nil];rw[eu,eu,eu,eu,yU,hend2,jU,jU,jU,jU,hnode];exact⟨by simp[qL],by simp[qL,endP]⟩
  ·have et:lT xs[m]=⟨0,[],[],xs[m].f3.data.toList,false⟩:=by unfold lT;rw[if_neg (by omega),if_pos k]
   have eo:opA op xs[m]=op:=by unfold opA;rw[if_neg (by omega)]
   rw[if_pos k,et,eo,hleaf eo,oH,emitC,List.drop_length];simp[eu,jU,nP,qL]
  ·have et:lT xs[m]=⟨3,[],[],xs[m].f3.data.toList,false⟩:=by unfold lT;rw[if_neg (by omega),if_neg (by omega)]
   have eo:opA op xs[m]=op:=by unfold opA;rw[if_neg (by omega)]
   rw[if_neg (by omega),if_pos k,et,eo,hleaf eo,oH,emitC,List.drop_length];simp[eu,jU,nP,qL]
theorem Ov(xs:List Rw)(hf:RowsFit xs [] [])(hk:∀m,(h:m<xs.length)→xs[m].f1=0∨xs[m].f1=1∨xs[m].f1=2)(hg:∀m,(h:m<xs.length)→BG xs[m] (xs.drop (m+1)))(h0:∀m,(h:m<xs.length)→0≤xs[m].f0):
 (jI xs (-1)).flatMap (nL xs xs.length false)=yh (jZ xs []):=by
 have hi:=hi_fit xs [] [] hf;have e:lY xs 0 xs.length=xs:=by simp[lY]
 have h:=H7 xs xs.length 0 xs.length (Nat.le_refl _) xs.length 0 [] (by omega) (by omega) rfl (by rw[e];exact hi) (fun m _ b=>oW xs m b) (fun m hm _ _=>h0 m hm) (fun m _ b=>Sb xs hk hg xs.length m (by omega));rw[e,FW]at h;rw[rC (.inl rfl)];exact h.1.symm
end Go.Proofs.aj.W7
