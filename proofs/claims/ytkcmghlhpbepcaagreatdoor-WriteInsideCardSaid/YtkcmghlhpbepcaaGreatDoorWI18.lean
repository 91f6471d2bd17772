/- Lemmas and walks, part 18. -/
import Derived.Test.YtkcmghlhpbepcaaGreatDoorWI17
import Derived.Shelf.Strings.BuilderRune
set_option linter.unusedVariables false
set_option linter.unusedSimpArgs false
set_option maxHeartbeats 8000000
set_option maxRecDepth 1000000
namespace Go.Proofs.aj.W7
open Go.RowKit ah.aD ah.bH ah.bU
attribute [local go_sem] dB dD dW dX bZ cu dF dG
mutual
def bW.j0:Nat→List (S34)→Int→Bool→Option (Int)
 |0,_,_,_=>none
 |k+1,x0,x1,x13=>if x13=true then(some 0)else(bW.l0 k x0 x1 (wrap64 (x1+1)))
def bW.l0:Nat→List (S34)→Int→Int→Option (Int)
 |0,_,_,_=>none
 |k+1,x0,x1,x5=>if x5<(x0.length:Int)then(if 0≤x5 then(if 0≤x1 then(if x1<(x0.length:Int)then(if((au x0 x5).f0)≤((au x0 x1).f0)then(some x5)else(bW.l0 k x0 x1 (wrap64 (x5+1))))else(none))else(none))else(none))else(some (x0.length:Int))
end
def bW.f(k:Nat)(l0:List (S34))(a1:Int):Option (Int):=if a1<0 then(bW.j0 k l0 a1 true)else(bW.j0 k l0 a1 (decide (a1≥(l0.length:Int))))
theorem bW.calls(k:Nat)(A0:Option Addr)(c0:Nat)(l0:List (S34))(a1 r:Int)(w:World)(hr0:Kd.C k34 w A0 l0.length l0)(hc0:l0.length≤c0)(h:bW.f k l0 a1=some r):
 Calls Tryz.prog 45 #[.slice A0 l0.length c0,.int .i64 a1] w fun e w'=>e=.returned (.int .i64 r)∧bJ w w':=by
 have HR0:=ak.mk hr0;have HC0:=ak.mk hc0;clear hr0 hc0;have H:(if a1<0 then(bW.j0 k l0 a1 true)else(bW.j0 k l0 a1 (decide (a1≥(l0.length:Int)))))=some r:=h;clear h;have HC3:=ak.mk H;clear H;go_enter Tryz.func45,Tryz.ntmps45
 go_upto_region 1 with(fail)
 repeat(go_quiet (fail);go_upto_region 1 with(fail))
 go_cut [13] (fun v13 wc=>∃(kq:Nat) (x13_2:Bool),v13=.bool x13_2∧ak (bW.j0 kq l0 a1 x13_2=some r)∧ak (kq≤k)∧bJ w wc)
 case first=>
  have H:=HC3.out;clear HC3
  by_cases c4:a1<0
  ·rw[if_pos c4]at H
   have lY:=decide_eq_true c4;clear c4
   (first|rw[lY] |(simp only[mq,nA];rw[lY])|skip)
   have H':=ak.mk H;clear H;go_wp2
   repeat(go_quiet (fail);try go_wp2)
   go_meet
   case rel=>exact⟨_,(true),q'c,H',⟨by first|omega|exact Nat.le_refl _⟩,by repeat(first|exact bJ.refl _|apply bJ.step)⟩
  ·rw[if_neg c4]at H
   have lY:=decide_eq_false c4;clear c4
   (first|rw[lY] |(simp only[mq,nA];rw[lY])|skip)
   have H':=ak.mk H;clear H;go_wp2
   repeat(go_quiet (fail);try go_wp2)
   go_meet
   case rel=>exact⟨_,(decide (a1≥(l0.length:Int))),q'c,H',⟨by first|omega|exact Nat.le_refl _⟩,by repeat(first|exact bJ.refl _|apply bJ.step)⟩
 case rest=>
  clear HC3
  try clear p2
  try clear c4
  try clear lY
  obtain⟨kq,x13_2,rfl,HA,HJ2,⟨mc2,rfl⟩⟩:=hcut;cases kq with
  |zero=>exact absurd HA.out (by simp[bW.j0])
  |succ kj2=>
   have H:=HA.out;clear HA;simp only[bW.j0]at H
   by_cases c5:x13_2=true
   ·subst c5
    rw[if_pos rfl]at H
    try dsimp only at H
    obtain rfl:=Option.some.inj H;go_wp2
    repeat(go_quiet (fail);try go_wp2)
    go_ret;exact⟨q'c,by repeat(first|exact bJ.refl _|apply bJ.step)⟩
   ·replace c5:=Bool.eq_false_iff.mpr c5
    subst c5;have H1:(bW.l0 kj2 l0 a1 (wrap64 (a1+1)))=some r:=by rw[if_neg (show¬(false=true) by decide)]at H;first|exact H|(simp only[eq_self]at H⊢;exact H)|(simp only[eq_self,if_true]at H⊢;exact H)
    clear H;have H:=H1;clear H1;have H':=ak.mk H;clear H;go_wp2
    repeat(go_quiet (fail);try go_wp2)
    go_loopg [5] kj2 (fun kq v5 w'=>∃(DF:Int),v5=.int .i64 DF∧ak (bW.l0 kq l0 a1 DF=some r)∧ak (kq≤kj2)∧bJ w w')
    case atStart=>exact⟨(wrap64 (a1+1)),q'c,H',⟨Nat.le_refl _⟩,by repeat(first|exact bJ.refl _|apply bJ.step)⟩
    case round=>
     clear H'
     try clear c2
     try clear p2
     try clear c4
     try clear lY
     try clear c5
     try clear p2
     obtain⟨DF,rfl,HA,HK2,⟨m2,rfl⟩⟩:=hrel;cases gk with
     |zero=>exact absurd HA.out (by simp[bW.l0])
     |succ k2=>
      have H:=HA.out;clear HA;simp only[bW.l0]at H
      by_cases c6:DF<(l0.length:Int)
      ·rw[if_pos c6]at H
       have AO:=decide_eq_true c6;clear c6
       by_cases c7:0≤DF
       ·rw[if_pos c7]at H
        have GI:=decide_eq_true c7;clear c7
        by_cases c8:0≤a1
        ·rw[if_pos c8]at H
         have yZ:=decide_eq_true c8;clear c8
         by_cases c9:a1<(l0.length:Int)
         ·rw[if_pos c9]at H
          have GY:=decide_eq_true c9;clear c9
          by_cases c10:((au l0 DF).f0)≤((au l0 a1).f0)
          ·rw[if_pos c10]at H
           have Er:=decide_eq_true c10;clear c10;obtain rfl:=Option.some.inj H;have p108:0≤(DF:Int):=q'b;have q108:DF<(l0.length:Int):=q'b;obtain⟨ad108,A108_4,c108_4,e108,hx108_0,hx108_1,hx108_2,hx108_3,hx108_4,BS,BU⟩:=iM HR0.out DF p108 q108;cases e108;have HR108_4:=ak.mk BU;have HC108_4:=ak.mk BS;clear BU BS;replace p108:=eq_true p108;replace q108:=eq_true q108;have p109:0≤(a1:Int):=q'b;have q109:a1<(l0.length:Int):=q'b;obtain⟨ad109,A109_4,c109_4,e109,hx109_0,hx109_1,hx109_2,hx109_3,hx109_4,BX,BZ⟩:=iM HR0.out a1 p109 q109;obtain rfl:ad108=ad109:=(by injection e109);have HR109_4:=ak.mk BZ;have HC109_4:=ak.mk BX;clear BZ BX;replace p109:=eq_true p109;replace q109:=eq_true q109;go_wp2
           repeat(go_quiet (fail);try go_wp2)
           go_ret;exact⟨q'c,by repeat(first|exact bJ.refl _|apply bJ.step)⟩
          ·rw[if_neg c10]at H
           have Er:=decide_eq_false c10;clear c10;have H':=ak.mk H;clear H;have p108:0≤(DF:Int):=q'b;have q108:DF<(l0.length:Int):=q'b;obtain⟨ad108,A108_4,c108_4,e108,hx108_0,hx108_1,hx108_2,hx108_3,hx108_4,BS,BU⟩:=iM HR0.out DF p108 q108;cases e108;have HR108_4:=ak.mk BU;have HC108_4:=ak.mk BS;clear BU BS;replace p108:=eq_true p108;replace q108:=eq_true q108;have p109:0≤(a1:Int):=q'b;have q109:a1<(l0.length:Int):=q'b;obtain⟨ad109,A109_4,c109_4,e109,hx109_0,hx109_1,hx109_2,hx109_3,hx109_4,BX,BZ⟩:=iM HR0.out a1 p109 q109;obtain rfl:ad108=ad109:=(by injection e109);have HR109_4:=ak.mk BZ;have HC109_4:=ak.mk BX;clear BZ BX;replace p109:=eq_true p109;replace q109:=eq_true q109;go_wp2
           repeat(go_quiet (fail);try go_wp2)
           go_roundg k2
           case measure=>have:=HJ2.out;have:=HK2.out;omega
           case rel=>exact⟨(wrap64 (DF+1)),q'c,H',⟨by have:=HJ2.out;have:=HK2.out;omega⟩,by repeat(first|exact bJ.refl _|apply bJ.step)⟩
         ·rw[if_neg c9]at H
          exact absurd H (by simp)
        ·rw[if_neg c8]at H
         exact absurd H (by simp)
       ·rw[if_neg c7]at H
        exact absurd H (by simp)
      ·rw[if_neg c6]at H
       have AO:=decide_eq_false c6;clear c6;obtain rfl:=Option.some.inj H;go_wp2
       repeat(go_quiet (fail);try go_wp2)
       go_ret;exact⟨q'c,by repeat(first|exact bJ.refl _|apply bJ.step)⟩
end Go.Proofs.aj.W7
namespace Go.Proofs.aj.W7
open Go.RowKit Go.Proofs YtkcmghlhpbepcaaGreatDoor ah.aD ah.bH ah.bU
def qW(xs:List Rw)(k:Nat):Int:=(au xs k).f0
end Go.Proofs.aj.W7
namespace Go.Proofs.aj.W7
open Go.RowKit Go.Proofs aj YtkcmghlhpbepcaaGreatDoor ah.aD
def OV:List Bt:=(BR.f).getD []
def raws:List Bt:=(DT.f).getD []
theorem void_f(s:Bt)(k:Nat)(hk:20≤k):gU.f k s=some (pW OV s):=by
 unfold gU.f;rw[uX _ _ _ (by simp) (by simp;omega)];rfl
theorem raw_f(s:Bt)(k:Nat)(hk:20≤k):l7.f k s=some (pW raws s):=by
 unfold l7.f;rw[uX _ _ _ (by simp) (by simp;omega)];rfl
def atT(a:S36):Txt:=((([32]++a.f0.data.toList)++[61,34])++wrL true a.f1.data.toList)++[34]
def tagT(nm:Bt)(l:List S36):Txt:=([60]++nm.data.toList)++l.flatMap atT++[62]
theorem wrB_at(b:Bool)(v:Bt)(h:v.data.toList.length≤1000000000):wrB b v=some ⟨(wrL b v.data.toList).toArray⟩:=by unfold wrB;rw[if_pos h]
theorem rd45_at(l:List S36)(i:Nat)(h:i<l.length):bD l i=l[i]:=by simp[bD,h]
theorem l32:(⟨#[32]⟩:Bt).data.toList=[32]:=rfl
theorem l61:(⟨#[61,34]⟩:Bt).data.toList=[61,34]:=rfl
theorem l34:(⟨#[34]⟩:Bt).data.toList=[34]:=rfl
theorem l60:(⟨#[60]⟩:Bt).data.toList=[60]:=rfl
theorem lw(b:Bool)(v:List UInt8):(⟨(wrL b v).toArray⟩:Bt).data.toList=wrL b v:=rfl
theorem sz32:(⟨#[32]⟩:Bt).size=1:=rfl
theorem sz61:(⟨#[61,34]⟩:Bt).size=2:=rfl
theorem sz34:(⟨#[34]⟩:Bt).size=1:=rfl
theorem szw(b:Bool)(v:List UInt8):(⟨(wrL b v).toArray⟩:Bt).size=(wrL b v).length:=rU _
theorem U0(l:List S36)(hl:l.length<100000)(hv:∀a∈l,a.f1.data.toList.length≤1000000000):∀(d i k:Nat) (acc:Bt),l.length - i≤d→i≤l.length→d<k→
 acc.data.toList.length+((l.drop i).flatMap atT).length≤1000000000000→
 ∃r,eO.l0 k acc l (l.length:Int) i=some r∧r.data.toList=(acc.data.toList++(l.drop i).flatMap atT)++[62]:=by
 intro d
 induction d with
 |zero=>
  intro i k acc hd hi hk hz;obtain⟨k,rfl⟩:∃m,k=m+1:=⟨k - 1,by omega⟩
  simp only[eO.l0];rw[List.drop_of_length_le (by omega)]at hz⊢;rw[if_neg (by omega),if_pos (by rw[qX];simp only[List.flatMap_nil,List.length_nil,Nat.add_zero]at hz;omega)];exact⟨_,rfl,by simp⟩
 |succ d ih=>
  intro i k acc hd hi hk hz
  by_cases h:i<l.length
  ·obtain⟨k,rfl⟩:∃m,k=m+1:=⟨k - 1,by omega⟩
   have hva:=hv l[i] (List.getElem_mem h);rw[List.drop_eq_getElem_cons h,List.flatMap_cons]at hz;simp only[List.length_append,atT,List.length_cons,List.length_nil]at hz;simp only[eO.l0];rw[if_pos (by omega),if_pos (by omega),if_pos (by omega),rd45_at l i h];rw[if_pos (by rw[qX];omega),if_pos (by rw[ByteArray.size_append,sz32,qX];omega)];unfold tu.f;rw[wrB_at true _ hva,Option.bind_some];rw[if_pos (by rw[ByteArray.size_append,ByteArray.size_append,sz32,sz61,szw,qX];omega)];rw[if_pos (by rw[ByteArray.size_append,ByteArray.size_append,ByteArray.size_append,sz32,sz61,szw,qX];omega)];rw[if_pos (by rw[ByteArray.size_append,ByteArray.size_append,ByteArray.size_append,ByteArray.size_append,sz32,sz61,sz34,szw,qX,qX];omega)];rw[wN (by omega)]
   obtain⟨r,h1,h2⟩:=ih (i+1) k (acc++((((⟨#[32]⟩:Bt)++l[i].f0)++(⟨#[61,34]⟩:Bt))++(⟨(wrL true l[i].f1.data.toList).toArray⟩:Bt)++(⟨#[34]⟩:Bt))) (by omega) (by omega) (by omega)
    (by rw[kU,kU,kU,kU,kU,l32,l61,lw,l34];simp only[List.length_append,List.length_cons,List.length_nil];omega)
   refine⟨r,h1,?_⟩;rw[h2,List.drop_eq_getElem_cons h,List.flatMap_cons,kU,kU,kU,kU,kU,l32,l61,lw,l34];simp only[atT,List.append_assoc]
  ·exact ih i k acc (by omega) hi (by omega) hz
theorem opened_f(x:Rw)(k:Nat)(hl:x.f4.length<100000)(hk:x.f4.length<k)(hv:∀a∈x.f4,a.f1.data.toList.length≤1000000000)(hz:(tagT x.f2 x.f4).length≤1000000000000):
 ∃r,eO.f k x.f0 x.f1 x.f2 x.f3 x.f4=some r∧r.data.toList=tagT x.f2 x.f4:=by
 unfold tagT at hz⊢;simp only[List.length_append,List.length_cons,List.length_nil]at hz;unfold eO.f;rw[if_pos (by rw[qX];omega)];obtain⟨r,h1,h2⟩:=U0 x.f4 hl hv x.f4.length 0 k ((⟨#[60]⟩:Bt)++x.f2) (by omega) (by omega) hk (by rw[kU,l60,List.drop_zero];simp only[List.length_append,List.length_cons,List.length_nil];omega);exact⟨r,h1,by rw[h2,kU,l60,List.drop_zero]⟩
theorem U1(xs:List Rw)(hl:xs.length<100000000)(i:Nat)(hi:i<xs.length):∀(d j k:Nat),xs.length - j≤d→j≤xs.length→d<k→
 bW.l0 k xs i j=some ((j+pI (au xs i).f0 (xs.drop j):Nat):Int):=by
 intro d
 induction d with
 |zero=>
  intro j k hd hj hk;obtain⟨k,rfl⟩:∃m,k=m+1:=⟨k - 1,by omega⟩
  simp only[bW.l0];rw[if_neg (by omega),List.drop_of_length_le (by omega),show j=xs.length from by omega];rfl
 |succ d ih=>
  intro j k hd hj hk
  by_cases h:j<xs.length
  ·obtain⟨k,rfl⟩:∃m,k=m+1:=⟨k - 1,by omega⟩
   have hdj:au xs (j:Int)=xs[j]:=by simp[au,h]
   simp only[bW.l0];rw[if_pos (by omega),if_pos (by omega),if_pos (by omega),if_pos (by omega),List.drop_eq_getElem_cons h,hdj];simp only[pI]
   by_cases e:xs[j].f0≤(au xs i).f0
   ·rw[if_pos e,if_neg (by omega),Nat.add_zero]
   ·rw[if_neg e,if_pos (by omega),wN (by omega),ih (j+1) k (by omega) (by omega) (by omega)]
    congr 2
    omega
  ·exact ih j k (by omega) hj (by omega)
theorem refEnd_f(xs:List Rw)(hl:xs.length<100000000)(i k:Nat)(hi:i<xs.length)(hk:xs.length<k):bW.f k xs i=some ((fK xs i:Nat):Int):=by
 unfold bW.f;obtain⟨k,rfl⟩:∃m,k=m+1:=⟨k - 1,by omega⟩
 rw[if_neg (by omega)];simp only[bW.j0];rw[decide_eq_false (by omega),if_neg (by decide),wN (by omega),U1 xs hl i hi (xs.length - (i+1)) (i+1) k (by omega) (by omega) (by omega)];rfl
structure OkAt (xs:List Rw) (i:Nat):Prop where
 kind:(au xs i).f1=0∨(au xs i).f1=1∨(au xs i).f1=2
 low:0≤qW xs i
 high:qW xs i≤i
 step:0<i→qW xs i≤qW xs (i - 1)+1
def QA(xs:List Rw):Prop:=∀j,j<xs.length→OkAt xs j
theorem OY(d:Int):∀(ys:List Rw) (m:Nat) (h:m<ys.length),m<pI d ys→d<ys[m].f0
 | [],m,h,_=>by simp at h
 |y::ys,0,h,hm=>by
  simp only[pI]at hm
  split at hm
  ·assumption
  ·omega
 |y::ys,m+1,h,hm=>by
  simp only[pI]at hm
  split at hm
  ·exact OY d ys m (by simpa using h) (by omega)
  ·omega
theorem OZ(d:Int):∀(ys:List Rw) (h:pI d ys<ys.length),ys[pI d ys].f0≤d
 | [],h=>by simp at h
 |y::ys,h=>by
  by_cases e:d<y.f0
  ·have e2:pI d (y::ys)=pI d ys+1:=by simp only[pI];rw[if_pos e]
   have h':pI d ys<ys.length:=by rw[e2]at h;simpa using h
   have:=OZ d ys h';simp only[e2,List.getElem_cons_succ];exact this
  ·have e2:pI d (y::ys)=0:=by simp only[pI];rw[if_neg e]
   simp only[e2,List.getElem_cons_zero];omega
theorem lI(xs:List Rw)(i:Nat)(h:i<xs.length):qW xs i=xs[i].f0:=by unfold qW;rw[nJ xs i h]
theorem F6(xs:List Rw)(j m:Nat)(h1:j<m)(h2:m<fK xs j)(h3:m<xs.length):qW xs j<qW xs m:=by
 have h:=OY (au xs j).f0 (xs.drop (j+1)) (m - (j+1)) (by rw[List.length_drop];omega) (by unfold fK at h2;omega);rw[List.getElem_drop]at h;rw[lI xs m h3];have e:j+1+(m - (j+1))=m:=by omega
 simp only[e]at h;exact h
theorem at_end(xs:List Rw)(j:Nat)(h:fK xs j<xs.length):qW xs (fK xs j)≤qW xs j:=by
 have hs:pI (au xs j).f0 (xs.drop (j+1))<(xs.drop (j+1)).length:=by unfold fK at h;rw[List.length_drop];omega
 have h1:=OZ _ _ hs;rw[List.getElem_drop]at h1;rw[lI xs _ h];exact h1
def OX(x:Rw)(t:Txt):Txt:=if pW OV x.f2 then []else t++(([60,47]++x.f2.data.toList)++[62])
def oM(xs:List Rw):Nat→Bool→Nat→Txt
 |0,_,_=>[]
 |d+1,raw,k=>
  if(au xs k).f1=1 then(if raw then(au xs k).f3.data.toList else wrL false (au xs k).f3.data.toList)
  else if(au xs k).f1=2 then([60,33,45,45]++(au xs k).f3.data.toList)++[45,45,62]
  else tagT (au xs k).f2 (au xs k).f4++OX (au xs k) ((kQ xs k).flatMap (oM xs d (pW raws (au xs k).f2)))
def own(x:Rw):Nat:=6 * x.f3.data.toList.length+(tagT x.f2 x.f4).length+x.f2.data.toList.length+20
def zF(xs:List Rw)(a:Nat):Nat:=((xs.drop a).map own).sum
theorem Ea(xs:List Rw)(a:Nat)(h:a<xs.length):zF xs a=own xs[a] +zF xs (a+1):=by unfold zF;rw[List.drop_eq_getElem_cons h,List.map_cons,List.sum_cons]
theorem F8(xs:List Rw):∀(d a b:Nat),b - a≤d→a≤b→zF xs b≤zF xs a:=by
 intro d
 induction d with
 |zero=>intro a b h1 h2;rw[show a=b from by omega];exact Nat.le_refl _
 |succ d ih=>
  intro a b h1 h2
  by_cases h:a<b
  ·by_cases h3:a<xs.length
   ·have:=ih (a+1) b (by omega) (by omega)
    rw[Ea xs a h3];omega
   ·have e1:zF xs b=0:=by unfold zF;rw[List.drop_of_length_le (by omega)];rfl
    omega
  ·rw[show a=b from by omega];exact Nat.le_refl _
theorem F7(xs:List Rw)(j m:Nat)(h1:j<m)(h2:m<fK xs j)(h3:j<xs.length):fK xs m≤fK xs j:=by
 have hle:=oP xs j h3
 by_cases h:fK xs j<fK xs m
 ·have hm:=oP xs m (by omega)
  have a:=F6 xs m (fK xs j) h2 h (by omega);have b:=at_end xs j (by omega);have c:=F6 xs j m h1 h2 (by omega);omega
 ·omega
theorem Eb(xs:List Rw)(f:Nat→Txt)(t:Nat)(ht:t≤xs.length):∀(d j:Nat),t - j≤d→j≤t→(∀m,j≤m→m<t→fK xs m≤t)→(∀m,j≤m→m<t→(f m).length+zF xs (fK xs m)≤zF xs m)→
 ((kE xs t j).flatMap f).length+zF xs t≤zF xs j:=by
 intro d
 induction d with
 |zero=>
  intro j hd hj _ _;rw[qx (by omega),show j=t from by omega];simp
 |succ d ih=>
  intro j hd hj hc hf
  by_cases h:j<t
  ·have hgt:=lg xs j
   have h1:=hf j (Nat.le_refl _) h;have h2:=hc j (Nat.le_refl _) h;have h3:=ih (fK xs j) (by omega) h2 (fun m a b=>hc m (by omega) b) (fun m a b=>hf m (by omega) b);rw[sK h (by omega),List.flatMap_cons,List.length_append];omega
  ·exact ih j (by omega) hj hc hf
theorem zU(xs:List Rw)(k:Nat)(hk:k<xs.length):kQ xs (k:Int)=kE xs (fK xs k) (k+1):=by
 rw[vU (.inr ⟨by omega,by omega⟩),show toI xs (k:Int)=fK xs k from by unfold toI;rw[if_neg (by omega)];rfl,show BO (k:Int)=k+1 from by unfold BO;rw[if_neg (by omega)];rfl]
theorem J4(xs:List Rw):∀(d:Nat) (raw:Bool) (k:Nat),k<xs.length→(oM xs d raw k).length+zF xs (fK xs k)≤zF xs k:=by
 intro d
 induction d with
 |zero=>intro raw k hk;have:=F8 xs _ k (fK xs k) (Nat.le_refl _) (by have:=lg xs k;omega);simpa [oM]using this
 |succ d ih=>
  intro raw k hk;have hs:=Ea xs k hk;have hgt:=lg xs k;have hle:=oP xs k hk;have hm:=F8 xs _ (k+1) (fK xs k) (Nat.le_refl _) (by omega);have hkid:=Eb xs (oM xs d (pW raws (au xs k).f2)) (fK xs k) hle (fK xs k) (k+1) (by omega) (by omega) (fun m a b=>F7 xs k m (by omega) b hk) (fun m a b=>ih _ m (by omega));rw[nJ xs k hk]at hkid;have hw:=Dt false xs[k].f3.data.toList;unfold own at hs;simp only[oM];rw[nJ xs k hk,zU xs k hk]
  split
  ·split<;>omega
  ·split
   ·simp only[List.length_append,List.length_cons,List.length_nil];omega
   ·rw[List.length_append]
    unfold OX
    split
    ·simp only[List.length_nil];omega
    ·simp only[List.length_append,List.length_cons,List.length_nil];omega
theorem U2(xs:List Rw)(d:Nat)(raw:Bool)(i:Int)(hi:i= -1∨0≤i∧i<xs.length):((kQ xs i).flatMap (oM xs d raw)).length≤zF xs 0:=by
 rcases hi with rfl|hi
 ·have h:=Eb xs (oM xs d raw) xs.length (Nat.le_refl _) xs.length 0 (by omega) (by omega) (fun m _ b=>oP xs m b) (fun m _ b=>J4 xs d raw m b)
  rw[vU (.inl rfl)];exact Nat.le_trans (Nat.le_add_right _ _) h
 ·obtain⟨k,rfl⟩:∃k:Nat,i=k:=⟨i.toNat,by omega⟩
  have hk:k<xs.length:=by omega
  have hgt:=lg xs k;have h:=Eb xs (oM xs d raw) (fK xs k) (oP xs k hk) (fK xs k) (k+1) (by omega) (by omega) (fun m a b=>F7 xs k m (by omega) b hk) (fun m a b=>J4 xs d raw m (by have:=oP xs k hk;omega));have h2:=F8 xs _ 0 (k+1) (Nat.le_refl _) (by omega);rw[zU xs k hk];omega
structure SizeP (xs:List Rw):Prop where
 len:xs.length≤200
 total:zF xs 0≤1000000000
 atts:∀x∈xs,x.f4.length≤6
theorem SizeP.one{xs:List Rw}(h:SizeP xs)(k:Nat)(hk:k<xs.length):own xs[k]≤1000000000:=by
 have h1:=F8 xs _ 0 k (Nat.le_refl _) (by omega);have h2:=Ea xs k hk;have:=h.total;omega
theorem TH{α:Type}(f:α→Txt):∀(l:List α) (a:α),a∈l→(f a).length≤(l.flatMap f).length
 | [],_,h=>by cases h
 |b::l,a,h=>by
  rw[List.flatMap_cons,List.length_append]
  rcases List.mem_cons.1 h with rfl|h
  ·omega
  ·have:=TH f l a h;omega
theorem own_val{x:Rw}(h:own x≤1000000000):(∀a∈x.f4,a.f1.data.toList.length≤1000000000)∧(tagT x.f2 x.f4).length≤1000000000∧x.f3.data.toList.length≤1000000000∧x.f2.data.toList.length≤1000000000:=by
 unfold own at h;refine⟨fun a ha=>?_,by omega,by omega,by omega⟩;have h1:=TH atT x.f4 a ha;have h2:=wr_ge true a.f1.data.toList;unfold tagT at h;simp only[List.length_append]at h;have h3:(wrL true a.f1.data.toList).length≤(atT a).length:=by unfold atT;simp only[List.length_append];omega
 omega
theorem Ec(f:Nat→Option Txt)(g:Nat→Txt):∀(ks:List Nat),(∀j∈ks,f j=some (g j))→catM f ks=some (ks.flatMap g)
 | [],_=>rfl
 |j::ks,h=>by
  simp only[catM];rw[h j (by simp),Option.bind_some,Ec f g ks (fun m hm=>h m (by simp[hm])),Option.bind_some,List.flatMap_cons]
theorem TI(xs:List Rw)(i:Int)(j:Nat)(hj:j∈kQ xs i):j<xs.length:=by
 have key:∀(t d a:Nat),xs.length - a≤d→j∈kE xs t a→j<xs.length:=by
  intro t d
  induction d with
  |zero=>intro a hd hm;rw[kE,dif_neg (by omega)]at hm;cases hm
  |succ d ih=>
   intro a hd hm
   by_cases h:a<t∧a<xs.length
   ·rw[kE,dif_pos h]at hm
    rcases List.mem_cons.1 hm with rfl|hm
    ·exact h.2
    ·exact ih (fK xs a) (by have:=lg xs a;omega) hm
   ·rw[kE,dif_neg h]at hm;cases hm
 by_cases hi:i= -1∨0≤i∧i<xs.length
 ·rw[vU hi]at hj
  exact key _ _ _ (Nat.le_refl _) hj
 ·have:kQ xs i=[]:=by
   unfold kQ;rw[if_neg (by omega),if_neg (by omega)]
  rw[this]at hj;cases hj
structure SizeQ (xs:List Rw):Prop where
 len:xs.length≤100000
 each:∀k,(h:k<xs.length)→own xs[k]≤1000000000
 total:zF xs 0≤100000000000
 atts:∀x∈xs,x.f4.length≤90000
theorem SizeP.q{xs:List Rw}(h:SizeP xs):SizeQ xs:=⟨by have:=h.len;omega,h.one,by have:=h.total;omega,fun x hx=>by have:=h.atts x hx;omega⟩
theorem QB(xs:List Rw)(hz:SizeQ xs)(hp:QA xs):∀(d:Nat) (raw:Bool) (k:Nat),k<xs.length→xs.length - k≤d→yU xs d raw k=some (oM xs d raw k):=by
 intro d
 induction d with
 |zero=>intro raw k hk hd;omega
 |succ d ih=>
  intro raw k hk hd;have ho:=own_val (hz.each k hk);have hkind:=(hp k hk).kind;have hr:=nJ xs k hk;have hcat:=Ec (yU xs d (pW raws xs[k].f2)) (oM xs d (pW raws xs[k].f2)) (kQ xs k) (fun j hj=>ih _ j (TI xs _ j hj) (by have:=QY xs k hk j hj;omega));simp only[yU,oM];rw[if_pos hk];rw[hr]at hkind⊢
  by_cases h1:xs[k].f1=1
  ·rw[if_pos h1,if_pos h1]
   cases raw with
   |true=>rfl
   |false=>
    rw[if_neg (by decide),if_neg (by decide)];unfold vV.f;rw[wrB_at false _ ho.2.2.1];rfl
  ·rw[if_neg h1,if_neg h1]
   by_cases h2:xs[k].f1=2
   ·rw[if_pos h2,if_pos h2]
   ·rw[if_neg h2,if_neg h2,if_pos (by omega)]
    obtain⟨o,e1,e2⟩:=opened_f xs[k] (xs[k].f4.length+1) (by have:=hz.atts _ (List.getElem_mem hk);omega) (by omega) ho.1 (by omega);rw[e1,Option.bind_some,void_f _ 100 (by omega),Option.bind_some];unfold OX;cases hv:pW OV xs[k].f2
    ·rw[if_neg (by decide),raw_f _ 100 (by omega),Option.bind_some,hcat,Option.bind_some,if_neg (by decide),e2]
     simp only[List.append_assoc]
    ·rw[if_pos rfl,if_pos rfl,e2,List.append_nil]
def EN(xs:List Rw)(i:Int):Bool:=if 0≤i then pW raws (au xs i).f2 else false
theorem U3(xs:List Rw)(hz:SizeQ xs)(hp:QA xs)(i:Int)(hi:i= -1∨0≤i∧i<xs.length):gJ.f xs i=some ⟨((kQ xs i).flatMap (oM xs xs.length (EN xs i))).toArray⟩:=by
 have hlen:=hz.len;have htot:=hz.total
 have hra:Ky xs i=some (EN xs i):=by
  unfold Ky EN
  rcases hi with rfl|hi
  ·rfl
  ·rw[if_pos hi.1,if_pos hi.2,if_pos hi.1,raw_f _ 100 (by omega)]
 have hc:=Ec (yU xs xs.length (EN xs i)) (oM xs xs.length (EN xs i)) (kQ xs i) (fun j hj=>QB xs hz hp _ _ j (TI xs _ j hj) (by omega));have hl:=U2 xs xs.length (EN xs i) i hi;unfold gJ.f;rw[if_pos (by omega),hra,Option.bind_some,hc,Option.bind_some,if_pos (by omega)]
def emitC(D:Nat):List Rw→List Bt→List Tok
 | [],op=>(op.drop D).reverse.map endP
 |x::r,op=>(op.drop x.f0.toNat).reverse.map endP++mP x::emitC D r (opA (op.take x.f0.toNat) x)
def qF:List Rw→List Bt→List Bt
 | [],op=>op
 |x::r,op=>qF r (opA (op.take x.f0.toNat) x)
def Hi:List Rw→List Bt→Prop
 | [],_=>True
 |x::r,op=>0≤x.f0∧x.f0≤op.length∧Hi r (opA (op.take x.f0.toNat) x)
theorem hi_fit:∀(r:List Rw) (op:List Bt) (out:List Rw),RowsFit r op out→Hi r op
 | [],_,_,_=>trivial
 |x::r,op,out,h=>⟨h.1.lo,h.1.hi,hi_fit r _ _ h.2⟩
theorem hi_app:∀(r1 r2:List Rw) (op:List Bt),Hi (r1++r2) op→Hi r1 op∧Hi r2 (qF r1 op)
 | [],r2,op,h=>⟨trivial,h⟩
 |x::r1,r2,op,h=>by
  obtain⟨a,b,c⟩:=h;obtain⟨d,e⟩:=hi_app r1 r2 _ c;exact⟨⟨a,b,d⟩,e⟩
theorem hi_take{D:Nat}:∀ {r:List Rw} {op:List Bt},Hi r op→Shut D r→Hi r (op.take D)
 | [],_,_,_=>trivial
 |z::r,op,h,hs=>by
  obtain⟨a,b,c⟩:=h;have hz:z.f0≤D:=hs;refine⟨a,by rw[List.length_take];omega,?_⟩;rw[List.take_take,Nat.min_eq_left (by omega)];exact c
theorem Bo{D:Nat}:∀(r:List Rw) (op:List Bt),Hi r op→D≤op.length→(∀x∈r,(D:Int)≤x.f0)→(qF r op).take D=op.take D∧D≤(qF r op).length
 | [],op,_,hD,_=>⟨rfl,hD⟩
 |x::r,op,h,hD,hx=>by
  obtain⟨a,b,c⟩:=h;have h0:=hx x (by simp);have hl:(op.take x.f0.toNat).length=x.f0.toNat:=by rw[List.length_take];omega
  have hle:D≤(opA (op.take x.f0.toNat) x).length:=by
   unfold opA
   split
   ·rw[List.length_append];omega
   ·omega
  have ht:(opA (op.take x.f0.toNat) x).take D=op.take D:=by
   have e:(op.take x.f0.toNat).take D=op.take D:=by rw[List.take_take,Nat.min_eq_left (by omega)]
   unfold opA
   split
   ·rw[List.take_append_of_le_length (by omega),e]
   ·exact e
  obtain⟨i1,i2⟩:=Bo r _ c hle (fun y hy=>hx y (by simp[hy]));exact⟨by rw[qF,i1,ht],i2⟩
theorem IG{α:Type}(op:List α){D E:Nat}(h:E≤D):op.drop E=(op.take D).drop E++op.drop D:=by
 have h1:(op.take D).drop E=(op.drop E).take (D - E):=List.drop_take;have h2:op.drop D=(op.drop E).drop (D - E):=by rw[List.drop_drop];congr 1;omega
 rw[h1,h2,List.take_append_drop]
theorem D9{D E:Nat}(hE:E≤D):∀(r1:List Rw) (op:List Bt) (r2:List Rw),Shut D r2→(∀z∈r2,0≤z.f0)→emitC E (r1++r2) op=emitC D r1 op++emitC E r2 ((qF r1 op).take D)
 | [],op,[],_,_=>by
   rw[List.append_nil,emitC,emitC,emitC,qF,IG op hE,List.reverse_append,List.map_append]
 | [],op,z::r,hs,h0=>by
   have hz:z.f0≤D:=hs;have h0z:=h0 z (by simp);have hd:z.f0.toNat≤D:=by omega
   rw[List.nil_append,emitC,emitC,qF,emitC,List.take_take,Nat.min_eq_left hd,IG op hd,List.reverse_append,List.map_append,List.append_assoc]
 |x::r1,op,r2,hs,h0=>by
  rw[List.cons_append,emitC,emitC,qF,D9 hE r1 _ r2 hs h0,List.append_assoc,List.cons_append]
def ku(b:Bool):List Tok→Bool
 | []=>b
 |t::r=>ku (sj t) r
theorem Bp(b:Bool):∀(L M:List Tok),eY b (L++M)=eY b L++eY (ku b L) M
 | [],M=>by simp[eY,ku]
 |t::L,M=>by rw[List.cons_append,eY,eY,ku,Bp (sj t) L M,List.append_assoc]
theorem Bq(b:Bool):∀(L M:List Tok),ku b (L++M)=ku (ku b L) M
 | [],M=>rfl
 |t::L,M=>by rw[List.cons_append,ku,ku,Bq (sj t) L M]
theorem OU(s:Bt):pW OV s=jq s:=by rw[Ip];rfl
theorem TG(s:Bt):pW raws s=kX s.data.toList:=by
 have e:pW raws s=Ep.any (fun x=>x==s.data.toList):=rfl;rw[e];unfold kX inB;rw[List.contains_eq_any_beq]
 congr 1
 funext x
 exact Bool.eq_iff_iff.2 ⟨fun h=>by simpa using(by simpa using h:x=s.data.toList).symm,fun h=>by simpa using(by simpa using h:s.data.toList=x).symm⟩
def iq(xs:List Rw)(j t:Nat):List Rw:=(xs.drop j).take (t - j)
theorem pQ(xs:List Rw)(j:Nat):iq xs j j=[]:=by simp[iq]
theorem OW(xs:List Rw){j e t:Nat}(h1:j≤e)(h2:e≤t):iq xs j t=iq xs j e++iq xs e t:=by
 unfold iq;rw[show t - j=(e - j)+(t - e)from by omega,List.take_add,List.drop_drop,show j+(e - j)=e from by omega]
theorem pz{xs:List Rw}{j t:Nat}(h:j<t)(hj:j<xs.length):iq xs j t=xs[j]::iq xs (j+1) t:=by
 unfold iq;rw[List.drop_eq_getElem_cons hj,show t - j=(t - (j+1))+1 from by omega,List.take_succ_cons]
theorem pR{xs:List Rw}{x:Rw}:∀(d j t:Nat),t - j≤d→t≤xs.length→x∈iq xs j t→∃m,∃h:m<xs.length,j≤m∧m<t∧x=xs[m]
 |0,j,t,hd,ht,hx=>by
  unfold iq at hx;rw[show t - j=0 from by omega]at hx;simp at hx
 |d+1,j,t,hd,ht,hx=>by
  by_cases h:j<t
  ·rw[pz h (by omega)]at hx
   rcases List.mem_cons.1 hx with rfl|hx
   ·exact⟨j,by omega,Nat.le_refl _,h,rfl⟩
   ·obtain⟨m,hm,a,b,c⟩:=pR d (j+1) t (by omega) ht hx
    exact⟨m,hm,by omega,b,c⟩
  ·unfold iq at hx
   rw[show t - j=0 from by omega]at hx;simp at hx
def NodeS(xs:List Rw)(n m:Nat):Prop:=∀(h:m<xs.length) (op:List Bt),xs[m].f0=(op.length:Int)→Hi (iq xs m (fK xs m)) op→
 eY false (emitC op.length (iq xs m (fK xs m)) op)=oM xs n false m∧ku false (emitC op.length (iq xs m (fK xs m)) op)=false
theorem J3(xs:List Rw)(n D t:Nat)(ht:t≤xs.length):∀(d j:Nat) (op:List Bt),t - j≤d→j≤t→op.length=D→Hi (iq xs j t) op→(∀m,j≤m→m<t→fK xs m≤t)→
 (∀m,(h:m<xs.length)→j≤m→m<t→(D:Int)≤xs[m].f0)→(∀m,j≤m→m<t→NodeS xs n m)→
 eY false (emitC D (iq xs j t) op)=(kE xs t j).flatMap (oM xs n false)∧ku false (emitC D (iq xs j t) op)=false:=by
 intro d
 induction d with
 |zero=>
  intro j op hd hj ho _ _ _ _;obtain rfl:j=t:=by omega
  rw[pQ,qx (by omega),emitC,List.drop_eq_nil_of_le (by omega)];exact⟨rfl,rfl⟩
 |succ d ih=>
  intro j op hd hj ho hh hc hD hN
  by_cases h:j<t
  ·have hjl:j<xs.length:=by omega
   have hgt:=lg xs j;have hle:=hc j (Nat.le_refl _) h;have hs:=OW xs (Nat.le_of_lt hgt) hle;rw[hs]at hh⊢;obtain⟨h1,h2⟩:=hi_app _ _ _ hh
   have hjd:xs[j].f0=(D:Int):=by
    have a:=hD j hjl (Nat.le_refl _) h;rw[pz hgt hjl]at h1;have b:=h1.2.1;omega
   have hsh:Shut D (iq xs (fK xs j) t):=by
    by_cases he:fK xs j<t
    ·rw[pz he (by omega)]
     have a:=at_end xs j (by omega);rw[lI xs j hjl,lI xs _ (by omega)]at a;show xs[fK xs j].f0≤D;omega
    ·rw[show fK xs j=t from by omega,pQ]
     trivial
   have h0:∀z∈iq xs (fK xs j) t,0≤z.f0:=by
    intro z hz;obtain⟨m,hm,a,b,rfl⟩:=pR _ _ _ (Nat.le_refl _) ht hz;have:=hD m hm (by omega) b;omega
   obtain⟨e1,e2⟩:=Bo (D:=D) _ _ h1 (by omega) (fun z hz=>by
    obtain⟨m,hm,a,b,rfl⟩:=pR _ _ _ (Nat.le_refl _) (by omega) hz;exact hD m hm a (by omega))
   have eop:op.take D=op:=List.take_of_length_le (by omega);have h3:=hi_take h2 hsh;rw[e1,eop]at h3;obtain⟨n1,n2⟩:=hN j (Nat.le_refl _) h hjl op (by omega) h1;rw[ho]at n1 n2;obtain⟨k1,k2⟩:=ih (fK xs j) op (by omega) hle ho h3 (fun m a b=>hc m (by omega) b) (fun m hm a b=>hD m hm (by omega) b) (fun m a b=>hN m (by omega) b);rw[D9 (Nat.le_refl D) _ _ _ hsh h0,e1,eop,Bp,Bq,n1,n2,k1,k2,sK h hjl,List.flatMap_cons];exact⟨rfl,rfl⟩
  ·obtain rfl:j=t:=by omega
   rw[pQ,qx (by omega),emitC,List.drop_eq_nil_of_le (by omega)];exact⟨rfl,rfl⟩
theorem zT(nm:Bt)(l:List At)(b:Bool):oG b ⟨1,nm.data.toList,l.map lV,[],false⟩=tagT nm l:=by
 have e:dY (l.map lV)=l.flatMap atT:=by
  unfold dY;rw[List.flatMap_map]
  congr 1
  funext a
  simp[atT,lV]
 unfold oG;rw[if_neg (by simp),if_pos rfl];unfold jR;simp only[e,mY,tagT];simp
theorem UZ(xs:List Rw)(hk:∀m,(h:m<xs.length)→xs[m].f1=0∨xs[m].f1=1∨xs[m].f1=2)(hg:∀m,(h:m<xs.length)→F5 xs[m] (xs.drop (m+1))):
 ∀(n m:Nat),xs.length - m≤n→NodeS xs n m:=by
 intro n
 induction n with
 |zero=>intro m hn h;omega
 |succ n ih=>
  intro m hn h op ho hh;have hgt:=lg xs m;have hle:=oP xs m h;have hm1:((m:Nat):Int)=(m:Int):=rfl;rw[pz hgt h]at hh⊢;obtain⟨a0,a1,a2⟩:=hh;have hd:xs[m].f0.toNat=op.length:=by omega
  have hin:∀j (hj:j<xs.length),m<j→j<fK xs m→xs[m].f0<xs[j].f0:=by
   intro j hj b1 b2;have:=F6 xs m j b1 b2 hj
   rwa [lI xs m h,lI xs j hj]at this
  have hleaf:opA op xs[m]=op→fK xs m=m+1:=by
   intro e
   by_cases hl:m+1<fK xs m
   ·rw[hd,List.take_length,e,pz hl (by omega)]at a2
    have b:=hin (m+1) (by omega) (by omega) hl;have c:=a2.2.1;omega
   ·omega
  rw[emitC,hd,List.drop_length,List.take_length];simp only[oM];rw[nJ xs m h];rw[hd,List.take_length]at a2
  rcases hk m h with k|k|k
  ·have et:mP xs[m]=⟨1,xs[m].f2.data.toList,xs[m].f4.map lV,[],false⟩:=by unfold mP;rw[if_pos k]
   rw[if_neg (by omega),if_neg (by omega),et];cases hv:jq xs[m].f2 with
   |true=>
    have eo:opA op xs[m]=op:=by unfold opA;rw[if_neg (by rw[hv];simp)]
    have hr:kX xs[m].f2.data.toList=false:=by
     cases hr:kX xs[m].f2.data.toList with
     |false=>rfl
     |true=>
      have:=((hg m h).inner k (by rw[hr];rfl)).1;rw[hv]at this;cases this
    rw[eo,hleaf eo,pQ,emitC,List.drop_length];unfold OX;rw[OU,hv,if_pos rfl];simp[eY,ku,zT,sj,hr]
   |false=>
    have eo:opA op xs[m]=op++[xs[m].f2]:=by unfold opA;rw[if_pos ⟨k,hv⟩]
    rw[eo]at a2⊢;have hlen:(op++[xs[m].f2]).length=op.length+1:=by simp
    have hdeep:∀j (hj:j<xs.length),m+1≤j→j<fK xs m→((op.length+1:Nat):Int)≤xs[j].f0:=by
     intro j hj b1 b2;have:=hin j hj (by omega) b2;omega
    have hsplit:emitC op.length (iq xs (m+1) (fK xs m)) (op++[xs[m].f2])=emitC (op.length+1) (iq xs (m+1) (fK xs m)) (op++[xs[m].f2])++[endP xs[m].f2]:=by
     have e:=D9 (D:=op.length+1) (E:=op.length) (by omega) (iq xs (m+1) (fK xs m)) (op++[xs[m].f2]) [] trivial (by simp)
     obtain⟨e1,-⟩:=Bo (D:=op.length+1) _ _ a2 (by omega) (fun z hz=>by
      obtain⟨j,hj,b1,b2,rfl⟩:=pR _ _ _ (Nat.le_refl _) hle hz;exact hdeep j hj b1 b2)
     rw[List.append_nil]at e;rw[e,e1,List.take_of_length_le (by omega),emitC,List.drop_left];rfl
    have hend:oG false (endP xs[m].f2)=([60,47]++xs[m].f2.data.toList)++[62]:=by
     simp[oG,endP,jR,dY,mY]
    unfold OX;rw[OU,hv,if_neg (by decide),TG,hsplit,zU xs m h];cases hrs:(kX xs[m].f2.data.toList||kV xs[m].f2.data.toList)with
    |false=>
     have hr:kX xs[m].f2.data.toList=false:=by rw[Bool.or_eq_false_iff]at hrs;exact hrs.1
     obtain⟨q1,q2⟩:=J3 xs n (op.length+1) (fK xs m) hle _ (m+1) (op++[xs[m].f2]) (Nat.le_refl _) (by omega) hlen a2 (fun j b1 b2=>F7 xs m j (by omega) b2 h) hdeep (fun j b1 b2=>ih j (by omega));rw[hr];have hrt:sj ⟨1,xs[m].f2.data.toList,xs[m].f4.map lV,[],false⟩=false:=by simp[sj,hr]
     simp only[List.reverse_nil,List.map_nil,List.nil_append];rw[eY,ku,hrt,Bp,Bq,q1,q2,zT,eY,eY,hend,ku,ku];refine⟨by simp,by simp[sj,endP]⟩
    |true=>
     obtain⟨-,hin2⟩:=(hg m h).inner k hrs;simp only[List.reverse_nil,List.map_nil,List.nil_append]
     rcases hin2 with hs|⟨y,r',hr',y1,y2,y3,y4⟩
     ·have he:fK xs m=m+1:=by
       by_cases hl:m+1<fK xs m
       ·have b:=hin (m+1) (by omega) (by omega) hl
        rw[List.drop_eq_getElem_cons (by omega)]at hs;have c:xs[m+1].f0≤xs[m].f0:=hs;omega
       ·omega
      rw[he,pQ,qx (by omega),emitC,List.drop_eq_nil_of_le (by omega)];simp only[List.reverse_nil,List.map_nil,List.nil_append];rw[eY,eY,eY,zT,ku,ku,ku]
      have hend2:∀b,oG b (endP xs[m].f2)=([60,47]++xs[m].f2.data.toList)++[62]:=by
       intro b;simp[oG,endP,jR,dY,mY]
      rw[hend2];exact⟨by simp,by simp[sj,endP]⟩
     ·have hl1:m+1<xs.length:=by
       by_cases hl:m+1<xs.length
       ·exact hl
       ·rw[List.drop_eq_nil_of_le (by omega)]at hr'
        cases hr'
      rw[List.drop_eq_getElem_cons hl1]at hr';obtain⟨rfl,rfl⟩:=List.cons.inj hr'
      have he:fK xs m=m+2:=by
       have g1:m+1<fK xs m:=by
        by_cases hl:m+1<fK xs m
        ·exact hl
        ·have a:=at_end xs m (by omega)
         have e:fK xs m=m+1:=by omega
         rw[e,lI xs m h,lI xs _ hl1]at a;omega
       by_cases hl:m+2<fK xs m
       ·have b:=hin (m+2) (by omega) (by omega) hl
        rw[List.drop_eq_getElem_cons (by omega)]at y4;have c:xs[m+2].f0≤xs[m].f0:=y4;omega
       ·omega
      have hgt2:=lg xs (m+1);rw[he,pz (by omega) hl1,pQ,sK (by omega) hl1,qx (by omega),emitC];have hy:xs[m+1].f0.toNat=op.length+1:=by omega
      have ey:mP xs[m+1]=⟨0,[],[],xs[m+1].f3.data.toList,false⟩:=by unfold mP;rw[if_neg (by omega),if_pos y1]
      have eo2:opA (op++[xs[m].f2]) xs[m+1]=op++[xs[m].f2]:=by unfold opA;rw[if_neg (by omega)]
      rw[hy,List.take_of_length_le (by omega),List.drop_eq_nil_of_le (by omega),eo2,emitC,List.drop_eq_nil_of_le (by omega),ey];obtain⟨n',rfl⟩:∃n',n=n'+1:=⟨n - 1,by omega⟩
      have hend2:∀b,oG b (endP xs[m].f2)=([60,47]++xs[m].f2.data.toList)++[62]:=by
       intro b;simp[oG,endP,jR,dY,mY]
      have hnode:oM xs (n'+1) (kX xs[m].f2.data.toList) (m+1)=oG (kX xs[m].f2.data.toList) ⟨0,[],[],xs[m+1].f3.data.toList,false⟩:=by
       simp only[oM];rw[nJ xs (m+1) hl1,if_pos y1];simp[oG]
      simp only[List.reverse_nil,List.map_nil,List.nil_append,List.singleton_append,List.cons_append,List.flatMap_cons,List.flatMap_nil,List.append_nil];rw[eY,eY,eY,eY,zT,hend2,ku,ku,ku,ku,hnode];exact⟨by simp[sj],by simp[sj,endP]⟩
  ·have et:mP xs[m]=⟨0,[],[],xs[m].f3.data.toList,false⟩:=by unfold mP;rw[if_neg (by omega),if_pos k]
   have eo:opA op xs[m]=op:=by unfold opA;rw[if_neg (by omega)]
   rw[if_pos k,et,eo,hleaf eo,pQ,emitC,List.drop_length];simp[eY,ku,oG,sj]
  ·have et:mP xs[m]=⟨3,[],[],xs[m].f3.data.toList,false⟩:=by unfold mP;rw[if_neg (by omega),if_neg (by omega)]
   have eo:opA op xs[m]=op:=by unfold opA;rw[if_neg (by omega)]
   rw[if_neg (by omega),if_pos k,et,eo,hleaf eo,pQ,emitC,List.drop_length];simp[eY,ku,oG,sj]
end Go.Proofs.aj.W7
namespace Go.Proofs.YtkcmghlhpbepcaaGreatDoor.Ch
open Go.RowKit Go.Proofs Go.Shelf
def QT:Go.Shelf.Ren:=⟨fun|242=>196|278=>219|n=>n,fun|0=>0|3=>3|4=>4|5=>5|9=>9|21=>21|37=>43|46=>140|51=>172|72=>106|n=>n,fun|n=>n⟩
theorem runeLays:Lays.n242 Tryz.prog QT:={
 mixed:=by kernel_rfl
 f242:=Tryz.func196.trans (congrArg some (by kernel_rfl))
 f278:=Tryz.func219.trans (congrArg some (by kernel_rfl))
 t4:=Tryz.underlying4
 a4:=Tryz.isAgg4
 z4:=Tryz.sizeOf4
 v4:=Tryz.zeroValue4
 t5:=Tryz.underlying5
 a5:=Tryz.isAgg5
 z5:=Tryz.sizeOf5
 v5:=Tryz.zeroValue5
 t21:=Tryz.underlying21
 a21:=Tryz.isAgg21
 z21:=Tryz.sizeOf21
 v21:=Tryz.zeroValue21
 t37:=Tryz.underlying43
 a37:=Tryz.isAgg43
 z37:=Tryz.sizeOf43
 v37:=Tryz.zeroValue43
 t46:=Tryz.underlying140
 a46:=Tryz.isAgg140
 z46:=Tryz.sizeOf140
 v46:=Tryz.zeroValue140
 t51:=Tryz.underlying172
 a51:=Tryz.isAgg172
 z51:=Tryz.sizeOf172
 v51:=Tryz.zeroValue172 }
theorem Uc:Builder.Extra Tryz.prog QT:={
 sizeBuilder:=by kernel_rfl
 liesBuilder:=by kernel_rfl
 t5:=Tryz.underlying5
 a5:=Tryz.isAgg5
 z5:=Tryz.sizeOf5
 v5:=Tryz.zeroValue5
 infoByte:=by kernel_rfl
 cellsByte:=by kernel_rfl
 sizeByte:=by kernel_rfl
 neB5:=by decide }
theorem El(B b:Nat)(bs:List Value)(r:Int)(hr0: -2147483648≤r)(hr1:r≤2147483647)(w:World)(h:Lib.IsBuilderF 106 5 B b bs w)(hlen:bs.length+4≤140737488355328)(hBw:B≤w.heap.size):
 Calls Tryz.prog 161 #[.pointer (some ⟨b,0,none⟩),.int .i32 r] w fun e w'=>e=.returned (.tuple #[.int .i64 (Lib.runeCells r).length,.nilIface])∧(Lib.IsBuilderF 106 5 B b (bs++Lib.runeCells r) w'∧Below B w w'∧Lib.OthersKept 5 (some b) w w'):=by
 have hk4:=Lib.runeCells_le r;go_enter Tryz.func161,Tryz.ntmps161
 go_wp2_with(go_at_call 174;refine(yR B b bs _ h).mono ?_)
 rintro e w1 ⟨rfl,h1,hb1,hk1⟩;obtain⟨hB,v,hbk,hown,hne⟩:=h1
 obtain⟨ao,cap,rfl⟩:∃ao cap,v=.slice ao bs.length cap:=by
  rcases hown.2 with⟨hv,h0⟩|⟨g,cap,cur,fz,hv,_⟩
  ·exact⟨none,0,by rw[hv,h0]⟩
  ·exact⟨_,_,hv⟩
 have c0:w1.cell? ⟨b,0,none⟩=some (.pointer (some ⟨b,0,none⟩)):=by rw[Lib.cell_of_heap hbk];rfl
 have c1:w1.cell? ⟨b,1,none⟩=some (.slice ao bs.length cap):=by rw[Lib.cell_of_heap hbk];rfl
 go_wp2_with(go_at_call 196;refine(Any.utf8_AppendRune_own runeLays Uc B _ bs.length bs r hr0 hr1 _ hown hlen (by have:=hb1.size;omega)).mono ?_)
 rintro e w2 ⟨v',rfl,hown',o,hgrow⟩
 have hlt:b<w1.heap.size:=by
  rcases Nat.lt_or_ge b w1.heap.size with h'|h'
  ·exact h'
  ·simp[Array.getElem?_eq_none h']at hbk
 have hb2:w2.heap[b]?=some (.cells #[.pointer (some ⟨b,0,none⟩),.slice ao bs.length cap] 106 (0,0)):=by
  rw[hgrow.block b (by simp;omega) (fun e=>hne e.symm),Lib.alloc_old w1 _ b hlt];exact hbk
 have d0:w2.cell? ⟨b,0,none⟩=some (.pointer (some ⟨b,0,none⟩)):=by rw[Lib.cell_of_heap hb2];rfl
 have d1:w2.cell? ⟨b,1,none⟩=some (.slice ao bs.length cap):=by rw[Lib.cell_of_heap hb2];rfl
 have f1:w2.frozen? ⟨b,1,none⟩=false:=Lib.frozen_of_heap hb2 1
 obtain⟨g,cap',rfl⟩:∃g cap',v'=.slice (some ⟨g,0,none⟩) (bs.length+(Lib.runeCells r).length) cap':=by
  rcases hown'.2 with⟨_,h0⟩|⟨g,cap',cur,fz,hv,_⟩
  ·omega
  ·exact⟨g,cap',hv⟩
 go_wp2
 go_ret2
 refine⟨?_,Or.inr ?_,?_,((hk1.alloc _).grown hgrow (Lib.ownsRowF_kind (hown.alloc _))).setCell ⟨b,1,none⟩ rfl _⟩
 ·have e:((bs.length:Int)+((Lib.runeCells r).length:Int) - (bs.length:Int))=((Lib.runeCells r).length:Int):=by omega
  simp[e]
 ·exact Lib.BuilderAtF.put (T:=106) (e:=5) hB hb2 (bs':=bs++Lib.runeCells r) (by rw[List.length_append];exact hown') (by decide)
 ·exact((hb1.alloc (by have:=hb1.size;omega) _).grown hgrow (by have:=hb1.size;simp;omega) (fun k hk=>(hown.lt k hk).1)).setCell (p:=⟨b,1,none⟩) hB _
def ruF(r:Nat):List UInt8:=Lib.encodeRune (if r=0 then 65533 else(r:Int))
def nP(s:Bt):Nat→Nat→List UInt8
 |0,_=>[]
 |fuel+1,pos=>if pos<s.size then ruF (Utf8.decode s pos).1++nP s fuel (pos+(Utf8.decode s pos).2)else []
def deF(s:Bt):List UInt8:=nP s s.size 0
theorem width_pos(s:Bt)(pos:Nat)(h:pos<s.size):1≤(Utf8.decode s pos).2:=by
 by_cases ha:(s[pos]'h).toNat<128
 ·rw[decode_ascii s pos h ha]
  exact Nat.le_refl _
 ·exact(decode_high s pos h (by omega)).2
theorem Pw(s:Bt)(fuel pos:Nat)(h:¬pos<s.size):nP s fuel pos=[]:=by
 cases fuel with
 |zero=>rfl
 |succ f=>simp[nP,h]
theorem MO(s:Bt)(w:World)(hs:s.size≤35184372088832):
 Calls Tryz.prog 118 #[.string s] w fun e w'=>e=.returned (.string ⟨(deF s).toArray⟩)∧Below w.heap.size w w':=by
 go_enter Tryz.func118,Tryz.ntmps118;go_wp2
 go_loopw [] (fun wr=>∃(pos fuel:Nat) (acc:List UInt8),Lib.IsBuilderF 106 5 w.heap.size w.heap.size (Lib.byteCells acc) wr∧wr.heap[w.heap.size+1]?=some (.stringIter s pos)∧Below w.heap.size w wr∧Hid (acc++nP s fuel pos=deF s)∧s.size≤pos+fuel∧acc.length≤4 * pos) (fun wr=>s.size - wr.iterPos (w.heap.size+1))
 case atStart=>
  refine⟨0,s.size,[],(Lib.IsBuilderF.of (Lib.fresh_isBuilder 106 5 w)).alloc _,?_,((Below.refl _ w).alloc (Nat.le_refl _) _).alloc (by simp) _,rfl,by omega,by simp⟩;have:=World.iter_heap (w.alloc (.cells #[.pointer none,.slice none 0 0] 106)) s 0;simpa using this
 case round=>
  obtain⟨pos,fuel,acc,hI,hit,hbw,hacc,hfu,hal⟩:=hrel;have hsz:w.heap.size+1<wr.heap.size:=(Array.getElem?_eq_some_iff.1 hit).1
  by_cases hp:pos<s.size
  ·have hnx:∀ty,(Instr.next (.pointer (some ⟨w.heap.size+1,0,none⟩)) true ty).run Tryz.prog wr=_:=fun ty=>Lib.run_next_any_at wr (w.heap.size+1) s pos ty hit hp
   have hwd:=width_pos s pos hp;have hd1:=decode_le s pos;have hI2:=hI.iterAt hit (pos+(Utf8.decode s pos).2);have hit2:=Lib.iterAt_heap wr (w.heap.size+1) s pos (pos+(Utf8.decode s pos).2) hit;have hbw2:=Lib.below_iterAt hbw (k:=w.heap.size+1) (by omega) s (pos+(Utf8.decode s pos).2);have hsz2:w.heap.size≤(wr.iterAt (w.heap.size+1) s (pos+(Utf8.decode s pos).2)).heap.size:=by rw[Lib.iterAt_size];omega
   obtain⟨f,rfl⟩:∃f,fuel=f+1:=⟨fuel - 1,by omega⟩
   have vO:=hacc.out;simp only[nP]at vO;rw[if_pos hp]at vO
   by_cases h0:(Utf8.decode s pos).1=0
   ·have g1:(((Utf8.decode s pos).1:Int)==0)=true:=by rw[h0];rfl
    go_wp2_with(go_at_call 161;refine(El w.heap.size w.heap.size _ 65533 (by omega) (by omega) _ hI2 (by rw[Lib.byteCells_length];omega) hsz2).mono ?_)
    rintro e W1 ⟨rfl,h1,b1,k1⟩;go_wp2
    go_roundw
    case rel=>
     have hl4:=Lib.runeCells_le (65533:Int);rw[Lib.runeCells_length]at hl4;have he:ruF (Utf8.decode s pos).1=Lib.encodeRune 65533:=by rw[h0];rfl
     refine⟨pos+(Utf8.decode s pos).2,f,acc++Lib.encodeRune 65533,?_,k1.iter hit2 (by omega),hbw2.trans b1,?_,by omega,by simp;omega⟩
     ·rw[Lib.byteCells_append,Lib.byteCells_encodeRune];exact h1
     ·rw[he]at vO
      exact Lib.hid (by rw[←vO,List.append_assoc])
    case measure=>
     simp only[World.iterPos,k1.iter hit2 (by omega),hit];omega
   ·have g1:(((Utf8.decode s pos).1:Int)==0)=false:=by rw[beq_eq_false_iff_ne];omega
    have g2:((Utf8.decode s pos).1:Int)≠0:=by omega
    go_wp2_with(go_at_call 161;refine(El w.heap.size w.heap.size _ _ (by omega) (by omega) _ hI2 (by rw[Lib.byteCells_length];omega) hsz2).mono ?_)
    rintro e W1 ⟨rfl,h1,b1,k1⟩;go_wp2
    go_roundw
    case rel=>
     have hl4:=Lib.runeCells_le ((Utf8.decode s pos).1:Int);rw[Lib.runeCells_length]at hl4;have he:ruF (Utf8.decode s pos).1=Lib.encodeRune ((Utf8.decode s pos).1:Int):=by unfold ruF;rw[if_neg h0]
     refine⟨pos+(Utf8.decode s pos).2,f,acc++Lib.encodeRune (Utf8.decode s pos).1,?_,k1.iter hit2 (by omega),hbw2.trans b1,?_,by omega,by simp;omega⟩
     ·rw[Lib.byteCells_append,Lib.byteCells_encodeRune];exact h1
     ·rw[he]at vO
      exact Lib.hid (by rw[←vO,List.append_assoc])
    case measure=>
     simp only[World.iterPos,k1.iter hit2 (by omega),hit];omega
  ·have hnx:∀ty,(Instr.next (.pointer (some ⟨w.heap.size+1,0,none⟩)) true ty).run Tryz.prog wr=_:=fun ty=>Lib.run_next_end_at wr (w.heap.size+1) s pos ty hit hp
   go_wp2_with(go_at_call 138;refine(Tryz.Builder_String_any_k w.heap.size w.heap.size acc _ hI (by omega)).mono ?_)
   rintro e W1 ⟨rfl,_,b1,_⟩;go_wp2;go_ret;have vO:=hacc.out;rw[Pw s fuel pos hp,List.append_nil]at vO;subst vO;exact⟨rfl,hbw.trans b1⟩
theorem BF(old new:List UInt8)(h:new.length≤old.length):∀(k:Nat) (s:List UInt8),(Lib.replaceK old new k s).length≤s.length
 |0,s=>Nat.le_refl _
 |k+1,s=>by
  by_cases hm:(Lib.index s old== -1)=true
  ·rw[Lib.replaceK,if_pos hm]
   exact Nat.le_refl _
  ·have hge:=Lib.index_ge s old
   have h0:0≤Lib.index s old:=by
    have:Lib.index s old≠ -1:=fun e=>hm (by rw[e];rfl)
    omega
   have hr:=Lib.index_room s old h0;have ih:=BF old new h k (s.drop ((Lib.index s old).toNat+old.length));rw[Lib.replaceK,if_neg hm,List.length_append,List.length_append,List.length_take];rw[List.length_drop]at ih;omega
theorem sU(s old new:List UInt8)(h:new.length≤old.length):(Lib.replaceAll s old new).length≤s.length:=by
 unfold Lib.replaceAll Lib.replace
 split
 ·exact Nat.le_refl _
 ·exact BF old new h _ s
def Em(l:List UInt8):List UInt8:=Lib.replaceAll (Lib.replaceAll l [13,10] [10]) [13] [10]
theorem MP(s old new:Bt)(h1:1≤old.size)(h2:new.size≤old.size)(hs:s.size≤4000000000)(w:World)(hS:Std w):
 Calls Tryz.prog 160 #[.string s,.string old,.string new] w fun e w'=>e=.returned (.string ⟨(Lib.replaceAll s.data.toList old.data.toList new.data.toList).toArray⟩)∧Below w.heap.size w w':=by
 obtain⟨m,hm⟩:=hS.maxLen;have hc:=Lib.countB_mul_le old h1 s.size s (Nat.le_refl _);have hm2:=Nat.mul_le_mul_left (Lib.countB s old) h2;exact Tryz.strings_ReplaceAll s old new m w (by omega) hm h1 (by omega)
theorem lines_c(s:Bt)(hs:s.size≤4000000000)(w:World)(hS:Std w):
 Calls Tryz.prog 117 #[.string s] w fun e w'=>e=.returned (.string ⟨(Em s.data.toList).toArray⟩)∧Below w.heap.size w w':=by
 have c1:=Lib.hid (MP s ⟨#[13,10]⟩ ⟨#[10]⟩ (by decide) (by decide) hs w hS);have hl:=sU s.data.toList [13,10] [10] (by decide);have hz:s.size=s.data.toList.length:=(Array.length_toList).symm;have c2:=Lib.hid (fun(W:World) (hW:Below w.heap.size w W)=>MP ⟨(Lib.replaceAll s.data.toList [13,10] [10]).toArray⟩ ⟨#[13]⟩ ⟨#[10]⟩ (by decide) (by decide) (by show(List.toArray _).size≤_;rw[List.size_toArray];omega) W (hS.below hW));go_enter Tryz.func117,Tryz.ntmps117
 go_wp2_with(first
  |(go_at_call 160;((with_reducible refine c1.out.mono ?_);rintro e w1 ⟨rfl,hb1⟩))
  |(go_at_call 160;((with_reducible refine(c2.out _ hb1).mono ?_);rintro e w2 ⟨rfl,hb2⟩)))
 go_ret;exact⟨rfl,hb1.trans (hb2.mono hb1.size)⟩
def j5(l:List UInt8):List UInt8:=Em (deF ⟨l.toArray⟩)
theorem Az(s:Bt):∀(fuel pos:Nat),(nP s fuel pos).length≤4 * fuel
 |0,pos=>by simp[nP]
 |fuel+1,pos=>by
  simp only[nP]
  by_cases h:pos<s.size
  ·rw[if_pos h]
   have ih:=Az s fuel (pos+(Utf8.decode s pos).2)
   have h4:(ruF (Utf8.decode s pos).1).length≤4:=by
    unfold ruF Lib.encodeRune;rw[List.length_map];exact(Lib.encodeRuneZ_length _).2
   simp only[List.length_append];omega
  ·rw[if_neg h]
   exact Nat.zero_le _
theorem ready_c(l:List UInt8)(hl:l.length≤100000000)(w:World)(hS:Std w):
 Calls Tryz.prog 73 #[.string ⟨l.toArray⟩] w fun e w'=>e=.returned (.string ⟨(j5 l).toArray⟩)∧Below w.heap.size w w':=by
 have hz:(⟨l.toArray⟩:Bt).size=l.length:=List.size_toArray;have hd:=Az ⟨l.toArray⟩ (⟨l.toArray⟩:Bt).size 0;have c1:=Lib.hid (MO ⟨l.toArray⟩ w (by omega));have c2:=Lib.hid (fun(W:World) (hW:Below w.heap.size w W)=>lines_c ⟨(deF ⟨l.toArray⟩).toArray⟩ (by show(List.toArray _).size≤_;rw[List.size_toArray];unfold deF;omega) W (hS.below hW));go_enter Tryz.func73,Tryz.ntmps73
 go_wp2_with(first
  |(go_at_call 118;((with_reducible refine c1.out.mono ?_);rintro e w1 ⟨rfl,hb1⟩))
  |(go_at_call 117;((with_reducible refine(c2.out _ hb1).mono ?_);rintro e w2 ⟨rfl,hb2⟩)))
 go_ret;exact⟨rfl,hb1.trans (hb2.mono hb1.size)⟩
end Go.Proofs.YtkcmghlhpbepcaaGreatDoor.Ch
namespace Go.Proofs.YtkcmghlhpbepcaaGreatDoor.Ch
open Go Go.RowKit
theorem get_cons(c:UInt8)(l:List UInt8)(k:Nat):(⟨(c::l).toArray⟩:Bt).get! (k+1)=(⟨l.toArray⟩:Bt).get! k:=by
 simp[ByteArray.get!]
theorem OH(c:UInt8)(l:List UInt8)(p:Nat):Utf8.decode ⟨(c::l).toArray⟩ (p+1)=Utf8.decode ⟨l.toArray⟩ p:=by
 have h:∀k,(⟨(c::l).toArray⟩:Bt).get! (p+1+k)=(⟨l.toArray⟩:Bt).get! (p+k):=fun k=>by
  rw[show p+1+k=(p+k)+1 from by omega];exact get_cons c l _
 have hz:∀k,decide (p+1+k<(⟨(c::l).toArray⟩:Bt).size)=decide (p+k<(⟨l.toArray⟩:Bt).size):=fun k=>by
  show decide (p+1+k<(List.toArray (c::l)).size)=decide (p+k<(List.toArray l).size);simp only[List.size_toArray,List.length_cons];rw[decide_eq_decide];omega
 simp only[Utf8.decode,h,hz]
theorem OO(c:UInt8)(l old new:List UInt8)(h:old.isPrefixOf (c::l)=false)(h0:old≠[]):Lib.replaceAll (c::l) old new=c::Lib.replaceAll l old new:=by
 unfold Lib.replaceAll Lib.replace
 by_cases e:(old==new)=true
 ·rw[if_pos e,if_pos e]
 rw[if_neg e,if_neg e];have hix:Lib.index (c::l) old=if Lib.index l old== -1 then -1 else Lib.index l old+1:=by rw[Lib.index,h];simp
 by_cases hm:Lib.index l old= -1
 ·have h2:Lib.index (c::l) old= -1:=by rw[hix,if_pos (beq_iff_eq.2 hm)]
  simp[Lib.replaceNum,Lib.count_miss hm,Lib.count_miss h2,Lib.replaceK]
 ·have hge:=Lib.index_ge l old
  obtain⟨j,hj⟩:∃j:Nat,Lib.index l old=j:=⟨(Lib.index l old).toNat,by omega⟩
  have hj':Lib.index (c::l) old=((j+1:Nat):Int):=by rw[hix,if_neg (fun e=>hm (beq_iff_eq.1 e)),hj];omega
  have e1:Lib.replaceNum l old (-1)=Lib.count (l.drop (j+old.length)) old+1:=by
   unfold Lib.replaceNum;rw[if_pos (Or.inl (by decide)),Lib.count_hit h0 hj,Nat.add_comm]
  have hd:(c::l).drop (j+1+old.length)=l.drop (j+old.length):=by
   rw[show j+1+old.length=(j+old.length)+1 from by omega,List.drop_succ_cons]
  have e2:Lib.replaceNum (c::l) old (-1)=Lib.count (l.drop (j+old.length)) old+1:=by
   unfold Lib.replaceNum;rw[if_pos (Or.inl (by decide)),Lib.count_hit h0 hj',hd,Nat.add_comm]
  rw[e1,e2,Lib.replaceK_hit _ _ _ _ _ hj,Lib.replaceK_hit _ _ _ _ _ hj',hd];simp
theorem Qu(c:UInt8)(l:List UInt8)(h:c≠13):Em (c::l)=c::Em l:=by
 unfold Em;rw[OO c l [13,10] [10] (by simp[List.isPrefixOf,Ne.symm h]) (by simp),OO c _ [13] [10] (by simp[List.isPrefixOf,Ne.symm h]) (by simp)]
def easyB(c:UInt8):Bool:=decide (c≠0)&&decide (c≠13)&&decide (c.toNat<128)
theorem tQ(l:List UInt8):(j5 l).length≤4 * l.length:=by
 have hd:=Az ⟨l.toArray⟩ (⟨l.toArray⟩:Bt).size 0
 have h2:(j5 l).length≤(deF ⟨l.toArray⟩).length:=by
  unfold j5 Em;exact Nat.le_trans (sU _ _ _ (by decide)) (sU _ _ _ (by decide))
 have hz:(⟨l.toArray⟩:Bt).size=l.length:=by show(List.toArray l).size=_;simp
 unfold deF at h2;omega
end Go.Proofs.YtkcmghlhpbepcaaGreatDoor.Ch
namespace Go.Proofs.aj.W7
open Go.RowKit Go.Proofs YtkcmghlhpbepcaaGreatDoor ah.aD
theorem Ju{α:Type}{R:α→List Value→Prop}{size:Nat}(g:α→List Value):∀(ps:List α),(∀p∈ps,R p (g p)∧(g p).length=size)→bM R size ps (ps.flatMap g)
 | [],_=>by simpa using bM.none R size
 |p::ps,h=>by
  have ih:=Ju g ps (fun q hq=>h q (by simp[hq]));obtain⟨h1,h2⟩:=h p (by simp);refine⟨by rw[List.flatMap_cons,List.length_append,ih.1,h2,List.length_cons,Nat.succ_mul,Nat.add_comm],fun j q hq=>?_⟩;cases j with
  |zero=>
   simp at hq;subst hq;rw[Nat.zero_mul,List.drop_zero,List.flatMap_cons,List.take_append_of_le_length (by omega),List.take_of_length_le (by omega)];exact h1
  |succ j=>
   have:=ih.2 j q (by simpa using hq);rw[List.flatMap_cons,Nat.succ_mul,Nat.add_comm,←List.drop_drop,List.drop_left' h2];exact this
theorem Um(l:List S36):(l.flatMap fun a=>[Value.string a.f0,.string a.f1])=rA (l.map lV):=by
 induction l with
 |nil=>rfl
 |cons a l ih=>rw[List.flatMap_cons,ih];rfl
theorem Un{w:World}{base:Nat}{ok:Nat→Prop}{v:Value}{l:List (Txt×Txt)}(h:jy w base v l)(hok:∀k,v.ownBlock=some k→ok k):k36.R 36 w base ok v (l.map pairT):=by
 refine⟨hok,rA l,?_,?_⟩
 ·rw[List.length_map];exact h
 ·have:=Um (l.map pairT)
  rw[Gx]at this;rw[←this];exact Ju _ _ (fun p _=>⟨QV _ _ _ _,rfl⟩)
theorem Uj{w:World}{base:Nat}{v:Value}{l:List Tok}(h:nV w base v l):k65.R 65 w base (fun _=>True) v (l.map kZ):=by
 obtain⟨ps,h1,h2,h3⟩:=h;refine⟨fun _ _=>trivial,ps.flatMap (fun p=>yX p.1 p.2),by rw[List.length_map];exact h2,?_⟩;have hl:l.map kZ=ps.map (fun p=>kZ p.1):=by rw[←h1,List.map_map];rfl
 rw[hl]
 have key:∀(ps:List (Tok×Value)),(∀p∈ps,jy w base p.2 p.1.attrs)→bM (k65.M w base (fun k=>True∧some k≠v.ownBlock)) 5 (ps.map fun p=>kZ p.1) (ps.flatMap fun p=>yX p.1 p.2):=by
  intro ps
  induction ps with
  |nil=>intro _;exact bM.none _ _
  |cons p ps ih=>
   intro hp;have ih:=ih (fun q hq=>hp q (by simp[hq]));have hA:=hp p (by simp)
   have hR:=Un (ok:=fun k=>True∧some k≠v.ownBlock) hA (fun k hk=>⟨trivial,fun e=>by
    obtain⟨c1,e1⟩:=zL hA hk;obtain⟨c2,e2⟩:=zL h2 e.symm;rw[e1]at e2;injection e2 with e2
    injection e2 with _ e2
    exact absurd e2 (by decide)⟩)
   have hM:=k65_mkM w base (fun k=>True∧some k≠v.ownBlock) (kZ p.1) hR;refine⟨by rw[List.map_cons,List.flatMap_cons,List.length_append,ih.1,List.length_cons,Nat.succ_mul,Nat.add_comm];rfl,fun j q hq=>?_⟩;cases j with
   |zero=>
    simp at hq;subst hq;exact hM
   |succ j=>
    have:=ih.2 j q (by simpa using hq);rw[List.flatMap_cons,Nat.succ_mul,Nat.add_comm,←List.drop_drop];exact this
 exact key ps h3
end Go.Proofs.aj.W7
namespace Go.Proofs.YtkcmghlhpbepcaaGreatDoor
open Go.RowKit Go.Proofs
theorem Uo{L:List Txt}{l:Txt}{k:Nat}(hk:k<L.length)(h:L.getD k []=l):inB L l=true:=by
 unfold inB;rw[List.contains_iff_mem,←h];simp[List.getD,List.getElem?_eq_getElem hk]
theorem among_no{L:List Txt}{l:Txt}(h:∀k,k<L.length→L.getD k []≠l):inB L l=false:=by
 unfold inB;cases hc:L.contains l with
 |false=>rfl
 |true=>
  rw[List.contains_iff_mem]at hc;obtain⟨k,hk,e⟩:=List.getElem_of_mem hc;exact absurd (by simp[List.getD,List.getElem?_eq_getElem hk,e]) (h k hk)
theorem Q0(b n:Nat)(L:List Txt)(l:Txt)(hn:n=L.length)(hN:n≤1000000)(w:World)(ht:uf b n L w):
 Calls Tryz.prog 81 #[.string ⟨l.toArray⟩,.slice (some ⟨b,0,none⟩) n n] w fun e w'=>e=.returned (.bool (inB L l))∧w=w':=by
 go_enter Tryz.func81,Tryz.ntmps81;go_wp2
 go_loop [6,9] (fun _ v=>∃(k:Nat),v=.int .i64 k∧k≤n∧Hid (∀j,j<k→L.getD j []≠l)) (fun _ v=>n - (intOf v).toNat)
 case atStart=>exact⟨0,rfl,by omega,fun j h=>by omega⟩
 case round=>
  obtain⟨k,rfl,hk,hno⟩:=hrel
  by_cases hlt:k<n
  ·have c1:=ht k hlt
   by_cases he:L.getD k []=l
   ·have hy:=Lib.hid (Uo (by omega) he)
    rw[he]at c1;have hbe:(l==l)=true:=by simp
    clear he;go_wp2;go_ret;rw[hy.out];exact⟨rfl,rfl⟩
   ·have oZ:=Lib.hid (show∀j,j<k+1→L.getD j []≠l by
     intro j hj
     by_cases e:j=k
     ·subst e;exact he
     ·exact hno.out j (by omega))
    have hbe:(L.getD k []==l)=false:=by simpa using he
    clear he;generalize L.getD k []=nm at *;go_wp2;refine⟨⟨k+1,rfl,by omega,oZ⟩,by simp[intOf];omega⟩
  ·have hm:=Lib.hid (among_no (L:=L) (l:=l) fun k hk=>hno.out k (by omega))
   go_wp2;go_ret;rw[hm.out];exact⟨rfl,rfl⟩
theorem raw_c(l:Txt)(w:World):
 Calls Tryz.prog 32 #[.string ⟨l.toArray⟩] w fun e w'=>e=.returned (.bool (kX l))∧Below w.heap.size w w':=by
 go_enter Tryz.func32,Tryz.ntmps32
 go_wp2_with(go_at_call 81;((refine(Q0 _ 6 Ep _ (by rfl) (by decide) _ (uf.of (bP _ _ _) (by rfl) (by decide))).mono ?_);rintro e w1 ⟨rfl,rfl⟩))
 go_ret;exact⟨rfl,(Below.refl _ w).alloc (Nat.le_refl _) _⟩
theorem GA(l:Txt)(w:World):
 Calls Tryz.prog 33 #[.string ⟨l.toArray⟩] w fun e w'=>e=.returned (.bool (kV l))∧Below w.heap.size w w':=by
 go_enter Tryz.func33,Tryz.ntmps33
 go_wp2_with(go_at_call 81;((refine(Q0 _ 2 GD _ (by rfl) (by decide) _ (uf.of (bP _ _ _) (by rfl) (by decide))).mono ?_);rintro e w1 ⟨rfl,rfl⟩))
 go_ret;exact⟨rfl,(Below.refl _ w).alloc (Nat.le_refl _) _⟩
end Go.Proofs.YtkcmghlhpbepcaaGreatDoor
