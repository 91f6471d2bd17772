/- Lemmas and walks, part 22. -/
import Derived.Test.YtkcmghlhpbepcaaGreatDoorNB21
import Derived.Shelf.Strings.BuilderRune
set_option linter.unusedVariables false
set_option linter.unusedSimpArgs false
set_option maxHeartbeats 8000000
set_option maxRecDepth 100000
namespace Go.Proofs.aj.W7
open Go.RowKit Go.Proofs Go.Proofs.aj Go.Proofs.YtkcmghlhpbepcaaGreatDoor Go.Proofs.ah.aD
def Lj(x:Rw)(t:Txt):Txt:=if nM voids x.f2 then []else t++(([60,47]++x.f2.data.toList)++[62])
def ny(xs:List Rw):Nat→Bool→Nat→Txt
 |0,_,_=>[]
 |d+1,raw,k=>
  if(au xs k).f1=1 then(if raw then(au xs k).f3.data.toList else wrL false (au xs k).f3.data.toList)
  else if(au xs k).f1=2 then([60,33,45,45]++(au xs k).f3.data.toList)++[45,45,62]
  else tagT (au xs k).f2 (au xs k).f4++Lj (au xs k) ((jf xs k).flatMap (ny xs d (nM raws (au xs k).f2)))
def own(x:Rw):Nat:=6 * x.f3.data.toList.length+(tagT x.f2 x.f4).length+x.f2.data.toList.length+20
def xQ(xs:List Rw)(a:Nat):Nat:=((xs.drop a).map own).sum
theorem BN(xs:List Rw)(a:Nat)(h:a<xs.length):xQ xs a=own xs[a] +xQ xs (a+1):=by unfold xQ;rw[List.drop_eq_getElem_cons h,List.map_cons,List.sum_cons]
theorem Du(xs:List Rw):∀(d a b:Nat),b - a≤d→a≤b→xQ xs b≤xQ xs a:=by
 intro d
 induction d with
 |zero=>intro a b h1 h2;rw[show a=b from by omega];exact Nat.le_refl _
 |succ d ih=>
  intro a b h1 h2
  by_cases h:a<b
  ·by_cases h3:a<xs.length
   ·have:=ih (a+1) b (by omega) (by omega)
    rw[BN xs a h3];omega
   ·have e1:xQ xs b=0:=by unfold xQ;rw[List.drop_of_length_le (by omega)];rfl
    omega
  ·rw[show a=b from by omega];exact Nat.le_refl _
theorem Dr(xs:List Rw)(j m:Nat)(h1:j<m)(h2:m<fV xs j)(h3:j<xs.length):fV xs m≤fV xs j:=by
 have hle:=mZ xs j h3
 by_cases h:fV xs j<fV xs m
 ·have hm:=mZ xs m (by omega)
  have a:=AQ xs m (fV xs j) h2 h (by omega);have b:=at_end xs j (by omega);have c:=AQ xs j m h1 h2 (by omega);omega
 ·omega
theorem BO(xs:List Rw)(f:Nat→Txt)(t:Nat)(ht:t≤xs.length):∀(d j:Nat),t - j≤d→j≤t→(∀m,j≤m→m<t→fV xs m≤t)→(∀m,j≤m→m<t→(f m).length+xQ xs (fV xs m)≤xQ xs m)→
 ((j6 xs t j).flatMap f).length+xQ xs t≤xQ xs j:=by
 intro d
 induction d with
 |zero=>
  intro j hd hj _ _;rw[qj (by omega),show j=t from by omega];simp
 |succ d ih=>
  intro j hd hj hc hf
  by_cases h:j<t
  ·have hgt:=kN xs j
   have h1:=hf j (Nat.le_refl _) h;have h2:=hc j (Nat.le_refl _) h;have h3:=ih (fV xs j) (by omega) h2 (fun m a b=>hc m (by omega) b) (fun m a b=>hf m (by omega) b);rw[pF h (by omega),List.flatMap_cons,List.length_append];omega
  ·exact ih j (by omega) hj hc hf
theorem yH(xs:List Rw)(k:Nat)(hk:k<xs.length):jf xs (k:Int)=j6 xs (fV xs k) (k+1):=by
 rw[qU (.inr ⟨by omega,by omega⟩),show toI xs (k:Int)=fV xs k from by unfold toI;rw[if_neg (by omega)];rfl,show zV (k:Int)=k+1 from by unfold zV;rw[if_neg (by omega)];rfl]
theorem Gj(xs:List Rw):∀(d:Nat) (raw:Bool) (k:Nat),k<xs.length→(ny xs d raw k).length+xQ xs (fV xs k)≤xQ xs k:=by
 intro d
 induction d with
 |zero=>intro raw k hk;have:=Du xs _ k (fV xs k) (Nat.le_refl _) (by have:=kN xs k;omega);simpa [ny]using this
 |succ d ih=>
  intro raw k hk;have hs:=BN xs k hk;have hgt:=kN xs k;have hle:=mZ xs k hk;have hm:=Du xs _ (k+1) (fV xs k) (Nat.le_refl _) (by omega);have hkid:=BO xs (ny xs d (nM raws (au xs k).f2)) (fV xs k) hle (fV xs k) (k+1) (by omega) (by omega) (fun m a b=>Dr xs k m (by omega) b hk) (fun m a b=>ih _ m (by omega));rw[qH xs k hk]at hkid;have hw:=Gv false xs[k].f3.data.toList;unfold own at hs;simp only[ny];rw[qH xs k hk,yH xs k hk]
  split
  ·split<;>omega
  ·split
   ·simp only[List.length_append,List.length_cons,List.length_nil];omega
   ·rw[List.length_append]
    unfold Lj
    split
    ·simp only[List.length_nil];omega
    ·simp only[List.length_append,List.length_cons,List.length_nil];omega
theorem QI(xs:List Rw)(d:Nat)(raw:Bool)(i:Int)(hi:i= -1∨0≤i∧i<xs.length):((jf xs i).flatMap (ny xs d raw)).length≤xQ xs 0:=by
 rcases hi with rfl|hi
 ·have h:=BO xs (ny xs d raw) xs.length (Nat.le_refl _) xs.length 0 (by omega) (by omega) (fun m _ b=>mZ xs m b) (fun m _ b=>Gj xs d raw m b)
  rw[qU (.inl rfl)];exact Nat.le_trans (Nat.le_add_right _ _) h
 ·obtain⟨k,rfl⟩:∃k:Nat,i=k:=⟨i.toNat,by omega⟩
  have hk:k<xs.length:=by omega
  have hgt:=kN xs k;have h:=BO xs (ny xs d raw) (fV xs k) (mZ xs k hk) (fV xs k) (k+1) (by omega) (by omega) (fun m a b=>Dr xs k m (by omega) b hk) (fun m a b=>Gj xs d raw m (by have:=mZ xs k hk;omega));have h2:=Du xs _ 0 (k+1) (Nat.le_refl _) (by omega);rw[yH xs k hk];omega
structure Gl (xs:List Rw):Prop where
 len:xs.length≤200
 total:xQ xs 0≤1000000000
 atts:∀x∈xs,x.f4.length≤6
theorem Gl.one{xs:List Rw}(h:Gl xs)(k:Nat)(hk:k<xs.length):own xs[k]≤1000000000:=by
 have h1:=Du xs _ 0 k (Nat.le_refl _) (by omega);have h2:=BN xs k hk;have:=h.total;omega
theorem PG{α:Type}(f:α→Txt):∀(l:List α) (a:α),a∈l→(f a).length≤(l.flatMap f).length
 | [],_,h=>by cases h
 |b::l,a,h=>by
  rw[List.flatMap_cons,List.length_append]
  rcases List.mem_cons.1 h with rfl|h
  ·omega
  ·have:=PG f l a h;omega
theorem own_val{x:Rw}(h:own x≤1000000000):(∀a∈x.f4,a.f1.data.toList.length≤1000000000)∧(tagT x.f2 x.f4).length≤1000000000∧x.f3.data.toList.length≤1000000000∧x.f2.data.toList.length≤1000000000:=by
 unfold own at h;refine⟨fun a ha=>?_,by omega,by omega,by omega⟩;have h1:=PG atT x.f4 a ha;have h2:=wr_ge true a.f1.data.toList;unfold tagT at h;simp only[List.length_append]at h;have h3:(wrL true a.f1.data.toList).length≤(atT a).length:=by unfold atT;simp only[List.length_append];omega
 omega
theorem BP(f:Nat→Option Txt)(g:Nat→Txt):∀(ks:List Nat),(∀j∈ks,f j=some (g j))→catM f ks=some (ks.flatMap g)
 | [],_=>rfl
 |j::ks,h=>by
  simp only[catM];rw[h j (by simp),Option.bind_some,BP f g ks (fun m hm=>h m (by simp[hm])),Option.bind_some,List.flatMap_cons]
theorem Jk(xs:List Rw)(i:Int)(j:Nat)(hj:j∈jf xs i):j<xs.length:=by
 have key:∀(t d a:Nat),xs.length - a≤d→j∈j6 xs t a→j<xs.length:=by
  intro t d
  induction d with
  |zero=>intro a hd hm;rw[j6,dif_neg (by omega)]at hm;cases hm
  |succ d ih=>
   intro a hd hm
   by_cases h:a<t∧a<xs.length
   ·rw[j6,dif_pos h]at hm
    rcases List.mem_cons.1 hm with rfl|hm
    ·exact h.2
    ·exact ih (fV xs a) (by have:=kN xs a;omega) hm
   ·rw[j6,dif_neg h]at hm;cases hm
 by_cases hi:i= -1∨0≤i∧i<xs.length
 ·rw[qU hi]at hj
  exact key _ _ _ (Nat.le_refl _) hj
 ·have:jf xs i=[]:=by
   unfold jf;rw[if_neg (by omega),if_neg (by omega)]
  rw[this]at hj;cases hj
structure SizeQ (xs:List Rw):Prop where
 len:xs.length≤100000
 each:∀k,(h:k<xs.length)→own xs[k]≤1000000000
 total:xQ xs 0≤100000000000
 atts:∀x∈xs,x.f4.length≤90000
theorem Gl.q{xs:List Rw}(h:Gl xs):SizeQ xs:=⟨by have:=h.len;omega,h.one,by have:=h.total;omega,fun x hx=>by have:=h.atts x hx;omega⟩
theorem MO(xs:List Rw)(hz:SizeQ xs)(hp:Jj xs):∀(d:Nat) (raw:Bool) (k:Nat),k<xs.length→xs.length - k≤d→xg xs d raw k=some (ny xs d raw k):=by
 intro d
 induction d with
 |zero=>intro raw k hk hd;omega
 |succ d ih=>
  intro raw k hk hd;have ho:=own_val (hz.each k hk);have hkind:=(hp k hk).kind;have hr:=qH xs k hk;have hcat:=BP (xg xs d (nM raws xs[k].f2)) (ny xs d (nM raws xs[k].f2)) (jf xs k) (fun j hj=>ih _ j (Jk xs _ j hj) (by have:=Na xs k hk j hj;omega));simp only[xg,ny];rw[if_pos hk];rw[hr]at hkind⊢
  by_cases h1:xs[k].f1=1
  ·rw[if_pos h1,if_pos h1]
   cases raw with
   |true=>rfl
   |false=>
    rw[if_neg (by decide),if_neg (by decide)];unfold tQ.f;rw[wrB_at false _ ho.2.2.1];rfl
  ·rw[if_neg h1,if_neg h1]
   by_cases h2:xs[k].f1=2
   ·rw[if_pos h2,if_pos h2]
   ·rw[if_neg h2,if_neg h2,if_pos (by omega)]
    obtain⟨o,e1,e2⟩:=opened_f xs[k] (xs[k].f4.length+1) (by have:=hz.atts _ (List.getElem_mem hk);omega) (by omega) ho.1 (by omega);rw[e1,Option.bind_some,void_f _ 100 (by omega),Option.bind_some];unfold Lj;cases hv:nM voids xs[k].f2
    ·rw[if_neg (by decide),raw_f _ 100 (by omega),Option.bind_some,hcat,Option.bind_some,if_neg (by decide),e2]
     simp only[List.append_assoc]
    ·rw[if_pos rfl,if_pos rfl,e2,List.append_nil]
def Cw(xs:List Rw)(i:Int):Bool:=if 0≤i then nM raws (au xs i).f2 else false
theorem QJ(xs:List Rw)(hz:SizeQ xs)(hp:Jj xs)(i:Int)(hi:i= -1∨0≤i∧i<xs.length):fu.f xs i=some ⟨((jf xs i).flatMap (ny xs xs.length (Cw xs i))).toArray⟩:=by
 have hlen:=hz.len;have htot:=hz.total
 have hra:GI xs i=some (Cw xs i):=by
  unfold GI Cw
  rcases hi with rfl|hi
  ·rfl
  ·rw[if_pos hi.1,if_pos hi.2,if_pos hi.1,raw_f _ 100 (by omega)]
 have hc:=BP (xg xs xs.length (Cw xs i)) (ny xs xs.length (Cw xs i)) (jf xs i) (fun j hj=>MO xs hz hp _ _ j (Jk xs _ j hj) (by omega));have hl:=QI xs xs.length (Cw xs i) i hi;unfold fu.f;rw[if_pos (by omega),hra,Option.bind_some,hc,Option.bind_some,if_pos (by omega)]
theorem QK(xs:List Rw)(hz:Gl xs)(hp:Jj xs)(i:Int)(hi:i= -1∨0≤i∧i<xs.length):fu.f xs i=some ⟨((jf xs i).flatMap (ny xs xs.length (Cw xs i))).toArray⟩:=QJ xs hz.q hp i hi
def emitC(D:Nat):List Rw→List ByteArray→List Tok
 | [],op=>(op.drop D).reverse.map endP
 |x::r,op=>(op.drop x.f0.toNat).reverse.map endP++oo x::emitC D r (opA (op.take x.f0.toNat) x)
theorem EW:∀(r:List Rw) (op:List ByteArray),emitC 0 r op=lX r op
 | [],op=>rfl
 |x::r,op=>by rw[emitC,lX,EW r]
def AP:List Rw→List ByteArray→List ByteArray
 | [],op=>op
 |x::r,op=>AP r (opA (op.take x.f0.toNat) x)
def Hi:List Rw→List ByteArray→Prop
 | [],_=>True
 |x::r,op=>0≤x.f0∧x.f0≤op.length∧Hi r (opA (op.take x.f0.toNat) x)
theorem hi_fit:∀(r:List Rw) (op:List ByteArray) (out:List Rw),RowsFit r op out→Hi r op
 | [],_,_,_=>trivial
 |x::r,op,out,h=>⟨h.1.lo,h.1.hi,hi_fit r _ _ h.2⟩
theorem hi_app:∀(r1 r2:List Rw) (op:List ByteArray),Hi (r1++r2) op→Hi r1 op∧Hi r2 (AP r1 op)
 | [],r2,op,h=>⟨trivial,h⟩
 |x::r1,r2,op,h=>by
  obtain⟨a,b,c⟩:=h;obtain⟨d,e⟩:=hi_app r1 r2 _ c;exact⟨⟨a,b,d⟩,e⟩
theorem hi_take{D:Nat}:∀ {r:List Rw} {op:List ByteArray},Hi r op→Shut D r→Hi r (op.take D)
 | [],_,_,_=>trivial
 |z::r,op,h,hs=>by
  obtain⟨a,b,c⟩:=h;have hz:z.f0≤D:=hs;refine⟨a,by rw[List.length_take];omega,?_⟩;rw[List.take_take,Nat.min_eq_left (by omega)];exact c
theorem zD{D:Nat}:∀(r:List Rw) (op:List ByteArray),Hi r op→D≤op.length→(∀x∈r,(D:Int)≤x.f0)→(AP r op).take D=op.take D∧D≤(AP r op).length
 | [],op,_,hD,_=>⟨rfl,hD⟩
 |x::r,op,h,hD,hx=>by
  obtain⟨a,b,c⟩:=h;have h0:=hx x (by simp);have hl:(op.take x.f0.toNat).length=x.f0.toNat:=by rw[List.length_take];omega
  have hle:D≤(opA (op.take x.f0.toNat) x).length:=by
   unfold opA
   split
   ·rw[List.length_append];omega
   ·omega
  have ht:(opA (op.take x.f0.toNat) x).take D=op.take D:=by
   have e:(op.take x.f0.toNat).take D=op.take D:=by rw[List.take_take,Nat.min_eq_left (by omega)]
   unfold opA
   split
   ·rw[List.take_append_of_le_length (by omega),e]
   ·exact e
  obtain⟨i1,i2⟩:=zD r _ c hle (fun y hy=>hx y (by simp[hy]));exact⟨by rw[AP,i1,ht],i2⟩
theorem EX{α:Type}(op:List α){D E:Nat}(h:E≤D):op.drop E=(op.take D).drop E++op.drop D:=by
 have h1:(op.take D).drop E=(op.drop E).take (D - E):=List.drop_take;have h2:op.drop D=(op.drop E).drop (D - E):=by rw[List.drop_drop];congr 1;omega
 rw[h1,h2,List.take_append_drop]
theorem BM{D E:Nat}(hE:E≤D):∀(r1:List Rw) (op:List ByteArray) (r2:List Rw),Shut D r2→(∀z∈r2,0≤z.f0)→emitC E (r1++r2) op=emitC D r1 op++emitC E r2 ((AP r1 op).take D)
 | [],op,[],_,_=>by
   rw[List.append_nil,emitC,emitC,emitC,AP,EX op hE,List.reverse_append,List.map_append]
 | [],op,z::r,hs,h0=>by
   have hz:z.f0≤D:=hs;have h0z:=h0 z (by simp);have hd:z.f0.toNat≤D:=by omega
   rw[List.nil_append,emitC,emitC,AP,emitC,List.take_take,Nat.min_eq_left hd,EX op hd,List.reverse_append,List.map_append,List.append_assoc]
 |x::r1,op,r2,hs,h0=>by
  rw[List.cons_append,emitC,emitC,AP,BM hE r1 _ r2 hs h0,List.append_assoc,List.cons_append]
def jL(b:Bool):List Tok→Bool
 | []=>b
 |t::r=>jL (uI t) r
theorem zF(b:Bool):∀(L M:List Tok),eH b (L++M)=eH b L++eH (jL b L) M
 | [],M=>by simp[eH,jL]
 |t::L,M=>by rw[List.cons_append,eH,eH,jL,zF (uI t) L M,List.append_assoc]
theorem zG(b:Bool):∀(L M:List Tok),jL b (L++M)=jL (jL b L) M
 | [],M=>rfl
 |t::L,M=>by rw[List.cons_append,jL,jL,zG (uI t) L M]
theorem EY(s:ByteArray):nM voids s=kJ s:=by rw[Lg];rfl
theorem PE(s:ByteArray):nM raws s=mD s.data.toList:=by
 have e:nM raws s=JY.any (fun x=>x==s.data.toList):=rfl;rw[e];unfold mD inB;rw[List.contains_eq_any_beq]
 congr 1
 funext x
 exact Bool.eq_iff_iff.2 ⟨fun h=>by simpa using(by simpa using h:x=s.data.toList).symm,fun h=>by simpa using(by simpa using h:s.data.toList=x).symm⟩
def lF(xs:List Rw)(j t:Nat):List Rw:=(xs.drop j).take (t - j)
theorem oh(xs:List Rw)(j:Nat):lF xs j j=[]:=by simp[lF]
theorem Li(xs:List Rw){j e t:Nat}(h1:j≤e)(h2:e≤t):lF xs j t=lF xs j e++lF xs e t:=by
 unfold lF;rw[show t - j=(e - j)+(t - e)from by omega,List.take_add,List.drop_drop,show j+(e - j)=e from by omega]
theorem pI{xs:List Rw}{j t:Nat}(h:j<t)(hj:j<xs.length):lF xs j t=xs[j]::lF xs (j+1) t:=by
 unfold lF;rw[List.drop_eq_getElem_cons hj,show t - j=(t - (j+1))+1 from by omega,List.take_succ_cons]
theorem yF{xs:List Rw}{x:Rw}:∀(d j t:Nat),t - j≤d→t≤xs.length→x∈lF xs j t→∃m,∃h:m<xs.length,j≤m∧m<t∧x=xs[m]
 |0,j,t,hd,ht,hx=>by
  unfold lF at hx;rw[show t - j=0 from by omega]at hx;simp at hx
 |d+1,j,t,hd,ht,hx=>by
  by_cases h:j<t
  ·rw[pI h (by omega)]at hx
   rcases List.mem_cons.1 hx with rfl|hx
   ·exact⟨j,by omega,Nat.le_refl _,h,rfl⟩
   ·obtain⟨m,hm,a,b,c⟩:=yF d (j+1) t (by omega) ht hx
    exact⟨m,hm,by omega,b,c⟩
  ·unfold lF at hx
   rw[show t - j=0 from by omega]at hx;simp at hx
def NodeS(xs:List Rw)(n m:Nat):Prop:=∀(h:m<xs.length) (op:List ByteArray),xs[m].f0=(op.length:Int)→Hi (lF xs m (fV xs m)) op→
 eH false (emitC op.length (lF xs m (fV xs m)) op)=ny xs n false m∧jL false (emitC op.length (lF xs m (fV xs m)) op)=false
theorem Gh(xs:List Rw)(n D t:Nat)(ht:t≤xs.length):∀(d j:Nat) (op:List ByteArray),t - j≤d→j≤t→op.length=D→Hi (lF xs j t) op→(∀m,j≤m→m<t→fV xs m≤t)→
 (∀m,(h:m<xs.length)→j≤m→m<t→(D:Int)≤xs[m].f0)→(∀m,j≤m→m<t→NodeS xs n m)→
 eH false (emitC D (lF xs j t) op)=(j6 xs t j).flatMap (ny xs n false)∧jL false (emitC D (lF xs j t) op)=false:=by
 intro d
 induction d with
 |zero=>
  intro j op hd hj ho _ _ _ _;obtain rfl:j=t:=by omega
  rw[oh,qj (by omega),emitC,List.drop_eq_nil_of_le (by omega)];exact⟨rfl,rfl⟩
 |succ d ih=>
  intro j op hd hj ho hh hc hD hN
  by_cases h:j<t
  ·have hjl:j<xs.length:=by omega
   have hgt:=kN xs j;have hle:=hc j (Nat.le_refl _) h;have hs:=Li xs (Nat.le_of_lt hgt) hle;rw[hs]at hh⊢;obtain⟨h1,h2⟩:=hi_app _ _ _ hh
   have hjd:xs[j].f0=(D:Int):=by
    have a:=hD j hjl (Nat.le_refl _) h;rw[pI hgt hjl]at h1;have b:=h1.2.1;omega
   have hsh:Shut D (lF xs (fV xs j) t):=by
    by_cases he:fV xs j<t
    ·rw[pI he (by omega)]
     have a:=at_end xs j (by omega);rw[iX xs j hjl,iX xs _ (by omega)]at a;show xs[fV xs j].f0≤D;omega
    ·rw[show fV xs j=t from by omega,oh]
     trivial
   have h0:∀z∈lF xs (fV xs j) t,0≤z.f0:=by
    intro z hz;obtain⟨m,hm,a,b,rfl⟩:=yF _ _ _ (Nat.le_refl _) ht hz;have:=hD m hm (by omega) b;omega
   obtain⟨e1,e2⟩:=zD (D:=D) _ _ h1 (by omega) (fun z hz=>by
    obtain⟨m,hm,a,b,rfl⟩:=yF _ _ _ (Nat.le_refl _) (by omega) hz;exact hD m hm a (by omega))
   have eop:op.take D=op:=List.take_of_length_le (by omega);have h3:=hi_take h2 hsh;rw[e1,eop]at h3;obtain⟨n1,n2⟩:=hN j (Nat.le_refl _) h hjl op (by omega) h1;rw[ho]at n1 n2;obtain⟨k1,k2⟩:=ih (fV xs j) op (by omega) hle ho h3 (fun m a b=>hc m (by omega) b) (fun m hm a b=>hD m hm (by omega) b) (fun m a b=>hN m (by omega) b);rw[BM (Nat.le_refl D) _ _ _ hsh h0,e1,eop,zF,zG,n1,n2,k1,k2,pF h hjl,List.flatMap_cons];exact⟨rfl,rfl⟩
  ·obtain rfl:j=t:=by omega
   rw[oh,qj (by omega),emitC,List.drop_eq_nil_of_le (by omega)];exact⟨rfl,rfl⟩
theorem yG(nm:ByteArray)(l:List At)(b:Bool):rC b ⟨1,nm.data.toList,l.map qW,[],false⟩=tagT nm l:=by
 have e:jZ (l.map qW)=l.flatMap atT:=by
  unfold jZ;rw[List.flatMap_map]
  congr 1
  funext a
  simp[atT,qW]
 unfold rC;rw[if_neg (by simp),if_pos rfl];unfold pR;simp only[e,oO,tagT];simp
theorem QG(xs:List Rw)(hk:∀m,(h:m<xs.length)→xs[m].f1=0∨xs[m].f1=1∨xs[m].f1=2)(hg:∀m,(h:m<xs.length)→yD xs[m] (xs.drop (m+1))):
 ∀(n m:Nat),xs.length - m≤n→NodeS xs n m:=by
 intro n
 induction n with
 |zero=>intro m hn h;omega
 |succ n ih=>
  intro m hn h op ho hh;have hgt:=kN xs m;have hle:=mZ xs m h;have hm1:((m:Nat):Int)=(m:Int):=rfl;rw[pI hgt h]at hh⊢;obtain⟨a0,a1,a2⟩:=hh;have hd:xs[m].f0.toNat=op.length:=by omega
  have hin:∀j (hj:j<xs.length),m<j→j<fV xs m→xs[m].f0<xs[j].f0:=by
   intro j hj b1 b2;have:=AQ xs m j b1 b2 hj
   rwa [iX xs m h,iX xs j hj]at this
  have hleaf:opA op xs[m]=op→fV xs m=m+1:=by
   intro e
   by_cases hl:m+1<fV xs m
   ·rw[hd,List.take_length,e,pI hl (by omega)]at a2
    have b:=hin (m+1) (by omega) (by omega) hl;have c:=a2.2.1;omega
   ·omega
  rw[emitC,hd,List.drop_length,List.take_length];simp only[ny];rw[qH xs m h];rw[hd,List.take_length]at a2
  rcases hk m h with k|k|k
  ·have et:oo xs[m]=⟨1,xs[m].f2.data.toList,xs[m].f4.map qW,[],false⟩:=by unfold oo;rw[if_pos k]
   rw[if_neg (by omega),if_neg (by omega),et];cases hv:kJ xs[m].f2 with
   |true=>
    have eo:opA op xs[m]=op:=by unfold opA;rw[if_neg (by rw[hv];simp)]
    have hr:mD xs[m].f2.data.toList=false:=by
     cases hr:mD xs[m].f2.data.toList with
     |false=>rfl
     |true=>
      have:=((hg m h).inner k (by rw[hr];rfl)).1;rw[hv]at this;cases this
    rw[eo,hleaf eo,oh,emitC,List.drop_length];unfold Lj;rw[EY,hv,if_pos rfl];simp[eH,jL,yG,uI,hr]
   |false=>
    have eo:opA op xs[m]=op++[xs[m].f2]:=by unfold opA;rw[if_pos ⟨k,hv⟩]
    rw[eo]at a2⊢;have hlen:(op++[xs[m].f2]).length=op.length+1:=by simp
    have Gi:∀j (hj:j<xs.length),m+1≤j→j<fV xs m→((op.length+1:Nat):Int)≤xs[j].f0:=by
     intro j hj b1 b2;have:=hin j hj (by omega) b2;omega
    have hsplit:emitC op.length (lF xs (m+1) (fV xs m)) (op++[xs[m].f2])=emitC (op.length+1) (lF xs (m+1) (fV xs m)) (op++[xs[m].f2])++[endP xs[m].f2]:=by
     have e:=BM (D:=op.length+1) (E:=op.length) (by omega) (lF xs (m+1) (fV xs m)) (op++[xs[m].f2]) [] trivial (by simp)
     obtain⟨e1,-⟩:=zD (D:=op.length+1) _ _ a2 (by omega) (fun z hz=>by
      obtain⟨j,hj,b1,b2,rfl⟩:=yF _ _ _ (Nat.le_refl _) hle hz;exact Gi j hj b1 b2)
     rw[List.append_nil]at e;rw[e,e1,List.take_of_length_le (by omega),emitC,List.drop_left];rfl
    have hend:rC false (endP xs[m].f2)=([60,47]++xs[m].f2.data.toList)++[62]:=by
     simp[rC,endP,pR,jZ,oO]
    unfold Lj;rw[EY,hv,if_neg (by decide),PE,hsplit,yH xs m h];cases hrs:(mD xs[m].f2.data.toList||kS xs[m].f2.data.toList)with
    |false=>
     have hr:mD xs[m].f2.data.toList=false:=by rw[Bool.or_eq_false_iff]at hrs;exact hrs.1
     obtain⟨q1,q2⟩:=Gh xs n (op.length+1) (fV xs m) hle _ (m+1) (op++[xs[m].f2]) (Nat.le_refl _) (by omega) hlen a2 (fun j b1 b2=>Dr xs m j (by omega) b2 h) Gi (fun j b1 b2=>ih j (by omega));rw[hr];have hrt:uI ⟨1,xs[m].f2.data.toList,xs[m].f4.map qW,[],false⟩=false:=by simp[uI,hr]
     simp only[List.reverse_nil,List.map_nil,List.nil_append];rw[eH,jL,hrt,zF,zG,q1,q2,yG,eH,eH,hend,jL,jL];refine⟨by simp,by simp[uI,endP]⟩
    |true=>
     obtain⟨-,hin2⟩:=(hg m h).inner k hrs;simp only[List.reverse_nil,List.map_nil,List.nil_append]
     rcases hin2 with hs|⟨y,r',hr',y1,y2,y3,y4⟩
     ·have he:fV xs m=m+1:=by
       by_cases hl:m+1<fV xs m
       ·have b:=hin (m+1) (by omega) (by omega) hl
        rw[List.drop_eq_getElem_cons (by omega)]at hs;have c:xs[m+1].f0≤xs[m].f0:=hs;omega
       ·omega
      rw[he,oh,qj (by omega),emitC,List.drop_eq_nil_of_le (by omega)];simp only[List.reverse_nil,List.map_nil,List.nil_append];rw[eH,eH,eH,yG,jL,jL,jL]
      have hend2:∀b,rC b (endP xs[m].f2)=([60,47]++xs[m].f2.data.toList)++[62]:=by
       intro b;simp[rC,endP,pR,jZ,oO]
      rw[hend2];exact⟨by simp,by simp[uI,endP]⟩
     ·have hl1:m+1<xs.length:=by
       by_cases hl:m+1<xs.length
       ·exact hl
       ·rw[List.drop_eq_nil_of_le (by omega)]at hr'
        cases hr'
      rw[List.drop_eq_getElem_cons hl1]at hr';obtain⟨rfl,rfl⟩:=List.cons.inj hr'
      have he:fV xs m=m+2:=by
       have g1:m+1<fV xs m:=by
        by_cases hl:m+1<fV xs m
        ·exact hl
        ·have a:=at_end xs m (by omega)
         have e:fV xs m=m+1:=by omega
         rw[e,iX xs m h,iX xs _ hl1]at a;omega
       by_cases hl:m+2<fV xs m
       ·have b:=hin (m+2) (by omega) (by omega) hl
        rw[List.drop_eq_getElem_cons (by omega)]at y4;have c:xs[m+2].f0≤xs[m].f0:=y4;omega
       ·omega
      have hgt2:=kN xs (m+1);rw[he,pI (by omega) hl1,oh,pF (by omega) hl1,qj (by omega),emitC];have hy:xs[m+1].f0.toNat=op.length+1:=by omega
      have ey:oo xs[m+1]=⟨0,[],[],xs[m+1].f3.data.toList,false⟩:=by unfold oo;rw[if_neg (by omega),if_pos y1]
      have eo2:opA (op++[xs[m].f2]) xs[m+1]=op++[xs[m].f2]:=by unfold opA;rw[if_neg (by omega)]
      rw[hy,List.take_of_length_le (by omega),List.drop_eq_nil_of_le (by omega),eo2,emitC,List.drop_eq_nil_of_le (by omega),ey];obtain⟨n',rfl⟩:∃n',n=n'+1:=⟨n - 1,by omega⟩
      have hend2:∀b,rC b (endP xs[m].f2)=([60,47]++xs[m].f2.data.toList)++[62]:=by
       intro b;simp[rC,endP,pR,jZ,oO]
      have hnode:ny xs (n'+1) (mD xs[m].f2.data.toList) (m+1)=rC (mD xs[m].f2.data.toList) ⟨0,[],[],xs[m+1].f3.data.toList,false⟩:=by
       simp only[ny];rw[qH xs (m+1) hl1,if_pos y1];simp[rC]
      simp only[List.reverse_nil,List.map_nil,List.nil_append,List.singleton_append,List.cons_append,List.flatMap_cons,List.flatMap_nil,List.append_nil];rw[eH,eH,eH,eH,yG,hend2,jL,jL,jL,jL,hnode];exact⟨by simp[uI],by simp[uI,endP]⟩
  ·have et:oo xs[m]=⟨0,[],[],xs[m].f3.data.toList,false⟩:=by unfold oo;rw[if_neg (by omega),if_pos k]
   have eo:opA op xs[m]=op:=by unfold opA;rw[if_neg (by omega)]
   rw[if_pos k,et,eo,hleaf eo,oh,emitC,List.drop_length];simp[eH,jL,rC,uI]
  ·have et:oo xs[m]=⟨3,[],[],xs[m].f3.data.toList,false⟩:=by unfold oo;rw[if_neg (by omega),if_neg (by omega)]
   have eo:opA op xs[m]=op:=by unfold opA;rw[if_neg (by omega)]
   rw[if_neg (by omega),if_pos k,et,eo,hleaf eo,oh,emitC,List.drop_length];simp[eH,jL,rC,uI]
theorem MN(xs:List Rw)(hf:RowsFit xs [] [])(hk:∀m,(h:m<xs.length)→xs[m].f1=0∨xs[m].f1=1∨xs[m].f1=2)(hg:∀m,(h:m<xs.length)→yD xs[m] (xs.drop (m+1)))(h0:∀m,(h:m<xs.length)→0≤xs[m].f0):
 (jf xs (-1)).flatMap (ny xs xs.length false)=Ja (lX xs []):=by
 have hi:=hi_fit xs [] [] hf;have e:lF xs 0 xs.length=xs:=by simp[lF]
 have h:=Gh xs xs.length 0 xs.length (Nat.le_refl _) xs.length 0 [] (by omega) (by omega) rfl (by rw[e];exact hi) (fun m _ b=>mZ xs m b) (fun m hm _ _=>h0 m hm) (fun m _ b=>QG xs hk hg xs.length m (by omega));rw[e,EW]at h;rw[qU (.inl rfl)];exact h.1.symm
end Go.Proofs.aj.W7
namespace Go.Proofs.YtkcmghlhpbepcaaGreatDoor.Ch
open Go.RowKit Go.Proofs Go.Shelf
def M4:Go.Shelf.Ren:=⟨fun|242=>196|278=>219|n=>n,fun|0=>0|3=>3|4=>4|5=>5|9=>9|21=>21|37=>43|46=>140|51=>172|72=>106|n=>n,fun|n=>n⟩
theorem runeLays:Go.Proofs.Lays.n242 Tryz.prog M4:={
 mixed:=by kernel_rfl
 f242:=Tryz.func196.trans (congrArg some (by kernel_rfl))
 f278:=Tryz.func219.trans (congrArg some (by kernel_rfl))
 t4:=Tryz.underlying4
 a4:=Tryz.isAgg4
 z4:=Tryz.sizeOf4
 v4:=Tryz.zeroValue4
 t5:=Tryz.underlying5
 a5:=Tryz.isAgg5
 z5:=Tryz.sizeOf5
 v5:=Tryz.zeroValue5
 t21:=Tryz.underlying21
 a21:=Tryz.isAgg21
 z21:=Tryz.sizeOf21
 v21:=Tryz.zeroValue21
 t37:=Tryz.underlying43
 a37:=Tryz.isAgg43
 z37:=Tryz.sizeOf43
 v37:=Tryz.zeroValue43
 t46:=Tryz.underlying140
 a46:=Tryz.isAgg140
 z46:=Tryz.sizeOf140
 v46:=Tryz.zeroValue140
 t51:=Tryz.underlying172
 a51:=Tryz.isAgg172
 z51:=Tryz.sizeOf172
 v51:=Tryz.zeroValue172 }
theorem P9:Builder.Extra Tryz.prog M4:={
 sizeBuilder:=by kernel_rfl
 liesBuilder:=by kernel_rfl
 t5:=Tryz.underlying5
 a5:=Tryz.isAgg5
 z5:=Tryz.sizeOf5
 v5:=Tryz.zeroValue5
 infoByte:=by kernel_rfl
 cellsByte:=by kernel_rfl
 sizeByte:=by kernel_rfl
 neB5:=by decide }
theorem BZ(B b:Nat)(bs:List Value)(r:Int)(hr0: -2147483648≤r)(hr1:r≤2147483647)(w:World)(h:Lib.IsBuilderF 106 5 B b bs w)(hlen:bs.length+4≤140737488355328)(hBw:B≤w.heap.size):
 Calls Tryz.prog 161 #[.pointer (some ⟨b,0,none⟩),.int .i32 r] w fun e w'=>e=.returned (.tuple #[.int .i64 (Lib.runeCells r).length,.nilIface])∧(Lib.IsBuilderF 106 5 B b (bs++Lib.runeCells r) w'∧Below B w w'∧Lib.OthersKept 5 (some b) w w'):=by
 have hk4:=Lib.runeCells_le r;go_enter Tryz.func161,Tryz.ntmps161
 go_wp2_with(go_at_call 174;refine(wV B b bs _ h).mono ?_)
 rintro e w1 ⟨rfl,h1,hb1,hk1⟩;obtain⟨hB,v,hbk,hown,hne⟩:=h1
 obtain⟨ao,cap,rfl⟩:∃ao cap,v=.slice ao bs.length cap:=by
  rcases hown.2 with⟨hv,h0⟩|⟨g,cap,cur,fz,hv,_⟩
  ·exact⟨none,0,by rw[hv,h0]⟩
  ·exact⟨_,_,hv⟩
 have c0:w1.cell? ⟨b,0,none⟩=some (.pointer (some ⟨b,0,none⟩)):=by rw[Lib.cell_of_heap hbk];rfl
 have c1:w1.cell? ⟨b,1,none⟩=some (.slice ao bs.length cap):=by rw[Lib.cell_of_heap hbk];rfl
 go_wp2_with(go_at_call 196;refine(Any.utf8_AppendRune_own runeLays P9 B _ bs.length bs r hr0 hr1 _ hown hlen (by have:=hb1.size;omega)).mono ?_)
 rintro e w2 ⟨v',rfl,hown',o,hgrow⟩
 have hlt:b<w1.heap.size:=by
  rcases Nat.lt_or_ge b w1.heap.size with h'|h'
  ·exact h'
  ·simp[Array.getElem?_eq_none h']at hbk
 have hb2:w2.heap[b]?=some (.cells #[.pointer (some ⟨b,0,none⟩),.slice ao bs.length cap] 106 (0,0)):=by
  rw[hgrow.block b (by simp;omega) (fun e=>hne e.symm),Lib.alloc_old w1 _ b hlt];exact hbk
 have d0:w2.cell? ⟨b,0,none⟩=some (.pointer (some ⟨b,0,none⟩)):=by rw[Lib.cell_of_heap hb2];rfl
 have d1:w2.cell? ⟨b,1,none⟩=some (.slice ao bs.length cap):=by rw[Lib.cell_of_heap hb2];rfl
 have f1:w2.frozen? ⟨b,1,none⟩=false:=Lib.frozen_of_heap hb2 1
 obtain⟨g,cap',rfl⟩:∃g cap',v'=.slice (some ⟨g,0,none⟩) (bs.length+(Lib.runeCells r).length) cap':=by
  rcases hown'.2 with⟨_,h0⟩|⟨g,cap',cur,fz,hv,_⟩
  ·omega
  ·exact⟨g,cap',hv⟩
 go_wp2
 go_ret2
 refine⟨?_,Or.inr ?_,?_,((hk1.alloc _).grown hgrow (Lib.ownsRowF_kind (hown.alloc _))).setCell ⟨b,1,none⟩ rfl _⟩
 ·have e:((bs.length:Int)+((Lib.runeCells r).length:Int) - (bs.length:Int))=((Lib.runeCells r).length:Int):=by omega
  simp[e]
 ·exact Lib.BuilderAtF.put (T:=106) (e:=5) hB hb2 (bs':=bs++Lib.runeCells r) (by rw[List.length_append];exact hown') (by decide)
 ·exact((hb1.alloc (by have:=hb1.size;omega) _).grown hgrow (by have:=hb1.size;simp;omega) (fun k hk=>(hown.lt k hk).1)).setCell (p:=⟨b,1,none⟩) hB _
def ruF(r:Nat):List UInt8:=Lib.encodeRune (if r=0 then 65533 else(r:Int))
def qm(s:ByteArray):Nat→Nat→List UInt8
 |0,_=>[]
 |fuel+1,pos=>if pos<s.size then ruF (Utf8.decode s pos).1++qm s fuel (pos+(Utf8.decode s pos).2)else []
def deF(s:ByteArray):List UInt8:=qm s s.size 0
theorem width_pos(s:ByteArray)(pos:Nat)(h:pos<s.size):1≤(Utf8.decode s pos).2:=by
 by_cases ha:(s[pos]'h).toNat<128
 ·rw[decode_ascii s pos h ha]
  exact Nat.le_refl _
 ·exact(decode_high s pos h (by omega)).2
theorem LK(s:ByteArray)(fuel pos:Nat)(h:¬pos<s.size):qm s fuel pos=[]:=by
 cases fuel with
 |zero=>rfl
 |succ f=>simp[qm,h]
theorem JF(s:ByteArray)(w:World)(hs:s.size≤35184372088832):
 Calls Tryz.prog 118 #[.string s] w fun e w'=>e=.returned (.string ⟨(deF s).toArray⟩)∧Below w.heap.size w w':=by
 go_enter Tryz.func118,Tryz.ntmps118;go_wp2
 go_loopw [] (fun wr=>∃(pos fuel:Nat) (acc:List UInt8),Lib.IsBuilderF 106 5 w.heap.size w.heap.size (Lib.byteCells acc) wr∧wr.heap[w.heap.size+1]?=some (.stringIter s pos)∧Below w.heap.size w wr∧Hid (acc++qm s fuel pos=deF s)∧s.size≤pos+fuel∧acc.length≤4 * pos) (fun wr=>s.size - wr.iterPos (w.heap.size+1))
 case atStart=>
  refine⟨0,s.size,[],(Lib.IsBuilderF.of (Lib.fresh_isBuilder 106 5 w)).alloc _,?_,((Below.refl _ w).alloc (Nat.le_refl _) _).alloc (by simp) _,rfl,by omega,by simp⟩;have:=World.iter_heap (w.alloc (.cells #[.pointer none,.slice none 0 0] 106)) s 0;simpa using this
 case round=>
  obtain⟨pos,fuel,acc,hI,hit,hbw,hacc,hfu,hal⟩:=hrel;have hsz:w.heap.size+1<wr.heap.size:=(Array.getElem?_eq_some_iff.1 hit).1
  by_cases hp:pos<s.size
  ·have hnx:∀ty,(Instr.next (.pointer (some ⟨w.heap.size+1,0,none⟩)) true ty).run Tryz.prog wr=_:=fun ty=>Lib.run_next_any_at wr (w.heap.size+1) s pos ty hit hp
   have hwd:=width_pos s pos hp;have hd1:=decode_le s pos;have hI2:=hI.iterAt hit (pos+(Utf8.decode s pos).2);have hit2:=Lib.iterAt_heap wr (w.heap.size+1) s pos (pos+(Utf8.decode s pos).2) hit;have hbw2:=Lib.below_iterAt hbw (k:=w.heap.size+1) (by omega) s (pos+(Utf8.decode s pos).2);have hsz2:w.heap.size≤(wr.iterAt (w.heap.size+1) s (pos+(Utf8.decode s pos).2)).heap.size:=by rw[Lib.iterAt_size];omega
   obtain⟨f,rfl⟩:∃f,fuel=f+1:=⟨fuel - 1,by omega⟩
   have tH:=hacc.out;simp only[qm]at tH;rw[if_pos hp]at tH
   by_cases h0:(Utf8.decode s pos).1=0
   ·have g1:(((Utf8.decode s pos).1:Int)==0)=true:=by rw[h0];rfl
    go_wp2_with(go_at_call 161;refine(BZ w.heap.size w.heap.size _ 65533 (by omega) (by omega) _ hI2 (by rw[Lib.byteCells_length];omega) hsz2).mono ?_)
    rintro e W1 ⟨rfl,h1,b1,k1⟩;go_wp2
    go_roundw
    case rel=>
     have hl4:=Lib.runeCells_le (65533:Int);rw[Lib.runeCells_length]at hl4;have he:ruF (Utf8.decode s pos).1=Lib.encodeRune 65533:=by rw[h0];rfl
     refine⟨pos+(Utf8.decode s pos).2,f,acc++Lib.encodeRune 65533,?_,k1.iter hit2 (by omega),hbw2.trans b1,?_,by omega,by simp;omega⟩
     ·rw[Lib.byteCells_append,Lib.byteCells_encodeRune];exact h1
     ·rw[he]at tH
      exact Lib.hid (by rw[←tH,List.append_assoc])
    case measure=>
     simp only[World.iterPos,k1.iter hit2 (by omega),hit];omega
   ·have g1:(((Utf8.decode s pos).1:Int)==0)=false:=by rw[beq_eq_false_iff_ne];omega
    have g2:((Utf8.decode s pos).1:Int)≠0:=by omega
    go_wp2_with(go_at_call 161;refine(BZ w.heap.size w.heap.size _ _ (by omega) (by omega) _ hI2 (by rw[Lib.byteCells_length];omega) hsz2).mono ?_)
    rintro e W1 ⟨rfl,h1,b1,k1⟩;go_wp2
    go_roundw
    case rel=>
     have hl4:=Lib.runeCells_le ((Utf8.decode s pos).1:Int);rw[Lib.runeCells_length]at hl4;have he:ruF (Utf8.decode s pos).1=Lib.encodeRune ((Utf8.decode s pos).1:Int):=by unfold ruF;rw[if_neg h0]
     refine⟨pos+(Utf8.decode s pos).2,f,acc++Lib.encodeRune (Utf8.decode s pos).1,?_,k1.iter hit2 (by omega),hbw2.trans b1,?_,by omega,by simp;omega⟩
     ·rw[Lib.byteCells_append,Lib.byteCells_encodeRune];exact h1
     ·rw[he]at tH
      exact Lib.hid (by rw[←tH,List.append_assoc])
    case measure=>
     simp only[World.iterPos,k1.iter hit2 (by omega),hit];omega
  ·have hnx:∀ty,(Instr.next (.pointer (some ⟨w.heap.size+1,0,none⟩)) true ty).run Tryz.prog wr=_:=fun ty=>Lib.run_next_end_at wr (w.heap.size+1) s pos ty hit hp
   go_wp2_with(go_at_call 138;refine(Tryz.Builder_String_any_k w.heap.size w.heap.size acc _ hI (by omega)).mono ?_)
   rintro e W1 ⟨rfl,_,b1,_⟩;go_wp2;go_ret;have tH:=hacc.out;rw[LK s fuel pos hp,List.append_nil]at tH;subst tH;exact⟨rfl,hbw.trans b1⟩
theorem zN(old new:List UInt8)(h:new.length≤old.length):∀(k:Nat) (s:List UInt8),(Lib.replaceK old new k s).length≤s.length
 |0,s=>Nat.le_refl _
 |k+1,s=>by
  by_cases hm:(Lib.index s old== -1)=true
  ·rw[Lib.replaceK,if_pos hm]
   exact Nat.le_refl _
  ·have hge:=Lib.index_ge s old
   have h0:0≤Lib.index s old:=by
    have:Lib.index s old≠ -1:=fun e=>hm (by rw[e];rfl)
    omega
   have hr:=Lib.index_room s old h0;have ih:=zN old new h k (s.drop ((Lib.index s old).toNat+old.length));rw[Lib.replaceK,if_neg hm,List.length_append,List.length_append,List.length_take];rw[List.length_drop]at ih;omega
theorem Dy(s old new:List UInt8)(h:new.length≤old.length):(Lib.replaceAll s old new).length≤s.length:=by
 unfold Lib.replaceAll Lib.replace
 split
 ·exact Nat.le_refl _
 ·exact zN old new h _ s
def FL(l:List UInt8):List UInt8:=Lib.replaceAll (Lib.replaceAll l [13,10] [10]) [13] [10]
theorem JG(s old new:ByteArray)(h1:1≤old.size)(h2:new.size≤old.size)(hs:s.size≤4000000000)(w:World)(hS:Std w):
 Calls Tryz.prog 160 #[.string s,.string old,.string new] w fun e w'=>e=.returned (.string ⟨(Lib.replaceAll s.data.toList old.data.toList new.data.toList).toArray⟩)∧Below w.heap.size w w':=by
 obtain⟨m,hm⟩:=hS.maxLen;have hc:=Lib.countB_mul_le old h1 s.size s (Nat.le_refl _);have hm2:=Nat.mul_le_mul_left (Lib.countB s old) h2;exact Tryz.strings_ReplaceAll s old new m w (by omega) hm h1 (by omega)
theorem lines_c(s:ByteArray)(hs:s.size≤4000000000)(w:World)(hS:Std w):
 Calls Tryz.prog 117 #[.string s] w fun e w'=>e=.returned (.string ⟨(FL s.data.toList).toArray⟩)∧Below w.heap.size w w':=by
 have c1:=Lib.hid (JG s ⟨#[13,10]⟩ ⟨#[10]⟩ (by decide) (by decide) hs w hS);have hl:=Dy s.data.toList [13,10] [10] (by decide);have hz:s.size=s.data.toList.length:=(Array.length_toList).symm;have c2:=Lib.hid (fun(W:World) (hW:Below w.heap.size w W)=>JG ⟨(Lib.replaceAll s.data.toList [13,10] [10]).toArray⟩ ⟨#[13]⟩ ⟨#[10]⟩ (by decide) (by decide) (by show(List.toArray _).size≤_;rw[List.size_toArray];omega) W (hS.below hW));go_enter Tryz.func117,Tryz.ntmps117
 go_wp2_with(first
  |(go_at_call 160;((with_reducible refine c1.out.mono ?_);rintro e w1 ⟨rfl,hb1⟩))
  |(go_at_call 160;((with_reducible refine(c2.out _ hb1).mono ?_);rintro e w2 ⟨rfl,hb2⟩)))
 go_ret;exact⟨rfl,hb1.trans (hb2.mono hb1.size)⟩
def Bj(l:List UInt8):List UInt8:=FL (deF ⟨l.toArray⟩)
theorem Dz(s:ByteArray):∀(fuel pos:Nat),(qm s fuel pos).length≤4 * fuel
 |0,pos=>by simp[qm]
 |fuel+1,pos=>by
  simp only[qm]
  by_cases h:pos<s.size
  ·rw[if_pos h]
   have ih:=Dz s fuel (pos+(Utf8.decode s pos).2)
   have h4:(ruF (Utf8.decode s pos).1).length≤4:=by
    unfold ruF Lib.encodeRune;rw[List.length_map];exact(Lib.encodeRuneZ_length _).2
   simp only[List.length_append];omega
  ·rw[if_neg h]
   exact Nat.zero_le _
theorem ready_c(l:List UInt8)(hl:l.length≤100000000)(w:World)(hS:Std w):
 Calls Tryz.prog 73 #[.string ⟨l.toArray⟩] w fun e w'=>e=.returned (.string ⟨(Bj l).toArray⟩)∧Below w.heap.size w w':=by
 have hz:(⟨l.toArray⟩:ByteArray).size=l.length:=List.size_toArray;have hd:=Dz ⟨l.toArray⟩ (⟨l.toArray⟩:ByteArray).size 0;have c1:=Lib.hid (JF ⟨l.toArray⟩ w (by omega));have c2:=Lib.hid (fun(W:World) (hW:Below w.heap.size w W)=>lines_c ⟨(deF ⟨l.toArray⟩).toArray⟩ (by show(List.toArray _).size≤_;rw[List.size_toArray];unfold deF;omega) W (hS.below hW));go_enter Tryz.func73,Tryz.ntmps73
 go_wp2_with(first
  |(go_at_call 118;((with_reducible refine c1.out.mono ?_);rintro e w1 ⟨rfl,hb1⟩))
  |(go_at_call 117;((with_reducible refine(c2.out _ hb1).mono ?_);rintro e w2 ⟨rfl,hb2⟩)))
 go_ret;exact⟨rfl,hb1.trans (hb2.mono hb1.size)⟩
end Go.Proofs.YtkcmghlhpbepcaaGreatDoor.Ch
namespace Go.Proofs.YtkcmghlhpbepcaaGreatDoor.Ch
open Go Go.RowKit
theorem get_cons(c:UInt8)(l:List UInt8)(k:Nat):(⟨(c::l).toArray⟩:ByteArray).get! (k+1)=(⟨l.toArray⟩:ByteArray).get! k:=by
 simp[ByteArray.get!]
theorem K9(c:UInt8)(l:List UInt8)(p:Nat):Utf8.decode ⟨(c::l).toArray⟩ (p+1)=Utf8.decode ⟨l.toArray⟩ p:=by
 have h:∀k,(⟨(c::l).toArray⟩:ByteArray).get! (p+1+k)=(⟨l.toArray⟩:ByteArray).get! (p+k):=fun k=>by
  rw[show p+1+k=(p+k)+1 from by omega];exact get_cons c l _
 have hz:∀k,decide (p+1+k<(⟨(c::l).toArray⟩:ByteArray).size)=decide (p+k<(⟨l.toArray⟩:ByteArray).size):=fun k=>by
  show decide (p+1+k<(List.toArray (c::l)).size)=decide (p+k<(List.toArray l).size);simp only[List.size_toArray,List.length_cons];rw[decide_eq_decide];omega
 simp only[Utf8.decode,h,hz]
theorem Lf(c:UInt8)(l old new:List UInt8)(h:old.isPrefixOf (c::l)=false)(h0:old≠[]):Lib.replaceAll (c::l) old new=c::Lib.replaceAll l old new:=by
 unfold Lib.replaceAll Lib.replace
 by_cases e:(old==new)=true
 ·rw[if_pos e,if_pos e]
 rw[if_neg e,if_neg e];have hix:Lib.index (c::l) old=if Lib.index l old== -1 then -1 else Lib.index l old+1:=by rw[Lib.index,h];simp
 by_cases hm:Lib.index l old= -1
 ·have h2:Lib.index (c::l) old= -1:=by rw[hix,if_pos (beq_iff_eq.2 hm)]
  simp[Lib.replaceNum,Lib.count_miss hm,Lib.count_miss h2,Lib.replaceK]
 ·have hge:=Lib.index_ge l old
  obtain⟨j,hj⟩:∃j:Nat,Lib.index l old=j:=⟨(Lib.index l old).toNat,by omega⟩
  have hj':Lib.index (c::l) old=((j+1:Nat):Int):=by rw[hix,if_neg (fun e=>hm (beq_iff_eq.1 e)),hj];omega
  have e1:Lib.replaceNum l old (-1)=Lib.count (l.drop (j+old.length)) old+1:=by
   unfold Lib.replaceNum;rw[if_pos (Or.inl (by decide)),Lib.count_hit h0 hj,Nat.add_comm]
  have hd:(c::l).drop (j+1+old.length)=l.drop (j+old.length):=by
   rw[show j+1+old.length=(j+old.length)+1 from by omega,List.drop_succ_cons]
  have e2:Lib.replaceNum (c::l) old (-1)=Lib.count (l.drop (j+old.length)) old+1:=by
   unfold Lib.replaceNum;rw[if_pos (Or.inl (by decide)),Lib.count_hit h0 hj',hd,Nat.add_comm]
  rw[e1,e2,Lib.replaceK_hit _ _ _ _ _ hj,Lib.replaceK_hit _ _ _ _ _ hj',hd];simp
theorem MH(c:UInt8)(l:List UInt8)(h:c≠13):FL (c::l)=c::FL l:=by
 unfold FL;rw[Lf c l [13,10] [10] (by simp[List.isPrefixOf,Ne.symm h]) (by simp),Lf c _ [13] [10] (by simp[List.isPrefixOf,Ne.symm h]) (by simp)]
def easyB(c:UInt8):Bool:=decide (c≠0)&&decide (c≠13)&&decide (c.toNat<128)
end Go.Proofs.YtkcmghlhpbepcaaGreatDoor.Ch
namespace Go.Proofs.aj.W7
open Go.RowKit Go.Proofs Go.Proofs.YtkcmghlhpbepcaaGreatDoor Go.Proofs.ah.aD
theorem FP{α:Type}{R:α→List Value→Prop}{size:Nat}(g:α→List Value):∀(ps:List α),(∀p∈ps,R p (g p)∧(g p).length=size)→bK R size ps (ps.flatMap g)
 | [],_=>by simpa using bK.none R size
 |p::ps,h=>by
  have ih:=FP g ps (fun q hq=>h q (by simp[hq]));obtain⟨h1,h2⟩:=h p (by simp);refine⟨by rw[List.flatMap_cons,List.length_append,ih.1,h2,List.length_cons,Nat.succ_mul,Nat.add_comm],fun j q hq=>?_⟩;cases j with
  |zero=>
   simp at hq;subst hq;rw[Nat.zero_mul,List.drop_zero,List.flatMap_cons,List.take_append_of_le_length (by omega),List.take_of_length_le (by omega)];exact h1
  |succ j=>
   have:=ih.2 j q (by simpa using hq);rw[List.flatMap_cons,Nat.succ_mul,Nat.add_comm,←List.drop_drop,List.drop_left' h2];exact this
theorem Qk(l:List S36):(l.flatMap fun a=>[Value.string a.f0,.string a.f1])=pY (l.map qW):=by
 induction l with
 |nil=>rfl
 |cons a l ih=>rw[List.flatMap_cons,ih];rfl
theorem Ql{w:World}{base:Nat}{ok:Nat→Prop}{v:Value}{l:List (Txt×Txt)}(h:iY w base v l)(hok:∀k,v.ownBlock=some k→ok k):k36.R 36 w base ok v (l.map pairT):=by
 refine⟨hok,pY l,?_,?_⟩
 ·rw[List.length_map];exact h
 ·have:=Qk (l.map pairT)
  rw[pairsS_T]at this;rw[←this];exact FP _ _ (fun p _=>⟨M7 _ _ _ _,rfl⟩)
theorem Qh{w:World}{base:Nat}{v:Value}{l:List Tok}(h:mq w base v l):k65.R 65 w base (fun _=>True) v (l.map CG):=by
 obtain⟨ps,h1,h2,h3⟩:=h;refine⟨fun _ _=>trivial,ps.flatMap (fun p=>xu p.1 p.2),by rw[List.length_map];exact h2,?_⟩;have hl:l.map CG=ps.map (fun p=>CG p.1):=by rw[←h1,List.map_map];rfl
 rw[hl]
 have key:∀(ps:List (Tok×Value)),(∀p∈ps,iY w base p.2 p.1.attrs)→bK (k65.M w base (fun k=>True∧some k≠v.ownBlock)) 5 (ps.map fun p=>CG p.1) (ps.flatMap fun p=>xu p.1 p.2):=by
  intro ps
  induction ps with
  |nil=>intro _;exact bK.none _ _
  |cons p ps ih=>
   intro hp;have ih:=ih (fun q hq=>hp q (by simp[hq]));have hA:=hp p (by simp)
   have hR:=Ql (ok:=fun k=>True∧some k≠v.ownBlock) hA (fun k hk=>⟨trivial,fun e=>by
    obtain⟨c1,e1⟩:=xX hA hk;obtain⟨c2,e2⟩:=xX h2 e.symm;rw[e1]at e2;injection e2 with e2
    injection e2 with _ e2
    exact absurd e2 (by decide)⟩)
   have hM:=k65_mkM w base (fun k=>True∧some k≠v.ownBlock) (CG p.1) hR;refine⟨by rw[List.map_cons,List.flatMap_cons,List.length_append,ih.1,List.length_cons,Nat.succ_mul,Nat.add_comm];rfl,fun j q hq=>?_⟩;cases j with
   |zero=>
    simp at hq;subst hq;exact hM
   |succ j=>
    have:=ih.2 j q (by simpa using hq);rw[List.flatMap_cons,Nat.succ_mul,Nat.add_comm,←List.drop_drop];exact this
 exact key ps h3
end Go.Proofs.aj.W7
namespace Go.Proofs.YtkcmghlhpbepcaaGreatDoor
open Go.RowKit Go.Proofs
theorem Qm{L:List Txt}{l:Txt}{k:Nat}(hk:k<L.length)(h:L.getD k []=l):inB L l=true:=by
 unfold inB;rw[List.contains_iff_mem,←h];simp[List.getD,List.getElem?_eq_getElem hk]
theorem among_no{L:List Txt}{l:Txt}(h:∀k,k<L.length→L.getD k []≠l):inB L l=false:=by
 unfold inB;cases hc:L.contains l with
 |false=>rfl
 |true=>
  rw[List.contains_iff_mem]at hc;obtain⟨k,hk,e⟩:=List.getElem_of_mem hc;exact absurd (by simp[List.getD,List.getElem?_eq_getElem hk,e]) (h k hk)
theorem Nf(b n:Nat)(L:List Txt)(l:Txt)(hn:n=L.length)(hN:n≤1000000)(w:World)(ht:rM b n L w):
 Calls Tryz.prog 81 #[.string ⟨l.toArray⟩,.slice (some ⟨b,0,none⟩) n n] w fun e w'=>e=.returned (.bool (inB L l))∧w=w':=by
 go_enter Tryz.func81,Tryz.ntmps81;go_wp2
 go_loop [6,9] (fun _ v=>∃(k:Nat),v=.int .i64 k∧k≤n∧Hid (∀j,j<k→L.getD j []≠l)) (fun _ v=>n - (intOf v).toNat)
 case atStart=>exact⟨0,rfl,by omega,fun j h=>by omega⟩
 case round=>
  obtain⟨k,rfl,hk,hno⟩:=hrel
  by_cases hlt:k<n
  ·have c1:=ht k hlt
   by_cases he:L.getD k []=l
   ·have hy:=Lib.hid (Qm (by omega) he)
    rw[he]at c1;have hbe:(l==l)=true:=by simp
    clear he;go_wp2;go_ret;rw[hy.out];exact⟨rfl,rfl⟩
   ·have nQ:=Lib.hid (show∀j,j<k+1→L.getD j []≠l by
     intro j hj
     by_cases e:j=k
     ·subst e;exact he
     ·exact hno.out j (by omega))
    have hbe:(L.getD k []==l)=false:=by simpa using he
    clear he;generalize L.getD k []=nm at *;go_wp2;refine⟨⟨k+1,rfl,by omega,nQ⟩,by simp[intOf];omega⟩
  ·have hm:=Lib.hid (among_no (L:=L) (l:=l) fun k hk=>hno.out k (by omega))
   go_wp2;go_ret;rw[hm.out];exact⟨rfl,rfl⟩
theorem raw_c(l:Txt)(w:World):
 Calls Tryz.prog 32 #[.string ⟨l.toArray⟩] w fun e w'=>e=.returned (.bool (mD l))∧Below w.heap.size w w':=by
 go_enter Tryz.func32,Tryz.ntmps32
 go_wp2_with(go_at_call 81;((refine(Nf _ 6 JY _ (by rfl) (by decide) _ (rM.of (bQ _ _ _) (by rfl) (by decide))).mono ?_);rintro e w1 ⟨rfl,rfl⟩))
 go_ret;exact⟨rfl,(Below.refl _ w).alloc (Nat.le_refl _) _⟩
theorem D8(l:Txt)(w:World):
 Calls Tryz.prog 33 #[.string ⟨l.toArray⟩] w fun e w'=>e=.returned (.bool (kS l))∧Below w.heap.size w w':=by
 go_enter Tryz.func33,Tryz.ntmps33
 go_wp2_with(go_at_call 81;((refine(Nf _ 2 Mf _ (by rfl) (by decide) _ (rM.of (bQ _ _ _) (by rfl) (by decide))).mono ?_);rintro e w1 ⟨rfl,rfl⟩))
 go_ret;exact⟨rfl,(Below.refl _ w).alloc (Nat.le_refl _) _⟩
end Go.Proofs.YtkcmghlhpbepcaaGreatDoor
