/- Lemmas and walks, part 25. -/
import Derived.Test.YtkcmghlhpbepcaaGreatDoorWS24
set_option linter.unusedVariables false
set_option linter.unusedSimpArgs false
namespace Go.Proofs.YtkcmghlhpbepcaaGreatDoor
open Go.RowKit Go.Proofs
theorem Gv{l:List UInt8}(h:l.length<2):lK l=0:=by
 unfold lK
 repeat rw[if_neg (fun e=>by rw[e]at h;simp at h)]
theorem La{l:List UInt8}(h:lK l≠0):2≤l.length:=by
 rcases Nat.lt_or_ge l.length 2 with e|e
 ·exact absurd (Gv e) h
 ·exact e
theorem EH{b:Nat}{l:List UInt8}(h:jM b l=true):1≤l.length:=by
 unfold jM at h;rw[Bool.and_eq_true]at h;cases l with
 |nil=>simp at h
 |cons c l=>simp
theorem NJ{l:List UInt8}(h:(iM l).2=true):2≤l.length:=by
 unfold iM at h
 split at h
 ·unfold j6 at h
  split at h
  ·rename_i hd
   have:=EH hd;simp at this;omega
  ·cases h
 ·split at h
  ·unfold j6 at h
   split at h
   ·rename_i hd
    have:=EH hd;have:=List.length_tail (l:=l);omega
   ·cases h
  ·unfold ru at h
   split at h
   ·cases h
   ·rename_i hn
    exact La hn
theorem Ay:∀(n:Nat) (l:List UInt8),l.length≤n→(iK l).length≤l.length
 |0,l,h=>by
  have:l=[]:=List.eq_nil_of_length_eq_zero (by omega);rw[this,q8];exact Nat.le_refl _
 |n+1,[],h=>by rw[q8];exact Nat.le_refl _
 |n+1,c::l,h=>by
  simp only[List.length_cons]at h;rw[qQ]
  split
  ·split
   ·rename_i hm
    rw[Bool.and_eq_true]at hm;have h1:=mK 59 l;rw[if_pos hm.1]at h1;have h2:=NJ hm.2;have h3:=Ep (gH 59 l).1;have h4:=Ay n (gH 59 l).2.1 (by omega);simp only[List.length_append,List.length_cons];omega
   ·have:=Ay n l (by omega)
    simp only[List.length_cons];omega
  ·have:=Ay n l (by omega)
   simp only[List.length_cons];omega
theorem hasL_mem{l:List UInt8}{c:UInt8}(h:hasL l c.toNat=false):c∉l:=by
 intro hm;unfold hasL at h;rw[List.any_eq_false]at h;exact h c hm (by simp)
theorem Lb(q:Bool)(c:UInt8):1≤(oI q c).length:=by
 unfold oI
 repeat' split
 all_goals simp
theorem wr_ge(q:Bool):∀l,l.length≤(wrL q l).length
 | []=>by simp
 | [c]=>by rw[wrL];exact Lb q c
 |c::d::l=>by
  rw[wrL]
  split
  ·have:=wr_ge q l
   simp;omega
  ·have:=wr_ge q (d::l)
   have:=Lb q c;simp at *;omega
end Go.Proofs.YtkcmghlhpbepcaaGreatDoor
namespace Go.Proofs.YtkcmghlhpbepcaaGreatDoor
open Go.Proofs
def dS(l:List (Txt×Txt)):Txt:=l.flatMap fun a=>32::(a.1++61::34::(wrL true a.2++[34]))
def lX(b:Bool):Txt:=if b then [32,47]else []
def jG(o:Txt)(t:Tok):Txt:=o++t.name++dS t.attrs++lX t.self++[62]
def nP(raw:Bool)(t:Tok):Txt:=
 if t.kind=0 then(if raw then t.data else wrL false t.data)
 else if t.kind=1 then jG [60] t
 else if t.kind=2 then jG [60,47] ⟨0,t.name,[],[],false⟩
 else if t.kind=3 then [60,33,45,45]++t.data++[45,45,62]
 else if t.kind=4 then [60,33,100,111,99,116,121,112,101,32]++t.data++[62]
 else []
def qL(t:Tok):Bool:=t.kind==1&&mJ t.name
def eu(raw:Bool):List Tok→Txt
 | []=>[]
 |t::r=>nP raw t++eu (qL t) r
def yh(l:List Tok):Txt:=eu false l
structure qy (s:Txt):Prop where
 ne:s≠[]
 low:iJ s=s
 first:∀c r,s=c::r→cO c=false∧c≠47∧c≠62
 rest:∀x∈s.tail,bS x=false∧x≠61
structure qN (s:Txt):Prop where
 low:iJ s=s
 letter:gu s=true
 all:∀x∈s,bS x=false
theorem QF{p:UInt8→Bool}{c:UInt8}{r:Txt}(h:p c=true):(c::r).findIdx p=0:=by simp[List.findIdx_cons,h]
theorem QG{c:UInt8}{r:Txt}(h:cO c=false):lu (c::r)=c::r:=by
 unfold lu;rw[QF (by simp[h])];rfl
theorem MB{l:Txt}{n:Nat}{c:UInt8}(e:c.toNat=n)(h:hasL l n=false):c∉l:=by
 subst e;exact hasL_mem h
theorem RP{nm v r:Txt}(hn:qy nm):kV (nm++61::34::(wrL true v++34::r))=((nm,v),r,true):=by
 obtain⟨c,t,rfl⟩:=List.exists_cons_of_ne_nil hn.ne
 have hk:o9 (c::t++61::34::(wrL true v++34::r))=(c::t).length:=by
  unfold o9
  rw[List.cons_append,List.tail_cons,Fv (by decide) (fun x hx=>by
   have:=hn.rest x hx;simp[this.1,this.2])]
  simp;omega
 have e1:(c::t++61::34::(wrL true v++34::r)).take (c::t).length=c::t:=List.take_left;have e2:(c::t++61::34::(wrL true v++34::r)).drop (c::t).length=61::34::(wrL true v++34::r):=List.drop_left;have e3:gH 34 (wrL true v++34::r)=(wrL true v,r,true):=OI (MB (by decide) (Ae true 34 (by simp) v));unfold kV;rw[hk,e1,e2,hn.low];unfold qZ;rw[QG (by decide)];simp only[if_true];rw[QG (by decide)];simp[zB,e3,Ir]
theorem Oh(acc:List (Txt×Txt))(b:Bool)(r:Txt):ku acc (lX b++62::r)=some (acc,b,r):=by
 cases b with
 |false=>exact attrs_gt acc r
 |true=>
  have hg:qm (32::47::62::r)=2:=by simp[qm,List.findIdx_cons,cO]
  show ku acc (32::47::62::r)=_;rw[yH,vv,hg];simp
theorem addA_new{acc:List (Txt×Txt)}{a:Txt×Txt}(h:∀b∈acc,b.1≠a.1):za acc a=acc++[a]:=by
 unfold za;rw[if_neg];rw[List.any_eq_true];rintro⟨b,hb,e⟩;exact h b hb (by simpa using e)
theorem Fy(b:Bool)(r:Txt):∀(l acc:List (Txt×Txt)),(∀a∈l,qy a.1)→((acc++l).map Prod.fst).Nodup→ku acc (dS l++(lX b++62::r))=some (acc++l,b,r)
 | [],acc,_,_=>by simpa [dS]using Oh acc b r
 |a::l,acc,h1,h2=>by
  have ha:=h1 a (by simp);obtain⟨nm,v⟩:=a;simp only at ha;have e0:dS ((nm,v)::l)++(lX b++62::r)=32::(nm++61::34::(wrL true v++34::(dS l++(lX b++62::r)))):=by simp[dS]
  have hb:=RP (v:=v) (r:=dS l++(lX b++62::r)) ha;obtain⟨c,t,rfl⟩:=List.exists_cons_of_ne_nil ha.ne;obtain⟨f1,f2,f3⟩:=ha.first c t rfl
  have hg:qm (32::(c::t++61::34::(wrL true v++34::(dS l++(lX b++62::r)))))=1:=by
   unfold qm;rw[List.findIdx_cons,show(!cO 32&&(32:UInt8) !=47)=false from by decide,List.cons_append,QF (by simp[f1,f2])];simp
  have hne:∀b∈acc,b.1≠(c::t):=by
   intro x hx e;rw[List.map_append,List.nodup_append]at h2;exact h2.2.2 x.1 (List.mem_map_of_mem hx) (c::t) (by simp) e
  rw[e0,yH,hg];rw[List.cons_append]at hb⊢;simp only[List.drop_succ_cons,List.drop_zero];rw[if_neg f3,hb];simp only[if_true];rw[addA_new hne,Fy b r l _ (fun a ha=>h1 a (by simp[ha])) (by simpa using h2)];simp
theorem Kj(l:List (Txt×Txt))(b:Bool)(r:Txt):∃c q,dS l++(lX b++62::r)=c::q∧bS c=true:=by
 cases l with
 |nil=>
  cases b with
  |false=>exact⟨62,r,rfl,by decide⟩
  |true=>exact⟨32,47::62::r,rfl,by decide⟩
 |cons a l=>exact⟨32,_,rfl,by decide⟩
theorem Dn{nm r:Txt}{l:List (Txt×Txt)}{b:Bool}(hn:qN nm)(h1:∀a∈l,qy a.1)(h2:(l.map Prod.fst).Nodup):
 eG (nm++(dS l++(lX b++62::r)))=some (⟨0,nm,l,[],b⟩,r):=by
 obtain⟨c,q,e,hc⟩:=Kj l b r;have h3:=Fy b r l [] h1 (by simpa using h2);rw[e]at h3⊢;rw[Mx hn.all hc,h3,hn.low];rfl
theorem Fz{s r:Txt}(h:gu s=true):gu (s++r)=true:=by
 cases s with
 |nil=>simp[gu]at h
 |cons c t=>exact h
theorem zP{nm r:Txt}{l:List (Txt×Txt)}{b:Bool}(hn:qN nm)(h1:∀a∈l,qy a.1)(h2:(l.map Prod.fst).Nodup):
 iL (nm++(dS l++(lX b++62::r)))=some (if mJ nm||mq nm then(⟨1,nm,l,[],b⟩::jq nm r,jo nm r)else([⟨1,nm,l,[],b⟩],r)):=by
 unfold iL;rw[if_pos (Fz hn.letter),oq,Dn hn h1 h2];simp
theorem open_end{nm r:Txt}(hn:qN nm):iL (47::(nm++62::r))=some ([⟨2,nm,[],[],false⟩],r):=by
 have h:=Dn (r:=r) (l:=[]) (b:=false) hn (by simp) (by simp);simp only[dS,lX,List.flatMap_nil,List.nil_append,Bool.false_eq_true,if_false]at h;unfold iL;rw[if_neg (by simp[gu,lI]),if_pos (by simp[Lib.hasPrefix,Fz hn.letter]),List.tail_cons,oq,h];simp
theorem RG{nm r:Txt}:iy nm (60::47::(nm++62::r))=0:=by
 rw[iy,Oe (by decide)];rfl
theorem Fq(x:Txt):(60:UInt8)∉wrL false x:=MB (by decide) (Ae false 60 (by simp) x)
theorem wr_nil{q:Bool}{x:Txt}(h:x≠[]):wrL q x≠[]:=by
 intro e;have h1:=wr_ge q x;rw[e]at h1;exact h (List.eq_nil_of_length_eq_zero (by simpa using h1))
def plainB(s but:Txt):Bool:=s.all (fun c=>!(cO c||(decide (65≤c.toNat)&&decide (c.toNat≤90))||c==0||but.contains c))&& !s.isEmpty
def rightB(s:Txt):Bool:=plainB s [47,62]&&gu s
def attrB(s:Txt):Bool:=plainB s [47,62,34,39,60,61]
def okB(c:UInt8):Bool:=!((decide (65≤c.toNat)&&decide (c.toNat≤90))||c==32||c==9||c==10||c==12||c==13||c==62)
def Eb(s:Txt):Bool:=s.all okB
structure Fx (s:Txt):Prop where
 ne:s≠[]
 ok:Eb s=true
structure wT (l:List (Txt×Txt)):Prop where
 each:∀a∈l,Fx a.1
 once:(l.map Prod.fst).Nodup
structure kY (t:Tok):Prop where
 ge:0≤t.kind
 le:t.kind≤4
 tag:t.kind=1∨t.kind=2→Fx t.name∧t.data=[]
 other:t.kind≠1→t.kind≠2→t.name=[]
 start:t.kind≠1→t.attrs=[]∧t.self=false
 text:t.kind=0→t.data≠[]
 attrs:wT t.attrs
theorem RL(i:Int):(Utf8.encode i).data.toList≠[]:=by
 unfold Utf8.encode;simp only
 repeat' split
 all_goals simp
theorem RN{l:Txt}(h:(iM l).2=true):(iM l).1≠[]:=by
 unfold iM j6 ru zl at *
 repeat' split
 all_goals first|exact RL _|simp_all
theorem Kg:∀ {l:Txt},l≠[]→iK l≠[]
 | [],h=>absurd rfl h
 |c::l,_=>by
  rw[qQ]
  split
  ·split
   ·rename_i h
    rw[Bool.and_eq_true]at h;have:=RN h.2;simp[this]
   ·simp
  ·simp
theorem Mt{p:UInt8→Bool}:∀ {s:Txt} {x:UInt8},x∈s.take (s.findIdx p)→p x=false
 | [],_,h=>by simp at h
 |c::s,x,h=>by
  rw[List.findIdx_cons]at h;cases hc:p c with
  |true=>rw[hc]at h;simp at h
  |false=>
   rw[hc]at h;simp at h
   rcases h with rfl|h
   ·exact hc
   ·exact Mt h
theorem NW{p:UInt8→Bool}:∀ {s r:Txt} {c:UInt8},s.drop (s.findIdx p)=c::r→p c=true
 | [],_,_,h=>by simp at h
 |x::s,r,c,h=>by
  rw[List.findIdx_cons]at h;cases hx:p x with
  |true=>
   rw[hx]at h;simp at h;rw[←h.1];exact hx
  |false=>
   rw[hx]at h;simp at h;exact NW h
theorem low_ok:∀c:UInt8,(bS c||okB (lJ c))=true:=jh (by decide +kernel)
theorem RO:∀c:UInt8,(cO c||c==62||okB (lJ c))=true:=jh (by decide +kernel)
theorem Hl:∀c:UInt8,(!lI c|| !bS c)=true:=jh (by decide +kernel)
theorem QC{s:Txt}(h:∀x∈s,bS x=false):Eb (iJ s)=true:=by
 unfold Eb iJ;rw[List.all_eq_true];intro x hx;obtain⟨y,hy,rfl⟩:=List.mem_map.1 hx;have:=low_ok y;rw[h y hy]at this;simpa using this
theorem Hf(s:Txt):(kV s).1.1=iJ (s.take (o9 s)):=by
 unfold kV qZ zB
 repeat' split
 all_goals rfl
theorem zQ{c:UInt8}{s:Txt}(h1:cO c=false)(h2:c≠62):Fx (kV (c::s)).1.1:=by
 have e:o9 (c::s)=s.findIdx (fun c=>bS c||c==61)+1:=by unfold o9;simp only[List.tail_cons];omega
 rw[Hf,e,List.take_succ_cons];refine⟨by simp[iJ],?_⟩;have h3:=RO c;rw[h1,show(c==62)=false from beq_eq_false_iff_ne.2 h2]at h3
 have h4:=QC (s:=s.take (s.findIdx (fun c=>bS c||c==61))) (fun x hx=>by
  have:=Mt hx;simp only[Bool.or_eq_false_iff]at this;exact this.1)
 unfold Eb iJ at *;rw[List.map_cons,List.all_cons,h4];simpa using h3
theorem addA_ok{acc:List (Txt×Txt)}{a:Txt×Txt}(h:wT acc)(ha:Fx a.1):wT (za acc a):=by
 unfold za
 split
 ·exact h
 ·rename_i hn
  refine⟨?_,?_⟩
  ·intro b hb
   rw[List.mem_append]at hb
   rcases hb with hb|hb
   ·exact h.each b hb
   ·simp at hb
    subst hb;exact ha
  ·rw[List.map_append,List.nodup_append]
   refine⟨h.once,by simp,?_⟩;intro x hx y hy;simp at hy;subst hy;intro e;subst e;obtain⟨b,hb,hb2⟩:=List.mem_map.1 hx;exact hn (List.any_eq_true.2 ⟨b,hb,by simp[hb2]⟩)
theorem Fu{s r:Txt}{c:UInt8}(h:s.drop (qm s)=c::r):cO c=false∧c≠47:=by
 have:=NW h;simpa using this
theorem Hr:∀(n:Nat) (acc:List (Txt×Txt)) (s:Txt) r,wT acc→kU n acc s=some r→wT r.1
 |0,_,_,_,_,h=>by simp[kU]at h
 |n+1,acc,s,r,ha,h=>by
  unfold kU at h;cases hd:s.drop (qm s)with
  |nil=>rw[hd]at h;simp at h
  |cons c s1=>
   rw[hd]at h;have hg:=Fu hd;simp only at h
   split at h
   ·simp at h
    subst h;exact ha
   ·rename_i hc
    split at h
    ·exact Hr n _ _ r (addA_ok ha (zQ hg.1 hc)) h
    ·simp at h
theorem Kh:wT []:=⟨by simp,by simp⟩
theorem Hg{s:Txt}{r:Tok×Txt}(hl:gu s=true)(h:eG s=some r):r.1.kind=0∧Fx r.1.name∧(∀x∈r.1.name,bS x=false)∧r.1.data=[]∧wT r.1.attrs:=by
 unfold eG at h;cases ha:ku [] (s.drop (s.findIdx bS))with
 |none=>rw[ha]at h;simp at h
 |some q=>
  rw[ha]at h;simp at h;have hq:=Hr _ _ _ _ Kh ha;have hl2:∀c:UInt8,(bS c|| !bS (lJ c))=true:=jh (by decide +kernel)
  subst h;refine⟨rfl,⟨?_,QC fun x hx=>Mt hx⟩,?_,rfl,hq⟩
  ·cases s with
   |nil=>simp[gu]at hl
   |cons c t=>
    have:=Hl c;have hc:lI c=true:=hl;rw[hc]at this;have hc2:bS c=false:=by simpa using this
    simp[iJ,List.findIdx_cons,hc2]
  ·intro x hx
   unfold iJ at hx;obtain⟨y,hy,rfl⟩:=List.mem_map.1 hx;have:=hl2 y;rw[Mt hy]at this;simpa using this
theorem QD{d:Txt}(h:d≠[]):kY ⟨0,[],[],d,false⟩:=⟨by simp,by simp,by simp,by simp,by simp,fun _=>h,Kh⟩
theorem Ht(nm s:Txt):∀t∈jq nm s,kY t:=by
 unfold jq
 split
 ·simp
 ·rename_i h
  intro t ht;simp only[List.mem_singleton]at ht;subst ht;refine QD ?_
  split
  ·exact Kg h
  ·exact h
theorem tag_ok{k:Int}{s:Txt}(hk:k=1∨k=2)(hl:gu s=true):∀t∈(oq k s).1,kY t:=by
 unfold oq;cases ho:eG s with
 |none=>simp
 |some r=>
  obtain⟨h1,h2,h3,h4,h5⟩:=Hg hl ho;obtain⟨t,q⟩:=r;simp only at *
  split
  ·intro x hx
   simp only[List.mem_singleton]at hx;subst hx;exact⟨by simp,by simp,fun _=>⟨h2,rfl⟩,by simp,by simp,by simp,Kh⟩
  ·rename_i hk2
   have hk1:k=1:=by omega
   subst hk1;have h0:kY ⟨1,t.name,t.attrs,t.data,t.self⟩:=⟨by simp,by simp,fun _=>⟨h2,h4⟩,by simp,by simp,by simp,h5⟩
   split
   ·intro x hx
    rw[List.mem_cons]at hx
    rcases hx with rfl|hx
    ·exact h0
    ·exact Ht _ _ x hx
   ·intro x hx
    simp only[List.mem_singleton]at hx;subst hx;exact h0
theorem QE{k:Int}{d:Txt}(hk:k=3∨k=4):kY ⟨k,[],[],d,false⟩:=by
 rcases hk with rfl|rfl<;>exact⟨by simp,by simp,by simp,by simp,by simp,by simp,Kh⟩
theorem yg{k:Int}(s e:Txt)(hk:k=3∨k=4):∀t∈(lG k s e).1,kY t:=by
 intro t ht;unfold lG at ht;simp only[List.mem_singleton]at ht;subst ht;exact QE hk
theorem Og(s:Txt):∀t∈(iV s).1,kY t:=by
 have h3:kY ⟨3,[],[],[],false⟩:=QE (.inl rfl);unfold iV
 split
 ·simpa using h3
 ·split
  ·simpa using h3
  ·exact yg _ _ (.inl rfl)
theorem open_ok{s:Txt}{r:List Tok×Txt}(h:iL s=some r):∀t∈r.1,kY t:=by
 unfold iL at h
 split at h
 ·rename_i hl
  simp at h;subst h;exact tag_ok (.inl rfl) hl
 ·split at h
  ·rename_i hl
   rw[Bool.and_eq_true]at hl;simp at h;subst h;exact tag_ok (.inr rfl) hl.2
  ·split at h
   ·simp at h;subst h;simp
   ·split at h
    ·simp at h;subst h;exact Og _
    ·split at h
     ·simp at h;subst h;exact yg _ _ (.inr rfl)
     ·split at h
      ·simp at h;subst h;exact yg _ _ (.inl rfl)
      ·split at h
       ·simp at h;subst h;exact yg _ _ (.inl rfl)
       ·split at h
        ·simp at h;subst h;exact yg _ _ (.inl rfl)
        ·simp at h
theorem Ki(t:Txt):∀x∈eO t,kY x:=by
 unfold eO
 split
 ·simp
 ·rename_i h
  intro x hx;simp only[List.mem_singleton]at hx;subst hx;exact QD (Kg h)
theorem Ec:∀(n:Nat) (t s:Txt),∀x∈runN n t s,kY x
 |0,t,s,x,h=>Ki t x h
 |n+1,t,s,x,h=>by
  unfold runN at h;cases hd:s.drop (gI s)with
  |nil=>rw[hd]at h;exact Ki _ x h
  |cons c s1=>
   rw[hd]at h;simp only at h;cases ho:iL s1 with
   |none=>rw[ho]at h;exact Ec n _ _ x h
   |some r=>
    rw[ho]at h;obtain⟨ts,q⟩:=r;simp only[List.mem_append]at h
    rcases h with(h|h)|h
    ·exact Ki _ x h
    ·exact open_ok ho x h
    ·exact Ec n _ _ x h
theorem Qv{c:UInt8}{r:Txt}:∀ {a:Txt},c∉a→gH c (a++c::r)=(a,r,true)
 | [],_=>by simp[gH]
 |x::a,h=>by
  simp only[List.mem_cons,not_or]at h;rw[List.cons_append,gH,if_neg (fun e=>h.1 e.symm),Qv h.2]
theorem J7{X sub:Txt}{i:Nat}(h:Lib.occAt X sub i=true)(k:Nat)(hk:k<sub.length):X[i+k]?=sub[k]?:=by
 obtain⟨t,ht⟩:=List.isPrefixOf_iff_prefix.1 h;rw[←List.getElem?_drop,←ht,List.getElem?_append_left hk]
theorem wS{p:UInt8→Bool}:∀l:Txt,(l.dropWhile p).length≤l.length
 | []=>by simp
 |c::l=>by
  have:=wS (p:=p) l;rw[List.dropWhile_cons]
  split
  ·simp only[List.length_cons];omega
  ·exact Nat.le_refl _
structure rP (d:Txt):Prop where
 no1:∀j,Lib.occAt d [45,45,62] j=false
 no2:∀j,Lib.occAt d [45,45,33,62] j=false
 gt:Lib.hasPrefix d [62]=false
 arrow:Lib.hasPrefix d [45,62]=false
structure DocOK (d:Txt):Prop where
 no:(62:UInt8)∉d
 trim:jK (32::d)=d
structure qM (nm:Txt) (l:List (Txt×Txt)):Prop where
 name:qN nm
 attrs:∀a∈l,qy a.1
 once:(l.map Prod.fst).Nodup
def Closed(nm:Txt)(r:List Tok):Prop:=r=[]∨∃q,r=⟨2,nm,[],[],false⟩::q
def G9(nm d:Txt):Prop:=∀j,j<d.length→gD nm (d.drop j)=false
inductive Good:List Tok→Prop
 |nil:Good []
 |text {d:Txt} {r:List Tok}:d≠[]→Good r→Good (⟨0,[],[],d,false⟩::r)
 |start {nm:Txt} {l:List (Txt×Txt)} {b:Bool} {r:List Tok}:qM nm l→(mJ nm||mq nm)=false→Good r→Good (⟨1,nm,l,[],b⟩::r)
 |shut {nm:Txt} {l:List (Txt×Txt)} {b:Bool} {r:List Tok}:qM nm l→(mJ nm||mq nm)=true→Closed nm r→Good r→Good (⟨1,nm,l,[],b⟩::r)
 |full {nm:Txt} {l:List (Txt×Txt)} {b:Bool} {d:Txt} {r:List Tok}:qM nm l→(mJ nm||mq nm)=true→d≠[]→(mJ nm=true→G9 nm d)→Closed nm r→Good r→Good (⟨1,nm,l,[],b⟩::⟨0,[],[],d,false⟩::r)
 |shuts {nm:Txt} {r:List Tok}:qN nm→Good r→Good (⟨2,nm,[],[],false⟩::r)
 |note {d:Txt} {r:List Tok}:rP d→Good r→Good (⟨3,[],[],d,false⟩::r)
 |doct {d:Txt} {r:List Tok}:DocOK d→Good r→Good (⟨4,[],[],d,false⟩::r)
theorem Mk{s sub:Txt}{n j:Nat}(h:Lib.occAt (s.take n) sub j=true)(hs:sub≠[]):Lib.occAt s sub j=true∧j+sub.length≤n:=by
 have hp:=List.isPrefixOf_iff_prefix.1 h;have hl:=hp.length_le;have h0:0<sub.length:=List.length_pos_iff.2 hs;rw[List.length_drop,List.length_take]at hl;refine⟨List.isPrefixOf_iff_prefix.2 ?_,by omega⟩;rw[List.drop_take]at hp;exact hp.trans (List.take_prefix _ _)
theorem occ_room{s sub:Txt}{j:Nat}(h:Lib.occAt s sub j=true)(hs:sub≠[]):j+sub.length≤s.length:=by
 have hp:=List.isPrefixOf_iff_prefix.1 h;have hl:=hp.length_le;have h0:0<sub.length:=List.length_pos_iff.2 hs;rw[List.length_drop]at hl;omega
theorem uJ{s sub:Txt}{j:Nat}(h:Lib.occAt s sub j=true)(hs:sub≠[]):0≤Lib.index s sub∧Lib.index s sub≤j:=by
 have:=occ_room h hs
 rcases Lib.index_spec s sub with⟨h1,h2⟩|⟨i,h1,h2,h3,h4⟩
 ·rw[h2 j (by omega)]at h
  cases h
 ·rw[h1]
  refine⟨by omega,?_⟩
  rcases Nat.lt_or_ge j i with e|e
  ·rw[h4 j e]at h
   cases h
  ·omega
theorem Ml{s sub:Txt}(h:Lib.index s sub<0)(hs:sub≠[])(j:Nat):Lib.occAt s sub j=false:=by
 cases ho:Lib.occAt s sub j with
 |false=>rfl
 |true=>
  have:=uJ ho hs;omega
theorem Mq{s p:Txt}{n:Nat}(h:Lib.hasPrefix s p=false):Lib.hasPrefix (s.take n) p=false:=by
 cases hp:Lib.hasPrefix (s.take n) p with
 |false=>rfl
 |true=>
  have h1:=List.isPrefixOf_iff_prefix.1 hp;have:Lib.hasPrefix s p=true:=List.isPrefixOf_iff_prefix.2 (h1.trans (List.take_prefix _ _));rw[h]at this;cases this
theorem Qw{d:Txt}(h:(62:UInt8)∉d):rP d:=by
 have occ:∀(sub:Txt) j,(62:UInt8)∈sub→Lib.occAt d sub j=false:=by
  intro sub j hm;cases ho:Lib.occAt d sub j with
  |false=>rfl
  |true=>
   have hp:=List.isPrefixOf_iff_prefix.1 ho;exact absurd (List.mem_of_mem_drop (hp.subset hm)) h
 refine⟨fun j=>occ _ j (by decide),fun j=>occ _ j (by decide),?_,?_⟩
 ·exact occ [62] 0 (by decide)
 ·exact occ [45,62] 0 (by decide)
theorem J8{s e:Txt}{i:Nat}(h:Lib.index s e=i):Lib.cut s e=(s.take i,s.drop (i+e.length),true):=by
 unfold Lib.cut;rw[if_pos (by omega),h];simp
theorem cut_miss{s e:Txt}(h:Lib.index s e<0):Lib.cut s e=(s,[],false):=by
 unfold Lib.cut;rw[if_neg (by omega)]
theorem Ke{s:Txt}(h1:Lib.hasPrefix s [62]=false)(h2:Lib.hasPrefix s [45,62]=false):rP (jB s (if 0≤Lib.index s [45,45,33,62]∧(Lib.index s [45,45,62]<0∨Lib.index s [45,45,33,62]<Lib.index s [45,45,62])then [45,45,33,62]else [45,45,62])).1:=by
 have key:∀n,(∀j,Lib.occAt s [45,45,62] j=true→n<j+3)→(∀j,Lib.occAt s [45,45,33,62] j=true→n<j+4)→rP (s.take n):=by
  intro n k1 k2;refine⟨?_,?_,Mq h1,Mq h2⟩
  ·intro j
   cases ho:Lib.occAt (s.take n) [45,45,62] j with
   |false=>rfl
   |true=>
    have:=Mk ho (by simp);have h3:=k1 j this.1;have h4:=this.2;simp at h4;omega
  ·intro j
   cases ho:Lib.occAt (s.take n) [45,45,33,62] j with
   |false=>rfl
   |true=>
    have:=Mk ho (by simp);have h3:=k2 j this.1;have h4:=this.2;simp at h4;omega
 split
 ·rename_i hc
  obtain⟨k,hk⟩:=Int.eq_ofNat_of_zero_le hc.1;unfold jB;rw[J8 hk];refine key k ?_ ?_
  ·intro j hj
   have:=uJ hj (by simp);omega
  ·intro j hj
   have:=uJ hj (by simp);omega
 ·rename_i hc
  unfold jB
  by_cases hi:Lib.index s [45,45,62]<0
  ·rw[cut_miss hi]
   have hk:Lib.index s [45,45,33,62]<0:=by
    rcases Int.lt_or_le (Lib.index s [45,45,33,62]) 0 with e|e
    ·exact e
    ·exact absurd ⟨e,.inl hi⟩ hc
   exact⟨Ml hi (by simp),Ml hk (by simp),h1,h2⟩
  ·obtain⟨i,hi2⟩:=Int.eq_ofNat_of_zero_le (Int.not_lt.1 hi)
   rw[J8 hi2];refine key i ?_ ?_
   ·intro j hj
    have:=uJ hj (by simp);omega
   ·intro j hj
    have:=uJ hj (by simp)
    rcases Int.lt_or_le (Lib.index s [45,45,33,62]) (Lib.index s [45,45,62])with e|e
    ·exact absurd ⟨this.1,.inr e⟩ hc
    ·omega
theorem Mr(s:Txt):(62:UInt8)∉(jB s [62]).1:=by
 unfold jB;rw[Nr];exact KV 62 s
theorem dw_head{p:UInt8→Bool}:∀ {l:Txt} {c:UInt8} {r:Txt},l.dropWhile p=c::r→p c=false
 | [],_,_,h=>by simp at h
 |x::l,c,r,h=>by
  rw[List.dropWhile_cons]at h
  split at h
  ·exact dw_head h
  ·rename_i hx
   simp only[List.cons.injEq]at h;rw[←h.1];simpa using hx
theorem Qx{p:UInt8→Bool}{l:Txt}(h:∀c r,l=c::r→p c=false):l.dropWhile p=l:=by
 cases l with
 |nil=>rfl
 |cons c r=>rw[List.dropWhile_cons,h c r rfl];simp
theorem N8{p:UInt8→Bool}{x:UInt8}:∀ {l:Txt},x∈l.dropWhile p→x∈l
 | [],h=>by simp at h
 |c::l,h=>by
  rw[List.dropWhile_cons]at h
  split at h
  ·exact List.mem_cons_of_mem _ (N8 h)
  ·exact h
theorem trim_mem{x:UInt8}{s:Txt}(h:x∈jK s):x∈s:=by
 unfold jK at h;rw[List.mem_reverse]at h;have:=N8 h;rw[List.mem_reverse]at this;exact N8 this
theorem He{p:UInt8→Bool}:∀l:Txt,∃a,l=a++l.dropWhile p
 | []=>⟨[],rfl⟩
 |c::l=>by
  rw[List.dropWhile_cons]
  split
  ·obtain⟨a,ha⟩:=He (p:=p) l
   exact⟨c::a,by rw[List.cons_append,←ha]⟩
  ·exact⟨[],rfl⟩
theorem RI(s:Txt):jK (32::jK s)=jK s:=by
 have e:(32::jK s).dropWhile cO=(jK s).dropWhile cO:=by rw[List.dropWhile_cons,if_pos (by decide)]
 have h1:(jK s).dropWhile cO=jK s:=by
  refine Qx ?_;intro c r hc;unfold jK at hc;obtain⟨a,ha⟩:=He (p:=cO) (s.dropWhile cO).reverse;have h2:=congrArg List.reverse ha;rw[List.reverse_reverse,List.reverse_append,hc]at h2;rw[List.cons_append]at h2;exact dw_head h2
 have h2:(jK s).reverse.dropWhile cO=(jK s).reverse:=by
  refine Qx ?_;intro c r hc;unfold jK at hc;rw[List.reverse_reverse]at hc;exact dw_head hc
 show(((32::jK s).dropWhile cO).reverse.dropWhile cO).reverse=jK s;rw[e,h1,h2,List.reverse_reverse]
theorem doc_ok(s:Txt):DocOK (jK (jB s [62]).1):=⟨fun h=>Mr s (trim_mem h),RI _⟩
theorem Qy(s:Txt):iJ (iJ s)=iJ s:=by
 have h:∀c:UInt8,(lJ (lJ c)==lJ c)=true:=jh (by decide +kernel)
 unfold iJ;rw[List.map_map];refine List.map_congr_left fun c _=>?_
 exact beq_iff_eq.1 (h c)
theorem N9:∀c:UInt8,(!lI c||lI (lJ c))=true:=jh (by decide +kernel)
theorem Ms:∀c:UInt8,(!lI (lJ c)||lI c)=true:=jh (by decide +kernel)
theorem Dk:∀c:UInt8,(bS (lJ c)==bS c)=true:=jh (by decide +kernel)
theorem low_eq61:∀c:UInt8,((lJ c==61)==(c==61))=true:=jh (by decide +kernel)
theorem low_gap:∀c:UInt8,((cO (lJ c)||lJ c==47||lJ c==62)==(cO c||c==47||c==62))=true:=jh (by decide +kernel)
theorem Oa{c:UInt8}{s:Txt}(h1:cO c=false)(h3:c≠47)(h2:c≠62):qy (kV (c::s)).1.1:=by
 have e:o9 (c::s)=s.findIdx (fun c=>bS c||c==61)+1:=by unfold o9;simp only[List.tail_cons];omega
 have hne:=(zQ (s:=s) h1 h2).ne;rw[Hf,e,List.take_succ_cons]at hne⊢;refine⟨hne,Qy _,?_,?_⟩
 ·intro d r hd
  simp only[iJ,List.map_cons,List.cons.injEq]at hd;have:=low_gap c;rw[h1,show(c==47)=false from beq_eq_false_iff_ne.2 h3,show(c==62)=false from beq_eq_false_iff_ne.2 h2,hd.1]at this;simp at this;exact⟨this.1.1,this.1.2,this.2⟩
 ·intro x hx
  simp only[iJ,List.map_cons,List.tail_cons,List.mem_map]at hx;obtain⟨y,hy,rfl⟩:=hx;have h4:=Mt hy;simp only[Bool.or_eq_false_iff]at h4;have h5:=Dk y;have h6:=low_eq61 y;rw[h4.1]at h5;rw[h4.2]at h6;simp at h5 h6;exact⟨h5,h6⟩
theorem Dl:∀(n:Nat) (acc:List (Txt×Txt)) (s:Txt) r,(∀a∈acc,qy a.1)→kU n acc s=some r→∀a∈r.1,qy a.1
 |0,_,_,_,_,h=>by simp[kU]at h
 |n+1,acc,s,r,ha,h=>by
  unfold kU at h;cases hd:s.drop (qm s)with
  |nil=>rw[hd]at h;simp at h
  |cons c s1=>
   rw[hd]at h;have hg:=Fu hd;simp only at h
   split at h
   ·simp at h
    subst h;exact ha
   ·rename_i hc
    split at h
    ·refine Dl n _ _ r ?_ h
     intro a hm;unfold za at hm
     split at hm
     ·exact ha a hm
     ·rw[List.mem_append]at hm
      rcases hm with hm|hm
      ·exact ha a hm
      ·simp only[List.mem_singleton]at hm
       subst hm;exact Oa hg.1 hg.2 hc
    ·simp at h
theorem zQ9{s:Txt}{r:Tok×Txt}(hl:gu s=true)(h:eG s=some r):qM r.1.name r.1.attrs∧r.1.data=[]∧r.1.name=iJ (s.take (s.findIdx bS)):=by
 obtain⟨k1,k2,k3,k4,k5⟩:=Hg hl h;unfold eG at h;cases ha:ku [] (s.drop (s.findIdx bS))with
 |none=>rw[ha]at h;simp at h
 |some q=>
  rw[ha]at h;simp at h;have hq:=Dl _ _ _ _ (by simp) ha;subst h;refine⟨⟨⟨Qy _,?_,k3⟩,hq,k5.once⟩,rfl,rfl⟩;cases s with
  |nil=>simp[gu]at hl
  |cons c t=>
   have hc:lI c=true:=hl;have h1:=Hl c;rw[hc]at h1;have hc2:bS c=false:=by simpa using h1
   have h2:=N9 c;rw[hc]at h2;simp only[List.findIdx_cons,hc2,cond_false,List.take_succ_cons,iJ,List.map_cons];simpa [gu]using h2
theorem Ob{nm x y:Txt}(h:gD nm x=true):gD nm (x++y)=true:=by
 unfold gD at h
 split at h
 ·rename_i r
  simp only[Bool.and_eq_true,decide_eq_true_eq,beq_iff_eq]at h;obtain⟨⟨h1,h2⟩,h3⟩:=h;have e1:(r++y).take nm.length=r.take nm.length:=List.take_append_of_le_length (by omega);have e2:(r++y).drop nm.length=r.drop nm.length++y:=List.drop_append_of_le_length (by omega);cases hd:r.drop nm.length with
  |nil=>rw[hd]at h3;simp at h3
  |cons c t=>
   rw[hd]at h3;simp only[List.cons_append,gD];rw[e1,h2,e2,hd];simp[h3];omega
 ·cases h
theorem yO(nm:Txt):∀s:Txt,iy nm s≤s.length
 | []=>by simp[iy]
 |c::t=>by
  have:=yO nm t;rw[iy]
  split
  ·omega
  ·simp only[List.length_cons];omega
theorem Bn(nm:Txt):∀(s:Txt) (j:Nat),j<iy nm s→gD nm (s.drop j)=false
 | [],j,h=>by simp[iy]at h
 |c::t,j,h=>by
  rw[iy]at h
  split at h
  ·omega
  ·rename_i hc
   cases j with
   |zero=>simpa using hc
   |succ j=>
    rw[List.drop_succ_cons];exact Bn nm t j (by omega)
theorem Bo(nm:Txt):∀(s:Txt),s.drop (iy nm s)=[]∨gD nm (s.drop (iy nm s))=true
 | []=>by simp
 |c::t=>by
  rw[iy]
  split
  ·rename_i hc
   exact .inr hc
  ·rw[Nat.add_comm,List.drop_succ_cons]
   exact Bo nm t
theorem raw_ok(nm s:Txt):G9 nm (s.take (iy nm s)):=by
 intro j hj;have hl:=yO nm s;rw[List.length_take]at hj;cases hc:gD nm ((s.take (iy nm s)).drop j)with
 |false=>rfl
 |true=>
  have h1:=Ob (y:=s.drop (iy nm s)) hc;rw[←List.drop_append_of_le_length (by rw[List.length_take];omega),List.take_append_drop]at h1;rw[Bn nm s j (by omega)]at h1;cases h1
theorem Ho{t:Txt}{L:List Tok}(h:Good L):Good (eO t++L):=by
 unfold eO
 split
 ·exact h
 ·rename_i hn
  exact .text (Kg hn) h
theorem Mv{nm r:Txt}(hn:qN nm)(h:gD nm (60::47::r)=true):gu r=true∧iJ (r.take (r.findIdx bS))=nm:=by
 simp only[gD,Bool.and_eq_true,decide_eq_true_eq,beq_iff_eq]at h;obtain⟨⟨h1,h2⟩,h3⟩:=h;rw[hn.low]at h2;cases hd:r.drop nm.length with
 |nil=>rw[hd]at h3;simp at h3
 |cons c q=>
  rw[hd]at h3;have er:r=r.take nm.length++c::q:=by rw[←hd,List.take_append_drop]
  have ha:∀x∈r.take nm.length,bS x=false:=by
   intro x hx;have hm:lJ x∈nm:=by rw[←h2];exact List.mem_map_of_mem hx
   have h4:=hn.all _ hm;have h5:=Dk x;rw[h4]at h5;simpa using h5
  have hf:r.findIdx bS=nm.length:=by
   conv=>lhs;rw[er]
   rw[Fv h3 ha,List.length_take];omega
  rw[hf];refine⟨?_,h2⟩;have hl:=hn.letter;rw[←h2]at hl;rw[er];cases ht:r.take nm.length with
  |nil=>rw[ht]at hl;simp[iJ,gu]at hl
  |cons x y=>
   rw[ht]at hl;simp only[iJ,List.map_cons,gu]at hl;have h6:=Ms x;rw[hl]at h6;simpa [gu]using h6
theorem Qz{s:Txt}(hl:gu s=true):oq 2 s=([],[])∨∃q,oq 2 s=([⟨2,iJ (s.take (s.findIdx bS)),[],[],false⟩],q)∧qN (iJ (s.take (s.findIdx bS))):=by
 unfold oq;cases ho:eG s with
 |none=>exact .inl rfl
 |some r=>
  obtain⟨h1,h2,h3⟩:=zQ9 hl ho;obtain⟨t,q⟩:=r;simp only at *;refine .inr ⟨q,?_,?_⟩
  ·rw[h3];simp
  ·rw[←h3];exact h1.name
theorem Oc{s:Txt}(hl:gu s=true):iL (47::s)=some (oq 2 s):=by
 unfold iL;rw[if_neg (by simp[gu,lI]),if_pos (by simp[Lib.hasPrefix,hl])];rfl
theorem rQ{t r:Txt}{x:List Tok×Txt}(ho:iL r=some x):nk t (60::r)=eO t++x.1++nk [] x.2:=by
 have:=run_hit (t:=t) (a:=[]) (by simp) ho;simpa using this
theorem Od{nm s:Txt}(hn:qN nm)(h:s=[]∨gD nm s=true):Closed nm (nk [] s):=by
 rcases h with rfl|h
 ·left
  rw[Bq];rfl
 ·have h0:=h
  unfold gD at h0
  split at h0
  ·rename_i r
   obtain⟨h1,h2⟩:=Mv hn h;rw[rQ (Oc h1)]
   rcases Qz h1 with e|⟨q,e,_⟩
   ·rw[e]
    left
    simp[eO,Bq]
   ·rw[e,h2]
    right
    exact⟨nk [] q,by simp[eO]⟩
  ·cases h0
theorem NZ(nm s:Txt):(jo nm s).length≤s.length:=by simp[jo]
theorem Fw:∀(n:Nat) (t s:Txt),s.length<n→Good (nk t s)
 |0,_,_,h=>absurd h (Nat.not_lt_zero _)
 |n+1,t,s,h=>by
  rw[yP];cases hd:s.drop (gI s)with
  |nil=>
   have:=Ho (t:=t++s.take (gI s)) .nil;simpa using this
  |cons c s1=>
   have h1:s1.length<s.length:=by
    have:=congrArg List.length hd;simp at this;omega
   simp only;cases ho:iL s1 with
   |none=>exact Fw n _ _ (by omega)
   |some x=>
    have hle:=Br ho;obtain⟨ts,r⟩:=x;simp only at hle⊢;rw[List.append_assoc];refine Ho ?_;have ih:=Fw n [] r (by omega);unfold iL at ho
    split at ho
    ·rename_i hl
     simp only[Option.some.injEq]at ho;unfold oq at ho;cases hop:eG s1 with
     |none=>
      rw[hop]at ho;simp only[Prod.mk.injEq]at ho;obtain⟨rfl,rfl⟩:=ho;exact ih
     |some y=>
      rw[hop]at ho;have hyl:=wR hop;obtain⟨k1,k2,k3⟩:=zQ9 hl hop;obtain⟨y,q⟩:=y;simp only at k1 k2 k3 ho hyl;rw[if_neg (by decide)]at ho
      split at ho
      ·rename_i hrs
       simp only[Prod.mk.injEq]at ho;obtain⟨rfl,rfl⟩:=ho;rw[k2];have hcl:Closed y.name (nk [] (jo y.name q)):=Od k1.name (Bo y.name q);unfold jq
       split
       ·exact .shut k1 hrs hcl ih
       ·rename_i hne
        refine .full k1 hrs ?_ ?_ hcl ih
        ·split
         ·exact Kg hne
         ·exact hne
        ·intro hr
         have hs:mq y.name=false:=by
          unfold mJ inB at hr;rw[List.contains_iff_mem]at hr;simp only[EI,List.mem_cons,List.not_mem_nil,or_false]at hr
          rcases hr with e|e|e|e|e|e<;>(rw[e];decide)
         rw[hs];exact raw_ok y.name q
      ·rename_i hrs
       simp only[Prod.mk.injEq]at ho;obtain⟨rfl,rfl⟩:=ho;rw[k2];exact .start k1 (by simpa using hrs) ih
    ·split at ho
     ·rename_i hl
      rw[Bool.and_eq_true]at hl;simp only[Option.some.injEq]at ho
      rcases Qz hl.2 with e|⟨q,e,hn⟩
      ·rw[e]at ho
       simp only[Prod.mk.injEq]at ho;obtain⟨rfl,rfl⟩:=ho;exact ih
      ·rw[e]at ho
       simp only[Prod.mk.injEq]at ho;obtain⟨rfl,rfl⟩:=ho;exact .shuts hn ih
     ·have note:∀u,lG 3 u [62]=(ts,r)→Good (ts++nk [] r):=by
       intro u e;unfold lG at e;simp only[Prod.mk.injEq]at e;rw[←e.1];exact .note (by rw[if_neg (by decide)];exact Qw (Mr u)) ih
      split at ho
      ·simp only[Option.some.injEq,Prod.mk.injEq]at ho
       obtain⟨rfl,rfl⟩:=ho;exact ih
      ·split at ho
       ·simp only[Option.some.injEq]at ho
        have n0:rP []:=Qw (by simp);unfold iV at ho
        split at ho
        ·simp only[Prod.mk.injEq]at ho
         rw[←ho.1];exact .note n0 ih
        ·rename_i p1
         split at ho
         ·simp only[Prod.mk.injEq]at ho
          rw[←ho.1];exact .note n0 ih
         ·rename_i p2
          unfold lG at ho;simp only[Prod.mk.injEq]at ho;rw[←ho.1];exact .note (by rw[if_neg (by decide)];exact Ke (by simpa using p1) (by simpa using p2)) ih
       ·split at ho
        ·simp only[Option.some.injEq]at ho
         unfold lG at ho;simp only[Prod.mk.injEq]at ho;rw[←ho.1];exact .doct (by simp only[if_true];exact doc_ok _) ih
        ·split at ho
         ·simp only[Option.some.injEq]at ho
          exact note _ ho
         ·split at ho
          ·simp only[Option.some.injEq]at ho
           exact note _ ho
          ·split at ho
           ·simp only[Option.some.injEq]at ho
            exact note _ ho
           ·simp at ho
theorem cut_good(s:Txt):Good (cutL s):=Fw (s.length+1) [] s (Nat.lt_succ_self _)
end Go.Proofs.YtkcmghlhpbepcaaGreatDoor
