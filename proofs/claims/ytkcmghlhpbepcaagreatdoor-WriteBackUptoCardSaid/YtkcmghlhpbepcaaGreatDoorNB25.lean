/- Lemmas and walks, part 25. -/
import Derived.Test.YtkcmghlhpbepcaaGreatDoorNB24
set_option linter.unusedVariables false
set_option linter.unusedSimpArgs false
namespace Go.Proofs.YtkcmghlhpbepcaaGreatDoor
open Go.RowKit Go.Proofs
theorem hasL_mem{l:List UInt8}{c:UInt8}(h:hasL l c.toNat=false):c∉l:=by
 intro hm;unfold hasL at h;rw[List.any_eq_false]at h;exact h c hm (by simp)
theorem KH(q:Bool)(c:UInt8):1≤(oH q c).length:=by
 unfold oH
 repeat' split
 all_goals simp
theorem wr_ge(q:Bool):∀l,l.length≤(wrL q l).length
 | []=>by simp
 | [c]=>by rw[wrL];exact KH q c
 |c::d::l=>by
  rw[wrL]
  split
  ·have:=wr_ge q l
   simp;omega
  ·have:=wr_ge q (d::l)
   have:=KH q c;simp at *;omega
end Go.Proofs.YtkcmghlhpbepcaaGreatDoor
namespace Go.Proofs.YtkcmghlhpbepcaaGreatDoor
open Go.Proofs
def kr(l:List (Txt×Txt)):Txt:=l.flatMap fun a=>32::(a.1++61::34::(wrL true a.2++[34]))
def pq(b:Bool):Txt:=if b then [32,47]else []
def qd(o:Txt)(t:Tok):Txt:=o++t.name++kr t.attrs++pq t.self++[62]
def rP(raw:Bool)(t:Tok):Txt:=
 if t.kind=0 then(if raw then t.data else wrL false t.data)
 else if t.kind=1 then qd [60] t
 else if t.kind=2 then qd [60,47] ⟨0,t.name,[],[],false⟩
 else if t.kind=3 then [60,33,45,45]++t.data++[45,45,62]
 else if t.kind=4 then [60,33,100,111,99,116,121,112,101,32]++t.data++[62]
 else []
def uY(t:Tok):Bool:=t.kind==1&&mQ t.name
def eO(raw:Bool):List Tok→Txt
 | []=>[]
 |t::r=>rP raw t++eO (uY t) r
def JJ(l:List Tok):Txt:=eO false l
structure rQ (s:Txt):Prop where
 ne:s≠[]
 low:lN s=s
 first:∀c r,s=c::r→dM c=false∧c≠47∧c≠62
 rest:∀x∈s.tail,dZ x=false∧x≠61
structure sZ (s:Txt):Prop where
 low:lN s=s
 letter:jA s=true
 all:∀x∈s,dZ x=false
theorem Qp{p:UInt8→Bool}{c:UInt8}{r:Txt}(h:p c=true):(c::r).findIdx p=0:=by simp[List.findIdx_cons,h]
theorem Qq{c:UInt8}{r:Txt}(h:dM c=false):l6 (c::r)=c::r:=by
 unfold l6;rw[Qp (by simp[h])];rfl
theorem LY{l:Txt}{n:Nat}{c:UInt8}(e:c.toNat=n)(h:hasL l n=false):c∉l:=by
 subst e;exact hasL_mem h
theorem Ro{nm v r:Txt}(hn:rQ nm):q9 (nm++61::34::(wrL true v++34::r))=((nm,v),r,true):=by
 obtain⟨c,t,rfl⟩:=List.exists_cons_of_ne_nil hn.ne
 have hk:Ac (c::t++61::34::(wrL true v++34::r))=(c::t).length:=by
  unfold Ac
  rw[List.cons_append,List.tail_cons,JH (by decide) (fun x hx=>by
   have:=hn.rest x hx;simp[this.1,this.2])]
  simp;omega
 have e1:(c::t++61::34::(wrL true v++34::r)).take (c::t).length=c::t:=List.take_left;have e2:(c::t++61::34::(wrL true v++34::r)).drop (c::t).length=61::34::(wrL true v++34::r):=List.drop_left;have e3:ig 34 (wrL true v++34::r)=(wrL true v,r,true):=NT (LY (by decide) (Af true 34 (by simp) v));unfold q9;rw[hk,e1,e2,hn.low];unfold Kj;rw[Qq (by decide)];simp only[if_true];rw[Qq (by decide)];simp[valF,e3,Hr]
theorem Nr(acc:List (Txt×Txt))(b:Bool)(r:Txt):lD acc (pq b++62::r)=some (acc,b,r):=by
 cases b with
 |false=>exact attrs_gt acc r
 |true=>
  have hg:uE (32::47::62::r)=2:=by simp[uE,List.findIdx_cons,dM]
  show lD acc (32::47::62::r)=_;rw[yJ,vJ,hg];simp
theorem addA_new{acc:List (Txt×Txt)}{a:Txt×Txt}(h:∀b∈acc,b.1≠a.1):addA acc a=acc++[a]:=by
 unfold addA;rw[if_neg];rw[List.any_eq_true];rintro⟨b,hb,e⟩;exact h b hb (by simpa using e)
theorem Fg(b:Bool)(r:Txt):∀(l acc:List (Txt×Txt)),(∀a∈l,rQ a.1)→((acc++l).map Prod.fst).Nodup→lD acc (kr l++(pq b++62::r))=some (acc++l,b,r)
 | [],acc,_,_=>by simpa [kr]using Nr acc b r
 |a::l,acc,h1,h2=>by
  have ha:=h1 a (by simp);obtain⟨nm,v⟩:=a;simp only at ha;have e0:kr ((nm,v)::l)++(pq b++62::r)=32::(nm++61::34::(wrL true v++34::(kr l++(pq b++62::r)))):=by simp[kr]
  have hb:=Ro (v:=v) (r:=kr l++(pq b++62::r)) ha;obtain⟨c,t,rfl⟩:=List.exists_cons_of_ne_nil ha.ne;obtain⟨f1,f2,f3⟩:=ha.first c t rfl
  have hg:uE (32::(c::t++61::34::(wrL true v++34::(kr l++(pq b++62::r)))))=1:=by
   unfold uE;rw[List.findIdx_cons,show(!dM 32&&(32:UInt8) !=47)=false from by decide,List.cons_append,Qp (by simp[f1,f2])];simp
  have hne:∀b∈acc,b.1≠(c::t):=by
   intro x hx e;rw[List.map_append,List.nodup_append]at h2;exact h2.2.2 x.1 (List.mem_map_of_mem hx) (c::t) (by simp) e
  rw[e0,yJ,hg];rw[List.cons_append]at hb⊢;simp only[List.drop_succ_cons,List.drop_zero];rw[if_neg f3,hb];simp only[if_true];rw[addA_new hne,Fg b r l _ (fun a ha=>h1 a (by simp[ha])) (by simpa using h2)];simp
theorem JK(l:List (Txt×Txt))(b:Bool)(r:Txt):∃c q,kr l++(pq b++62::r)=c::q∧dZ c=true:=by
 cases l with
 |nil=>
  cases b with
  |false=>exact⟨62,r,rfl,by decide⟩
  |true=>exact⟨32,47::62::r,rfl,by decide⟩
 |cons a l=>exact⟨32,_,rfl,by decide⟩
theorem CV{nm r:Txt}{l:List (Txt×Txt)}{b:Bool}(hn:sZ nm)(h1:∀a∈l,rQ a.1)(h2:(l.map Prod.fst).Nodup):
 gF (nm++(kr l++(pq b++62::r)))=some (⟨0,nm,l,[],b⟩,r):=by
 obtain⟨c,q,e,hc⟩:=JK l b r;have h3:=Fg b r l [] h1 (by simpa using h2);rw[e]at h3⊢;rw[LX hn.all hc,h3,hn.low];rfl
theorem Fh{s r:Txt}(h:jA s=true):jA (s++r)=true:=by
 cases s with
 |nil=>simp[jA]at h
 |cons c t=>exact h
theorem zS{nm r:Txt}{l:List (Txt×Txt)}{b:Bool}(hn:sZ nm)(h1:∀a∈l,rQ a.1)(h2:(l.map Prod.fst).Nodup):
 jN (nm++(kr l++(pq b++62::r)))=some (if mQ nm||lu nm then(⟨1,nm,l,[],b⟩::kX nm r,kL nm r)else([⟨1,nm,l,[],b⟩],r)):=by
 unfold jN;rw[if_pos (Fh hn.letter),xD,CV hn h1 h2];simp
theorem open_end{nm r:Txt}(hn:sZ nm):jN (47::(nm++62::r))=some ([⟨2,nm,[],[],false⟩],r):=by
 have h:=CV (r:=r) (l:=[]) (b:=false) hn (by simp) (by simp);simp only[kr,pq,List.flatMap_nil,List.nil_append,Bool.false_eq_true,if_false]at h;unfold jN;rw[if_neg (by simp[jA,mh]),if_pos (by simp[Lib.hasPrefix,Fh hn.letter]),List.tail_cons,xD,h];simp
theorem Rl{nm r:Txt}:ji nm (60::47::(nm++62::r))=0:=by
 rw[ji,Nq (by decide)];rfl
theorem Fe(x:Txt):(60:UInt8)∉wrL false x:=LY (by decide) (Af false 60 (by simp) x)
theorem wr_nil{q:Bool}{x:Txt}(h:x≠[]):wrL q x≠[]:=by
 intro e;have h1:=wr_ge q x;rw[e]at h1;exact h (List.eq_nil_of_length_eq_zero (by simpa using h1))
def ou(s but:Txt):Bool:=s.all (fun c=>!(dM c||(decide (65≤c.toNat)&&decide (c.toNat≤90))||c==0||but.contains c))&& !s.isEmpty
def rR(s:Txt):Bool:=ou s [47,62]&&jA s
def wY(s:Txt):Bool:=ou s [47,62,34,39,60,61]
theorem Fj{s but:Txt}(h:ou s but=true):∀c∈s,dM c=false∧¬(65≤c.toNat∧c.toNat≤90)∧c∉but:=by
 unfold ou at h;rw[Bool.and_eq_true,List.all_eq_true]at h;intro c hc;have:=h.1 c hc;simp only[Bool.not_eq_true',Bool.or_eq_false_iff,Bool.and_eq_false_iff,decide_eq_false_iff_not]at this;obtain⟨⟨⟨a1,a2⟩,a3⟩,a4⟩:=this;refine⟨a1,by omega,?_⟩;intro hm;rw[←List.contains_iff_mem]at hm;rw[hm]at a4;cases a4
theorem Fp:∀ {s:Txt},(∀c∈s,¬(65≤c.toNat∧c.toNat≤90))→lN s=s
 | [],_=>rfl
 |c::s,h=>by
  have ih:=Fp (s:=s) (fun x hx=>h x (by simp[hx]));unfold lN at *;rw[List.map_cons,ih,lowB,if_neg (h c (by simp))]
theorem Ns{s:Txt}(h:rR s=true):sZ s:=by
 unfold rR at h;rw[Bool.and_eq_true]at h;have hp:=Fj h.1;refine⟨Fp fun c hc=>(hp c hc).2.1,h.2,fun x hx=>?_⟩;obtain⟨a1,a2,a3⟩:=hp x hx;simp only[List.mem_cons,List.not_mem_nil,or_false,not_or]at a3;simp[dZ,a1,a3.1,a3.2]
theorem Rp{s:Txt}(h:wY s=true):rQ s:=by
 have h':ou s [47,62,34,39,60,61]=true:=h;have hp:=Fj h';refine⟨?_,Fp fun c hc=>(hp c hc).2.1,?_,?_⟩
 ·rintro rfl
  simp[ou]at h'
 ·rintro c r rfl
  obtain⟨a1,a2,a3⟩:=hp c (by simp);simp only[List.mem_cons,List.not_mem_nil,or_false,not_or]at a3;exact⟨a1,a3.1,a3.2.1⟩
 ·intro x hx
  obtain⟨a1,a2,a3⟩:=hp x (List.mem_of_mem_tail hx);simp only[List.mem_cons,List.not_mem_nil,or_false,not_or]at a3;exact⟨by simp[dZ,a1,a3.1,a3.2.1],a3.2.2.2.2.2⟩
def okB(c:UInt8):Bool:=!((decide (65≤c.toNat)&&decide (c.toNat≤90))||c==32||c==9||c==10||c==12||c==13||c==62)
def lowerOK(s:Txt):Bool:=s.all okB
structure NameOK (s:Txt):Prop where
 ne:s≠[]
 ok:lowerOK s=true
structure Qo (l:List (Txt×Txt)):Prop where
 each:∀a∈l,NameOK a.1
 once:(l.map Prod.fst).Nodup
structure ShapeOK (t:Tok):Prop where
 ge:0≤t.kind
 le:t.kind≤4
 tag:t.kind=1∨t.kind=2→NameOK t.name∧t.data=[]
 other:t.kind≠1→t.kind≠2→t.name=[]
 start:t.kind≠1→t.attrs=[]∧t.self=false
 text:t.kind=0→t.data≠[]
 attrs:Qo t.attrs
theorem dr_yes{p:UInt8→Bool}:∀ {s r:Txt} {c:UInt8},s.drop (s.findIdx p)=c::r→p c=true
 | [],_,_,h=>by simp at h
 |x::s,r,c,h=>by
  rw[List.findIdx_cons]at h;cases hx:p x with
  |true=>
   rw[hx]at h;simp at h;rw[←h.1];exact hx
  |false=>
   rw[hx]at h;simp at h;exact dr_yes h
theorem attrs0:Qo []:=⟨by simp,by simp⟩
theorem JI{k:Int}{d:Txt}(hk:k=3∨k=4):ShapeOK ⟨k,[],[],d,false⟩:=by
 rcases hk with rfl|rfl<;>exact⟨by simp,by simp,by simp,by simp,by simp,by simp,attrs0⟩
theorem Ql{c:UInt8}{r:Txt}:∀ {a:Txt},c∉a→ig c (a++c::r)=(a,r,true)
 | [],_=>by simp[ig]
 |x::a,h=>by
  simp only[List.mem_cons,not_or]at h;rw[List.cons_append,ig,if_neg (fun e=>h.1 e.symm),Ql h.2]
theorem JE{X sub:Txt}{i:Nat}(h:Lib.occAt X sub i=true)(k:Nat)(hk:k<sub.length):X[i+k]?=sub[k]?:=by
 obtain⟨t,ht⟩:=List.isPrefixOf_iff_prefix.1 h;rw[←List.getElem?_drop,←ht,List.getElem?_append_left hk]
structure Fa (d:Txt):Prop where
 no1:∀j,Lib.occAt d [45,45,62] j=false
 no2:∀j,Lib.occAt d [45,45,33,62] j=false
 gt:Lib.hasPrefix d [62]=false
 arrow:Lib.hasPrefix d [45,62]=false
structure DocOK (d:Txt):Prop where
 no:(62:UInt8)∉d
 trim:rM (32::d)=d
structure DW (nm:Txt) (l:List (Txt×Txt)):Prop where
 name:sZ nm
 attrs:∀a∈l,rQ a.1
 once:(l.map Prod.fst).Nodup
def Closed(nm:Txt)(r:List Tok):Prop:=r=[]∨∃q,r=⟨2,nm,[],[],false⟩::q
def LM(nm d:Txt):Prop:=∀j,j<d.length→gN nm (d.drop j)=false
inductive Good:List Tok→Prop
 |nil:Good []
 |text {d:Txt} {r:List Tok}:d≠[]→Good r→Good (⟨0,[],[],d,false⟩::r)
 |start {nm:Txt} {l:List (Txt×Txt)} {b:Bool} {r:List Tok}:DW nm l→(mQ nm||lu nm)=false→Good r→Good (⟨1,nm,l,[],b⟩::r)
 |shut {nm:Txt} {l:List (Txt×Txt)} {b:Bool} {r:List Tok}:DW nm l→(mQ nm||lu nm)=true→Closed nm r→Good r→Good (⟨1,nm,l,[],b⟩::r)
 |full {nm:Txt} {l:List (Txt×Txt)} {b:Bool} {d:Txt} {r:List Tok}:DW nm l→(mQ nm||lu nm)=true→d≠[]→(mQ nm=true→LM nm d)→Closed nm r→Good r→Good (⟨1,nm,l,[],b⟩::⟨0,[],[],d,false⟩::r)
 |shuts {nm:Txt} {r:List Tok}:sZ nm→Good r→Good (⟨2,nm,[],[],false⟩::r)
 |note {d:Txt} {r:List Tok}:Fa d→Good r→Good (⟨3,[],[],d,false⟩::r)
 |doct {d:Txt} {r:List Tok}:DocOK d→Good r→Good (⟨4,[],[],d,false⟩::r)
theorem cut_hit{s e:Txt}{i:Nat}(h:Lib.index s e=i):Lib.cut s e=(s.take i,s.drop (i+e.length),true):=by
 unfold Lib.cut;rw[if_pos (by omega),h];simp
theorem Np{nm x y:Txt}(h:gN nm x=true):gN nm (x++y)=true:=by
 unfold gN at h
 split at h
 ·rename_i r
  simp only[Bool.and_eq_true,decide_eq_true_eq,beq_iff_eq]at h;obtain⟨⟨h1,h2⟩,h3⟩:=h;have e1:(r++y).take nm.length=r.take nm.length:=List.take_append_of_le_length (by omega);have e2:(r++y).drop nm.length=r.drop nm.length++y:=List.drop_append_of_le_length (by omega);cases hd:r.drop nm.length with
  |nil=>rw[hd]at h3;simp at h3
  |cons c t=>
   rw[hd]at h3;simp only[List.cons_append,gN];rw[e1,h2,e2,hd];simp[h3];omega
 ·cases h
theorem Bj(nm:Txt):∀s:Txt,ji nm s≤s.length
 | []=>by simp[ji]
 |c::t=>by
  have:=Bj nm t;rw[ji]
  split
  ·omega
  ·simp only[List.length_cons];omega
theorem Bh(nm:Txt):∀(s:Txt) (j:Nat),j<ji nm s→gN nm (s.drop j)=false
 | [],j,h=>by simp[ji]at h
 |c::t,j,h=>by
  rw[ji]at h
  split at h
  ·omega
  ·rename_i hc
   cases j with
   |zero=>simpa using hc
   |succ j=>
    rw[List.drop_succ_cons];exact Bh nm t j (by omega)
theorem DV(nm:Txt):∀(s:Txt),s.drop (ji nm s)=[]∨gN nm (s.drop (ji nm s))=true
 | []=>by simp
 |c::t=>by
  rw[ji]
  split
  ·rename_i hc
   exact .inr hc
  ·rw[Nat.add_comm,List.drop_succ_cons]
   exact DV nm t
theorem raw_ok(nm s:Txt):LM nm (s.take (ji nm s)):=by
 intro j hj;have hl:=Bj nm s;rw[List.length_take]at hj;cases hc:gN nm ((s.take (ji nm s)).drop j)with
 |false=>rfl
 |true=>
  have h1:=Np (y:=s.drop (ji nm s)) hc;rw[←List.drop_append_of_le_length (by rw[List.length_take];omega),List.take_append_drop]at h1;rw[Bh nm s j (by omega)]at h1;cases h1
theorem uZ{t r:Txt}{x:List Tok×Txt}(ho:jN r=some x):oZ t (60::r)=fD t++x.1++oZ [] x.2:=by
 have:=run_hit (t:=t) (a:=[]) (by simp) ho;simpa using this
theorem Nl(nm s:Txt):(kL nm s).length≤s.length:=by simp[kL]
theorem LH{d X sub:Txt}{j:Nat}(h:Lib.occAt (d++X) sub j=true)(hl:j+sub.length≤d.length):Lib.occAt d sub j=true:=by
 have hp:=List.isPrefixOf_iff_prefix.1 h;rw[List.drop_append_of_le_length (by omega)]at hp;refine List.isPrefixOf_iff_prefix.2 ?_;exact List.prefix_of_prefix_length_le hp (List.prefix_append _ _) (by rw[List.length_drop];omega)
theorem JD{d X:Txt}(h:Fa d):lT (d++45::45::62::X)=([⟨3,[],[],d,false⟩],X):=by
 have g:∀k,(d++45::45::62::X)[d.length+k]?=(45::45::62::X)[k]?:=by
  intro k;rw[List.getElem?_append_right (by omega)]
  congr 1
  omega
 have g0:=g 0;have g1:=g 1;have g2:=g 2;simp only[List.getElem?_cons_zero,List.getElem?_cons_succ]at g0 g1 g2
 have n1:Lib.hasPrefix (d++45::45::62::X) [62]=false:=by
  have:=h.gt;cases d with
  |nil=>simp[Lib.hasPrefix,List.isPrefixOf]
  |cons c t=>simp[Lib.hasPrefix,List.isPrefixOf]at this⊢;exact this
 have n2:Lib.hasPrefix (d++45::45::62::X) [45,62]=false:=by
  have:=h.arrow
  match d,this with
  | [],_=>simp[Lib.hasPrefix,List.isPrefixOf]
  | [c],_=>simp[Lib.hasPrefix,List.isPrefixOf]
  |c::e::t,this=>simp[Lib.hasPrefix,List.isPrefixOf]at this⊢;exact this
 have i1:Lib.index (d++45::45::62::X) [45,45,62]=d.length:=by
  refine Lib.index_hit (i:=d.length) ?_ (by simp) (by simp[Lib.occAt]);intro j hj;cases hp:Lib.occAt (d++45::45::62::X) [45,45,62] j with
  |false=>rfl
  |true=>
   by_cases hl:j+3≤d.length
   ·have:=LH hp (by simpa using hl)
    rw[h.no1 j]at this;cases this
   ·have h3:=JE hp 2 (by simp)
    rcases(by omega:j+2=d.length+0∨j+2=d.length+1)with e|e
    ·rw[e,g0]at h3;simp at h3
    ·rw[e,g1]at h3;simp at h3
 have i2:¬(0≤Lib.index (d++45::45::62::X) [45,45,33,62]∧(Lib.index (d++45::45::62::X) [45,45,62]<0∨Lib.index (d++45::45::62::X) [45,45,33,62]<Lib.index (d++45::45::62::X) [45,45,62])):=by
  rw[i1]
  rcases Lib.index_spec (d++45::45::62::X) [45,45,33,62]with⟨h1,h2⟩|⟨j,h1,h2,hp,h4⟩
  ·omega
  ·rw[h1]
   rintro⟨_,hj⟩;have hj:j<d.length:=by omega
   by_cases hl:j+4≤d.length
   ·have:=LH hp (by simpa using hl)
    rw[h.no2 j]at this;cases this
   ·have h3:=JE hp 3 (by simp)
    have h5:=JE hp 2 (by simp)
    rcases(by omega:j+3=d.length+0∨j+3=d.length+1∨j+3=d.length+2)with e|e|e
    ·rw[e,g0]at h3;simp at h3
    ·rw[e,g1]at h3;simp at h3
    ·rw[(by omega:j+2=d.length+1),g1]at h5;simp at h5
 unfold lT;rw[n1,n2];simp only[Bool.false_eq_true,if_false];rw[if_neg i2];simp[rO,lJ,cut_hit i1]
theorem JF{d X:Txt}(h:Fa d):jN (33::45::45::(d++45::45::62::X))=some ([⟨3,[],[],d,false⟩],X):=by
 unfold jN;rw[if_neg (by simp[jA,mh]),if_neg (by simp[Lib.hasPrefix]),if_neg (by simp[Lib.hasPrefix]),if_pos (by simp[Lib.hasPrefix])];simp[JD h]
theorem open_doc{d X:Txt}(h:DocOK d):jN (33::100::111::99::116::121::112::101::32::(d++62::X))=some ([⟨4,[],[],d,false⟩],X):=by
 have hc:Lib.cut (32::(d++62::X)) [62]=(32::d,X,true):=by
  rw[cut_eq,show 32::(d++62::X)=(32::d)++62::X from rfl];exact Ql (by simp[h.no])
 unfold jN;rw[if_neg (by simp[jA,mh]),if_neg (by simp[Lib.hasPrefix]),if_neg (by simp[Lib.hasPrefix]),if_neg (by simp[Lib.hasPrefix]),if_pos (by simp[ko,lN,lowB,jA,mh])];simp[rO,lJ,hc,h.trim]
theorem zR(q:Bool):∀l r,iU (wrL q l++r)=l++iU r
 | [],r=>by simp[wrL]
 | [c],r=>by
   rw[wrL,Dq];rfl
 |c::d::l,r=>by
  rw[wrL]
  split
  ·rename_i h
   rw[List.append_assoc,Kl,zR q l r,h.1,h.2];rfl
  ·rw[List.append_assoc,Dq,zR q (d::l) r]
   rfl
theorem run_push{q a Y:Txt}(ha:(60:UInt8)∉a):oZ q (a++Y)=oZ (q++a) Y:=by
 have hf:jC (a++Y)=a.length+jC Y:=by
  unfold jC;rw[List.findIdx_append]
  have h2:¬(a.findIdx (fun c=>c==60)<a.length):=by
   rw[List.findIdx_lt_length];rintro⟨x,hx,e⟩;exact ha (by rw[←beq_iff_eq.1 e];exact hx)
  rw[if_neg h2,Nat.add_comm]
 have e1:(a++Y).take (a.length+jC Y)=a++Y.take (jC Y):=by rw[List.take_append,List.take_of_length_le (by omega),Nat.add_sub_cancel_left]
 have e2:(a++Y).drop (a.length+jC Y)=Y.drop (jC Y):=by
  rw[List.drop_append,List.drop_eq_nil_of_le (by omega),Nat.add_sub_cancel_left,List.nil_append]
 rw[Bn,hf,Bn (q++a),e2,e1];cases hd:Y.drop (jC Y)with
 |nil=>simp
 |cons c s1=>
  simp only;cases jN s1 with
  |none=>simp
  |some x=>simp
def uX(p:Txt):List Tok:=if p=[]then []else [⟨0,[],[],p,false⟩]
def oF:Txt→List Tok→List Tok
 |p,[]=>uX p
 |p,t::r=>if t.kind=0 then oF (p++t.data) r else uX p++t::oF [] r
structure Pend (q p:Txt):Prop where
 dec:∀r,iU (q++r)=p++iU r
 no:(60:UInt8)∉q
 nil:q=[]↔p=[]
theorem Fb:Pend [] []:=⟨fun r=>rfl,by simp,by simp⟩
theorem pW{q p:Txt}(h:Pend q p):fD q=uX p:=by
 unfold fD uX;have h1:=h.dec [];rw[Ae,List.append_nil,List.append_nil]at h1
 by_cases e:q=[]
 ·rw[if_pos e,if_pos (h.nil.1 e)]
 ·rw[if_neg e,if_neg (fun x=>e (h.nil.2 x)),h1]
theorem Rk{q p d:Txt}(h:Pend q p)(hd:d≠[]):Pend (q++wrL false d) (p++d):=by
 refine⟨fun r=>?_,?_,?_⟩
 ·rw[List.append_assoc,h.dec,zR,List.append_assoc]
 ·rw[List.mem_append]
  rintro(e|e)
  ·exact h.no e
  ·exact Fe d e
 ·simp[hd,wr_nil hd]
theorem JG{nm:Txt}{r:List Tok}(h:Closed nm r)(b:Bool):eO b r=eO false r:=by
 rcases h with rfl|⟨q,rfl⟩
 ·rfl
 ·rfl
theorem LJ{nm:Txt}{r:List Tok}(h:Closed nm r)(p:Txt):oF p r=uX p++oF [] r:=by
 rcases h with rfl|⟨q,rfl⟩
 ·simp[oF,uX]
 ·simp[oF,uX]
theorem Cm(nm:Txt)(q:List Tok)(b:Bool):eO b (⟨2,nm,[],[],false⟩::q)=60::47::(nm++62::eO false q):=by
 simp[eO,rP,qd,kr,pq,uY]
theorem yg(nm:Txt)(l:List (Txt×Txt))(b:Bool)(q:List Tok):eO false (⟨1,nm,l,[],b⟩::q)=60::(nm++(kr l++(pq b++62::eO (mQ nm) q))):=by
 simp[eO,rP,qd,uY]
theorem CQ{nm:Txt}{r:List Tok}(h:Closed nm r):ji nm (eO false r)=0:=by
 rcases h with rfl|⟨q,rfl⟩
 ·rfl
 ·rw[Cm]
  exact Rl
theorem GK{nm X:Txt}:∀ {a:Txt},(60:UInt8)∉a→ji nm (a++X)=a.length+ji nm X
 | [],_=>by simp
 |c::a,h=>by
  have hc:c≠60:=fun e=>h (by simp[e])
  have h0:gN nm (c::(a++X))=false:=by
   unfold gN
   split
   ·rename_i e
    simp only[List.cons.injEq]at e;exact absurd e.1 hc
   ·rfl
  rw[List.cons_append,ji,h0,GK (a:=a) (fun e=>h (by simp[e]))];simp;omega
theorem Gc{nm x y:Txt}(hn:(60:UInt8)∉nm)(hl:lN nm=nm)(hx:x≠[])(h0:gN nm x=false)(hy:y=[]∨∃z,y=60::z):gN nm (x++y)=false:=by
 rcases hy with rfl|⟨z,rfl⟩
 ·rw[List.append_nil];exact h0
 ·cases hc:gN nm (x++60::z)with
  |false=>rfl
  |true=>
   exfalso
   match x,hx with
   | [a],_=>simp[gN]at hc
   |a::b::r,_=>
    unfold gN at hc
    split at hc
    ·rename_i r' e
     simp only[List.cons_append,List.cons.injEq]at e;obtain⟨rfl,rfl,rfl⟩:=e;simp only[Bool.and_eq_true,decide_eq_true_eq,beq_iff_eq,hl]at hc;obtain⟨⟨h1,h2⟩,h3⟩:=hc
     rcases Nat.lt_trichotomy nm.length r.length with hlt|heq|hgt
     ·have e1:(r++60::z).take nm.length=r.take nm.length:=List.take_append_of_le_length (by omega)
      have e2:(r++60::z).drop nm.length=r.drop nm.length++60::z:=List.drop_append_of_le_length (by omega);rw[e1]at h2;rw[e2]at h3;cases hd:r.drop nm.length with
      |nil=>
       have:=congrArg List.length hd;simp at this;omega
      |cons c t=>
       rw[hd,List.cons_append]at h3;simp only at h3;simp[gN,h2,hl,hd,h3,hlt]at h0
     ·rw[heq,List.drop_left]at h3
      exact absurd h3 (by simp[dZ,dM])
     ·have hm:(60:UInt8)∈(r++60::z).take nm.length:=by
       rw[List.take_append,List.mem_append]
       right
       obtain⟨k,hk⟩:∃k,nm.length - r.length=k+1:=⟨nm.length - r.length - 1,by omega⟩
       rw[hk];simp
      have hm2:lowB 60∈nm:=by rw[←h2];exact List.mem_map_of_mem hm
      exact hn hm2
    ·cases hc
theorem LK{nm y:Txt}(hn:(60:UInt8)∉nm)(hl:lN nm=nm)(hy:y=[]∨∃z,y=60::z):∀ {d:Txt},LM nm d→ji nm (d++y)=d.length+ji nm y
 | [],_=>by simp
 |c::d,h=>by
  have h0:gN nm (c::d)=false:=by simpa using h 0 (by simp)
  have h1:=Gc hn hl (by simp) h0 hy;rw[List.cons_append]at h1
  rw[List.cons_append,ji,h1,LK hn hl hy (d:=d) (fun j hj=>by
   have:=h (j+1) (by simpa using hj);simpa using this)]
  simp;omega
theorem LP{nm:Txt}(h:mQ nm=true):(60:UInt8)∉nm∧lu nm=false:=by
 unfold mQ inB at h;rw[List.contains_iff_mem]at h;simp only[KI,List.mem_cons,List.not_mem_nil,or_false]at h
 rcases h with e|e|e|e|e|e<;>(rw[e];decide)
theorem LQ{nm:Txt}{r:List Tok}(h:Closed nm r):eO false r=[]∨∃z,eO false r=60::z:=by
 rcases h with rfl|⟨q,rfl⟩
 ·exact .inl rfl
 ·rw[Cm]
  exact .inr ⟨_,rfl⟩
theorem LU{nm Y:Txt}(h:ji nm Y=0):kX nm Y=[]∧kL nm Y=Y:=by
 unfold kX kL;rw[h];simp
theorem CS{nm a Y:Txt}(ha:a≠[])(h:ji nm (a++Y)=a.length):kX nm (a++Y)=[⟨0,[],[],if lu nm then iU a else a,false⟩]∧kL nm (a++Y)=Y:=by
 unfold kX kL;rw[h,List.take_left,List.drop_left];simp[ha]
theorem Rm{L:List Tok}(h:Good L):∀q p,Pend q p→oZ q (eO false L)=oF p L:=by
 induction h with
 |nil=>intro q p hp;rw[eO,JC,pW hp,oF]
 | @text d r hd _ ih=>
   intro q p hp;have e:eO false (⟨0,[],[],d,false⟩::r)=wrL false d++eO false r:=by simp[eO,rP,uY]
   rw[e,run_push (Fe d),ih _ _ (Rk hp hd)];simp[oF]
 | @start nm l b r hs hrs _ ih=>
   intro q p hp
   have hr:mQ nm=false:=by
    rw[Bool.or_eq_false_iff]at hrs;exact hrs.1
   rw[yg,uZ (zS hs.name hs.attrs hs.once),pW hp,hrs,hr];simp[oF,ih _ _ Fb]
 | @shut nm l b r hs hrs hcl _ ih=>
   intro q p hp;obtain⟨i1,i2⟩:=LU (CQ hcl);rw[yg,uZ (zS hs.name hs.attrs hs.once),pW hp,hrs,JG hcl];simp[oF,i1,i2,ih _ _ Fb]
 | @full nm l b d r hs hrs hd hraw hcl _ ih=>
   intro q p hp
   have hj:oF p (⟨1,nm,l,[],b⟩::⟨0,[],[],d,false⟩::r)=uX p++⟨1,nm,l,[],b⟩::⟨0,[],[],d,false⟩::oF [] r:=by
    simp[oF,LJ hcl d,uX,hd]
   have he0:=CQ hcl
   have key:∃a,eO (mQ nm) (⟨0,[],[],d,false⟩::r)=a++eO false r∧kX nm (a++eO false r)=[⟨0,[],[],d,false⟩]∧kL nm (a++eO false r)=eO false r:=by
    cases hr:mQ nm with
    |true=>
     obtain⟨h60,oD⟩:=LP hr;have he:=LK h60 hs.name.low (LQ hcl) (hraw hr);rw[he0,Nat.add_zero]at he;obtain⟨i1,i2⟩:=CS hd he;refine⟨d,by simp[eO,rP,uY],?_,i2⟩;rw[i1,oD];rfl
    |false=>
     have oD:lu nm=true:=by rw[hr]at hrs;simpa using hrs
     have he:=GK (nm:=nm) (X:=eO false r) (Fe d);rw[he0,Nat.add_zero]at he;obtain⟨i1,i2⟩:=CS (wr_nil hd) he;refine⟨wrL false d,by simp[eO,rP,uY],?_,i2⟩;rw[i1,oD];simp[Hr]
   obtain⟨a,k1,k2,k3⟩:=key;rw[yg,uZ (zS hs.name hs.attrs hs.once),pW hp,hrs,k1,k2,k3,hj];simp[ih _ _ Fb]
 | @shuts nm r hn _ ih=>
   intro q p hp;rw[Cm,uZ (open_end hn),pW hp];simp[oF,ih _ _ Fb]
 | @note d r hd _ ih=>
   intro q p hp;have e:eO false (⟨3,[],[],d,false⟩::r)=60::(33::45::45::(d++45::45::62::eO false r)):=by simp[eO,rP,uY]
   rw[e,uZ (JF hd),pW hp];simp[oF,ih _ _ Fb]
 | @doct d r hd _ ih=>
   intro q p hp;have e:eO false (⟨4,[],[],d,false⟩::r)=60::(33::100::111::99::116::121::112::101::32::(d++62::eO false r)):=by simp[eO,rP,uY]
   rw[e,uZ (open_doc hd),pW hp];simp[oF,ih _ _ Fb]
def wt(t:Tok):Nat:=if t.kind=0 then 6 * t.data.length else(rP false t).length
def wts(l:List Tok):Nat:=(l.map wt).sum
end Go.Proofs.YtkcmghlhpbepcaaGreatDoor
namespace Go.Proofs.aj.W7
open Go.RowKit Go.Proofs Go.Proofs.aj Go.Proofs.YtkcmghlhpbepcaaGreatDoor Go.Proofs.ah.aD
def oI(x:Rw):Tok:=if x.f1=0 then⟨1,x.f2.data.toList,x.f4.map rE,[],false⟩else if x.f1=1 then⟨0,[],[],x.f3.data.toList,false⟩else⟨3,[],[],x.f3.data.toList,false⟩
def endP(n:Bt):Tok:=⟨2,n.data.toList,[],[],false⟩
def mG:List Rw→List Bt→List Tok
 | [],op=>op.reverse.map endP
 |x::r,op=>(op.drop x.f0.toNat).reverse.map endP++oI x::mG r (opA (op.take x.f0.toNat) x)
theorem pairsTS7(l:List At):(l.map rE).map pairT=l:=by
 induction l with
 |nil=>rfl
 |cons a l ih=>
  rw[List.map_cons,List.map_cons,ih];rfl
theorem tokT_P(x:Rw):Dh (oI x)=rU x:=by
 unfold oI rU
 split
 ·show(⟨1,⟨x.f2.data.toList.toArray⟩,⟨#[]⟩,(x.f4.map rE).map pairT,false⟩:Tk)=_
  rw[pairsTS7]
 ·split<;>rfl
theorem Qv:∀(r:List Rw) (op:List Bt),(mG r op).map Dh=emit r op
 | [],op=>by
   rw[mG,emit,List.map_map];rfl
 |x::r,op=>by
  rw[mG,emit,List.map_append,List.map_map,List.map_cons,tokT_P,Qv r];rfl
abbrev GoodT:=Go.Proofs.YtkcmghlhpbepcaaGreatDoor.Good
def Shut(d:Int):List Rw→Prop
 | []=>True
 |z::_=>z.f0≤d
structure yT (x:Rw) (r:List Rw):Prop where
 start:x.f1=0→DW x.f2.data.toList (x.f4.map rE)
 note:x.f1=2→Fa x.f3.data.toList
 inner:x.f1=0→(mQ x.f2.data.toList||lu x.f2.data.toList)=true→kS x.f2=false∧
  (Shut x.f0 r∨∃y r',r=y::r'∧y.f1=1∧y.f0=x.f0+1∧(mQ x.f2.data.toList=true→LM x.f2.data.toList y.f3.data.toList)∧Shut x.f0 r')
def vv:List Rw→Prop
 | []=>True
 |x::r=>yT x r∧vv r
def Bp(op:List Bt):Prop:=∀n∈op,sZ n.data.toList
theorem yU{L:List Tok}(hL:GoodT L):∀(m:List Bt),Bp m→GoodT (m.map endP++L)
 | [],_=>hL
 |n::m,h=>.shuts (h n (by simp)) (yU hL m (fun k hk=>h k (by simp[hk])))
theorem CZ{n:Bt}{op:List Bt}{out:List Rw}:∀ {r:List Rw},Shut op.length r→RowsFit r (op++[n]) out→Closed n.data.toList (mG r (op++[n]))
 | [],_,_=>.inr ⟨op.reverse.map endP,by rw[mG,List.reverse_append];rfl⟩
 |z::r,hz,hf=>by
  have h0:=hf.1.lo;have hz':z.f0≤op.length:=hz;refine .inr ⟨(op.drop z.f0.toNat).reverse.map endP++oI z::mG r (opA ((op++[n]).take z.f0.toNat) z),?_⟩;rw[mG,List.drop_append_of_le_length (by omega),List.reverse_append];rfl
theorem Rz{x:Rw}{r:List Rw}{op:List Bt}(h:yT x r)(ho:Bp op):Bp (opA (op.take x.f0.toNat) x):=by
 unfold opA
 split
 ·rename_i hc
  intro n hn
  rcases List.mem_append.1 hn with hn|hn
  ·exact ho n (List.mem_of_mem_take hn)
  ·obtain rfl:=List.mem_singleton.1 hn
   exact(h.start hc.1).name
 ·exact fun n hn=>ho n (List.mem_of_mem_take hn)
theorem RA:∀(N:Nat) (r:List Rw) (op:List Bt) (out:List Rw),r.length≤N→RowsFit r op out→vv r→Bp op→GoodT (mG r op):=by
 intro N
 induction N with
 |zero=>
  intro r op out hN _ _ ho;obtain rfl:r=[]:=List.eq_nil_of_length_eq_zero (by omega);have:=yU .nil op.reverse (fun n hn=>ho n (List.mem_reverse.1 hn))
  rwa [List.append_nil]at this
 |succ N ih=>
  intro r op out hN hf hg ho;cases r with
  |nil=>
   have:=yU .nil op.reverse (fun n hn=>ho n (List.mem_reverse.1 hn))
   rwa [List.append_nil]at this
  |cons x r=>
   obtain⟨f1,f2⟩:=hf;obtain⟨g1,g2⟩:=hg;have ho2:=Rz g1 ho;have hN':r.length≤N:=by simpa using hN
   refine yU ?_ _ (fun n hn=>ho n (List.mem_of_mem_drop (List.mem_reverse.1 hn)));have hrec:=ih r _ _ hN' f2 g2 ho2;have hlen:(op.take x.f0.toNat).length=x.f0.toNat:=by rw[List.length_take];have:=f1.hi;have:=f1.lo;omega
   have hlo:=f1.lo
   rcases f1.kind with k|k|k
   ·have e:oI x=⟨1,x.f2.data.toList,x.f4.map rE,[],false⟩:=by unfold oI;rw[if_pos k]
    rw[e];cases hrs:(mQ x.f2.data.toList||lu x.f2.data.toList)with
    |false=>exact .start (g1.start k) hrs hrec
    |true=>
     obtain⟨hv,hin⟩:=g1.inner k hrs;have eo:opA (op.take x.f0.toNat) x=op.take x.f0.toNat++[x.f2]:=by unfold opA;rw[if_pos ⟨k,hv⟩]
     rw[eo]at hrec f2 ho2⊢;have hd:((op.take x.f0.toNat).length:Int)=x.f0:=by omega
     rcases hin with hs|⟨y,r',rfl,y1,y2,y3,y4⟩
     ·exact .shut (g1.start k) hrs (CZ (by rw[hd];exact hs) f2) hrec
     ·obtain⟨q1,q2⟩:=f2
      have hy:(op.take x.f0.toNat++[x.f2]).length=y.f0.toNat:=by rw[List.length_append,List.length_singleton];omega
      have hdr:(op.take x.f0.toNat++[x.f2]).drop y.f0.toNat=[]:=List.drop_eq_nil_of_le (by omega);have htk:(op.take x.f0.toNat++[x.f2]).take y.f0.toNat=op.take x.f0.toNat++[x.f2]:=List.take_of_length_le (by omega);have e2:oI y=⟨0,[],[],y.f3.data.toList,false⟩:=by unfold oI;rw[if_neg (by omega),if_pos y1]
      have eo2:opA ((op.take x.f0.toNat++[x.f2]).take y.f0.toNat) y=op.take x.f0.toNat++[x.f2]:=by unfold opA;rw[if_neg (by omega),htk]
      rw[eo2]at q2;have hr2:=ih r' _ _ (by simp only[List.length_cons]at hN';omega) q2 g2.2 ho2;rw[mG,hdr,e2,eo2];exact .full (g1.start k) hrs (q1.text y1).1 y3 (CZ (by rw[hd];exact y4) q2) hr2
   ·have e:oI x=⟨0,[],[],x.f3.data.toList,false⟩:=by unfold oI;rw[if_neg (by omega),if_pos k]
    rw[e];exact .text (f1.text k).1 hrec
   ·have e:oI x=⟨3,[],[],x.f3.data.toList,false⟩:=by unfold oI;rw[if_neg (by omega),if_neg (by omega)]
    rw[e];exact .note (g1.note k) hrec
def Apart:Bool→List Tok→Prop
 |_,[]=>True
 |b,t::r=>(t.kind=0→b=false∧t=⟨0,[],[],t.data,false⟩∧t.data≠[])∧Apart (decide (t.kind=0)) r
theorem zV:∀(L:List Tok) (p:Txt),Apart (decide (p≠[])) L→oF p L=uX p++L
 | [],p,_=>by rw[oF,List.append_nil]
 |t::r,p,h=>by
  obtain⟨h1,h2⟩:=h;rw[oF]
  by_cases k:t.kind=0
  ·obtain⟨a,b,c⟩:=h1 k
   have hp:p=[]:=by simpa using a
   subst hp;rw[if_pos k,List.nil_append,zV r t.data (by simpa [k,c]using h2),uX,if_neg c,uX,if_pos rfl];rw[←b];rfl
  ·rw[if_neg k,zV r [] (by simpa [k]using h2)]
   rfl
theorem FC{L:List Tok}(hL:Apart false L):∀(m:List Bt) (b:Bool),(m=[]→b=false)→Apart b (m.map endP++L)
 | [],b,h=>by rw[h rfl];exact hL
 |n::m,b,h=>⟨fun k=>by simp[endP]at k,FC hL m _ (fun _=>rfl)⟩
theorem FD:∀(r:List Rw) (op:List Bt) (out:List Rw) (b:Bool),RowsFit r op out→(b=true→wW op out=true)→Apart b (mG r op)
 | [],op,out,b,_,_=>by
   rw[mG];generalize op.reverse=m
   induction m generalizing b with
   |nil=>trivial
   |cons n m ih=>exact⟨fun k=>by simp[endP]at k,ih _ (by simp[endP])⟩
 |x::r,op,out,b,hf,hb=>by
  obtain⟨f1,f2⟩:=hf;have hlo:=f1.lo;have hhi:=f1.hi;have hlen:(op.take x.f0.toNat).length=x.f0.toNat:=by rw[List.length_take];omega
  rw[mG]
  have hrest:∀c:Bool,(c=true→wW (op.take x.f0.toNat) out=true)→Apart c (oI x::mG r (opA (op.take x.f0.toNat) x)):=by
   intro c hc;refine⟨fun k=>?_,FD r _ (out++[x]) _ f2 (fun k=>?_)⟩
   ·have k1:x.f1=1:=by
     rcases f1.kind with k'|k'|k'
     ·simp[oI,k']at k
     ·exact k'
     ·simp[oI,k']at k
    obtain⟨t1,t2⟩:=f1.text k1;have e:oI x=⟨0,[],[],x.f3.data.toList,false⟩:=by unfold oI;rw[if_neg (by omega),if_pos k1]
    rw[e];refine⟨?_,rfl,t1⟩;cases c with
    |false=>rfl
    |true=>rw[hc rfl]at t2;cases t2
   ·have k:=of_decide_eq_true k
    have k1:x.f1=1:=by
     rcases f1.kind with k'|k'|k'
     ·simp[oI,k']at k
     ·exact k'
     ·simp[oI,k']at k
    have eo:opA (op.take x.f0.toNat) x=op.take x.f0.toNat:=by unfold opA;rw[if_neg (by omega)]
    rw[eo];unfold wW;simp only[List.getLast?_append,List.getLast?_singleton,Option.some_or];simp[k1,hlen];omega
  by_cases hd:op.drop x.f0.toNat=[]
  ·have ht:op.take x.f0.toNat=op:=by
    have:=List.take_append_drop x.f0.toNat op;rw[hd,List.append_nil]at this;exact this
   rw[hd];exact hrest b (by rw[ht];exact hb)
  ·exact FC (hrest false (by simp)) _ b (fun h=>absurd (by simpa using h) hd)
theorem emit_cut{r:List Rw}(hf:RowsFit r [] [])(hg:vv r):cutL (JJ (mG r []))=mG r []:=by
 have h1:=Rm (RA r.length r [] [] (Nat.le_refl _) hf hg (by intro n hn;cases hn)) [] [] Fb;have h2:=zV (mG r []) [] (by simpa using FD r [] [] false hf (by simp));rw[uX,if_pos rfl,List.nil_append]at h2;unfold cutL JJ;rw[h1,h2]
end Go.Proofs.aj.W7
