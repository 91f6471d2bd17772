/- Lemmas and walks, part 19. -/
import Derived.Test.YtkcmghlhpbepcaaGreatDoorNB18
set_option linter.unusedVariables false
set_option linter.unusedSimpArgs false
set_option maxHeartbeats 8000000
set_option maxRecDepth 100000
namespace Go.Proofs.YtkcmghlhpbepcaaGreatDoor
open Go.Proofs
structure I5 (d:Txt):Prop where
 no1:∀j,Lib.occAt d [45,45,62] j=false
 no2:∀j,Lib.occAt d [45,45,33,62] j=false
 gt:Lib.hasPrefix d [62]=false
 arrow:Lib.hasPrefix d [45,62]=false
structure DocOK (d:Txt):Prop where
 no:(62:UInt8)∉d
 trim:ru (32::d)=d
structure Dq (nm:Txt) (l:List (Txt×Txt)):Prop where
 name:yx nm
 attrs:∀a∈l,xJ a.1
 once:(l.map Prod.fst).Nodup
def Closed(nm:Txt)(r:List Tok):Prop:=r=[]∨∃q,r=⟨2,nm,[],[],false⟩::q
def RawOK(nm d:Txt):Prop:=∀j,j<d.length→gV nm (d.drop j)=false
inductive Good:List Tok→Prop
 |nil:Good []
 |text {d:Txt} {r:List Tok}:d≠[]→Good r→Good (⟨0,[],[],d,false⟩::r)
 |start {nm:Txt} {l:List (Txt×Txt)} {b:Bool} {r:List Tok}:Dq nm l→(mD nm||kS nm)=false→Good r→Good (⟨1,nm,l,[],b⟩::r)
 |shut {nm:Txt} {l:List (Txt×Txt)} {b:Bool} {r:List Tok}:Dq nm l→(mD nm||kS nm)=true→Closed nm r→Good r→Good (⟨1,nm,l,[],b⟩::r)
 |full {nm:Txt} {l:List (Txt×Txt)} {b:Bool} {d:Txt} {r:List Tok}:Dq nm l→(mD nm||kS nm)=true→d≠[]→(mD nm=true→RawOK nm d)→Closed nm r→Good r→Good (⟨1,nm,l,[],b⟩::⟨0,[],[],d,false⟩::r)
 |shuts {nm:Txt} {r:List Tok}:yx nm→Good r→Good (⟨2,nm,[],[],false⟩::r)
 |note {d:Txt} {r:List Tok}:I5 d→Good r→Good (⟨3,[],[],d,false⟩::r)
 |doct {d:Txt} {r:List Tok}:DocOK d→Good r→Good (⟨4,[],[],d,false⟩::r)
theorem cut_hit{s e:Txt}{i:Nat}(h:Lib.index s e=i):Lib.cut s e=(s.take i,s.drop (i+e.length),true):=by
 unfold Lib.cut;rw[if_pos (by omega),h];simp
theorem MB{nm x y:Txt}(h:gV nm x=true):gV nm (x++y)=true:=by
 unfold gV at h
 split at h
 ·rename_i r
  simp only[Bool.and_eq_true,decide_eq_true_eq,beq_iff_eq]at h;obtain⟨⟨h1,h2⟩,h3⟩:=h;have e1:(r++y).take nm.length=r.take nm.length:=List.take_append_of_le_length (by omega);have e2:(r++y).drop nm.length=r.drop nm.length++y:=List.drop_append_of_le_length (by omega);cases hd:r.drop nm.length with
  |nil=>rw[hd]at h3;simp at h3
  |cons c t=>
   rw[hd]at h3;simp only[List.cons_append,gV];rw[e1,h2,e2,hd];simp[h3];omega
 ·cases h
theorem AA(nm:Txt):∀s:Txt,jg nm s≤s.length
 | []=>by simp[jg]
 |c::t=>by
  have:=AA nm t;rw[jg]
  split
  ·omega
  ·simp only[List.length_cons];omega
theorem Az(nm:Txt):∀(s:Txt) (j:Nat),j<jg nm s→gV nm (s.drop j)=false
 | [],j,h=>by simp[jg]at h
 |c::t,j,h=>by
  rw[jg]at h
  split at h
  ·omega
  ·rename_i hc
   cases j with
   |zero=>simpa using hc
   |succ j=>
    rw[List.drop_succ_cons];exact Az nm t j (by omega)
theorem Dp(nm:Txt):∀(s:Txt),s.drop (jg nm s)=[]∨gV nm (s.drop (jg nm s))=true
 | []=>by simp
 |c::t=>by
  rw[jg]
  split
  ·rename_i hc
   exact .inr hc
  ·rw[Nat.add_comm,List.drop_succ_cons]
   exact Dp nm t
theorem raw_ok(nm s:Txt):RawOK nm (s.take (jg nm s)):=by
 intro j hj;have hl:=AA nm s;rw[List.length_take]at hj;cases hc:gV nm ((s.take (jg nm s)).drop j)with
 |false=>rfl
 |true=>
  have h1:=MB (y:=s.drop (jg nm s)) hc;rw[←List.drop_append_of_le_length (by rw[List.length_take];omega),List.take_append_drop]at h1;rw[Az nm s j (by omega)]at h1;cases h1
theorem uJ{t r:Txt}{x:List Tok×Txt}(ho:jJ r=some x):oK t (60::r)=fC t++x.1++oK [] x.2:=by
 have:=run_hit (t:=t) (a:=[]) (by simp) ho;simpa using this
theorem Mw(nm s:Txt):(kF nm s).length≤s.length:=by simp[kF]
theorem KU{d X sub:Txt}{j:Nat}(h:Lib.occAt (d++X) sub j=true)(hl:j+sub.length≤d.length):Lib.occAt d sub j=true:=by
 have hp:=List.isPrefixOf_iff_prefix.1 h;rw[List.drop_append_of_le_length (by omega)]at hp;refine List.isPrefixOf_iff_prefix.2 ?_;exact List.prefix_of_prefix_length_le hp (List.prefix_append _ _) (by rw[List.length_drop];omega)
theorem I4{d X:Txt}(h:I5 d):lD (d++45::45::62::X)=([⟨3,[],[],d,false⟩],X):=by
 have g:∀k,(d++45::45::62::X)[d.length+k]?=(45::45::62::X)[k]?:=by
  intro k;rw[List.getElem?_append_right (by omega)]
  congr 1
  omega
 have g0:=g 0;have g1:=g 1;have g2:=g 2;simp only[List.getElem?_cons_zero,List.getElem?_cons_succ]at g0 g1 g2
 have n1:Lib.hasPrefix (d++45::45::62::X) [62]=false:=by
  have:=h.gt;cases d with
  |nil=>simp[Lib.hasPrefix,List.isPrefixOf]
  |cons c t=>simp[Lib.hasPrefix,List.isPrefixOf]at this⊢;exact this
 have n2:Lib.hasPrefix (d++45::45::62::X) [45,62]=false:=by
  have:=h.arrow
  match d,this with
  | [],_=>simp[Lib.hasPrefix,List.isPrefixOf]
  | [c],_=>simp[Lib.hasPrefix,List.isPrefixOf]
  |c::e::t,this=>simp[Lib.hasPrefix,List.isPrefixOf]at this⊢;exact this
 have i1:Lib.index (d++45::45::62::X) [45,45,62]=d.length:=by
  refine Lib.index_hit (i:=d.length) ?_ (by simp) (by simp[Lib.occAt]);intro j hj;cases hp:Lib.occAt (d++45::45::62::X) [45,45,62] j with
  |false=>rfl
  |true=>
   by_cases hl:j+3≤d.length
   ·have:=KU hp (by simpa using hl)
    rw[h.no1 j]at this;cases this
   ·have h3:=I6 hp 2 (by simp)
    rcases(by omega:j+2=d.length+0∨j+2=d.length+1)with e|e
    ·rw[e,g0]at h3;simp at h3
    ·rw[e,g1]at h3;simp at h3
 have i2:¬(0≤Lib.index (d++45::45::62::X) [45,45,33,62]∧(Lib.index (d++45::45::62::X) [45,45,62]<0∨Lib.index (d++45::45::62::X) [45,45,33,62]<Lib.index (d++45::45::62::X) [45,45,62])):=by
  rw[i1]
  rcases Lib.index_spec (d++45::45::62::X) [45,45,33,62]with⟨h1,h2⟩|⟨j,h1,h2,hp,h4⟩
  ·omega
  ·rw[h1]
   rintro⟨_,hj⟩;have hj:j<d.length:=by omega
   by_cases hl:j+4≤d.length
   ·have:=KU hp (by simpa using hl)
    rw[h.no2 j]at this;cases this
   ·have h3:=I6 hp 3 (by simp)
    have h5:=I6 hp 2 (by simp)
    rcases(by omega:j+3=d.length+0∨j+3=d.length+1∨j+3=d.length+2)with e|e|e
    ·rw[e,g0]at h3;simp at h3
    ·rw[e,g1]at h3;simp at h3
    ·rw[(by omega:j+2=d.length+1),g1]at h5;simp at h5
 unfold lD;rw[n1,n2];simp only[Bool.false_eq_true,if_false];rw[if_neg i2];simp[rA,kZ,cut_hit i1]
theorem I7{d X:Txt}(h:I5 d):jJ (33::45::45::(d++45::45::62::X))=some ([⟨3,[],[],d,false⟩],X):=by
 unfold jJ;rw[if_neg (by simp[jr,uU]),if_neg (by simp[Lib.hasPrefix]),if_neg (by simp[Lib.hasPrefix]),if_pos (by simp[Lib.hasPrefix])];simp[I4 h]
theorem open_doc{d X:Txt}(h:DocOK d):jJ (33::100::111::99::116::121::112::101::32::(d++62::X))=some ([⟨4,[],[],d,false⟩],X):=by
 have hc:Lib.cut (32::(d++62::X)) [62]=(32::d,X,true):=by
  rw[cut_eq,show 32::(d++62::X)=(32::d)++62::X from rfl];exact Pm (by simp[h.no])
 unfold jJ;rw[if_neg (by simp[jr,uU]),if_neg (by simp[Lib.hasPrefix]),if_neg (by simp[Lib.hasPrefix]),if_neg (by simp[Lib.hasPrefix]),if_pos (by simp[jY,lY,lowB,jr,uU])];simp[rA,kZ,hc,h.trim]
theorem zx(q:Bool):∀l r,iQ (wrL q l++r)=l++iQ r
 | [],r=>by simp[wrL]
 | [c],r=>by
   rw[wrL,CV];rfl
 |c::d::l,r=>by
  rw[wrL]
  split
  ·rename_i h
   rw[List.append_assoc,JD,zx q l r,h.1,h.2];rfl
  ·rw[List.append_assoc,CV,zx q (d::l) r]
   rfl
theorem run_push{q a Y:Txt}(ha:(60:UInt8)∉a):oK q (a++Y)=oK (q++a) Y:=by
 have hf:jv (a++Y)=a.length+jv Y:=by
  unfold jv;rw[List.findIdx_append]
  have h2:¬(a.findIdx (fun c=>c==60)<a.length):=by
   rw[List.findIdx_lt_length];rintro⟨x,hx,e⟩;exact ha (by rw[←beq_iff_eq.1 e];exact hx)
  rw[if_neg h2,Nat.add_comm]
 have e1:(a++Y).take (a.length+jv Y)=a++Y.take (jv Y):=by rw[List.take_append,List.take_of_length_le (by omega),Nat.add_sub_cancel_left]
 have e2:(a++Y).drop (a.length+jv Y)=Y.drop (jv Y):=by
  rw[List.drop_append,List.drop_eq_nil_of_le (by omega),Nat.add_sub_cancel_left,List.nil_append]
 rw[AJ,hf,AJ (q++a),e2,e1];cases hd:Y.drop (jv Y)with
 |nil=>simp
 |cons c s1=>
  simp only;cases jJ s1 with
  |none=>simp
  |some x=>simp
def uH(p:Txt):List Tok:=if p=[]then []else [⟨0,[],[],p,false⟩]
def nZ:Txt→List Tok→List Tok
 |p,[]=>uH p
 |p,t::r=>if t.kind=0 then nZ (p++t.data) r else uH p++t::nZ [] r
structure Pend (q p:Txt):Prop where
 dec:∀r,iQ (q++r)=p++iQ r
 no:(60:UInt8)∉q
 nil:q=[]↔p=[]
theorem EH:Pend [] []:=⟨fun r=>rfl,by simp,by simp⟩
theorem pG{q p:Txt}(h:Pend q p):fC q=uH p:=by
 unfold fC uH;have h1:=h.dec [];rw[zL,List.append_nil,List.append_nil]at h1
 by_cases e:q=[]
 ·rw[if_pos e,if_pos (h.nil.1 e)]
 ·rw[if_neg e,if_neg (fun x=>e (h.nil.2 x)),h1]
theorem Qt{q p d:Txt}(h:Pend q p)(hd:d≠[]):Pend (q++wrL false d) (p++d):=by
 refine⟨fun r=>?_,?_,?_⟩
 ·rw[List.append_assoc,h.dec,zx,List.append_assoc]
 ·rw[List.mem_append]
  rintro(e|e)
  ·exact h.no e
  ·exact EI d e
 ·simp[hd,wr_nil hd]
theorem I8{nm:Txt}{r:List Tok}(h:Closed nm r)(b:Bool):eH b r=eH false r:=by
 rcases h with rfl|⟨q,rfl⟩
 ·rfl
 ·rfl
theorem KV{nm:Txt}{r:List Tok}(h:Closed nm r)(p:Txt):nZ p r=uH p++nZ [] r:=by
 rcases h with rfl|⟨q,rfl⟩
 ·simp[nZ,uH]
 ·simp[nZ,uH]
theorem BL(nm:Txt)(q:List Tok)(b:Bool):eH b (⟨2,nm,[],[],false⟩::q)=60::47::(nm++62::eH false q):=by
 simp[eH,rC,pR,jZ,oO,uI]
theorem xI(nm:Txt)(l:List (Txt×Txt))(b:Bool)(q:List Tok):eH false (⟨1,nm,l,[],b⟩::q)=60::(nm++(jZ l++(oO b++62::eH (mD nm) q))):=by
 simp[eH,rC,pR,uI]
theorem Cm{nm:Txt}{r:List Tok}(h:Closed nm r):jg nm (eH false r)=0:=by
 rcases h with rfl|⟨q,rfl⟩
 ·rfl
 ·rw[BL]
  exact Qu
theorem Ga{nm X:Txt}:∀ {a:Txt},(60:UInt8)∉a→jg nm (a++X)=a.length+jg nm X
 | [],_=>by simp
 |c::a,h=>by
  have hc:c≠60:=fun e=>h (by simp[e])
  have h0:gV nm (c::(a++X))=false:=by
   unfold gV
   split
   ·rename_i e
    simp only[List.cons.injEq]at e;exact absurd e.1 hc
   ·rfl
  rw[List.cons_append,jg,h0,Ga (a:=a) (fun e=>h (by simp[e]))];simp;omega
theorem FC{nm x y:Txt}(hn:(60:UInt8)∉nm)(hl:lY nm=nm)(hx:x≠[])(h0:gV nm x=false)(hy:y=[]∨∃z,y=60::z):gV nm (x++y)=false:=by
 rcases hy with rfl|⟨z,rfl⟩
 ·rw[List.append_nil];exact h0
 ·cases hc:gV nm (x++60::z)with
  |false=>rfl
  |true=>
   exfalso
   match x,hx with
   | [a],_=>simp[gV]at hc
   |a::b::r,_=>
    unfold gV at hc
    split at hc
    ·rename_i r' e
     simp only[List.cons_append,List.cons.injEq]at e;obtain⟨rfl,rfl,rfl⟩:=e;simp only[Bool.and_eq_true,decide_eq_true_eq,beq_iff_eq,hl]at hc;obtain⟨⟨h1,h2⟩,h3⟩:=hc
     rcases Nat.lt_trichotomy nm.length r.length with hlt|heq|hgt
     ·have e1:(r++60::z).take nm.length=r.take nm.length:=List.take_append_of_le_length (by omega)
      have e2:(r++60::z).drop nm.length=r.drop nm.length++60::z:=List.drop_append_of_le_length (by omega);rw[e1]at h2;rw[e2]at h3;cases hd:r.drop nm.length with
      |nil=>
       have:=congrArg List.length hd;simp at this;omega
      |cons c t=>
       rw[hd,List.cons_append]at h3;simp only at h3;simp[gV,h2,hl,hd,h3,hlt]at h0
     ·rw[heq,List.drop_left]at h3
      exact absurd h3 (by simp[eB,dO])
     ·have hm:(60:UInt8)∈(r++60::z).take nm.length:=by
       rw[List.take_append,List.mem_append]
       right
       obtain⟨k,hk⟩:∃k,nm.length - r.length=k+1:=⟨nm.length - r.length - 1,by omega⟩
       rw[hk];simp
      have hm2:lowB 60∈nm:=by rw[←h2];exact List.mem_map_of_mem hm
      exact hn hm2
    ·cases hc
theorem KW{nm y:Txt}(hn:(60:UInt8)∉nm)(hl:lY nm=nm)(hy:y=[]∨∃z,y=60::z):∀ {d:Txt},RawOK nm d→jg nm (d++y)=d.length+jg nm y
 | [],_=>by simp
 |c::d,h=>by
  have h0:gV nm (c::d)=false:=by simpa using h 0 (by simp)
  have h1:=FC hn hl (by simp) h0 hy;rw[List.cons_append]at h1
  rw[List.cons_append,jg,h1,KW hn hl hy (d:=d) (fun j hj=>by
   have:=h (j+1) (by simpa using hj);simpa using this)]
  simp;omega
theorem KX{nm:Txt}(h:mD nm=true):(60:UInt8)∉nm∧kS nm=false:=by
 unfold mD inB at h;rw[List.contains_iff_mem]at h;simp only[JY,List.mem_cons,List.not_mem_nil,or_false]at h
 rcases h with e|e|e|e|e|e<;>(rw[e];decide)
theorem KY{nm:Txt}{r:List Tok}(h:Closed nm r):eH false r=[]∨∃z,eH false r=60::z:=by
 rcases h with rfl|⟨q,rfl⟩
 ·exact .inl rfl
 ·rw[BL]
  exact .inr ⟨_,rfl⟩
theorem KZ{nm Y:Txt}(h:jg nm Y=0):kP nm Y=[]∧kF nm Y=Y:=by
 unfold kP kF;rw[h];simp
theorem Cn{nm a Y:Txt}(ha:a≠[])(h:jg nm (a++Y)=a.length):kP nm (a++Y)=[⟨0,[],[],if kS nm then iQ a else a,false⟩]∧kF nm (a++Y)=Y:=by
 unfold kP kF;rw[h,List.take_left,List.drop_left];simp[ha]
theorem Qv{L:List Tok}(h:Good L):∀q p,Pend q p→oK q (eH false L)=nZ p L:=by
 induction h with
 |nil=>intro q p hp;rw[eH,IZ,pG hp,nZ]
 | @text d r hd _ ih=>
   intro q p hp;have e:eH false (⟨0,[],[],d,false⟩::r)=wrL false d++eH false r:=by simp[eH,rC,uI]
   rw[e,run_push (EI d),ih _ _ (Qt hp hd)];simp[nZ]
 | @start nm l b r hs hrs _ ih=>
   intro q p hp
   have hr:mD nm=false:=by
    rw[Bool.or_eq_false_iff]at hrs;exact hrs.1
   rw[xI,uJ (zy hs.name hs.attrs hs.once),pG hp,hrs,hr];simp[nZ,ih _ _ EH]
 | @shut nm l b r hs hrs hcl _ ih=>
   intro q p hp;obtain⟨i1,i2⟩:=KZ (Cm hcl);rw[xI,uJ (zy hs.name hs.attrs hs.once),pG hp,hrs,I8 hcl];simp[nZ,i1,i2,ih _ _ EH]
 | @full nm l b d r hs hrs hd hraw hcl _ ih=>
   intro q p hp
   have hj:nZ p (⟨1,nm,l,[],b⟩::⟨0,[],[],d,false⟩::r)=uH p++⟨1,nm,l,[],b⟩::⟨0,[],[],d,false⟩::nZ [] r:=by
    simp[nZ,KV hcl d,uH,hd]
   have he0:=Cm hcl
   have key:∃a,eH (mD nm) (⟨0,[],[],d,false⟩::r)=a++eH false r∧kP nm (a++eH false r)=[⟨0,[],[],d,false⟩]∧kF nm (a++eH false r)=eH false r:=by
    cases hr:mD nm with
    |true=>
     obtain⟨h60,nY⟩:=KX hr;have he:=KW h60 hs.name.low (KY hcl) (hraw hr);rw[he0,Nat.add_zero]at he;obtain⟨i1,i2⟩:=Cn hd he;refine⟨d,by simp[eH,rC,uI],?_,i2⟩;rw[i1,nY];rfl
    |false=>
     have nY:kS nm=true:=by rw[hr]at hrs;simpa using hrs
     have he:=Ga (nm:=nm) (X:=eH false r) (EI d);rw[he0,Nat.add_zero]at he;obtain⟨i1,i2⟩:=Cn (wr_nil hd) he;refine⟨wrL false d,by simp[eH,rC,uI],?_,i2⟩;rw[i1,nY];simp[Gt]
   obtain⟨a,k1,k2,k3⟩:=key;rw[xI,uJ (zy hs.name hs.attrs hs.once),pG hp,hrs,k1,k2,k3,hj];simp[ih _ _ EH]
 | @shuts nm r hn _ ih=>
   intro q p hp;rw[BL,uJ (open_end hn),pG hp];simp[nZ,ih _ _ EH]
 | @note d r hd _ ih=>
   intro q p hp;have e:eH false (⟨3,[],[],d,false⟩::r)=60::(33::45::45::(d++45::45::62::eH false r)):=by simp[eH,rC,uI]
   rw[e,uJ (I7 hd),pG hp];simp[nZ,ih _ _ EH]
 | @doct d r hd _ ih=>
   intro q p hp;have e:eH false (⟨4,[],[],d,false⟩::r)=60::(33::100::111::99::116::121::112::101::32::(d++62::eH false r)):=by simp[eH,rC,uI]
   rw[e,uJ (open_doc hd),pG hp];simp[nZ,ih _ _ EH]
def wt(t:Tok):Nat:=if t.kind=0 then 6 * t.data.length else(rC false t).length
def wts(l:List Tok):Nat:=(l.map wt).sum
end Go.Proofs.YtkcmghlhpbepcaaGreatDoor
namespace Go.Proofs.aj.W7
open Go.RowKit Go.Proofs Go.Proofs.aj Go.Proofs.YtkcmghlhpbepcaaGreatDoor Go.Proofs.ah.aD
def oo(x:Rw):Tok:=if x.f1=0 then⟨1,x.f2.data.toList,x.f4.map qW,[],false⟩else if x.f1=1 then⟨0,[],[],x.f3.data.toList,false⟩else⟨3,[],[],x.f3.data.toList,false⟩
def endP(n:ByteArray):Tok:=⟨2,n.data.toList,[],[],false⟩
def lX:List Rw→List ByteArray→List Tok
 | [],op=>op.reverse.map endP
 |x::r,op=>(op.drop x.f0.toNat).reverse.map endP++oo x::lX r (opA (op.take x.f0.toNat) x)
theorem pairsTS7(l:List At):(l.map qW).map pairT=l:=by
 induction l with
 |nil=>rfl
 |cons a l ih=>
  rw[List.map_cons,List.map_cons,ih];rfl
theorem tokT_P(x:Rw):CG (oo x)=rD x:=by
 unfold oo rD
 split
 ·show(⟨1,⟨x.f2.data.toList.toArray⟩,⟨#[]⟩,(x.f4.map qW).map pairT,false⟩:Tk)=_
  rw[pairsTS7]
 ·split<;>rfl
theorem PD:∀(r:List Rw) (op:List ByteArray),(lX r op).map CG=emit r op
 | [],op=>by
   rw[lX,emit,List.map_map];rfl
 |x::r,op=>by
  rw[lX,emit,List.map_append,List.map_map,List.map_cons,tokT_P,PD r];rfl
abbrev GoodT:=Go.Proofs.YtkcmghlhpbepcaaGreatDoor.Good
def Shut(d:Int):List Rw→Prop
 | []=>True
 |z::_=>z.f0≤d
structure yD (x:Rw) (r:List Rw):Prop where
 start:x.f1=0→Dq x.f2.data.toList (x.f4.map qW)
 note:x.f1=2→I5 x.f3.data.toList
 inner:x.f1=0→(mD x.f2.data.toList||kS x.f2.data.toList)=true→kJ x.f2=false∧
  (Shut x.f0 r∨∃y r',r=y::r'∧y.f1=1∧y.f0=x.f0+1∧(mD x.f2.data.toList=true→RawOK x.f2.data.toList y.f3.data.toList)∧Shut x.f0 r')
def uK:List Rw→Prop
 | []=>True
 |x::r=>yD x r∧uK r
def AO(op:List ByteArray):Prop:=∀n∈op,yx n.data.toList
theorem yE{L:List Tok}(hL:GoodT L):∀(m:List ByteArray),AO m→GoodT (m.map endP++L)
 | [],_=>hL
 |n::m,h=>.shuts (h n (by simp)) (yE hL m (fun k hk=>h k (by simp[hk])))
theorem Cv{n:ByteArray}{op:List ByteArray}{out:List Rw}:∀ {r:List Rw},Shut op.length r→RowsFit r (op++[n]) out→Closed n.data.toList (lX r (op++[n]))
 | [],_,_=>.inr ⟨op.reverse.map endP,by rw[lX,List.reverse_append];rfl⟩
 |z::r,hz,hf=>by
  have h0:=hf.1.lo;have hz':z.f0≤op.length:=hz;refine .inr ⟨(op.drop z.f0.toNat).reverse.map endP++oo z::lX r (opA ((op++[n]).take z.f0.toNat) z),?_⟩;rw[lX,List.drop_append_of_le_length (by omega),List.reverse_append];rfl
theorem QE{x:Rw}{r:List Rw}{op:List ByteArray}(h:yD x r)(ho:AO op):AO (opA (op.take x.f0.toNat) x):=by
 unfold opA
 split
 ·rename_i hc
  intro n hn
  rcases List.mem_append.1 hn with hn|hn
  ·exact ho n (List.mem_of_mem_take hn)
  ·obtain rfl:=List.mem_singleton.1 hn
   exact(h.start hc.1).name
 ·exact fun n hn=>ho n (List.mem_of_mem_take hn)
theorem QF:∀(N:Nat) (r:List Rw) (op:List ByteArray) (out:List Rw),r.length≤N→RowsFit r op out→uK r→AO op→GoodT (lX r op):=by
 intro N
 induction N with
 |zero=>
  intro r op out hN _ _ ho;obtain rfl:r=[]:=List.eq_nil_of_length_eq_zero (by omega);have:=yE .nil op.reverse (fun n hn=>ho n (List.mem_reverse.1 hn))
  rwa [List.append_nil]at this
 |succ N ih=>
  intro r op out hN hf hg ho;cases r with
  |nil=>
   have:=yE .nil op.reverse (fun n hn=>ho n (List.mem_reverse.1 hn))
   rwa [List.append_nil]at this
  |cons x r=>
   obtain⟨f1,f2⟩:=hf;obtain⟨g1,g2⟩:=hg;have ho2:=QE g1 ho;have hN':r.length≤N:=by simpa using hN
   refine yE ?_ _ (fun n hn=>ho n (List.mem_of_mem_drop (List.mem_reverse.1 hn)));have hrec:=ih r _ _ hN' f2 g2 ho2;have hlen:(op.take x.f0.toNat).length=x.f0.toNat:=by rw[List.length_take];have:=f1.hi;have:=f1.lo;omega
   have hlo:=f1.lo
   rcases f1.kind with k|k|k
   ·have e:oo x=⟨1,x.f2.data.toList,x.f4.map qW,[],false⟩:=by unfold oo;rw[if_pos k]
    rw[e];cases hrs:(mD x.f2.data.toList||kS x.f2.data.toList)with
    |false=>exact .start (g1.start k) hrs hrec
    |true=>
     obtain⟨hv,hin⟩:=g1.inner k hrs;have eo:opA (op.take x.f0.toNat) x=op.take x.f0.toNat++[x.f2]:=by unfold opA;rw[if_pos ⟨k,hv⟩]
     rw[eo]at hrec f2 ho2⊢;have hd:((op.take x.f0.toNat).length:Int)=x.f0:=by omega
     rcases hin with hs|⟨y,r',rfl,y1,y2,y3,y4⟩
     ·exact .shut (g1.start k) hrs (Cv (by rw[hd];exact hs) f2) hrec
     ·obtain⟨q1,q2⟩:=f2
      have hy:(op.take x.f0.toNat++[x.f2]).length=y.f0.toNat:=by rw[List.length_append,List.length_singleton];omega
      have hdr:(op.take x.f0.toNat++[x.f2]).drop y.f0.toNat=[]:=List.drop_eq_nil_of_le (by omega);have htk:(op.take x.f0.toNat++[x.f2]).take y.f0.toNat=op.take x.f0.toNat++[x.f2]:=List.take_of_length_le (by omega);have e2:oo y=⟨0,[],[],y.f3.data.toList,false⟩:=by unfold oo;rw[if_neg (by omega),if_pos y1]
      have eo2:opA ((op.take x.f0.toNat++[x.f2]).take y.f0.toNat) y=op.take x.f0.toNat++[x.f2]:=by unfold opA;rw[if_neg (by omega),htk]
      rw[eo2]at q2;have hr2:=ih r' _ _ (by simp only[List.length_cons]at hN';omega) q2 g2.2 ho2;rw[lX,hdr,e2,eo2];exact .full (g1.start k) hrs (q1.text y1).1 y3 (Cv (by rw[hd];exact y4) q2) hr2
   ·have e:oo x=⟨0,[],[],x.f3.data.toList,false⟩:=by unfold oo;rw[if_neg (by omega),if_pos k]
    rw[e];exact .text (f1.text k).1 hrec
   ·have e:oo x=⟨3,[],[],x.f3.data.toList,false⟩:=by unfold oo;rw[if_neg (by omega),if_neg (by omega)]
    rw[e];exact .note (g1.note k) hrec
def Apart:Bool→List Tok→Prop
 |_,[]=>True
 |b,t::r=>(t.kind=0→b=false∧t=⟨0,[],[],t.data,false⟩∧t.data≠[])∧Apart (decide (t.kind=0)) r
theorem zC:∀(L:List Tok) (p:Txt),Apart (decide (p≠[])) L→nZ p L=uH p++L
 | [],p,_=>by rw[nZ,List.append_nil]
 |t::r,p,h=>by
  obtain⟨h1,h2⟩:=h;rw[nZ]
  by_cases k:t.kind=0
  ·obtain⟨a,b,c⟩:=h1 k
   have hp:p=[]:=by simpa using a
   subst hp;rw[if_pos k,List.nil_append,zC r t.data (by simpa [k,c]using h2),uH,if_neg c,uH,if_pos rfl];rw[←b];rfl
  ·rw[if_neg k,zC r [] (by simpa [k]using h2)]
   rfl
theorem ET{L:List Tok}(hL:Apart false L):∀(m:List ByteArray) (b:Bool),(m=[]→b=false)→Apart b (m.map endP++L)
 | [],b,h=>by rw[h rfl];exact hL
 |n::m,b,h=>⟨fun k=>by simp[endP]at k,ET hL m _ (fun _=>rfl)⟩
theorem EU:∀(r:List Rw) (op:List ByteArray) (out:List Rw) (b:Bool),RowsFit r op out→(b=true→wG op out=true)→Apart b (lX r op)
 | [],op,out,b,_,_=>by
   rw[lX];generalize op.reverse=m
   induction m generalizing b with
   |nil=>trivial
   |cons n m ih=>exact⟨fun k=>by simp[endP]at k,ih _ (by simp[endP])⟩
 |x::r,op,out,b,hf,hb=>by
  obtain⟨f1,f2⟩:=hf;have hlo:=f1.lo;have hhi:=f1.hi;have hlen:(op.take x.f0.toNat).length=x.f0.toNat:=by rw[List.length_take];omega
  rw[lX]
  have hrest:∀c:Bool,(c=true→wG (op.take x.f0.toNat) out=true)→Apart c (oo x::lX r (opA (op.take x.f0.toNat) x)):=by
   intro c hc;refine⟨fun k=>?_,EU r _ (out++[x]) _ f2 (fun k=>?_)⟩
   ·have k1:x.f1=1:=by
     rcases f1.kind with k'|k'|k'
     ·simp[oo,k']at k
     ·exact k'
     ·simp[oo,k']at k
    obtain⟨t1,t2⟩:=f1.text k1;have e:oo x=⟨0,[],[],x.f3.data.toList,false⟩:=by unfold oo;rw[if_neg (by omega),if_pos k1]
    rw[e];refine⟨?_,rfl,t1⟩;cases c with
    |false=>rfl
    |true=>rw[hc rfl]at t2;cases t2
   ·have k:=of_decide_eq_true k
    have k1:x.f1=1:=by
     rcases f1.kind with k'|k'|k'
     ·simp[oo,k']at k
     ·exact k'
     ·simp[oo,k']at k
    have eo:opA (op.take x.f0.toNat) x=op.take x.f0.toNat:=by unfold opA;rw[if_neg (by omega)]
    rw[eo];unfold wG;simp only[List.getLast?_append,List.getLast?_singleton,Option.some_or];simp[k1,hlen];omega
  by_cases hd:op.drop x.f0.toNat=[]
  ·have ht:op.take x.f0.toNat=op:=by
    have:=List.take_append_drop x.f0.toNat op;rw[hd,List.append_nil]at this;exact this
   rw[hd];exact hrest b (by rw[ht];exact hb)
  ·exact ET (hrest false (by simp)) _ b (fun h=>absurd (by simpa using h) hd)
theorem emit_cut{r:List Rw}(hf:RowsFit r [] [])(hg:uK r):cutL (Ja (lX r []))=lX r []:=by
 have h1:=Qv (QF r.length r [] [] (Nat.le_refl _) hf hg (by intro n hn;cases hn)) [] [] EH;have h2:=zC (lX r []) [] (by simpa using EU r [] [] false hf (by simp));rw[uH,if_pos rfl,List.nil_append]at h2;unfold cutL Ja;rw[h1,h2]
end Go.Proofs.aj.W7
namespace Go.Proofs.aj.W7
open Go.RowKit Go.Proofs.ah.aD Go.Proofs.ah.bH Go.Proofs.ah.bV
attribute [local go_sem] dA dB dP dQ bY bZ dD dF
def kU.f(l0:List (S34))(a1:Int):Option (Bool):=if a1≥0 then(some (decide (a1<(l0.length:Int))))else(some false)
theorem kU.calls(A0:Option Addr)(c0:Nat)(l0:List (S34))(a1:Int)(r:Bool)(w:World)(hr0:Kd.C k34 w A0 l0.length l0)(hc0:l0.length≤c0)(h:kU.f l0 a1=some r):
 Calls Tryz.prog 143 #[.slice A0 l0.length c0,.int .i64 a1] w fun e w'=>e=.returned (.bool r)∧bN w w':=by
 have HR0:=ak.mk hr0;have HC0:=ak.mk hc0;clear hr0 hc0;have H:(if a1≥0 then(some (decide (a1<(l0.length:Int))))else(some false))=some r:=h;clear h
 by_cases c3:a1≥0
 ·rw[if_pos c3]at H
  have nC:decide (0≤a1)=true:=decide_eq_true c3;clear c3;obtain rfl:=Option.some.inj H;go_enter Tryz.func143,Tryz.ntmps143;go_wp2;go_ret;exact⟨q'c,by repeat(first|exact bN.refl _|apply bN.step)⟩
 ·rw[if_neg c3]at H
  have nC:decide (0≤a1)=false:=decide_eq_false c3;clear c3;obtain rfl:=Option.some.inj H;go_enter Tryz.func143,Tryz.ntmps143;go_wp2;go_ret;exact⟨q'c,by repeat(first|exact bN.refl _|apply bN.step)⟩
def jA.l0:Nat→List (S34)→Int→Int→Option (Int)
 |0,_,_,_=>none
 |k+1,x0,x1,x5=>if x5<(x0.length:Int)then(if 0≤x5 then(if 0≤x1 then(if x1<(x0.length:Int)then(if((au x0 x5).f0)>((au x0 x1).f0)then(jA.l0 k x0 x1 (wrap64 (x5+1)))else(some x5))else(none))else(none))else(none))else(some x5)
def jA.f(k:Nat)(l0:List (S34))(a1:Int):Option (Int):=(kU.f l0 a1).bind fun t110=>(if t110=true then(jA.l0 k l0 a1 (wrap64 (a1+1)))else(some 0))
theorem jA.calls(k:Nat)(A0:Option Addr)(c0:Nat)(l0:List (S34))(a1 r:Int)(w:World)(hr0:Kd.C k34 w A0 l0.length l0)(hc0:l0.length≤c0)(h:jA.f k l0 a1=some r):
 Calls Tryz.prog 184 #[.slice A0 l0.length c0,.int .i64 a1] w fun e w'=>e=.returned (.int .i64 r)∧bN w w':=by
 have HR0:=ak.mk hr0;have HC0:=ak.mk hc0;clear hr0 hc0;have H:((kU.f l0 a1).bind fun t110=>(if t110=true then(jA.l0 k l0 a1 (wrap64 (a1+1)))else(some 0)))=some r:=h;clear h;replace H:=Option.bind_eq_some_iff.mp H;obtain⟨t110,A30,H⟩:=H;replace H:(if t110=true then(jA.l0 k l0 a1 (wrap64 (a1+1)))else(some 0))=some r:=H;have A3:=ak.mk A30;clear A30
 by_cases c4:t110=true
 ·subst c4
  have H1:(jA.l0 k l0 a1 (wrap64 (a1+1)))=some r:=by rw[if_pos rfl]at H;exact H
  clear H;have H:=H1;clear H1;have H':=ak.mk H;clear H;go_enter Tryz.func184,Tryz.ntmps184
  go_wp2_with(first|(go_at_call 143;(with_reducible refine(kU.calls _ _ l0 a1 true _ ?cO ?dG A3.out).mono ?_);(case cO=>repeat(first|exact HR0.out|(with_reducible refine Kd.lQ ?_ _)|(with_reducible refine Kd.mU ?_ _)|(with_reducible refine Kd.o7 ?_)));(case dG=>exact HC0.out);rintro e w' ⟨rfl,⟨nd,rfl⟩⟩;(try first|exact⟨rfl,_,World.drewN_drewN _ _ _⟩|exact⟨rfl,_,Eq.trans (World.drewN_drewN _ _ _) (congrArg (World.drewN _) (Nat.add_assoc _ _ _))⟩)))
  repeat(go_quiet (first|(go_at_call 143;(with_reducible refine(kU.calls _ _ l0 a1 true _ ?cO ?dG A3.out).mono ?_);(case cO=>repeat(first|exact HR0.out|(with_reducible refine Kd.lQ ?_ _)|(with_reducible refine Kd.mU ?_ _)|(with_reducible refine Kd.o7 ?_)));(case dG=>exact HC0.out);rintro e w' ⟨rfl,⟨nd,rfl⟩⟩;(try first|exact⟨rfl,_,World.drewN_drewN _ _ _⟩|exact⟨rfl,_,Eq.trans (World.drewN_drewN _ _ _) (congrArg (World.drewN _) (Nat.add_assoc _ _ _))⟩)));try go_wp2_with(first|(go_at_call 143;(with_reducible refine(kU.calls _ _ l0 a1 true _ ?cO ?dG A3.out).mono ?_);(case cO=>repeat(first|exact HR0.out|(with_reducible refine Kd.lQ ?_ _)|(with_reducible refine Kd.mU ?_ _)|(with_reducible refine Kd.o7 ?_)));(case dG=>exact HC0.out);rintro e w' ⟨rfl,⟨nd,rfl⟩⟩;(try first|exact⟨rfl,_,World.drewN_drewN _ _ _⟩|exact⟨rfl,_,Eq.trans (World.drewN_drewN _ _ _) (congrArg (World.drewN _) (Nat.add_assoc _ _ _))⟩))))
  go_loopg [5] k (fun kq v5 w'=>∃(iN:Int),v5=.int .i64 iN∧ak (jA.l0 kq l0 a1 iN=some r)∧ak (kq≤k)∧bN w w')
  case atStart=>exact⟨(wrap64 (a1+1)),q'c,H',⟨Nat.le_refl _⟩,by repeat(first|exact bN.refl _|apply bN.step)⟩
  case round=>
   clear H'
   try clear c1
   try clear p2
   try clear c4
   obtain⟨iN,rfl,HA,HK1,⟨m1,rfl⟩⟩:=hrel;cases gk with
   |zero=>exact absurd HA.out (by simp[jA.l0])
   |succ k1=>
    have H:=HA.out;clear HA;simp only[jA.l0]at H
    by_cases c5:iN<(l0.length:Int)
    ·rw[if_pos c5]at H
     have uf:decide (iN<(l0.length:Int))=true:=decide_eq_true c5;clear c5
     by_cases c6:0≤iN
     ·rw[if_pos c6]at H
      have zm:decide (0≤iN)=true:=decide_eq_true c6;clear c6
      by_cases c7:0≤a1
      ·rw[if_pos c7]at H
       have c7b0:decide (0≤a1)=true:=decide_eq_true c7;clear c7
       by_cases c8:a1<(l0.length:Int)
       ·rw[if_pos c8]at H
        have xB:decide (a1<(l0.length:Int))=true:=decide_eq_true c8;clear c8
        by_cases c9:((au l0 iN).f0)>((au l0 a1).f0)
        ·rw[if_pos c9]at H
         have c9b0:decide (((au l0 a1).f0)<((au l0 iN).f0))=true:=decide_eq_true c9;clear c9;have H':=ak.mk H;clear H;have p111:0≤(iN:Int):=q'b;have q111:iN<(l0.length:Int):=q'b;obtain⟨ad111,A111_4,c111_4,e111,hx111_0,hx111_1,hx111_2,hx111_3,hx111_4,Am,Ap⟩:=kH HR0.out iN p111 q111;cases e111;have HR111_4:=ak.mk Ap;have HC111_4:=ak.mk Am;clear Ap Am;replace p111:=eq_true p111;replace q111:=eq_true q111;have p112:0≤(a1:Int):=q'b;have q112:a1<(l0.length:Int):=q'b;obtain⟨ad112,A112_4,c112_4,e112,hx112_0,hx112_1,hx112_2,hx112_3,hx112_4,Aq,Au⟩:=kH HR0.out a1 p112 q112;obtain rfl:ad111=ad112:=(by injection e112);have HR112_4:=ak.mk Au;have HC112_4:=ak.mk Aq;clear Au Aq;replace p112:=eq_true p112;replace q112:=eq_true q112;go_wp2
         repeat(go_quiet (fail);try go_wp2)
         go_roundg k1
         case measure=>have:=HK1.out;omega
         case rel=>exact⟨(wrap64 (iN+1)),q'c,H',⟨by have:=HK1.out;omega⟩,by repeat(first|exact bN.refl _|apply bN.step)⟩
        ·rw[if_neg c9]at H
         have c9b0:decide (((au l0 a1).f0)<((au l0 iN).f0))=false:=decide_eq_false c9;clear c9;obtain rfl:=Option.some.inj H;have p111:0≤(iN:Int):=q'b;have q111:iN<(l0.length:Int):=q'b;obtain⟨ad111,A111_4,c111_4,e111,hx111_0,hx111_1,hx111_2,hx111_3,hx111_4,Am,Ap⟩:=kH HR0.out iN p111 q111;cases e111;have HR111_4:=ak.mk Ap;have HC111_4:=ak.mk Am;clear Ap Am;replace p111:=eq_true p111;replace q111:=eq_true q111;have p112:0≤(a1:Int):=q'b;have q112:a1<(l0.length:Int):=q'b;obtain⟨ad112,A112_4,c112_4,e112,hx112_0,hx112_1,hx112_2,hx112_3,hx112_4,Aq,Au⟩:=kH HR0.out a1 p112 q112;obtain rfl:ad111=ad112:=(by injection e112);have HR112_4:=ak.mk Au;have HC112_4:=ak.mk Aq;clear Au Aq;replace p112:=eq_true p112;replace q112:=eq_true q112;go_wp2
         repeat(go_quiet (fail);try go_wp2)
         go_ret;exact⟨q'c,by repeat(first|exact bN.refl _|apply bN.step)⟩
       ·rw[if_neg c8]at H
        exact absurd H (by simp)
      ·rw[if_neg c7]at H
       exact absurd H (by simp)
     ·rw[if_neg c6]at H
      exact absurd H (by simp)
    ·rw[if_neg c5]at H
     have uf:decide (iN<(l0.length:Int))=false:=decide_eq_false c5;clear c5;obtain rfl:=Option.some.inj H;go_wp2
     repeat(go_quiet (fail);try go_wp2)
     go_ret;exact⟨q'c,by repeat(first|exact bN.refl _|apply bN.step)⟩
 ·replace c4:=Bool.eq_false_iff.mpr c4
  subst c4;have H1:(some 0)=some r:=by rw[if_neg (show¬(false=true) by decide)]at H;first|exact H|(simp only[eq_self]at H⊢;exact H)|(simp only[eq_self,if_true]at H⊢;exact H)
  clear H;have H:=H1;clear H1;obtain rfl:=Option.some.inj H;go_enter Tryz.func184,Tryz.ntmps184
  go_wp2_with(first|(go_at_call 143;(with_reducible refine(kU.calls _ _ l0 a1 false _ ?cO ?dG A3.out).mono ?_);(case cO=>repeat(first|exact HR0.out|(with_reducible refine Kd.lQ ?_ _)|(with_reducible refine Kd.mU ?_ _)|(with_reducible refine Kd.o7 ?_)));(case dG=>exact HC0.out);rintro e w' ⟨rfl,⟨nd,rfl⟩⟩;(try first|exact⟨rfl,_,World.drewN_drewN _ _ _⟩|exact⟨rfl,_,Eq.trans (World.drewN_drewN _ _ _) (congrArg (World.drewN _) (Nat.add_assoc _ _ _))⟩)))
  repeat(go_quiet (first|(go_at_call 143;(with_reducible refine(kU.calls _ _ l0 a1 false _ ?cO ?dG A3.out).mono ?_);(case cO=>repeat(first|exact HR0.out|(with_reducible refine Kd.lQ ?_ _)|(with_reducible refine Kd.mU ?_ _)|(with_reducible refine Kd.o7 ?_)));(case dG=>exact HC0.out);rintro e w' ⟨rfl,⟨nd,rfl⟩⟩;(try first|exact⟨rfl,_,World.drewN_drewN _ _ _⟩|exact⟨rfl,_,Eq.trans (World.drewN_drewN _ _ _) (congrArg (World.drewN _) (Nat.add_assoc _ _ _))⟩)));try go_wp2_with(first|(go_at_call 143;(with_reducible refine(kU.calls _ _ l0 a1 false _ ?cO ?dG A3.out).mono ?_);(case cO=>repeat(first|exact HR0.out|(with_reducible refine Kd.lQ ?_ _)|(with_reducible refine Kd.mU ?_ _)|(with_reducible refine Kd.o7 ?_)));(case dG=>exact HC0.out);rintro e w' ⟨rfl,⟨nd,rfl⟩⟩;(try first|exact⟨rfl,_,World.drewN_drewN _ _ _⟩|exact⟨rfl,_,Eq.trans (World.drewN_drewN _ _ _) (congrArg (World.drewN _) (Nat.add_assoc _ _ _))⟩))))
  go_ret;exact⟨q'c,by repeat(first|exact bN.refl _|apply bN.step)⟩
end Go.Proofs.aj.W7
namespace Go.Proofs.aj.W7
open Go.RowKit Go.Shelf Go.Proofs Go.Proofs.YtkcmghlhpbepcaaGreatDoor
attribute [local go_sem] Oper.semAt_some
def oN(d:Int):List Rw→Nat
 | []=>0
 |y::ys=>if d<y.f0 then oN d ys+1 else 0
theorem KO(d:Int):∀xs:List Rw,oN d xs≤xs.length
 | []=>Nat.le_refl _
 |y::ys=>by
  have:=KO d ys;simp only[oN,List.length_cons]
  split<;>omega
def fV(xs:List Rw)(i:Nat):Nat:=i+1+oN (au xs i).f0 (xs.drop (i+1))
theorem kN(xs:List Rw)(i:Nat):i<fV xs i:=by unfold fV;omega
theorem mZ(xs:List Rw)(i:Nat)(h:i<xs.length):fV xs i≤xs.length:=by
 have:=KO (au xs i).f0 (xs.drop (i+1));rw[List.length_drop]at this;unfold fV;omega
theorem wr64{x:Int}(h0: -9223372036854775808≤x)(h1:x≤9223372036854775807):wrap64 x=x:=by unfold wrap64;omega
theorem end_l0(xs:List Rw)(hl:xs.length≤9223372036854775807)(i:Nat)(hi:i<xs.length):∀(d j k:Nat),xs.length - j≤d→j≤xs.length→d<k→
 jA.l0 k xs i j=some ((j+oN (au xs i).f0 (xs.drop j):Nat):Int):=by
 intro d
 induction d with
 |zero=>
  intro j k hd hj hk;obtain⟨k,rfl⟩:∃m,k=m+1:=⟨k - 1,by omega⟩
  simp only[jA.l0];rw[if_neg (by omega),List.drop_of_length_le (by omega)];rfl
 |succ d ih=>
  intro j k hd hj hk;obtain⟨k,rfl⟩:∃m,k=m+1:=⟨k - 1,by omega⟩
  simp only[jA.l0]
  by_cases h:j<xs.length
  ·have hdj:au xs (j:Int)=xs[j]:=by simp[au,h]
   rw[if_pos (by omega),if_pos (by omega),if_pos (by omega),if_pos (by omega),List.drop_eq_getElem_cons h,hdj];simp only[oN,gt_iff_lt]
   split
   ·rw[wr64 (by omega) (by omega),show((j:Int)+1)=((j+1:Nat):Int)from by omega,ih (j+1) k (by omega) (by omega) (by omega)]
    congr 2
    omega
   ·rfl
  ·rw[if_neg (by omega),List.drop_of_length_le (by omega)]
   rfl
theorem end_f(xs:List Rw)(hl:xs.length≤9223372036854775807)(i:Nat)(hi:i<xs.length):jA.f (xs.length+1) xs i=some ((fV xs i:Nat):Int):=by
 unfold jA.f kU.f;rw[if_pos (by omega),Option.bind_some,decide_eq_true (by omega),if_pos rfl,wr64 (by omega) (by omega),show((i:Int)+1)=((i+1:Nat):Int)from by omega,end_l0 xs hl i hi xs.length (i+1) _ (by omega) (by omega) (by omega)];rfl
def j6(xs:List Rw)(t j:Nat):List Nat:=
 if h:j<t∧j<xs.length then j::j6 xs t (fV xs j)else []
termination_by xs.length - j
decreasing_by have:=kN xs j;omega
theorem pF{xs:List Rw}{t j:Nat}(h:j<t)(h2:j<xs.length):j6 xs t j=j::j6 xs t (fV xs j):=by rw[j6,dif_pos ⟨h,h2⟩]
theorem qj{xs:List Rw}{t j:Nat}(h:¬j<t):j6 xs t j=[]:=by rw[j6,dif_neg (fun e=>h e.1)]
def jf(xs:List Rw)(i:Int):List Nat:=
 if i= -1 then j6 xs xs.length 0 else if 0≤i∧i<xs.length then j6 xs (fV xs i.toNat) (i.toNat+1)else []
def zV(i:Int):Nat:=if i= -1 then 0 else i.toNat+1
def toI(xs:List Rw)(i:Int):Nat:=if i= -1 then xs.length else fV xs i.toNat
theorem qU{xs:List Rw}{i:Int}(h:i= -1∨0≤i∧i<xs.length):jf xs i=j6 xs (toI xs i) (zV i):=by
 unfold jf toI zV
 rcases h with rfl|h
 ·rfl
 ·rw[if_neg (by omega),if_pos h,if_neg (by omega),if_neg (by omega)]
theorem Ay(w:World)(n:Nat)(row:Option Nat):w.grownBy (w.drewN n) row:=⟨rfl,rfl,rfl,Nat.le_refl _,fun _ _ _=>rfl⟩
def KpK(n₀ B:Nat)(v:Value)(W W':World):Prop:=Below n₀ W W'∧(Boxed W B 22 v→Boxed W' B 22 v)
theorem kpK_t{n₀ B:Nat}{v:Value}{X Y Z:World}(h:KpK n₀ B v X Y)(k:KpK n₀ B v Y Z):KpK n₀ B v X Z:=⟨h.1.trans k.1,fun e=>k.2 (h.2 e)⟩
theorem kpK_b{n₀ B:Nat}{v:Value}{w:World}(hn:n₀≤w.heap.size)(hB:B<w.heap.size)(W:World)(l:Nat)(o o':Obj)(hl:w.heap.size≤l)(h:W.heap[l]?=some o)(h1:o.isCells=false)(h2:o.isWalk=false):KpK n₀ B v W (W.putObj l o'):=
 ⟨belowK_b hn W l o o' hl h h1 h2,fun e=>e.kept (grownBy_putObj' W l o') (fun e'=>by cases e';omega)⟩
theorem kids1_in(n:Nat)(hn:1≤n)(l B1 B2:Nat)(A:Option Addr)(c:Nat)(xs:List Rw)(i:Int)(hi:i= -1∨0≤i∧i<xs.length)(hcap:xs.length≤c)(w0:World)(hr:k34.C w0 A xs.length xs)(J Jx:List Nat→World→Prop)
 (hY:∀pre x W,J pre W→pre.length<xs.length→YieldAt Fence.wide (n - 1) Tryz.prog l #[.int .i64 (x:Nat)] W fun e W'=>
   (e=.returned (.bool true)∧J (pre++[x]) W'∧KpK w0.heap.size B1 (.slice A xs.length c) W W')∨(e=.returned (.bool false)∧Jx (pre++[x]) W'))
 (W:World) (hJ:AbidesFrom W.heap.size J) (hW:Below w0.heap.size w0 W) (b1:Boxed W B1 22 (.slice A xs.length c)) (c2:W.cell? ⟨B2,0,none⟩=some (.int .i64 i)) (h0:J [] W):
 CallsIn Fence.wide n Tryz.prog 183 #[.func (.yield l) #[] #[],.pointer (some ⟨B1,0,none⟩),.pointer (some ⟨B2,0,none⟩)] W fun e W'=>(∃v,e=.returned v)∧
  ((∃ys,ys=jf xs i∧J ys W')∨(∃pre,pre<+:jf xs i∧Jx pre W')):=by
 have hxl:=hr.2.1;rw[qU hi];refine callsIn_of_wp Tryz.func183 rfl trivial ?_ rfl;simp only[Tryz.ntmps183,List.size_toArray,List.length_cons,List.length_nil,Nat.reduceAdd,Nat.reduceSub,Array.replicate_succ,Array.replicate_zero,List.push_toArray,List.append_toArray,List.nil_append,List.cons_append];have c1:=b1.cell;have hm1:Tryz.prog.follows .mixedOrders=true:=by kernel_rfl
 have hm2:Tryz.prog.follows .lateStores=true:=by kernel_rfl
 have hm3:Tryz.prog.follows .lateStoresUnsure=true:=by kernel_rfl
 have hE:Hid (∀(j:Nat) (hj:j<xs.length) (W':World),Below w0.heap.size w0 W'→CallsIn Fence.wide (n - 1) Tryz.prog 184 #[.slice A xs.length c,.int .i64 j] W' fun e w'=>e=.returned (.int .i64 (fV xs j:Nat))∧∃m,w'=W'.drewN m):=fun j hj W' hW'=>
  callsIn_wide.2 ((jA.calls (xs.length+1) A c xs j _ W' (Go.Proofs.ah.aD.Kd.eD hr hW') hcap (end_f xs hxl j hj)).mono (fun e w' h=>⟨h.1,h.2.out⟩))
 replace hE:∀(j:Nat) (hj:j<xs.length),Hid _:=fun j hj=>Lib.hid (hE.out j hj)
 have hfn:Fence.wide.fn 184:=trivial
 rcases hi with rfl|hi
 ·rw[show toI xs (-1)=xs.length from rfl,show zV (-1)=0 from rfl]
  have hdr:=hJ _ _ _ none h0 (Ay W 1 none) (fun r e=>by cases e)
  gi_wp2
  gi_region_o
  all_goals gi_wp2
  gi_loopw [6] (fun v wr=>∃(j:Nat) (pre:List Nat),v=.int .i64 j∧j≤xs.length∧Hid (pre++j6 xs xs.length j=j6 xs xs.length 0)∧pre.length≤j∧J pre wr∧Below w0.heap.size w0 wr∧Boxed wr B1 22 (.slice A xs.length c)) (fun v _=>xs.length - (intOf v).toNat)
  case atStart=>exact⟨0,[],rfl,Nat.zero_le _,rfl,Nat.zero_le _,hdr,Go.Proofs.ah.aD.bE hW 1,b1⟩
  case round=>
   obtain⟨j,pre,rfl,hj,hpre,hpl,hJs,hB,hbx⟩:=hrel;have hT:=Lib.hid (Nat.le_refl xs.length)
   by_cases hlt:j<xs.length
   ·have hjx:j<xs.length:=by have:=hT.out;omega
    obtain⟨fn,tmps,assign,body,hy,hR⟩:=hY pre j wr hJs (by omega);have hstep:=Lib.hid (pF hlt hjx);have hgt:=Lib.hid (kN xs j);have hle:=Lib.hid (mZ xs j hjx);have hE2:=hE j hjx
    gi_wp2
    refine hR.mono ?_;rintro e W3 (⟨rfl,hJ3,hk3⟩|⟨rfl,hJx3⟩)
    ·have hb3:=hk3.2 hbx
     have hc3:=hb3.cell;have hB3:=hB.trans hk3.1;generalize fV xs j=q at *
     gi_wp2_with (gi_at_call 184;refine(hE2.out _ hB3).mono ?_;rintro e w1 ⟨rfl,m1,rfl⟩)
     go_roundw
     case rel=>exact⟨q,pre++[j],rfl,hle.out,Lib.hid (by rw[←hpre.out,hstep.out];simp),by have:=hgt.out;simp;omega,hJ _ _ _ none hJ3 (Ay _ _ none) (fun r e=>by cases e),Go.Proofs.ah.aD.bE hB3 m1,hb3⟩
     case measure=>have:=hgt.out;simp[intOf];omega
    ·gi_wp2
     refine bodyPost_ret (results_none rfl _ _ _) rfl ?_;exact⟨⟨_,rfl⟩,.inr ⟨_,⟨j6 xs xs.length (fV xs j),by rw[←hpre.out,hstep.out];simp⟩,hJx3⟩⟩
   ·have hres:=qj (xs:=xs) hlt
    have hp2:=hpre.out;rw[hres,List.append_nil]at hp2
    gi_wp2
    go_end0;exact⟨⟨_,rfl⟩,.inl ⟨_,hp2,hJs⟩⟩
 ·obtain⟨m,rfl⟩:∃m:Nat,i=m:=⟨i.toNat,by omega⟩
  have hm:m<xs.length:=by omega
  have hne:((m:Int) != -1)=true:=by rw[bne_iff_ne];omega
  have hto:toI xs (m:Int)=fV xs m:=by unfold toI;rw[if_neg (by omega)];rfl
  have hfrom:zV (m:Int)=m+1:=by unfold zV;rw[if_neg (by omega)];rfl
  rw[hto,hfrom];have hEm:=hE m hm;have hEn:=Lib.hid (mZ xs m hm);clear hto hfrom hi;generalize fV xs m=T at *
  gi_wp2
  gi_region_o
  all_goals gi_wp2
  gi_region_with_o (gi_at_call 184;refine(hEm.out _ ?_).mono ?_;exact⟨hW.os,hW.tape,hW.output,hW.size,hW.block⟩;rintro e w1 ⟨rfl,m1,rfl⟩)
  all_goals gi_wp2
  all_goals(
   gi_loopw [6] (fun v wr=>∃(j:Nat) (pre:List Nat),v=.int .i64 j∧j≤xs.length∧Hid (pre++j6 xs T j=j6 xs T (m+1))∧pre.length≤j∧J pre wr∧Below w0.heap.size w0 wr∧Boxed wr B1 22 (.slice A xs.length c)) (fun v _=>xs.length - (intOf v).toNat)
   case atStart=>exact⟨m+1,[],rfl,by omega,rfl,Nat.zero_le _,hJ _ _ _ none h0 (Ay W _ none) (fun r e=>by cases e),Go.Proofs.ah.aD.bE hW _,b1⟩
   case round=>
    obtain⟨j,pre,rfl,hj,hpre,hpl,hJs,hB,hbx⟩:=hrel;have hT:=hEn
    by_cases hlt:j<T
    ·have hjx:j<xs.length:=by have:=hT.out;omega
     obtain⟨fn,tmps,assign,body,hy,hR⟩:=hY pre j wr hJs (by omega);have hstep:=Lib.hid (pF hlt hjx);have hgt:=Lib.hid (kN xs j);have hle:=Lib.hid (mZ xs j hjx);have hE2:=hE j hjx
     gi_wp2
     refine hR.mono ?_;rintro e W3 (⟨rfl,hJ3,hk3⟩|⟨rfl,hJx3⟩)
     ·have hb3:=hk3.2 hbx
      have hc3:=hb3.cell;have hB3:=hB.trans hk3.1;generalize fV xs j=q at *
      gi_wp2_with (gi_at_call 184;refine(hE2.out _ hB3).mono ?_;rintro e w1 ⟨rfl,m1,rfl⟩)
      go_roundw
      case rel=>exact⟨q,pre++[j],rfl,hle.out,Lib.hid (by rw[←hpre.out,hstep.out];simp),by have:=hgt.out;simp;omega,hJ _ _ _ none hJ3 (Ay _ _ none) (fun r e=>by cases e),Go.Proofs.ah.aD.bE hB3 m1,hb3⟩
      case measure=>have:=hgt.out;simp[intOf];omega
     ·gi_wp2
      refine bodyPost_ret (results_none rfl _ _ _) rfl ?_;exact⟨⟨_,rfl⟩,.inr ⟨_,⟨j6 xs T (fV xs j),by rw[←hpre.out,hstep.out];simp⟩,hJx3⟩⟩
    ·have hres:=qj (xs:=xs) hlt
     have hp2:=hpre.out;rw[hres,List.append_nil]at hp2
     gi_wp2
     go_end0;exact⟨⟨_,rfl⟩,.inl ⟨_,hp2,hJs⟩⟩)
end Go.Proofs.aj.W7
