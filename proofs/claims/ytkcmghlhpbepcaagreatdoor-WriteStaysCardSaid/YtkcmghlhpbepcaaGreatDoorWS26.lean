/- Lemmas and walks, part 26. -/
import Derived.Test.YtkcmghlhpbepcaaGreatDoorWS25
set_option linter.unusedVariables false
set_option linter.unusedSimpArgs false
set_option maxHeartbeats 8000000
set_option maxRecDepth 100000
namespace Go.Proofs.YtkcmghlhpbepcaaGreatDoor
open Go.Proofs
theorem Mf{d X sub:Txt}{j:Nat}(h:Lib.occAt (d++X) sub j=true)(hl:j+sub.length≤d.length):Lib.occAt d sub j=true:=by
 have hp:=List.isPrefixOf_iff_prefix.1 h;rw[List.drop_append_of_le_length (by omega)]at hp;refine List.isPrefixOf_iff_prefix.2 ?_;exact List.prefix_of_prefix_length_le hp (List.prefix_append _ _) (by rw[List.length_drop];omega)
theorem J6{d X:Txt}(h:rP d):iV (d++45::45::62::X)=([⟨3,[],[],d,false⟩],X):=by
 have g:∀k,(d++45::45::62::X)[d.length+k]?=(45::45::62::X)[k]?:=by
  intro k;rw[List.getElem?_append_right (by omega)]
  congr 1
  omega
 have g0:=g 0;have g1:=g 1;have g2:=g 2;simp only[List.getElem?_cons_zero,List.getElem?_cons_succ]at g0 g1 g2
 have n1:Lib.hasPrefix (d++45::45::62::X) [62]=false:=by
  have:=h.gt;cases d with
  |nil=>simp[Lib.hasPrefix,List.isPrefixOf]
  |cons c t=>simp[Lib.hasPrefix,List.isPrefixOf]at this⊢;exact this
 have n2:Lib.hasPrefix (d++45::45::62::X) [45,62]=false:=by
  have:=h.arrow
  match d,this with
  | [],_=>simp[Lib.hasPrefix,List.isPrefixOf]
  | [c],_=>simp[Lib.hasPrefix,List.isPrefixOf]
  |c::e::t,this=>simp[Lib.hasPrefix,List.isPrefixOf]at this⊢;exact this
 have i1:Lib.index (d++45::45::62::X) [45,45,62]=d.length:=by
  refine Lib.index_hit (i:=d.length) ?_ (by simp) (by simp[Lib.occAt]);intro j hj;cases hp:Lib.occAt (d++45::45::62::X) [45,45,62] j with
  |false=>rfl
  |true=>
   by_cases hl:j+3≤d.length
   ·have:=Mf hp (by simpa using hl)
    rw[h.no1 j]at this;cases this
   ·have h3:=J7 hp 2 (by simp)
    rcases(by omega:j+2=d.length+0∨j+2=d.length+1)with e|e
    ·rw[e,g0]at h3;simp at h3
    ·rw[e,g1]at h3;simp at h3
 have i2:¬(0≤Lib.index (d++45::45::62::X) [45,45,33,62]∧(Lib.index (d++45::45::62::X) [45,45,62]<0∨Lib.index (d++45::45::62::X) [45,45,33,62]<Lib.index (d++45::45::62::X) [45,45,62])):=by
  rw[i1]
  rcases Lib.index_spec (d++45::45::62::X) [45,45,33,62]with⟨h1,h2⟩|⟨j,h1,h2,hp,h4⟩
  ·omega
  ·rw[h1]
   rintro⟨_,hj⟩;have hj:j<d.length:=by omega
   by_cases hl:j+4≤d.length
   ·have:=Mf hp (by simpa using hl)
    rw[h.no2 j]at this;cases this
   ·have h3:=J7 hp 3 (by simp)
    have h5:=J7 hp 2 (by simp)
    rcases(by omega:j+3=d.length+0∨j+3=d.length+1∨j+3=d.length+2)with e|e|e
    ·rw[e,g0]at h3;simp at h3
    ·rw[e,g1]at h3;simp at h3
    ·rw[(by omega:j+2=d.length+1),g1]at h5;simp at h5
 unfold iV;rw[n1,n2];simp only[Bool.false_eq_true,if_false];rw[if_neg i2];simp[lG,jB,J8 i1]
theorem J9{d X:Txt}(h:rP d):iL (33::45::45::(d++45::45::62::X))=some ([⟨3,[],[],d,false⟩],X):=by
 unfold iL;rw[if_neg (by simp[gu,lI]),if_neg (by simp[Lib.hasPrefix]),if_neg (by simp[Lib.hasPrefix]),if_pos (by simp[Lib.hasPrefix])];simp[J6 h]
theorem open_doc{d X:Txt}(h:DocOK d):iL (33::100::111::99::116::121::112::101::32::(d++62::X))=some ([⟨4,[],[],d,false⟩],X):=by
 have hc:Lib.cut (32::(d++62::X)) [62]=(32::d,X,true):=by
  rw[Nr,show 32::(d++62::X)=(32::d)++62::X from rfl];exact Qv (by simp[h.no])
 unfold iL;rw[if_neg (by simp[gu,lI]),if_neg (by simp[Lib.hasPrefix]),if_neg (by simp[Lib.hasPrefix]),if_neg (by simp[Lib.hasPrefix]),if_pos (by simp[jC,iJ,lJ,gu,lI])];simp[lG,jB,hc,h.trim]
theorem zO(q:Bool):∀l r,iK (wrL q l++r)=l++iK r
 | [],r=>by simp[wrL]
 | [c],r=>by
   rw[wrL,DL];rfl
 |c::d::l,r=>by
  rw[wrL]
  split
  ·rename_i h
   rw[List.append_assoc,KO,zO q l r,h.1,h.2];rfl
  ·rw[List.append_assoc,DL,zO q (d::l) r]
   rfl
theorem run_push{q a Y:Txt}(ha:(60:UInt8)∉a):nk q (a++Y)=nk (q++a) Y:=by
 have hf:gI (a++Y)=a.length+gI Y:=by
  unfold gI;rw[List.findIdx_append]
  have h2:¬(a.findIdx (fun c=>c==60)<a.length):=by
   rw[List.findIdx_lt_length];rintro⟨x,hx,e⟩;exact ha (by rw[←beq_iff_eq.1 e];exact hx)
  rw[if_neg h2,Nat.add_comm]
 have e1:(a++Y).take (a.length+gI Y)=a++Y.take (gI Y):=by rw[List.take_append,List.take_of_length_le (by omega),Nat.add_sub_cancel_left]
 have e2:(a++Y).drop (a.length+gI Y)=Y.drop (gI Y):=by
  rw[List.drop_append,List.drop_eq_nil_of_le (by omega),Nat.add_sub_cancel_left,List.nil_append]
 rw[yP,hf,yP (q++a),e2,e1];cases hd:Y.drop (gI Y)with
 |nil=>simp
 |cons c s1=>
  simp only;cases iL s1 with
  |none=>simp
  |some x=>simp
def uI(p:Txt):List Tok:=if p=[]then []else [⟨0,[],[],p,false⟩]
def oG:Txt→List Tok→List Tok
 |p,[]=>uI p
 |p,t::r=>if t.kind=0 then oG (p++t.data) r else uI p++t::oG [] r
structure Pend (q p:Txt):Prop where
 dec:∀r,iK (q++r)=p++iK r
 no:(60:UInt8)∉q
 nil:q=[]↔p=[]
theorem Fp:Pend [] []:=⟨fun r=>rfl,by simp,by simp⟩
theorem pX{q p:Txt}(h:Pend q p):eO q=uI p:=by
 unfold eO uI;have h1:=h.dec [];rw[q8,List.append_nil,List.append_nil]at h1
 by_cases e:q=[]
 ·rw[if_pos e,if_pos (h.nil.1 e)]
 ·rw[if_neg e,if_neg (fun x=>e (h.nil.2 x)),h1]
theorem RF{q p d:Txt}(h:Pend q p)(hd:d≠[]):Pend (q++wrL false d) (p++d):=by
 refine⟨fun r=>?_,?_,?_⟩
 ·rw[List.append_assoc,h.dec,zO,List.append_assoc]
 ·rw[List.mem_append]
  rintro(e|e)
  ·exact h.no e
  ·exact Fq d e
 ·simp[hd,wr_nil hd]
theorem Ka{nm:Txt}{r:List Tok}(h:Closed nm r)(b:Bool):eu b r=eu false r:=by
 rcases h with rfl|⟨q,rfl⟩
 ·rfl
 ·rfl
theorem Mg{nm:Txt}{r:List Tok}(h:Closed nm r)(p:Txt):oG p r=uI p++oG [] r:=by
 rcases h with rfl|⟨q,rfl⟩
 ·simp[oG,uI]
 ·simp[oG,uI]
theorem Cz(nm:Txt)(q:List Tok)(b:Bool):eu b (⟨2,nm,[],[],false⟩::q)=60::47::(nm++62::eu false q):=by
 simp[eu,nP,jG,dS,lX,qL]
theorem xZ(nm:Txt)(l:List (Txt×Txt))(b:Bool)(q:List Tok):eu false (⟨1,nm,l,[],b⟩::q)=60::(nm++(dS l++(lX b++62::eu (mJ nm) q))):=by
 simp[eu,nP,jG,qL]
theorem Di{nm:Txt}{r:List Tok}(h:Closed nm r):iy nm (eu false r)=0:=by
 rcases h with rfl|⟨q,rfl⟩
 ·rfl
 ·rw[Cz]
  exact RG
theorem G8{nm X:Txt}:∀ {a:Txt},(60:UInt8)∉a→iy nm (a++X)=a.length+iy nm X
 | [],_=>by simp
 |c::a,h=>by
  have hc:c≠60:=fun e=>h (by simp[e])
  have h0:gD nm (c::(a++X))=false:=by
   unfold gD
   split
   ·rename_i e
    simp only[List.cons.injEq]at e;exact absurd e.1 hc
   ·rfl
  rw[List.cons_append,iy,h0,G8 (a:=a) (fun e=>h (by simp[e]))];simp;omega
theorem Gw{nm x y:Txt}(hn:(60:UInt8)∉nm)(hl:iJ nm=nm)(hx:x≠[])(h0:gD nm x=false)(hy:y=[]∨∃z,y=60::z):gD nm (x++y)=false:=by
 rcases hy with rfl|⟨z,rfl⟩
 ·rw[List.append_nil];exact h0
 ·cases hc:gD nm (x++60::z)with
  |false=>rfl
  |true=>
   exfalso
   match x,hx with
   | [a],_=>simp[gD]at hc
   |a::b::r,_=>
    unfold gD at hc
    split at hc
    ·rename_i r' e
     simp only[List.cons_append,List.cons.injEq]at e;obtain⟨rfl,rfl,rfl⟩:=e;simp only[Bool.and_eq_true,decide_eq_true_eq,beq_iff_eq,hl]at hc;obtain⟨⟨h1,h2⟩,h3⟩:=hc
     rcases Nat.lt_trichotomy nm.length r.length with hlt|heq|hgt
     ·have e1:(r++60::z).take nm.length=r.take nm.length:=List.take_append_of_le_length (by omega)
      have e2:(r++60::z).drop nm.length=r.drop nm.length++60::z:=List.drop_append_of_le_length (by omega);rw[e1]at h2;rw[e2]at h3;cases hd:r.drop nm.length with
      |nil=>
       have:=congrArg List.length hd;simp at this;omega
      |cons c t=>
       rw[hd,List.cons_append]at h3;simp only at h3;simp[gD,h2,hl,hd,h3,hlt]at h0
     ·rw[heq,List.drop_left]at h3
      exact absurd h3 (by simp[bS,cO])
     ·have hm:(60:UInt8)∈(r++60::z).take nm.length:=by
       rw[List.take_append,List.mem_append]
       right
       obtain⟨k,hk⟩:∃k,nm.length - r.length=k+1:=⟨nm.length - r.length - 1,by omega⟩
       rw[hk];simp
      have hm2:lJ 60∈nm:=by rw[←h2];exact List.mem_map_of_mem hm
      exact hn hm2
    ·cases hc
theorem Mh{nm y:Txt}(hn:(60:UInt8)∉nm)(hl:iJ nm=nm)(hy:y=[]∨∃z,y=60::z):∀ {d:Txt},G9 nm d→iy nm (d++y)=d.length+iy nm y
 | [],_=>by simp
 |c::d,h=>by
  have h0:gD nm (c::d)=false:=by simpa using h 0 (by simp)
  have h1:=Gw hn hl (by simp) h0 hy;rw[List.cons_append]at h1
  rw[List.cons_append,iy,h1,Mh hn hl hy (d:=d) (fun j hj=>by
   have:=h (j+1) (by simpa using hj);simpa using this)]
  simp;omega
theorem raw_name{nm:Txt}(h:mJ nm=true):(60:UInt8)∉nm∧mq nm=false:=by
 unfold mJ inB at h;rw[List.contains_iff_mem]at h;simp only[EI,List.mem_cons,List.not_mem_nil,or_false]at h
 rcases h with e|e|e|e|e|e<;>(rw[e];decide)
theorem Mi{nm:Txt}{r:List Tok}(h:Closed nm r):eu false r=[]∨∃z,eu false r=60::z:=by
 rcases h with rfl|⟨q,rfl⟩
 ·exact .inl rfl
 ·rw[Cz]
  exact .inr ⟨_,rfl⟩
theorem Mj{nm Y:Txt}(h:iy nm Y=0):jq nm Y=[]∧jo nm Y=Y:=by
 unfold jq jo;rw[h];simp
theorem Dj{nm a Y:Txt}(ha:a≠[])(h:iy nm (a++Y)=a.length):jq nm (a++Y)=[⟨0,[],[],if mq nm then iK a else a,false⟩]∧jo nm (a++Y)=Y:=by
 unfold jq jo;rw[h,List.take_left,List.drop_left];simp[ha]
theorem RH{L:List Tok}(h:Good L):∀q p,Pend q p→nk q (eu false L)=oG p L:=by
 induction h with
 |nil=>intro q p hp;rw[eu,Bq,pX hp,oG]
 | @text d r hd _ ih=>
   intro q p hp;have e:eu false (⟨0,[],[],d,false⟩::r)=wrL false d++eu false r:=by simp[eu,nP,qL]
   rw[e,run_push (Fq d),ih _ _ (RF hp hd)];simp[oG]
 | @start nm l b r hs hrs _ ih=>
   intro q p hp
   have hr:mJ nm=false:=by
    rw[Bool.or_eq_false_iff]at hrs;exact hrs.1
   rw[xZ,rQ (zP hs.name hs.attrs hs.once),pX hp,hrs,hr];simp[oG,ih _ _ Fp]
 | @shut nm l b r hs hrs hcl _ ih=>
   intro q p hp;obtain⟨i1,i2⟩:=Mj (Di hcl);rw[xZ,rQ (zP hs.name hs.attrs hs.once),pX hp,hrs,Ka hcl];simp[oG,i1,i2,ih _ _ Fp]
 | @full nm l b d r hs hrs hd hraw hcl _ ih=>
   intro q p hp
   have hj:oG p (⟨1,nm,l,[],b⟩::⟨0,[],[],d,false⟩::r)=uI p++⟨1,nm,l,[],b⟩::⟨0,[],[],d,false⟩::oG [] r:=by
    simp[oG,Mg hcl d,uI,hd]
   have he0:=Di hcl
   have key:∃a,eu (mJ nm) (⟨0,[],[],d,false⟩::r)=a++eu false r∧jq nm (a++eu false r)=[⟨0,[],[],d,false⟩]∧jo nm (a++eu false r)=eu false r:=by
    cases hr:mJ nm with
    |true=>
     obtain⟨h60,oF⟩:=raw_name hr;have he:=Mh h60 hs.name.low (Mi hcl) (hraw hr);rw[he0,Nat.add_zero]at he;obtain⟨i1,i2⟩:=Dj hd he;refine⟨d,by simp[eu,nP,qL],?_,i2⟩;rw[i1,oF];rfl
    |false=>
     have oF:mq nm=true:=by rw[hr]at hrs;simpa using hrs
     have he:=G8 (nm:=nm) (X:=eu false r) (Fq d);rw[he0,Nat.add_zero]at he;obtain⟨i1,i2⟩:=Dj (wr_nil hd) he;refine⟨wrL false d,by simp[eu,nP,qL],?_,i2⟩;rw[i1,oF];simp[Ir]
   obtain⟨a,k1,k2,k3⟩:=key;rw[xZ,rQ (zP hs.name hs.attrs hs.once),pX hp,hrs,k1,k2,k3,hj];simp[ih _ _ Fp]
 | @shuts nm r hn _ ih=>
   intro q p hp;rw[Cz,rQ (open_end hn),pX hp];simp[oG,ih _ _ Fp]
 | @note d r hd _ ih=>
   intro q p hp;have e:eu false (⟨3,[],[],d,false⟩::r)=60::(33::45::45::(d++45::45::62::eu false r)):=by simp[eu,nP,qL]
   rw[e,rQ (J9 hd),pX hp];simp[oG,ih _ _ Fp]
 | @doct d r hd _ ih=>
   intro q p hp;have e:eu false (⟨4,[],[],d,false⟩::r)=60::(33::100::111::99::116::121::112::101::32::(d++62::eu false r)):=by simp[eu,nP,qL]
   rw[e,rQ (open_doc hd),pX hp];simp[oG,ih _ _ Fp]
def wt(t:Tok):Nat:=if t.kind=0 then 6 * t.data.length else(nP false t).length
def wts(l:List Tok):Nat:=(l.map wt).sum
theorem Kk(a b:List Tok):wts (a++b)=wts a+wts b:=by simp[wts]
theorem wts_nil:wts []=0:=rfl
theorem wU(t:Tok):wts [t]=wt t:=by simp[wts]
theorem Bv(t:Tok)(l:List Tok):wts (t::l)=wt t+wts l:=by simp[wts]
theorem tokW_le(raw:Bool)(t:Tok):(nP raw t).length≤wt t:=by
 unfold wt
 by_cases h:t.kind=0
 ·rw[if_pos h]
  have:=Em false t.data;cases raw with
  |true=>
   rw[show nP true t=t.data from by simp[nP,h]];omega
  |false=>
   rw[show nP false t=wrL false t.data from by simp[nP,h]];exact this
 ·rw[if_neg h,show nP raw t=nP false t from by simp[nP,h]]
  exact Nat.le_refl _
theorem Ed(l:Txt):(iK l).length≤l.length:=Ay _ l (Nat.le_refl _)
theorem valF_len(nm s:Txt):(zB nm s).1.1=nm∧(zB nm s).1.2.length+(zB nm s).2.1.length≤s.length:=by
 unfold zB
 split
 ·simp
 ·rename_i q t
  split
  ·have h1:=mK q t
   have h2:=Ed (gH q t).1;refine⟨rfl,?_⟩;simp only[List.length_cons];omega
  ·have h2:=Ed ((q::t).take (Ad (q::t)))
   refine⟨rfl,?_⟩;simp only[List.length_take,List.length_drop]at *;omega
theorem RQ(nm s:Txt):(qZ nm s).1.1=nm∧(qZ nm s).1.2.length+(qZ nm s).2.1.length≤s.length:=by
 have h1:=Bu s;unfold qZ
 split
 ·simp
 ·rename_i c t h
  rw[h]at h1;simp only[List.length_cons]at h1
  split
  ·have h2:=valF_len nm (lu t)
   have h3:=Bu t;refine⟨h2.1,?_⟩;omega
  ·simp
theorem RS(s:Txt):(kV s).1.1.length+(kV s).1.2.length+(kV s).2.1.length≤s.length:=by
 have h:=RQ (iJ (s.take (o9 s))) (s.drop (o9 s));unfold kV;rw[h.1];have h2:=h.2;simp only[iJ,List.length_map,List.length_take,List.length_drop]at *;omega
theorem addA_len(acc:List (Txt×Txt))(a:Txt×Txt):(dS (za acc a)).length≤(dS acc).length+4+a.1.length+6 * a.2.length:=by
 unfold za
 split
 ·omega
 ·have e:dS (acc++[a])=dS acc++dS [a]:=by simp only[dS,List.flatMap_append]
  have h:=Em true a.2;rw[e,List.length_append];simp only[dS,List.flatMap_cons,List.flatMap_nil,List.append_nil,List.length_cons,List.length_append,List.length_nil];omega
theorem FB:∀(n:Nat) (acc:List (Txt×Txt)) (s:Txt) r,kU n acc s=some r→(dS r.1).length+12 * (r.2.2.length+1)≤(dS acc).length+12 * s.length
 |0,_,_,_,h=>by simp[kU]at h
 |n+1,acc,s,r,h=>by
  unfold kU at h;cases hd:s.drop (qm s)with
  |nil=>rw[hd]at h;simp at h
  |cons c s1=>
   rw[hd]at h;have hg:=Fu hd
   have h1:s1.length+1≤s.length:=by
    have:=congrArg List.length hd;simp at this;omega
   simp only at h
   split at h
   ·simp at h
    subst h;simp only;omega
   ·rename_i hc
    split at h
    ·have ih:=FB n _ _ r h
     have h2:=addA_len acc (kV (c::s1)).1;have h3:=RS (c::s1);have h4:=(zQ (s:=s1) hg.1 hc).ne;have h5:=List.length_pos_iff.2 h4;simp only[List.length_cons]at h3;omega
    ·simp at h
theorem Oi{s r:Txt}{t:Tok}(h:eG s=some (t,r)):t.name.length+(dS t.attrs).length+12 * r.length+12≤12 * s.length∧t.data=[]:=by
 unfold eG at h;cases ha:ku [] (s.drop (s.findIdx bS))with
 |none=>rw[ha]at h;simp at h
 |some q=>
  rw[ha]at h;simp at h;have h2:=FB _ _ _ _ ha;obtain⟨rfl,rfl⟩:=h;have hk:s.findIdx bS≤s.length:=List.findIdx_le_length;refine⟨?_,rfl⟩;simp only[iJ,List.length_map,List.length_take,List.length_drop,dS,List.flatMap_nil,List.length_nil]at *;omega
theorem FC(nm s:Txt):wts (jq nm s)+12 * (jo nm s).length≤12 * s.length:=by
 have hl:=yO nm s;unfold jq jo;rw[List.length_drop]
 split
 ·rw[wts_nil];omega
 ·rw[wU,wt,if_pos rfl]
  have h2:=Ed (s.take (iy nm s));rw[List.length_take]at h2
  split
  ·simp only;omega
  ·simp only[List.length_take];omega
theorem MC(nm:Txt)(l:List (Txt×Txt))(d:Txt)(b:Bool):wt ⟨1,nm,l,d,b⟩=(jG [60] ⟨1,nm,l,d,b⟩).length:=rfl
theorem wt_k2(nm:Txt):wt ⟨2,nm,[],[],false⟩=(jG [60,47] ⟨0,nm,[],[],false⟩).length:=rfl
theorem wt_k3(d:Txt):wt ⟨3,[],[],d,false⟩=([60,33,45,45]++d++[45,45,62]).length:=rfl
theorem wt_k4(d:Txt):wt ⟨4,[],[],d,false⟩=([60,33,100,111,99,116,121,112,101,32]++d++[62]).length:=rfl
theorem QH{k:Int}(hk:k=1∨k=2)(s:Txt):wts (oq k s).1+12 * (oq k s).2.length≤12 * (s.length+1):=by
 unfold oq;cases ho:eG s with
 |none=>simp[wts]
 |some x=>
  obtain⟨t,r⟩:=x;obtain⟨h1,hd⟩:=Oi ho;have hs:(lX t.self).length≤2:=by unfold lX;split<;>simp
  have w1:wt ⟨1,t.name,t.attrs,t.data,t.self⟩≤t.name.length+(dS t.attrs).length+4:=by
   rw[MC];simp only[jG,List.length_append,List.length_cons,List.length_nil];omega
  have w2:wt ⟨2,t.name,[],[],false⟩≤t.name.length+4:=by
   rw[wt_k2];simp only[jG,dS,lX,List.flatMap_nil,List.length_append,List.length_cons,List.length_nil,Bool.false_eq_true,if_false];omega
  simp only
  rcases hk with rfl|rfl
  ·rw[if_neg (by decide)]
   split
   ·have h2:=FC t.name r
    simp only[Bv];omega
   ·rw[wU]
    simp only;omega
  ·rw[if_pos rfl,wU]
   simp only;omega
theorem cut_sum(s e:Txt):(Lib.cut s e).1.length+(Lib.cut s e).2.1.length≤s.length:=by
 unfold Lib.cut
 split
 ·simp
  omega
 ·simp
theorem trim_len(s:Txt):(jK s).length≤s.length:=by
 unfold jK;rw[List.length_reverse];have h1:=wS (p:=cO) (s.dropWhile cO).reverse;have h2:=wS (p:=cO) s;rw[List.length_reverse]at h1;omega
theorem yj{k:Int}(hk:k=3∨k=4)(s e:Txt):wts (lG k s e).1+12 * (lG k s e).2.length≤12 * s.length+11:=by
 have h:=cut_sum s e;have h2:=trim_len (Lib.cut s e).1;unfold lG jB;rw[wU]
 rcases hk with rfl|rfl
 ·rw[wt_k3,if_neg (by decide)]
  simp only[List.length_append,List.length_cons,List.length_nil];omega
 ·rw[wt_k4]
  simp only[if_true,List.length_append,List.length_cons,List.length_nil];omega
theorem ME(s:Txt):wts (iV s).1+12 * (iV s).2.length≤12 * s.length+11:=by
 have w3:wt ⟨3,[],[],[],false⟩=7:=by decide
 unfold iV
 split
 ·rw[wU,w3];simp;omega
 ·split
  ·rw[wU,w3];simp;omega
  ·exact yj (.inl rfl) _ _
theorem open_len{s r:Txt}{ts:List Tok}(h:iL s=some (ts,r)):wts ts+12 * r.length≤12 * (s.length+1):=by
 have hx:∀ {x:List Tok×Txt} {n:Nat},some x=some (ts,r)→wts x.1+12 * x.2.length≤n→wts ts+12 * r.length≤n:=by
  intro x n e hn;simp only[Option.some.injEq]at e;rw[e]at hn;exact hn
 unfold iL at h
 split at h
 ·exact hx h (QH (.inl rfl) s)
 ·split at h
  ·have:=QH (.inr rfl) s.tail
   rw[List.length_tail]at this;exact hx h (by omega)
  ·split at h
   ·exact hx h (by simp[wts];omega)
   ·split at h
    ·have:=ME (s.drop 3)
     rw[List.length_drop]at this;exact hx h (by omega)
    ·split at h
     ·have:=yj (.inr rfl) (s.drop 8) [62]
      rw[List.length_drop]at this;exact hx h (by omega)
     ·split at h
      ·have:=yj (.inl rfl) s.tail [62]
       rw[List.length_tail]at this;exact hx h (by omega)
      ·split at h
       ·have:=yj (.inl rfl) s [62]
        exact hx h (by omega)
       ·split at h
        ·have:=yj (.inl rfl) s.tail [62]
         rw[List.length_tail]at this;exact hx h (by omega)
        ·simp at h
theorem MF(t:Txt):wts (eO t)≤12 * t.length:=by
 unfold eO
 split
 ·simp[wts]
 ·have:=Ed t
  rw[wU,wt,if_pos rfl];simp only;omega
theorem Bw:∀(n:Nat) (t s:Txt),wts (runN n t s)≤12 * (t.length+s.length)
 |0,t,s=>by
  have:=MF t;rw[runN];omega
 |n+1,t,s=>by
  have ht:=MF (t++s.take (gI s));have hf:gI s≤s.length:=List.findIdx_le_length;rw[List.length_append,List.length_take]at ht;unfold runN;cases hd:s.drop (gI s)with
  |nil=>
   simp only;omega
  |cons c s1=>
   have h1:gI s+(s1.length+1)=s.length:=by
    have:=congrArg List.length hd;simp at this;omega
   simp only;cases ho:iL s1 with
   |none=>
    have:=Bw n (t++s.take (gI s)++[60]) s1;simp only[List.length_append,List.length_take,List.length_cons,List.length_nil]at this;simp only;omega
   |some x=>
    obtain⟨ts,r⟩:=x;have h2:=open_len ho;have h3:=Bw n [] r;simp only[List.length_nil]at h3;simp only;rw[Kk,Kk];omega
end Go.Proofs.YtkcmghlhpbepcaaGreatDoor
namespace Go.Proofs.aj.W7
open Go.RowKit Go.Proofs Go.Proofs.aj Go.Proofs.YtkcmghlhpbepcaaGreatDoor Go.Proofs.ah.aD
def lT(x:Rw):Tok:=if x.f1=0 then⟨1,x.f2.data.toList,x.f4.map kJ,[],false⟩else if x.f1=1 then⟨0,[],[],x.f3.data.toList,false⟩else⟨3,[],[],x.f3.data.toList,false⟩
def endP(n:Bt):Tok:=⟨2,n.data.toList,[],[],false⟩
def jZ:List Rw→List Bt→List Tok
 | [],op=>op.reverse.map endP
 |x::r,op=>(op.drop x.f0.toNat).reverse.map endP++lT x::jZ r (opA (op.take x.f0.toNat) x)
theorem pairsTS7(l:List At):(l.map kJ).map pairT=l:=by
 induction l with
 |nil=>rfl
 |cons a l ih=>
  rw[List.map_cons,List.map_cons,ih];rfl
theorem tokT_P(x:Rw):l9 (lT x)=rR x:=by
 unfold lT rR
 split
 ·show(⟨1,⟨x.f2.data.toList.toArray⟩,⟨#[]⟩,(x.f4.map kJ).map pairT,false⟩:Tk)=_
  rw[pairsTS7]
 ·split<;>rfl
theorem QT:∀(r:List Rw) (op:List Bt),(jZ r op).map l9=emit r op
 | [],op=>by
   rw[jZ,emit,List.map_map];rfl
 |x::r,op=>by
  rw[jZ,emit,List.map_append,List.map_map,List.map_cons,tokT_P,QT r];rfl
abbrev MR:=Go.Proofs.YtkcmghlhpbepcaaGreatDoor.Good
def Shut(d:Int):List Rw→Prop
 | []=>True
 |z::_=>z.f0≤d
structure BG (x:Rw) (r:List Rw):Prop where
 start:x.f1=0→qM x.f2.data.toList (x.f4.map kJ)
 note:x.f1=2→rP x.f3.data.toList
 inner:x.f1=0→(mJ x.f2.data.toList||mq x.f2.data.toList)=true→jv x.f2=false∧
  (Shut x.f0 r∨∃y r',r=y::r'∧y.f1=1∧y.f0=x.f0+1∧(mJ x.f2.data.toList=true→G9 x.f2.data.toList y.f3.data.toList)∧Shut x.f0 r')
def uL:List Rw→Prop
 | []=>True
 |x::r=>BG x r∧uL r
def BH(op:List Bt):Prop:=∀n∈op,qN n.data.toList
theorem yS{L:List Tok}(hL:MR L):∀(m:List Bt),BH m→MR (m.map endP++L)
 | [],_=>hL
 |n::m,h=>.shuts (h n (by simp)) (yS hL m (fun k hk=>h k (by simp[hk])))
theorem Du{n:Bt}{op:List Bt}{out:List Rw}:∀ {r:List Rw},Shut op.length r→RowsFit r (op++[n]) out→Closed n.data.toList (jZ r (op++[n]))
 | [],_,_=>.inr ⟨op.reverse.map endP,by rw[jZ,List.reverse_append];rfl⟩
 |z::r,hz,hf=>by
  have h0:=hf.1.lo;have hz':z.f0≤op.length:=hz;refine .inr ⟨(op.drop z.f0.toNat).reverse.map endP++lT z::jZ r (opA ((op++[n]).take z.f0.toNat) z),?_⟩;rw[jZ,List.drop_append_of_le_length (by omega),List.reverse_append];rfl
theorem R8{x:Rw}{r:List Rw}{op:List Bt}(h:BG x r)(ho:BH op):BH (opA (op.take x.f0.toNat) x):=by
 unfold opA
 split
 ·rename_i hc
  intro n hn
  rcases List.mem_append.1 hn with hn|hn
  ·exact ho n (List.mem_of_mem_take hn)
  ·obtain rfl:=List.mem_singleton.1 hn
   exact(h.start hc.1).name
 ·exact fun n hn=>ho n (List.mem_of_mem_take hn)
theorem R9:∀(N:Nat) (r:List Rw) (op:List Bt) (out:List Rw),r.length≤N→RowsFit r op out→uL r→BH op→MR (jZ r op):=by
 intro N
 induction N with
 |zero=>
  intro r op out hN _ _ ho;obtain rfl:r=[]:=List.eq_nil_of_length_eq_zero (by omega);have:=yS .nil op.reverse (fun n hn=>ho n (List.mem_reverse.1 hn))
  rwa [List.append_nil]at this
 |succ N ih=>
  intro r op out hN hf hg ho;cases r with
  |nil=>
   have:=yS .nil op.reverse (fun n hn=>ho n (List.mem_reverse.1 hn))
   rwa [List.append_nil]at this
  |cons x r=>
   obtain⟨f1,f2⟩:=hf;obtain⟨g1,g2⟩:=hg;have ho2:=R8 g1 ho;have hN':r.length≤N:=by simpa using hN
   refine yS ?_ _ (fun n hn=>ho n (List.mem_of_mem_drop (List.mem_reverse.1 hn)));have hrec:=ih r _ _ hN' f2 g2 ho2;have hlen:(op.take x.f0.toNat).length=x.f0.toNat:=by rw[List.length_take];have:=f1.hi;have:=f1.lo;omega
   have hlo:=f1.lo
   rcases f1.kind with k|k|k
   ·have e:lT x=⟨1,x.f2.data.toList,x.f4.map kJ,[],false⟩:=by unfold lT;rw[if_pos k]
    rw[e];cases hrs:(mJ x.f2.data.toList||mq x.f2.data.toList)with
    |false=>exact .start (g1.start k) hrs hrec
    |true=>
     obtain⟨hv,hin⟩:=g1.inner k hrs;have eo:opA (op.take x.f0.toNat) x=op.take x.f0.toNat++[x.f2]:=by unfold opA;rw[if_pos ⟨k,hv⟩]
     rw[eo]at hrec f2 ho2⊢;have hd:((op.take x.f0.toNat).length:Int)=x.f0:=by omega
     rcases hin with hs|⟨y,r',rfl,y1,y2,y3,y4⟩
     ·exact .shut (g1.start k) hrs (Du (by rw[hd];exact hs) f2) hrec
     ·obtain⟨q1,q2⟩:=f2
      have hy:(op.take x.f0.toNat++[x.f2]).length=y.f0.toNat:=by rw[List.length_append,List.length_singleton];omega
      have hdr:(op.take x.f0.toNat++[x.f2]).drop y.f0.toNat=[]:=List.drop_eq_nil_of_le (by omega);have htk:(op.take x.f0.toNat++[x.f2]).take y.f0.toNat=op.take x.f0.toNat++[x.f2]:=List.take_of_length_le (by omega);have e2:lT y=⟨0,[],[],y.f3.data.toList,false⟩:=by unfold lT;rw[if_neg (by omega),if_pos y1]
      have eo2:opA ((op.take x.f0.toNat++[x.f2]).take y.f0.toNat) y=op.take x.f0.toNat++[x.f2]:=by unfold opA;rw[if_neg (by omega),htk]
      rw[eo2]at q2;have hr2:=ih r' _ _ (by simp only[List.length_cons]at hN';omega) q2 g2.2 ho2;rw[jZ,hdr,e2,eo2];exact .full (g1.start k) hrs (q1.text y1).1 y3 (Du (by rw[hd];exact y4) q2) hr2
   ·have e:lT x=⟨0,[],[],x.f3.data.toList,false⟩:=by unfold lT;rw[if_neg (by omega),if_pos k]
    rw[e];exact .text (f1.text k).1 hrec
   ·have e:lT x=⟨3,[],[],x.f3.data.toList,false⟩:=by unfold lT;rw[if_neg (by omega),if_neg (by omega)]
    rw[e];exact .note (g1.note k) hrec
def Apart:Bool→List Tok→Prop
 |_,[]=>True
 |b,t::r=>(t.kind=0→b=false∧t=⟨0,[],[],t.data,false⟩∧t.data≠[])∧Apart (decide (t.kind=0)) r
theorem zU:∀(L:List Tok) (p:Txt),Apart (decide (p≠[])) L→oG p L=uI p++L
 | [],p,_=>by rw[oG,List.append_nil]
 |t::r,p,h=>by
  obtain⟨h1,h2⟩:=h;rw[oG]
  by_cases k:t.kind=0
  ·obtain⟨a,b,c⟩:=h1 k
   have hp:p=[]:=by simpa using a
   subst hp;rw[if_pos k,List.nil_append,zU r t.data (by simpa [k,c]using h2),uI,if_neg c,uI,if_pos rfl];rw[←b];rfl
  ·rw[if_neg k,zU r [] (by simpa [k]using h2)]
   rfl
theorem FU{L:List Tok}(hL:Apart false L):∀(m:List Bt) (b:Bool),(m=[]→b=false)→Apart b (m.map endP++L)
 | [],b,h=>by rw[h rfl];exact hL
 |n::m,b,h=>⟨fun k=>by simp[endP]at k,FU hL m _ (fun _=>rfl)⟩
theorem FV:∀(r:List Rw) (op:List Bt) (out:List Rw) (b:Bool),RowsFit r op out→(b=true→ou op out=true)→Apart b (jZ r op)
 | [],op,out,b,_,_=>by
   rw[jZ];generalize op.reverse=m
   induction m generalizing b with
   |nil=>trivial
   |cons n m ih=>exact⟨fun k=>by simp[endP]at k,ih _ (by simp[endP])⟩
 |x::r,op,out,b,hf,hb=>by
  obtain⟨f1,f2⟩:=hf;have hlo:=f1.lo;have hhi:=f1.hi;have hlen:(op.take x.f0.toNat).length=x.f0.toNat:=by rw[List.length_take];omega
  rw[jZ]
  have hrest:∀c:Bool,(c=true→ou (op.take x.f0.toNat) out=true)→Apart c (lT x::jZ r (opA (op.take x.f0.toNat) x)):=by
   intro c hc;refine⟨fun k=>?_,FV r _ (out++[x]) _ f2 (fun k=>?_)⟩
   ·have k1:x.f1=1:=by
     rcases f1.kind with k'|k'|k'
     ·simp[lT,k']at k
     ·exact k'
     ·simp[lT,k']at k
    obtain⟨t1,t2⟩:=f1.text k1;have e:lT x=⟨0,[],[],x.f3.data.toList,false⟩:=by unfold lT;rw[if_neg (by omega),if_pos k1]
    rw[e];refine⟨?_,rfl,t1⟩;cases c with
    |false=>rfl
    |true=>rw[hc rfl]at t2;cases t2
   ·have k:=of_decide_eq_true k
    have k1:x.f1=1:=by
     rcases f1.kind with k'|k'|k'
     ·simp[lT,k']at k
     ·exact k'
     ·simp[lT,k']at k
    have eo:opA (op.take x.f0.toNat) x=op.take x.f0.toNat:=by unfold opA;rw[if_neg (by omega)]
    rw[eo];unfold ou;simp only[List.getLast?_append,List.getLast?_singleton,Option.some_or];simp[k1,hlen];omega
  by_cases hd:op.drop x.f0.toNat=[]
  ·have ht:op.take x.f0.toNat=op:=by
    have:=List.take_append_drop x.f0.toNat op;rw[hd,List.append_nil]at this;exact this
   rw[hd];exact hrest b (by rw[ht];exact hb)
  ·exact FU (hrest false (by simp)) _ b (fun h=>absurd (by simpa using h) hd)
theorem emit_cut{r:List Rw}(hf:RowsFit r [] [])(hg:uL r):cutL (yh (jZ r []))=jZ r []:=by
 have h1:=RH (R9 r.length r [] [] (Nat.le_refl _) hf hg (by intro n hn;cases hn)) [] [] Fp;have h2:=zU (jZ r []) [] (by simpa using FV r [] [] false hf (by simp));rw[uI,if_pos rfl,List.nil_append]at h2;unfold cutL yh;rw[h1,h2]
end Go.Proofs.aj.W7
namespace Go.Proofs.aj.W7
open Go.RowKit Go.Proofs.ah.aD Go.Proofs.ah.bG Go.Proofs.ah.bR
attribute [local go_sem] dD dF dV dW bU bV dG dH
def lH.f(l0:List (S34))(a1:Int):Option (Bool):=if a1≥0 then(some (decide (a1<(l0.length:Int))))else(some false)
theorem lH.calls(A0:Option Addr)(c0:Nat)(l0:List (S34))(a1:Int)(r:Bool)(w:World)(hr0:Kd.C k34 w A0 l0.length l0)(hc0:l0.length≤c0)(h:lH.f l0 a1=some r):
 Calls Tryz.prog 143 #[.slice A0 l0.length c0,.int .i64 a1] w fun e w'=>e=.returned (.bool r)∧bK w w':=by
 have HR0:=ak.mk hr0;have HC0:=ak.mk hc0;clear hr0 hc0;have H:(if a1≥0 then(some (decide (a1<(l0.length:Int))))else(some false))=some r:=h;clear h
 by_cases c3:a1≥0
 ·rw[if_pos c3]at H
  have nD:decide (0≤a1)=true:=decide_eq_true c3;clear c3;obtain rfl:=Option.some.inj H;go_enter Tryz.func143,Tryz.ntmps143;go_wp2;go_ret;exact⟨q'c,by repeat(first|exact bK.refl _|apply bK.step)⟩
 ·rw[if_neg c3]at H
  have nD:decide (0≤a1)=false:=decide_eq_false c3;clear c3;obtain rfl:=Option.some.inj H;go_enter Tryz.func143,Tryz.ntmps143;go_wp2;go_ret;exact⟨q'c,by repeat(first|exact bK.refl _|apply bK.step)⟩
end Go.Proofs.aj.W7
