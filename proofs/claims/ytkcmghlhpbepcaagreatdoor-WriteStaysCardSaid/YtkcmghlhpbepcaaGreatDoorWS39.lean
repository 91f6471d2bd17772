/- Lemmas and walks, part 39. -/
import Derived.Test.YtkcmghlhpbepcaaGreatDoorWS38
set_option linter.unusedVariables false
set_option linter.unusedSimpArgs false
namespace Go.Proofs.aj.W7
open Go.RowKit Go.Proofs Go.Proofs.aj Go.Proofs.YtkcmghlhpbepcaaGreatDoor Go.Proofs.ah.aD Go.Proofs.YtkcmghlhpbepcaaGreatDoor.Ch
theorem yA{p:UInt8→Bool}(h:(List.range 256).all (fun k=>!(p (UInt8.ofNat k))||decide ((UInt8.ofNat k).toNat<128))=true)(c:UInt8)(hc:p c=true):c.toNat<128:=by
 have:=jh (p:=fun c=>!(p c)||decide (c.toNat<128)) h c;rw[hc]at this;simpa using this
theorem F5{p:UInt8→Bool}(hp:∀c,p c=false→c.toNat<128):∀ {s:Txt},Cln s→Cln (s.drop (s.findIdx p))
 | [],h=>h
 |c::t,h=>by
  rw[List.findIdx_cons];cases hc:p c with
  |true=>exact h
  |false=>
   simp only[cond_false,List.drop_succ_cons];exact F5 hp (qA (hp c hc) h)
theorem M7{s:Txt}(h:Cln s):Cln (lu s):=F5 (fun c hc=>yA (p:=fun c=>!(!Go.Proofs.YtkcmghlhpbepcaaGreatDoor.cO c)) (by decide +kernel) c (by rw[hc];rfl)) h
theorem gap_cln{s:Txt}(h:Cln s):Cln (s.drop (qm s)):=F5 (fun c hc=>yA (p:=fun c=>!(!Go.Proofs.YtkcmghlhpbepcaaGreatDoor.cO c&&c !=47)) (by decide +kernel) c (by rw[hc];rfl)) h
theorem val_cln{nm s:Txt}(hn:Cln nm)(h:Cln s):(Cln (zB nm s).1.1∧Cln (zB nm s).1.2)∧((zB nm s).2.2=true→Cln (zB nm s).2.1):=by
 unfold zB
 split
 ·exact⟨⟨hn,gY⟩,fun e=>by cases e⟩
 ·rename_i q t
  split
  ·rename_i hq
   have hq':q.toNat<128:=by rcases hq with rfl|rfl<;>decide
   obtain⟨a,b⟩:=BN hq' (qA hq' h);exact⟨⟨hn,Ef a⟩,b⟩
  ·obtain⟨a,b⟩:=F6 (fun c=>Go.Proofs.YtkcmghlhpbepcaaGreatDoor.cO c||c==62) (yA (by decide +kernel)) h
   exact⟨⟨hn,Ef a⟩,fun _=>b⟩
theorem Sn{nm s:Txt}(hn:Cln nm)(h:Cln s):(Cln (qZ nm s).1.1∧Cln (qZ nm s).1.2)∧((qZ nm s).2.2=true→Cln (qZ nm s).2.1):=by
 have h1:=M7 h;unfold qZ
 split
 ·exact⟨⟨hn,gY⟩,fun e=>by cases e⟩
 ·rename_i c t e
  rw[e]at h1
  split
  ·rename_i hc
   subst hc;exact val_cln hn (M7 (qA (by decide) h1))
  ·exact⟨⟨hn,gY⟩,fun _=>h⟩
theorem Sq{s:Txt}(h:Cln s):(Cln (kV s).1.1∧Cln (kV s).1.2)∧((kV s).2.2=true→Cln (kV s).2.1):=by
 have hk:=Kw (o9 s) (fun c hc=>?_) h
 ·exact Sn (QZ hk.1) hk.2
 ·unfold o9 at hc
  rw[Nat.add_comm,←List.getElem?_tail]at hc;obtain⟨hk,rfl⟩:=List.getElem?_eq_some_iff.1 hc;exact yA (p:=fun c=>bS c||c==61) (by decide +kernel) _ (List.findIdx_getElem (w:=hk))
theorem F7:∀(n:Nat) (acc:List (Txt×Txt)) (s:Txt) r,kU n acc s=some r→(∀a∈acc,Cln a.1∧Cln a.2)→Cln s→(∀a∈r.1,Cln a.1∧Cln a.2)∧Cln r.2.2
 |0,_,_,_,h,_,_=>by simp[kU]at h
 |n+1,acc,s,r,h,ha,hs=>by
  unfold kU at h;have hg:=gap_cln hs;cases hd:s.drop (qm s)with
  |nil=>rw[hd]at h;simp at h
  |cons c s1=>
   rw[hd]at h hg;simp only at h
   split at h
   ·rename_i hc
    simp at h;subst h;subst hc;exact⟨ha,qA (by decide) hg⟩
   ·obtain⟨a1,a2⟩:=Sq hg
    split at h
    ·rename_i hc
     refine F7 n _ _ r h (fun a hm=>?_) (a2 hc);unfold za at hm
     split at hm
     ·exact ha a hm
     ·rcases List.mem_append.1 hm with hm|hm
      ·exact ha a hm
      ·obtain rfl:=List.mem_singleton.1 hm
       exact a1
    ·simp at h
theorem OA{s r:Txt}{t:Tok}(h:eG s=some (t,r))(hs:Cln s):(Cln t.name∧∀a∈t.attrs,Cln a.1∧Cln a.2)∧t.data=[]∧Cln r:=by
 unfold eG at h;obtain⟨a,b⟩:=F6 bS (yA (by decide +kernel)) hs;cases ha:ku [] (s.drop (s.findIdx bS))with
 |none=>rw[ha]at h;simp at h
 |some q=>
  rw[ha]at h;simp at h;have h2:=F7 _ _ _ _ ha (by simp) b;obtain⟨rfl,rfl⟩:=h;exact⟨⟨QZ a,h2.1⟩,rfl,h2.2⟩
theorem M8(nm:Txt):∀(s:Txt) (c:UInt8),s[Go.Proofs.YtkcmghlhpbepcaaGreatDoor.iy nm s]?=some c→c.toNat<128
 | [],c,h=>by simp at h
 |x::t,c,h=>by
  rw[Go.Proofs.YtkcmghlhpbepcaaGreatDoor.iy]at h
  split at h
  ·rename_i hc
   simp only[List.getElem?_cons_zero,Option.some.injEq]at h;subst h;unfold gD at hc
   split at hc
   ·rename_i e
    rw[(List.cons.inj e).1]
    decide
   ·cases hc
  ·rw[Nat.add_comm,List.getElem?_cons_succ]at h
   exact M8 nm t c h
def mH(L:List Tok):Prop:=∀t∈L,CQ t
theorem BO:mH []:=fun t h=>by cases h
theorem BP{a b:List Tok}(ha:mH a)(hb:mH b):mH (a++b):=fun t h=>by
 rcases List.mem_append.1 h with h|h
 ·exact ha t h
 ·exact hb t h
theorem BQ{k:Int}{nm d:Txt}{l:List (Txt×Txt)}{b:Bool}(h1:Cln nm)(h2:∀a∈l,Cln a.1∧Cln a.2)(h3:Cln d):mH [⟨k,nm,l,d,b⟩]:=fun t h=>by
 obtain rfl:=List.mem_singleton.1 h;exact⟨h1,h3,h2⟩
theorem yB{k:Int}{d:Txt}(h:Cln d):mH [⟨k,[],[],d,false⟩]:=BQ gY (by simp) h
theorem F8(nm:Txt){s:Txt}(h:Cln s):mH (jq nm s)∧Cln (jo nm s):=by
 obtain⟨a,b⟩:=Kw (Go.Proofs.YtkcmghlhpbepcaaGreatDoor.iy nm s) (M8 nm s) h;refine⟨?_,b⟩;unfold jq
 split
 ·exact BO
 ·refine yB ?_
  split
  ·exact Ef a
  ·exact a
theorem Ie{p:UInt8→Bool}(hp:∀c,p c=true→c.toNat<128):∀(m:Txt),Cln m.reverse→Cln (m.dropWhile p).reverse
 | [],h=>h
 |c::m,h=>by
  rw[List.dropWhile_cons]
  split
  ·rename_i hc
   rw[List.reverse_cons]at h;exact Ie hp m (Ky (fun x r e=>by rw[←(List.cons.inj e).1];exact hp c hc) h).1
  ·exact h
theorem Ig{p:UInt8→Bool}(hp:∀c,p c=true→c.toNat<128):∀ {m:Txt},Cln m→Cln (m.dropWhile p)
 | [],h=>h
 |c::m,h=>by
  rw[List.dropWhile_cons]
  split
  ·rename_i hc
   exact Ig hp (qA (hp c hc) h)
  ·exact h
theorem trim_cln{s:Txt}(h:Cln s):Cln (jK s):=by
 unfold jK;have hp:=yA (p:=Go.Proofs.YtkcmghlhpbepcaaGreatDoor.cO) (by decide +kernel);refine Ie hp _ ?_;rw[List.reverse_reverse];exact Ig hp h
theorem uO{k:Int}{s e:Txt}(hne:e≠[])(he:∀c∈e,c.toNat<128)(h:Cln s):mH (lG k s e).1∧Cln (lG k s e).2:=by
 obtain⟨a,b⟩:=cln_cutS hne he h;refine⟨yB ?_,b⟩;unfold jB
 split
 ·exact trim_cln a
 ·exact a
theorem M9{s:Txt}(h:Cln s):mH (iV s).1∧Cln (iV s).2:=by
 unfold iV
 split
 ·rename_i hp
  exact⟨yB gY,p9 (p:=[62]) hp (by decide) h⟩
 ·split
  ·rename_i hp
   exact⟨yB gY,p9 (p:=[45,62]) hp (by decide) h⟩
  ·split
   ·exact uO (by simp) (by decide) h
   ·exact uO (by simp) (by decide) h
theorem Ih(k:Int){s:Txt}(h:Cln s):mH (oq k s).1∧Cln (oq k s).2:=by
 unfold oq;cases ho:eG s with
 |none=>exact⟨BO,gY⟩
 |some x=>
  obtain⟨t,r⟩:=x;obtain⟨⟨h1,h2⟩,h3,h4⟩:=OA ho h;simp only
  split
  ·exact⟨BQ h1 (by simp) gY,h4⟩
  ·split
   ·obtain⟨a,b⟩:=F8 t.name h4
    exact⟨BP (a:=[_]) (BQ h1 h2 (by rw[h3];exact gY)) a,b⟩
   ·exact⟨BQ h1 h2 (by rw[h3];exact gY),h4⟩
theorem low_asc(c:UInt8)(h:(lJ c).toNat<128):c.toNat<128:=by
 rcases Nat.lt_or_ge c.toNat 128 with h1|h1
 ·exact h1
 ·rw[tH c h1]at h
  exact h
theorem doct_cln{s:Txt}(hd:jC s=true)(h:Cln s):Cln (s.drop 8):=by
 unfold jC at hd;simp only[Bool.and_eq_true,beq_iff_eq]at hd;refine F9 (s.take 8) (fun c hc=>low_asc c ?_) (by rw[List.take_append_drop];exact h);have:lJ c∈iJ (s.take 8):=List.mem_map.2 ⟨c,hc,rfl⟩;rw[hd.1.2]at this
 revert this
 generalize lJ c=x;simp only[List.mem_cons,List.not_mem_nil,or_false];rintro(rfl|rfl|rfl|rfl|rfl|rfl|rfl|rfl)<;>decide
theorem Ga{s:Txt}{x:UInt8}(hx:x.toNat<128)(hp:Lib.hasPrefix s [x]=true)(h:Cln s):Cln s.tail:=by
 have:=p9 (p:=[x]) hp (by simpa using hx) h
 rwa [List.length_singleton,List.drop_one]at this
theorem open_cln{s:Txt}(h:Cln s){r:List Tok×Txt}(ho:iL s=some r):mH r.1∧Cln r.2:=by
 unfold iL at ho
 split at ho
 ·obtain rfl:=Option.some.inj ho;exact Ih 1 h
 split at ho
 ·rename_i hp
  rw[Bool.and_eq_true]at hp;obtain rfl:=Option.some.inj ho;exact Ih 2 (Ga (by decide) hp.1 h)
 split at ho
 ·rename_i hp
  obtain rfl:=Option.some.inj ho;exact⟨BO,p9 (p:=[47,62]) hp (by decide) h⟩
 split at ho
 ·rename_i hp
  obtain rfl:=Option.some.inj ho;exact M9 (p9 (p:=[33,45,45]) hp (by decide) h)
 split at ho
 ·rename_i hp
  obtain rfl:=Option.some.inj ho;exact uO (by simp) (by decide) (doct_cln hp h)
 split at ho
 ·rename_i hp
  obtain rfl:=Option.some.inj ho;exact uO (by simp) (by decide) (Ga (by decide) hp h)
 split at ho
 ·obtain rfl:=Option.some.inj ho;exact uO (by simp) (by decide) h
 split at ho
 ·rename_i hp
  rw[Bool.and_eq_true]at hp;obtain rfl:=Option.some.inj ho;exact uO (by simp) (by decide) (Ga (by decide) hp.2 h)
 ·cases ho
theorem Gb{t:Txt}(h:Cln t):mH (eO t):=by
 unfold eO
 split
 ·exact BO
 ·exact yB (Ef h)
theorem Eh:∀(n:Nat) (t s:Txt),Cln t→Cln s→mH (Go.Proofs.YtkcmghlhpbepcaaGreatDoor.runN n t s)
 |0,t,s,ht,hs=>Gb ht
 |n+1,t,s,ht,hs=>by
  obtain⟨a,b⟩:=F6 (fun c=>c==60) (yA (by decide +kernel)) hs;rw[Go.Proofs.YtkcmghlhpbepcaaGreatDoor.runN]
  split
  ·exact Gb (jr ht a)
  ·rename_i x s1 e
   have hx:x.toNat<128:=by
    have e1:s[Go.Proofs.YtkcmghlhpbepcaaGreatDoor.gI s]?=some x:=by rw[←List.head?_drop,e];rfl
    obtain⟨hk,rfl⟩:=List.getElem?_eq_some_iff.1 e1;exact yA (p:=fun c=>c==60) (by decide +kernel) _ (List.findIdx_getElem (w:=hk))
   have b2:Cln (x::s1):=by rw[←e];exact b
   have b3:=qA hx b2
   split
   ·exact Eh n _ s1 (jr (jr ht a) (kP (by decide))) b3
   ·rename_i ts r ho
    obtain⟨o1,o2⟩:=open_cln b3 ho;exact BP (BP (Gb (jr ht a)) o1) (Eh n [] r gY o2)
theorem in_cln(nm:Txt){s:Txt}(h:Cln s):mH (inL s nm):=by
 unfold inL
 split
 ·obtain⟨a,b⟩:=F8 nm h
  exact BP a (Eh _ _ _ gY b)
 ·exact Eh _ _ _ gY h
end Go.Proofs.aj.W7
namespace Go.Proofs.aj.W7
open Go.RowKit Go.Proofs Go.Proofs.aj Go.Proofs.YtkcmghlhpbepcaaGreatDoor Go.Proofs.ah.aD
theorem QW:∀(l out:List At),distinct (out++l)→pq out l=out++l
 | [],out,_=>by rw[pq,List.append_nil]
 |a::r,out,h=>by
  have hn:Al out a=false:=by
   cases e:Al out a with
   |false=>rfl
   |true=>
    exfalso
    unfold Al at e;obtain⟨b,hb,hb2⟩:=List.any_eq_true.1 e;obtain⟨i,hi,rfl⟩:=List.getElem_of_mem hb;have hl:(out++a::r).length=out.length+(r.length+1):=by simp
    have:=h out.length i (by omega) (by omega) (by
     rw[List.getElem_append_left hi];have e1:(out++a::r)[out.length]'(by omega)=a:=by simp
     rw[e1];exact(QM _ _).1 hb2)
    omega
  rw[pq,hn,if_neg (by decide),QW r (out++[a]) (by rw[List.append_assoc];exact h),List.append_assoc];rfl
theorem MZ{l:List At}(h:distinct l):mh l=l:=QW l [] h
theorem M0{l:List At}(h:distinct l):((l.map kJ).map Prod.fst).Nodup:=by
 rw[List.map_map];refine List.pairwise_iff_getElem.2 fun i j hi hj hij e=>?_
 rw[List.length_map]at hi hj;rw[List.getElem_map,List.getElem_map]at e;have e2:l[i].f0.data.toList=l[j].f0.data.toList:=e;have:=h i j hi hj (by rw[Lib.toList_data,Lib.toList_data];exact e2);omega
theorem H9:∀(l out:List At) (a:At),a∈pq out l→a∈out∨a∈l
 | [],out,a,h=>.inl h
 |b::r,out,a,h=>by
  rw[pq]at h
  rcases H9 r _ a h with h|h
  ·split at h
   ·exact .inl h
   ·rcases List.mem_append.1 h with h|h
    ·exact .inl h
    ·exact .inr (by rw[List.mem_singleton.1 h];simp)
  ·exact .inr (by simp[h])
theorem once_mem{l:List At}{a:At}(h:a∈mh l):a∈l:=by
 rcases H9 l [] a h with h|h
 ·cases h
 ·exact h
end Go.Proofs.aj.W7
