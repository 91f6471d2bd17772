/- Lemmas and walks, part 38. -/
import Derived.Test.YtkcmghlhpbepcaaGreatDoorWS37
import Derived.Test.YtkcmghlhpbepcaaGreatDoorWS30
set_option linter.unusedVariables false
set_option linter.unusedSimpArgs false
namespace Go.Proofs.YtkcmghlhpbepcaaGreatDoor.Ch
open Go Go.RowKit Go.Proofs.YtkcmghlhpbepcaaGreatDoor
theorem zY(c d:UInt8)(r:List UInt8)(h0:c.toNat / 32=6)(h1:d.toNat / 64=2)(h2:128≤c.toNat % 32 * 64+d.toNat % 64):Lib.validD (c::d::r)=Lib.validD r:=by
 rw[Lib.validD_step _ (by simp),Lib.decodeL_N]
 have e:Lib.decodeN (c::d::r).length ((c::d::r).getD 0 0).toNat ((c::d::r).getD 1 0).toNat ((c::d::r).getD 2 0).toNat ((c::d::r).getD 3 0).toNat=(c.toNat % 32 * 64+d.toNat % 64,2):=by
  have e1:c.toNat / 32=6∧(1<(c::d::r).length∧d.toNat / 64=2):=⟨h0,by simp,h1⟩;show Lib.decodeN (c::d::r).length c.toNat d.toNat _ _=_;unfold Lib.decodeN;rw[if_neg (by omega),if_pos e1,if_pos h2]
 rw[e,if_neg (by simp)];rfl
theorem zZ(c d f:UInt8)(r:List UInt8)(h0:c.toNat / 16=14)(h1:d.toNat / 64=2)(h2:f.toNat / 64=2)(h3:2048≤c.toNat % 16 * 4096+d.toNat % 64 * 64+f.toNat % 64)
 (h4:c.toNat % 16 * 4096+d.toNat % 64 * 64+f.toNat % 64<55296∨57344≤c.toNat % 16 * 4096+d.toNat % 64 * 64+f.toNat % 64):Lib.validD (c::d::f::r)=Lib.validD r:=by
 rw[Lib.validD_step _ (by simp),Lib.decodeL_N]
 have e:Lib.decodeN (c::d::f::r).length ((c::d::f::r).getD 0 0).toNat ((c::d::f::r).getD 1 0).toNat ((c::d::f::r).getD 2 0).toNat ((c::d::f::r).getD 3 0).toNat=(c.toNat % 16 * 4096+d.toNat % 64 * 64+f.toNat % 64,3):=by
  have e1:c.toNat / 16=14∧(1<(c::d::f::r).length∧d.toNat / 64=2)∧(2<(c::d::f::r).length∧f.toNat / 64=2):=⟨h0,⟨by simp,h1⟩,by simp,h2⟩;have e0:¬(c.toNat / 32=6∧(1<(c::d::f::r).length∧d.toNat / 64=2)):=by omega
  show Lib.decodeN (c::d::f::r).length c.toNat d.toNat f.toNat _=_;unfold Lib.decodeN;rw[if_neg (by omega),if_neg e0,if_pos e1,if_pos (by omega)]
 rw[e,if_neg (by simp)];rfl
theorem z8(c d f g:UInt8)(r:List UInt8)(h0:c.toNat / 8=30)(h1:d.toNat / 64=2)(h2:f.toNat / 64=2)(h3:g.toNat / 64=2)(h4:65536≤c.toNat % 8 * 262144+d.toNat % 64 * 4096+f.toNat % 64 * 64+g.toNat % 64)
 (h5:c.toNat % 8 * 262144+d.toNat % 64 * 4096+f.toNat % 64 * 64+g.toNat % 64≤1114111):Lib.validD (c::d::f::g::r)=Lib.validD r:=by
 rw[Lib.validD_step _ (by simp),Lib.decodeL_N]
 have e:Lib.decodeN (c::d::f::g::r).length ((c::d::f::g::r).getD 0 0).toNat ((c::d::f::g::r).getD 1 0).toNat ((c::d::f::g::r).getD 2 0).toNat ((c::d::f::g::r).getD 3 0).toNat=(c.toNat % 8 * 262144+d.toNat % 64 * 4096+f.toNat % 64 * 64+g.toNat % 64,4):=by
  have e1:c.toNat / 8=30∧(1<(c::d::f::g::r).length∧d.toNat / 64=2)∧(2<(c::d::f::g::r).length∧f.toNat / 64=2)∧(3<(c::d::f::g::r).length∧g.toNat / 64=2):=⟨h0,⟨by simp,h1⟩,⟨by simp,h2⟩,by simp,h3⟩;have e0:¬(c.toNat / 32=6∧(1<(c::d::f::g::r).length∧d.toNat / 64=2)):=by omega
  have e2:¬(c.toNat / 16=14∧(1<(c::d::f::g::r).length∧d.toNat / 64=2)∧(2<(c::d::f::g::r).length∧f.toNat / 64=2)):=by omega
  show Lib.decodeN (c::d::f::g::r).length c.toNat d.toNat f.toNat g.toNat=_;unfold Lib.decodeN;rw[if_neg (by omega),if_neg e0,if_neg e2,if_pos e1,if_pos (by omega)]
 rw[e,if_neg (by simp)];rfl
theorem esc_hi(q:Bool)(c:UInt8)(h:128≤c.toNat):oI q c=[c]:=by
 have:=jh (p:=fun c=>decide (c.toNat<128)||(oI true c==[c]&&oI false c==[c])) (by decide +kernel) c;rw[decide_eq_false (by omega)]at this;simp at this;cases q
 ·exact this.2
 ·exact this.1
theorem esc_lo(q:Bool)(c:UInt8)(h:c.toNat<128):∀x∈oI q c,x.toNat<128:=by
 have:=jh (p:=fun c=>!decide (c.toNat<128)||((oI true c).all (fun x=>decide (x.toNat<128))&&(oI false c).all (fun x=>decide (x.toNat<128)))) (by decide +kernel) c;rw[decide_eq_true h]at this;simp only[Bool.not_true,Bool.false_or,Bool.and_eq_true,List.all_eq_true,decide_eq_true_eq]at this;cases q
 ·exact this.2
 ·exact this.1
theorem o7{c:UInt8}(h:c≠194)(l:List UInt8):uM (c::l)=false:=by
 unfold uM Lib.hasPrefix;simp[List.isPrefixOf,Ne.symm h]
theorem BJ(q:Bool)(c:UInt8)(l:List UInt8)(h:128≤c.toNat)(hh:uM (c::l)=false):wrL q (c::l)=c::wrL q l:=by
 rw[BK hh,esc_hi q c h];rfl
theorem BL(a X:List UInt8)(h:∀x∈a,x.toNat<128):Lib.validD (a++X)=Lib.validD X:=by
 have:=Lib.validD_ascii a.length (a++X) (by rw[List.take_left];exact h)
 rwa [List.drop_left]at this
theorem n194{d:UInt8}(h:d.toNat / 64=2):d≠194:=by
 rintro rfl;simp at h
theorem yx(q:Bool):∀(N:Nat) (l:List UInt8),l.length≤N→Lib.validD l=true→Lib.validD (wrL q l)=true
 |0,l,hN,_=>by
  obtain rfl:l=[]:=List.eq_nil_of_length_eq_zero (by omega);rfl
 |N+1,[],_,_=>rfl
 |N+1,c::t,hN,hv=>by
  have hN':t.length≤N:=by simpa using hN
  rcases Lib.decodeN_shape (c::t).length ((c::t).getD 0 0).toNat ((c::t).getD 1 0).toNat ((c::t).getD 2 0).toNat ((c::t).getD 3 0).toNat with⟨h0,-⟩|⟨h0,hn,h1,h2,-⟩|⟨h0,hn,h1,h2,h3,h4,-⟩|⟨h0,hn,h1,h2,h3,h4,h5,-⟩|hb
  ·have h0:c.toNat<128:=h0
   rw[Lib.validD_cons c t h0]at hv;rw[BK (o7 (by rintro rfl;simp at h0) t),BL _ _ (esc_lo q c h0)];exact yx q N t hN' hv
  ·cases t with
   |nil=>simp at hn
   |cons d r=>
    have h0:c.toNat / 32=6:=h0;have h1:d.toNat / 64=2:=h1;have h2:128≤c.toNat % 32 * 64+d.toNat % 64:=h2;rw[zY c d r h0 h1 h2]at hv;have hr:=yx q N r (by simp at hN';omega) hv;cases hh:uM (c::d::r)with
    |true=>
     rw[FZ hh,BL _ _ (by decide)];exact hr
    |false=>
     rw[BJ q c _ (by omega) hh,BJ q d _ (by omega) (o7 (n194 h1) r),zY c d _ h0 h1 h2];exact hr
  ·rcases t with _|⟨d,_|⟨f,r⟩⟩
   ·simp at hn
   ·simp at hn
   ·have h0:c.toNat / 16=14:=h0
    have h1:d.toNat / 64=2:=h1;have h2:f.toNat / 64=2:=h2;rw[zZ c d f r h0 h1 h2 h3 h4]at hv;have hr:=yx q N r (by simp at hN';omega) hv;rw[BJ q c _ (by omega) (o7 (by rintro rfl;simp at h0) _),BJ q d _ (by omega) (o7 (n194 h1) _),BJ q f _ (by omega) (o7 (n194 h2) _),zZ c d f _ h0 h1 h2 h3 h4];exact hr
  ·rcases t with _|⟨d,_|⟨f,_|⟨g,r⟩⟩⟩
   ·simp at hn
   ·simp at hn
   ·simp at hn
   ·have h0:c.toNat / 8=30:=h0
    have h1:d.toNat / 64=2:=h1;have h2:f.toNat / 64=2:=h2;have h3:g.toNat / 64=2:=h3;rw[z8 c d f g r h0 h1 h2 h3 h4 h5]at hv;have hr:=yx q N r (by simp at hN';omega) hv;rw[BJ q c _ (by omega) (o7 (by rintro rfl;simp at h0) _),BJ q d _ (by omega) (o7 (n194 h1) _),BJ q f _ (by omega) (o7 (n194 h2) _),BJ q g _ (by omega) (o7 (n194 h3) _),z8 c d f g _ h0 h1 h2 h3 h4 h5];exact hr
  ·rw[Lib.validD_step _ (by simp),Lib.decodeL_N,hb,if_pos ⟨rfl,rfl⟩]at hv
   cases hv
theorem Iu(q:Bool)(z c:UInt8)(hz:z=0∨z=13)(h:c≠z):z∉oI q c:=by
 have:=jh (p:=fun c=>(c==0||(!(oI true c).contains 0&& !(oI false c).contains 0))&&(c==13||(!(oI true c).contains 13&& !(oI false c).contains 13))) (by decide +kernel) c;simp only[Bool.and_eq_true,Bool.or_eq_true,beq_iff_eq,Bool.not_eq_true',List.contains_eq_mem,decide_eq_false_iff_not]at this
 rcases hz with rfl|rfl
 ·rcases this.1 with h1|h1
  ·exact absurd h1 h
  ·cases q
   ·exact h1.2
   ·exact h1.1
 ·rcases this.2 with h1|h1
  ·exact absurd h1 h
  ·cases q
   ·exact h1.2
   ·exact h1.1
theorem Ae(q:Bool)(z:UInt8)(hz:z=0∨z=13):∀(N:Nat) (l:List UInt8),l.length≤N→z∉l→z∉wrL q l
 |0,l,hN,_=>by
  obtain rfl:l=[]:=List.eq_nil_of_length_eq_zero (by omega);simp[wrL]
 |N+1,[],_,_=>by simp[wrL]
 |N+1,c::t,hN,h=>by
  have hN':t.length≤N:=by simpa using hN
  cases hh:uM (c::t)with
  |true=>
   rw[FZ hh,List.mem_append];rintro(e|e)
   ·rcases hz with rfl|rfl<;>simp at e
   ·exact Ae q z hz N _ (by rw[List.length_drop];simp;omega) (fun e2=>h (List.mem_of_mem_drop e2)) e
  |false=>
   rw[BK hh,List.mem_append];rintro(e|e)
   ·exact Iu q z c hz (fun e2=>h (by simp[e2])) e
   ·exact Ae q z hz N t hN' (fun e2=>h (by simp[e2])) e
theorem cln_wr(q:Bool){l:List UInt8}(h:Cln l):Cln (wrL q l):=⟨yx q l.length l (Nat.le_refl _) h.1,Ae q 0 (.inl rfl) l.length l (Nat.le_refl _) h.2.1,Ae q 13 (.inr rfl) l.length l (Nat.le_refl _) h.2.2⟩
end Go.Proofs.YtkcmghlhpbepcaaGreatDoor.Ch
namespace Go.Proofs.aj.W7
open Go.RowKit Go.Proofs Go.Proofs.aj Go.Proofs.YtkcmghlhpbepcaaGreatDoor Go.Proofs.ah.aD Go.Proofs.YtkcmghlhpbepcaaGreatDoor.Ch
structure CQ (t:Tok):Prop where
 name:Cln t.name
 data:Cln t.data
 attrs:∀a∈t.attrs,Cln a.1∧Cln a.2
theorem Ij:∀(l:List (Txt×Txt)),(∀a∈l,Cln a.1∧Cln a.2)→Cln (dS l)
 | [],_=>gY
 |a::l,h=>by
  have h1:=h a (by simp)
  have e:dS (a::l)=[32]++(a.1++([61,34]++(wrL true a.2++([34]++dS l)))):=by
   show(32::(a.1++61::34::(wrL true a.2++[34])))++dS l=_;simp
  rw[e];exact jr (kP (by decide)) (jr h1.1 (jr (kP (by decide)) (jr (cln_wr true h1.2) (jr (kP (by decide)) (Ij l (fun b hb=>h b (by simp[hb])))))))
theorem Q5{o:Txt}(ho:Cln o){t:Tok}(h1:Cln t.name)(h2:∀a∈t.attrs,Cln a.1∧Cln a.2):Cln (jG o t):=by
 unfold jG;refine jr (jr (jr (jr ho h1) (Ij _ h2)) ?_) (kP (by decide));unfold lX
 split
 ·exact kP (by decide)
 ·exact gY
theorem tok_cln(b:Bool){t:Tok}(h:CQ t):Cln (nP b t):=by
 unfold nP
 split
 ·split
  ·exact h.data
  ·exact cln_wr false h.data
 ·split
  ·exact Q5 (kP (by decide)) h.name h.attrs
  ·split
   ·exact Q5 (kP (by decide)) h.name (by simp)
   ·split
    ·exact jr (jr (kP (by decide)) h.data) (kP (by decide))
    ·split
     ·exact jr (jr (kP (by decide)) h.data) (kP (by decide))
     ·exact gY
theorem Gd:∀(L:List Tok) (b:Bool),(∀t∈L,CQ t)→Cln (eu b L)
 | [],_,_=>gY
 |t::L,b,h=>jr (tok_cln b (h t (by simp))) (Gd L _ (fun x hx=>h x (by simp[hx])))
structure Ku (x:Rw):Prop where
 name:Cln x.f2.data.toList
 data:Cln x.f3.data.toList
 attrs:∀a∈x.f4,Cln a.f0.data.toList∧Cln a.f1.data.toList
theorem tokP_cln{x:Rw}(h:Ku x):CQ (lT x):=by
 unfold lT
 split
 ·refine⟨h.name,gY,fun a ha=>?_⟩
  obtain⟨y,hy,rfl⟩:=List.mem_map.1 ha;exact h.attrs y hy
 ·split
  ·exact⟨gY,h.data,by simp⟩
  ·exact⟨gY,h.data,by simp⟩
theorem Nc:∀(r:List Rw) (op:List Bt),(∀x∈r,Ku x)→(∀n∈op,Cln n.data.toList)→∀t∈jZ r op,CQ t
 | [],op,_,ho=>by
   intro t ht;obtain⟨n,hn,rfl⟩:=List.mem_map.1 ht;exact⟨ho n (List.mem_reverse.1 hn),gY,by simp[endP]⟩
 |x::r,op,hr,ho=>by
  intro t ht;rw[jZ]at ht
  rcases List.mem_append.1 ht with ht|ht
  ·obtain⟨n,hn,rfl⟩:=List.mem_map.1 ht
   exact⟨ho n (List.mem_of_mem_drop (List.mem_reverse.1 hn)),gY,by simp[endP]⟩
  ·rcases List.mem_cons.1 ht with rfl|ht
   ·exact tokP_cln (hr x (by simp))
   ·refine Nc r _ (fun y hy=>hr y (by simp[hy])) (fun n hn=>?_) t ht
    unfold opA at hn
    split at hn
    ·rcases List.mem_append.1 hn with hn|hn
     ·exact ho n (List.mem_of_mem_take hn)
     ·obtain rfl:=List.mem_singleton.1 hn
      exact(hr x (by simp)).name
    ·exact ho n (List.mem_of_mem_take hn)
theorem Nf(M:Nat):∀(r:List Rw) (op:List Bt),(∀x∈r,x.f3.size≤M∧x.f4.length≤1000000)→o8 (emit r op)≤r.length * M∧∀t∈emit r op,t.f3.length≤1000000
 | [],op,_=>by
   have e:∀m:List Bt,o8 (m.map zT)=0:=by
    intro m
    induction m with
    |nil=>rfl
    |cons n m ih=>
     have e1:o8 ((n::m).map zT)=0+o8 (m.map zT):=rfl;rw[e1,ih]
   refine⟨by rw[emit,e];omega,fun t ht=>?_⟩;obtain⟨n,hn,rfl⟩:=List.mem_map.1 ht;simp[zT]
 |x::r,op,h=>by
  have e:∀m:List Bt,o8 (m.map zT)=0:=by
   intro m
   induction m with
   |nil=>rfl
   |cons n m ih=>
    have e1:o8 ((n::m).map zT)=0+o8 (m.map zT):=rfl;rw[e1,ih]
  obtain⟨i1,i2⟩:=Nf M r (opA (op.take x.f0.toNat) x) (fun y hy=>h y (by simp[hy]));have hx:=h x (by simp)
  have ht:(rR x).f2.size≤M∧(rR x).f3.length≤1000000:=by
   unfold rR
   split
   ·exact⟨Nat.zero_le _,hx.2⟩
   ·split
    ·exact⟨hx.1,Nat.zero_le _⟩
    ·exact⟨hx.1,Nat.zero_le _⟩
  refine⟨?_,fun t hm=>?_⟩
  ·have e2:o8 (emit (x::r) op)=o8 ((op.drop x.f0.toNat).reverse.map zT)+((rR x).f2.size+o8 (emit r (opA (op.take x.f0.toNat) x))):=by
    rw[emit];simp[o8]
   rw[e2,e,List.length_cons,Nat.add_mul];omega
  ·rw[emit]at hm
   rcases List.mem_append.1 hm with hm|hm
   ·obtain⟨n,hn,rfl⟩:=List.mem_map.1 hm
    simp[zT]
   ·rcases List.mem_cons.1 hm with rfl|hm
    ·exact ht.2
    ·exact i2 t hm
theorem OB(xs:List Rw)(s:Bt)(hs:s.data.toList=yh (jZ xs []))(hz:s.size≤65536)(hf:RowsFit xs [] [])(hg:uL xs)(hc:∀x∈xs,Ku x)(M:Nat)(hM:∀x∈xs,x.f3.size≤M∧x.f4.length≤1000000)(hb:xs.length * M≤1000000000):
 nR.f s ⟨#[]⟩=some (xs,0)∧eP.f s=some (xs,0):=by
 have hl:s.data.toList.length=s.size:=Array.length_toList;have hcl:Cln s.data.toList:=by rw[hs];exact Gd _ _ (Nc xs [] hc (by simp))
 have hr:=RV hcl
 have hin:inL s.data.toList []=jZ xs []:=by
  unfold inL;rw[if_neg (by decide),hs];exact emit_cut hf hg
 have key:nR.f s ⟨#[]⟩=some (xs,0):=by
  unfold nR.f;rw[if_neg (by omega)];unfold lC.f;rw[if_pos (by omega),Option.bind_some,hr];unfold oJ.f;have hq:(⟨s.data.toList.toArray⟩:Bt).size=s.size:=by show(List.toArray s.data.toList).size=_;simp
  rw[if_pos (by omega),Option.bind_some];obtain⟨t1,t2⟩:=Nf M xs [] hM
  have e:((inL (⟨s.data.toList.toArray⟩:Bt).data.toList (⟨#[]⟩:Bt).data.toList).map l9)=emit xs []:=by
   show(inL s.data.toList []).map l9=_;rw[hin,QT]
  show(jR.f ((inL (⟨s.data.toList.toArray⟩:Bt).data.toList (⟨#[]⟩:Bt).data.toList).map l9)).bind _=_;rw[e,tree_f (emit xs []) (by omega) t2,H6 xs [] [] (by intro n hn;cases hn) hf];rfl
 refine⟨key,?_⟩;unfold eP.f;rw[key,Option.bind_some]
end Go.Proofs.aj.W7
namespace Go.Proofs.YtkcmghlhpbepcaaGreatDoor.Ch
open Go Go.RowKit Go.Proofs.YtkcmghlhpbepcaaGreatDoor
theorem qV:∀(N:Nat) (a b:List UInt8),a.length≤N→(∀c r,b=c::r→c.toNat<128)→Lib.validD (a++b)=true→Lib.validD a=true∧Lib.validD b=true
 |_,[],b,_,_,hv=>⟨rfl,hv⟩
 |0,c::t,b,hN,_,_=>by simp at hN
 |N+1,c::t,b,hN,hb,hv=>by
  have hN':t.length≤N:=by simpa using hN
  have hv:Lib.validD (c::(t++b))=true:=hv
  rcases Lib.decodeN_shape (c::(t++b)).length ((c::(t++b)).getD 0 0).toNat ((c::(t++b)).getD 1 0).toNat ((c::(t++b)).getD 2 0).toNat ((c::(t++b)).getD 3 0).toNat with⟨h0,-⟩|⟨h0,hn,h1,h2,-⟩|⟨h0,hn,h1,h2,h3,h4,-⟩|⟨h0,hn,h1,h2,h3,h4,h5,-⟩|hbad
  ·have h0:c.toNat<128:=h0
   rw[Lib.validD_cons c (t++b) h0]at hv;obtain⟨i1,i2⟩:=qV N t b hN' hb hv;exact⟨by rw[Lib.validD_cons c t h0];exact i1,i2⟩
  ·rcases t with _|⟨d,r⟩
   ·rcases b with _|⟨d,r⟩
    ·simp at hn
    ·have h1:d.toNat / 64=2:=h1
     have:=hb d r rfl;omega
   ·have h0:c.toNat / 32=6:=h0
    have h1:d.toNat / 64=2:=h1;have h2:128≤c.toNat % 32 * 64+d.toNat % 64:=h2;rw[List.cons_append,zY c d (r++b) h0 h1 h2]at hv;obtain⟨i1,i2⟩:=qV N r b (by simp at hN';omega) hb hv;exact⟨by rw[zY c d r h0 h1 h2];exact i1,i2⟩
  ·rcases t with _|⟨d,_|⟨f,r⟩⟩
   ·rcases b with _|⟨d,r⟩
    ·simp at hn
    ·have h1:d.toNat / 64=2:=h1
     have:=hb d r rfl;omega
   ·rcases b with _|⟨f,r⟩
    ·simp at hn
    ·have h2:f.toNat / 64=2:=h2
     have:=hb f r rfl;omega
   ·have h0:c.toNat / 16=14:=h0
    have h1:d.toNat / 64=2:=h1;have h2:f.toNat / 64=2:=h2;rw[List.cons_append,List.cons_append,zZ c d f (r++b) h0 h1 h2 h3 h4]at hv;obtain⟨i1,i2⟩:=qV N r b (by simp at hN';omega) hb hv;exact⟨by rw[zZ c d f r h0 h1 h2 h3 h4];exact i1,i2⟩
  ·rcases t with _|⟨d,_|⟨f,_|⟨g,r⟩⟩⟩
   ·rcases b with _|⟨d,r⟩
    ·simp at hn
    ·have h1:d.toNat / 64=2:=h1
     have:=hb d r rfl;omega
   ·rcases b with _|⟨f,r⟩
    ·simp at hn
    ·have h2:f.toNat / 64=2:=h2
     have:=hb f r rfl;omega
   ·rcases b with _|⟨g,r⟩
    ·simp at hn
    ·have h3:g.toNat / 64=2:=h3
     have:=hb g r rfl;omega
   ·have h0:c.toNat / 8=30:=h0
    have h1:d.toNat / 64=2:=h1;have h2:f.toNat / 64=2:=h2;have h3:g.toNat / 64=2:=h3;rw[List.cons_append,List.cons_append,List.cons_append,z8 c d f g (r++b) h0 h1 h2 h3 h4 h5]at hv;obtain⟨i1,i2⟩:=qV N r b (by simp at hN';omega) hb hv;exact⟨by rw[z8 c d f g r h0 h1 h2 h3 h4 h5];exact i1,i2⟩
  ·rw[Lib.validD_step _ (by simp),Lib.decodeL_N,hbad,if_pos ⟨rfl,rfl⟩]at hv
   cases hv
theorem Ky{a b:List UInt8}(hb:∀c r,b=c::r→c.toNat<128)(h:Cln (a++b)):Cln a∧Cln b:=by
 obtain⟨h1,h2,h3⟩:=h;obtain⟨v1,v2⟩:=qV a.length a b (Nat.le_refl _) hb h1;exact⟨⟨v1,fun e=>h2 (by simp[e]),fun e=>h3 (by simp[e])⟩,v2,fun e=>h2 (by simp[e]),fun e=>h3 (by simp[e])⟩
theorem qA{c:UInt8}{l:List UInt8}(hc:c.toNat<128)(h:Cln (c::l)):Cln l:=by
 obtain⟨h1,h2,h3⟩:=h;rw[Lib.validD_cons c l hc]at h1;exact⟨h1,fun e=>h2 (by simp[e]),fun e=>h3 (by simp[e])⟩
theorem Kw{l:List UInt8}(k:Nat)(hk:∀c,l[k]?=some c→c.toNat<128)(h:Cln l):Cln (l.take k)∧Cln (l.drop k):=by
 refine Ky (fun c r e=>hk c ?_) (by rw[List.take_append_drop];exact h);have:=congrArg List.head? e;rw[List.head?_drop]at this;exact this
theorem F6(p:UInt8→Bool)(hp:∀c,p c=true→c.toNat<128){l:List UInt8}(h:Cln l):Cln (l.take (l.findIdx p))∧Cln (l.drop (l.findIdx p)):=by
 refine Kw _ (fun c hc=>hp c ?_) h;obtain⟨hk,rfl⟩:=List.getElem?_eq_some_iff.1 hc;exact List.findIdx_getElem
theorem F9:∀(a:List UInt8) {b:List UInt8},(∀c∈a,c.toNat<128)→Cln (a++b)→Cln b
 | [],_,_,h=>h
 |c::a,b,ha,h=>F9 a (fun x hx=>ha x (by simp[hx])) (qA (ha c (by simp)) h)
theorem p9{p l:List UInt8}(hp:p.isPrefixOf l=true)(ha:∀c∈p,c.toNat<128)(h:Cln l):Cln (l.drop p.length):=by
 obtain⟨t,rfl⟩:=List.isPrefixOf_iff_prefix.1 hp;rw[List.drop_left];exact F9 p ha h
theorem cln_cutS{s e:List UInt8}(hne:e≠[])(he:∀c∈e,c.toNat<128)(h:Cln s):Cln (Lib.cut s e).1∧Cln (Lib.cut s e).2.1:=by
 unfold Lib.cut
 rcases Lib.index_spec s e with⟨h1,-⟩|⟨j,h1,hj,h2,-⟩
 ·rw[h1]
  simpa using⟨h,gY⟩
 ·rw[h1]
  have hp:e.isPrefixOf (s.drop j)=true:=h2;have h3:=Kw j (fun c hc=>?_) h
  ·have h4:=p9 hp he h3.2
   rw[List.drop_drop]at h4;simpa using⟨h3.1,h4⟩
  ·obtain⟨t,ht⟩:=List.isPrefixOf_iff_prefix.1 hp
   obtain⟨x,y,rfl⟩:=List.exists_cons_of_ne_nil hne;have:=congrArg List.head? ht;rw[List.head?_drop]at this;rw[hc]at this;obtain rfl:=Option.some.inj this;exact he x (by simp)
theorem tH(c:UInt8)(h:128≤c.toNat):lJ c=c:=by
 unfold lJ;rw[if_neg (by omega)]
theorem low_lo(c:UInt8)(h:c.toNat<128):(lJ c).toNat<128:=by
 have:=jh (p:=fun c=>!decide (c.toNat<128)||decide ((lJ c).toNat<128)) (by decide +kernel) c;rw[decide_eq_true h]at this;simpa using this
theorem uP:∀(N:Nat) (l:List UInt8),l.length≤N→Lib.validD l=true→Lib.validD (iJ l)=true
 |_,[],_,_=>rfl
 |0,c::t,hN,_=>by simp at hN
 |N+1,c::t,hN,hv=>by
  have hN':t.length≤N:=by simpa using hN
  rcases Lib.decodeN_shape (c::t).length ((c::t).getD 0 0).toNat ((c::t).getD 1 0).toNat ((c::t).getD 2 0).toNat ((c::t).getD 3 0).toNat with⟨h0,-⟩|⟨h0,hn,h1,h2,-⟩|⟨h0,hn,h1,h2,h3,h4,-⟩|⟨h0,hn,h1,h2,h3,h4,h5,-⟩|hbad
  ·have h0:c.toNat<128:=h0
   rw[Lib.validD_cons c t h0]at hv;show Lib.validD (lJ c::iJ t)=true;rw[Lib.validD_cons _ _ (low_lo c h0)];exact uP N t hN' hv
  ·rcases t with _|⟨d,r⟩
   ·simp at hn
   ·have h0:c.toNat / 32=6:=h0
    have h1:d.toNat / 64=2:=h1;have h2:128≤c.toNat % 32 * 64+d.toNat % 64:=h2;rw[zY c d r h0 h1 h2]at hv;show Lib.validD (lJ c::lJ d::iJ r)=true;rw[tH c (by omega),tH d (by omega),zY c d _ h0 h1 h2];exact uP N r (by simp at hN';omega) hv
  ·rcases t with _|⟨d,_|⟨f,r⟩⟩
   ·simp at hn
   ·simp at hn
   ·have h0:c.toNat / 16=14:=h0
    have h1:d.toNat / 64=2:=h1;have h2:f.toNat / 64=2:=h2;rw[zZ c d f r h0 h1 h2 h3 h4]at hv;show Lib.validD (lJ c::lJ d::lJ f::iJ r)=true;rw[tH c (by omega),tH d (by omega),tH f (by omega),zZ c d f _ h0 h1 h2 h3 h4];exact uP N r (by simp at hN';omega) hv
  ·rcases t with _|⟨d,_|⟨f,_|⟨g,r⟩⟩⟩
   ·simp at hn
   ·simp at hn
   ·simp at hn
   ·have h0:c.toNat / 8=30:=h0
    have h1:d.toNat / 64=2:=h1;have h2:f.toNat / 64=2:=h2;have h3:g.toNat / 64=2:=h3;rw[z8 c d f g r h0 h1 h2 h3 h4 h5]at hv;show Lib.validD (lJ c::lJ d::lJ f::lJ g::iJ r)=true;rw[tH c (by omega),tH d (by omega),tH f (by omega),tH g (by omega),z8 c d f g _ h0 h1 h2 h3 h4 h5];exact uP N r (by simp at hN';omega) hv
  ·rw[Lib.validD_step _ (by simp),Lib.decodeL_N,hbad,if_pos ⟨rfl,rfl⟩]at hv
   cases hv
theorem low_no(z:UInt8)(hz:z=0∨z=13){l:List UInt8}(h:z∉l):z∉iJ l:=by
 unfold iJ;rw[List.mem_map];rintro⟨c,hc,e⟩;have:=jh (p:=fun c=>(c==0||lJ c !=0)&&(c==13||lJ c !=13)) (by decide +kernel) c;simp only[Bool.and_eq_true,Bool.or_eq_true,beq_iff_eq,bne_iff_ne]at this
 rcases hz with rfl|rfl
 ·rcases this.1 with e2|e2
  ·subst e2;exact h hc
  ·exact e2 e
 ·rcases this.2 with e2|e2
  ·subst e2;exact h hc
  ·exact e2 e
theorem QZ{l:List UInt8}(h:Cln l):Cln (iJ l):=⟨uP l.length l (Nat.le_refl _) h.1,low_no 0 (.inl rfl) h.2.1,low_no 13 (.inr rfl) h.2.2⟩
def encN(c:Nat):List UInt8:=
 if c<128 then [UInt8.ofNat c]
 else if c<2048 then [UInt8.ofNat (192+c / 64),UInt8.ofNat (128+c % 64)]
 else if c<65536 then [UInt8.ofNat (224+c / 4096),UInt8.ofNat (128+c / 64 % 64),UInt8.ofNat (128+c % 64)]
 else [UInt8.ofNat (240+c / 262144),UInt8.ofNat (128+c / 4096 % 64),UInt8.ofNat (128+c / 64 % 64),UInt8.ofNat (128+c % 64)]
theorem Q6(c:Nat)(h1:c≤1114111)(h2:c<55296∨57344≤c):Lib.validD (encN c)=true∧∀x∈encN c,x.toNat<128→x.toNat=c:=by
 have tn:∀n,n<256→(UInt8.ofNat n).toNat=n:=fun n hn=>by rw[UInt8.toNat_ofNat'];omega
 unfold encN
 split
 ·have:=tn c (by omega)
  refine⟨?_,?_⟩
  ·rw[Lib.validD_cons _ _ (by omega)];rfl
  ·intro x hx _
   obtain rfl:=List.mem_singleton.1 hx;exact this
 ·split
  ·have t1:=tn (192+c / 64) (by omega)
   have t2:=tn (128+c % 64) (by omega);refine⟨?_,?_⟩
   ·rw[zY _ _ _ (by omega) (by omega) (by omega)];rfl
   ·intro x hx hlt
    simp only[List.mem_cons,List.not_mem_nil,or_false]at hx
    rcases hx with rfl|rfl<;>omega
  ·split
   ·have t1:=tn (224+c / 4096) (by omega)
    have t2:=tn (128+c / 64 % 64) (by omega);have t3:=tn (128+c % 64) (by omega);refine⟨?_,?_⟩
    ·rw[zZ _ _ _ _ (by omega) (by omega) (by omega) (by omega) (by omega)];rfl
    ·intro x hx hlt
     simp only[List.mem_cons,List.not_mem_nil,or_false]at hx
     rcases hx with rfl|rfl|rfl<;>omega
   ·have t1:=tn (240+c / 262144) (by omega)
    have t2:=tn (128+c / 4096 % 64) (by omega);have t3:=tn (128+c / 64 % 64) (by omega);have t4:=tn (128+c % 64) (by omega);refine⟨?_,?_⟩
    ·rw[z8 _ _ _ _ _ (by omega) (by omega) (by omega) (by omega) (by omega) (by omega)];rfl
    ·intro x hx hlt
     simp only[List.mem_cons,List.not_mem_nil,or_false]at hx
     rcases hx with rfl|rfl|rfl|rfl<;>omega
theorem Q7(n:Int)(h0:0≤n)(h1:n≤1114111)(h2:n<55296∨57344≤n):(Utf8.encode n).data.toList=encN n.toNat:=by
 have hv:Utf8.valid n=true:=by
  unfold Utf8.valid;simp only[Bool.or_eq_true,Bool.and_eq_true,decide_eq_true_eq];omega
 unfold Utf8.encode encN;simp only[hv,if_true]
 repeat' split
 all_goals rfl
theorem rune_enc(r:Int)(h0:0≤r)(h1:r≤1114111)(h2:r<55296∨57344≤r):Lib.encodeRune r=encN r.toNat:=by
 obtain⟨n,rfl⟩:=Int.eq_ofNat_of_zero_le h0;unfold Lib.encodeRune encN;rw[Int.toNat_natCast]
 split
 ·rw[Lib.encodeRuneZ_one (by omega) (by omega)];rfl
 ·split
  ·rw[Lib.encodeRuneZ_two (by omega) (by omega)]
   simp only[List.map_cons,List.map_nil];rw[show(192+(n:Int) / 64).toNat=192+n / 64 from by omega,show(128+(n:Int) % 64).toNat=128+n % 64 from by omega]
  ·split
   ·rw[Lib.encodeRuneZ_three (by omega)]
    simp only[List.map_cons,List.map_nil];rw[show(224+(n:Int) / 4096).toNat=224+n / 4096 from by omega,show(128+(n:Int) / 64 % 64).toNat=128+n / 64 % 64 from by omega,show(128+(n:Int) % 64).toNat=128+n % 64 from by omega]
   ·rw[Lib.encodeRuneZ_four (by omega) (by omega)]
    simp only[List.map_cons,List.map_nil];rw[show(240+(n:Int) / 262144).toNat=240+n / 262144 from by omega,show(128+(n:Int) / 4096 % 64).toNat=128+n / 4096 % 64 from by omega,show(128+(n:Int) / 64 % 64).toNat=128+n / 64 % 64 from by omega,show(128+(n:Int) % 64).toNat=128+n % 64 from by omega]
theorem Q8(c:Nat)(h1:c≤1114111)(h2:c<55296∨57344≤c)(h3:c≠0)(h4:c≠13):Cln (encN c):=by
 obtain⟨a,b⟩:=Q6 c h1 h2;refine⟨a,fun e=>?_,fun e=>?_⟩
 ·exact h3 (b 0 e (by decide)).symm
 ·exact h4 (b 13 e (by decide)).symm
theorem code_cln(n:Int):Cln (zl n):=by
 have h:1≤Ai n∧Ai n≤1114111∧(Ai n<55296∨57344≤Ai n)∧Ai n≠13:=by
  unfold Ai
  repeat' split
  all_goals omega
 unfold zl;rw[Q7 _ (by omega) h.2.1 h.2.2.1];exact Q8 _ (by omega) (by omega) (by omega) (by omega)
theorem mem_ite{c:Prop} [Decidable c]{a b:Int}{L:List Int}(h1:a∈L)(h2:b∈L):(if c then a else b)∈L:=by split<;>assumption
theorem Sw(l:List UInt8):lK l=0∨(1≤lK l∧lK l<55296∧lK l≠13):=by
 have h:lK l∈([38,60,62,34,39,160,169,174,182,183,233,228,246,252,223,8364,8230,8211,8212,8226,9,10,58,40,0] :List Int):=by
  unfold lK
  repeat' refine mem_ite ?_ ?_
  all_goals simp
 generalize lK l=n at *;simp only[List.mem_cons,List.not_mem_nil,or_false]at h;omega
theorem Sy(l:List UInt8):Cln (iM l).1:=by
 unfold iM
 have hc:∀b,Cln (j6 b (l.drop 2)).1∧Cln (j6 b l.tail).1:=by
  intro b;constructor<;>(unfold j6;split;exact code_cln _;exact gY)
 split
 ·exact(hc 16).1
 ·split
  ·exact(hc 10).2
  ·unfold ru
   split
   ·exact gY
   ·rcases Sw l with h|h
    ·contradiction
    ·show Cln (Utf8.encode (lK l)).data.toList
     rw[Q7 _ (by omega) (by omega) (by omega)];exact Q8 _ (by omega) (by omega) (by omega) (by omega)
theorem BN{q:UInt8}(hq:q.toNat<128){l:List UInt8}(h:Cln l):Cln (gH q l).1∧((gH q l).2.2=true→Cln (gH q l).2.1):=by
 cases e:(gH q l).2.2 with
 |true=>
  have h2:=KU e;rw[h2]at h;obtain⟨a,b⟩:=Ky (fun c r e=>by rw[←(List.cons.inj e).1];exact hq) h;exact⟨a,fun _=>qA hq b⟩
 |false=>
  refine⟨?_,fun e=>by cases e⟩;rw[(Iw e).1];exact h
theorem KC:∀(N:Nat) (l:List UInt8),l.length≤N→Cln l→Cln (iK l)
 |_,[],_,_=>by rw[q8];exact gY
 |0,c::t,hN,_=>by simp at hN
 |N+1,c::t,hN,h=>by
  cases e:(gH 38 (c::t)).2.2 with
  |false=>rw[GH e];exact(BN (by decide) h).1
  |true=>
   obtain⟨h1,h2⟩:=BN (q:=38) (by decide) h;have h2:=h2 e;have hl:=mK 38 (c::t);rw[e,if_pos rfl]at hl;rw[KW e];refine jr h1 ?_;generalize (gH 38 (c::t)).2.1=r at *;simp only[List.length_cons]at hN hl;cases e2:((gH 59 r).2.2&&(iM (gH 59 r).1).2)with
   |false=>
    rw[KX e2];exact jr (a:=[38]) (kP (by decide)) (KC N r (by omega) h2)
   |true=>
    rw[Bool.and_eq_true]at e2;rw[El e2.1 e2.2];have hl2:=mK 59 r;exact jr (Sy _) (KC N _ (by omega) ((BN (by decide) h2).2 e2.1))
theorem Ef{l:List UInt8}(h:Cln l):Cln (iK l):=KC l.length l (Nat.le_refl _) h
theorem rep_at{l old new:List UInt8}{j:Nat}(hi:Lib.index l old=j)(h0:old≠[])(hne:(old==new)=false):Lib.replaceAll l old new=l.take j++new++Lib.replaceAll (l.drop (j+old.length)) old new:=by
 unfold Lib.replaceAll Lib.replace;rw[hne,if_neg (by decide),if_neg (by decide)]
 have e1:Lib.replaceNum l old (-1)=Lib.replaceNum (l.drop (j+old.length)) old (-1)+1:=by
  unfold Lib.replaceNum;rw[if_pos (Or.inl (by decide)),if_pos (Or.inl (by decide)),Lib.count_hit h0 hi,Nat.add_comm]
 rw[e1,Lib.replaceK_hit _ _ _ _ _ hi]
theorem KD{l old new:List UInt8}(hi:Lib.index l old= -1):Lib.replaceAll l old new=l:=by
 unfold Lib.replaceAll Lib.replace
 split
 ·rfl
 ·have e1:Lib.replaceNum l old (-1)=0:=by
   unfold Lib.replaceNum;rw[if_pos (Or.inl (by decide)),Lib.count_miss hi]
  rw[e1,Lib.replaceK]
theorem Ik(old new:List UInt8)(h0:old≠[])(hne:(old==new)=false)(ho:∀c∈old,c.toNat<128)(hn:∀c∈new,c.toNat<128)(hz:(0:UInt8)∉new):∀(N:Nat) (l:List UInt8),l.length≤N→(Lib.validD l=true∧(0:UInt8)∉l)→(Lib.validD (Lib.replaceAll l old new)=true∧(0:UInt8)∉Lib.replaceAll l old new):=by
 intro N
 induction N with
 |zero=>
  intro l hN h;obtain rfl:l=[]:=List.eq_nil_of_length_eq_zero (by omega)
  have:Lib.index [] old= -1:=by
   cases old with
   |nil=>exact absurd rfl h0
   |cons a t=>rfl
  rw[KD this];exact h
 |succ N ih=>
  intro l hN h
  rcases Lib.index_spec l old with⟨h1,-⟩|⟨j,h1,hj,h2,-⟩
  ·rw[KD h1];exact h
  ·rw[rep_at h1 h0 hne]
   have hp:old.isPrefixOf (l.drop j)=true:=h2;obtain⟨t,ht⟩:=List.isPrefixOf_iff_prefix.1 hp;have hd:l.drop (j+old.length)=t:=by rw[←List.drop_drop,←ht,List.drop_left]
   have hl:l=l.take j++(old++t):=by rw[ht,List.take_append_drop]
   have hlen:=congrArg List.length hl;simp only[List.length_append]at hlen;have hop:0<old.length:=List.length_pos_iff.2 h0
   obtain⟨v1,v2⟩:=qV (l.take j).length (l.take j) (old++t) (Nat.le_refl _) (fun c r e=>by
    obtain⟨x,y,rfl⟩:=List.exists_cons_of_ne_nil h0;rw[List.cons_append]at e;rw[←(List.cons.inj e).1];exact ho x (by simp)) (by rw[←hl];exact h.1)
   rw[BL old t ho]at v2;have z1:(0:UInt8)∉l.take j:=fun e=>h.2 (List.mem_of_mem_take e)
   have z2:(0:UInt8)∉t:=fun e=>h.2 (by rw[hl];simp[e])
   obtain⟨i1,i2⟩:=ih t (by omega) ⟨v2,z2⟩;rw[hd,List.append_assoc];refine⟨?_,?_⟩
   ·rw[wV _ _ _ (Nat.le_refl _) v1,BL new _ hn];exact i1
   ·simp only[List.mem_append]
    rintro(e|e|e)
    ·exact z1 e
    ·exact hz e
    ·exact i2 e
theorem rep_none:∀(N:Nat) (l:List UInt8),l.length≤N→(13:UInt8)∉Lib.replaceAll l [13] [10]:=by
 intro N
 induction N with
 |zero=>
  intro l hN;obtain rfl:l=[]:=List.eq_nil_of_length_eq_zero (by omega);rw[KD rfl];simp
 |succ N ih=>
  intro l hN
  rcases Lib.index_spec l [13]with⟨h1,h2⟩|⟨j,h1,hj,h2,h3⟩
  ·rw[KD h1]
   intro e;obtain⟨k,hk,ek⟩:=List.getElem_of_mem e;have:=h2 k (by omega);unfold Lib.occAt at this;rw[List.drop_eq_getElem_cons hk,ek]at this;simp[List.isPrefixOf]at this
  ·rw[rep_at h1 (by simp) (by decide),List.append_assoc]
   simp only[List.mem_append];rintro(e|e|e)
   ·obtain⟨k,hk,ek⟩:=List.getElem_of_mem e
    rw[List.getElem_take]at ek;rw[List.length_take]at hk;have:=h3 k (by omega);unfold Lib.occAt at this;rw[List.drop_eq_getElem_cons (by omega),ek]at this;simp[List.isPrefixOf]at this
   ·simp at e
   ·refine ih _ ?_ e
    have hp:([13] :List UInt8).isPrefixOf (l.drop j)=true:=h2;have:=(List.isPrefixOf_iff_prefix.1 hp).length_le;simp only[List.length_drop,List.length_cons,List.length_nil]at this⊢;omega
theorem ru_ok(r:Nat):Lib.validD (ruF r)=true∧(0:UInt8)∉ruF r:=by
 unfold ruF
 by_cases hb:(if r=0 then(65533:Int)else(r:Int))≤1114111∧((if r=0 then(65533:Int)else(r:Int))<55296∨57344≤(if r=0 then(65533:Int)else(r:Int)))
 ·have h1:1≤(if r=0 then(65533:Int)else(r:Int)):=by split<;>omega
  generalize (if r=0 then(65533:Int)else(r:Int))=q at *;rw[rune_enc q (by omega) hb.1 hb.2];obtain⟨a,b⟩:=Q6 q.toNat (by omega) (by omega);refine⟨a,fun e=>?_⟩;have h2:=b 0 e (by decide);have h3:(0:UInt8).toNat=0:=rfl;omega
 ·unfold Lib.encodeRune
  rw[Lib.encodeRuneZ_bad (by
   generalize (if r=0 then(65533:Int)else(r:Int))=q at *;omega)]
  exact⟨by decide,by decide⟩
theorem Il(s:Bt):∀(fuel p:Nat),Lib.validD (mM s fuel p)=true∧(0:UInt8)∉mM s fuel p
 |0,p=>⟨rfl,by simp[mM]⟩
 |fuel+1,p=>by
  rw[mM]
  split
  ·obtain⟨a,b⟩:=ru_ok (Utf8.decode s p).1
   obtain⟨c,d⟩:=Il s fuel (p+(Utf8.decode s p).2);refine⟨by rw[wV _ _ _ (Nat.le_refl _) a];exact c,?_⟩;rw[List.mem_append];rintro(e|e)
   ·exact b e
   ·exact d e
  ·exact⟨rfl,by simp⟩
theorem Sm(l:List UInt8):Cln (kG l):=by
 unfold kG C8 deF;have h1:=Il ⟨l.toArray⟩ (⟨l.toArray⟩:Bt).size 0;generalize mM ⟨l.toArray⟩ (⟨l.toArray⟩:Bt).size 0=d at *;have h2:=Ik [13,10] [10] (by simp) (by decide) (by decide) (by decide) (by decide) d.length d (Nat.le_refl _) h1;have h3:=Ik [13] [10] (by simp) (by decide) (by decide) (by decide) (by decide) _ _ (Nat.le_refl _) h2;exact⟨h3.1,h3.2,rep_none _ _ (Nat.le_refl _)⟩
end Go.Proofs.YtkcmghlhpbepcaaGreatDoor.Ch
