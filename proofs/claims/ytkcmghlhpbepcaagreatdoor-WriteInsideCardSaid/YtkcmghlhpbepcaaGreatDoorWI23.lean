/- Lemmas and walks, part 23. -/
import Derived.Test.YtkcmghlhpbepcaaGreatDoorWI22
set_option linter.unusedVariables false
set_option linter.unusedSimpArgs false
namespace Go.Proofs.YtkcmghlhpbepcaaGreatDoor.Ch
open Go Go.RowKit
theorem EH:∀(p:Nat) (l:List UInt8),p≤l.length→Utf8.decode ⟨l.toArray⟩ p=Lib.decodeL (l.drop p)
 |0,l,_=>rfl
 |p+1,[],h=>by simp at h
 |p+1,c::l,h=>by
  rw[OH,List.drop_succ_cons];exact EH p l (by simpa using h)
theorem OI(n b0 b1 b2 b3:Nat):1≤(Lib.decodeN n b0 b1 b2 b3).2:=by
 unfold Lib.decodeN
 repeat' split
 all_goals simp
theorem EI(l:List UInt8):1≤(Lib.decodeL l).2:=by rw[Lib.decodeL_N];exact OI _ _ _ _ _
theorem CW(l:List UInt8):∀(fuel p:Nat),p≤l.length→l.length - p≤fuel→Lib.validD (l.drop p)=true→(0:UInt8)∉l.drop p→nP ⟨l.toArray⟩ fuel p=l.drop p
 |0,p,hp,hf,_,_=>by rw[nP,List.drop_eq_nil_of_le (by omega)]
 |fuel+1,p,hp,hf,hv,h0=>by
  have hz:(⟨l.toArray⟩:Bt).size=l.length:=by show(List.toArray l).size=_;simp
  rw[nP,hz]
  by_cases h:p<l.length
  ·rw[if_pos h,EH p l hp]
   have hne:l.drop p≠[]:=by
    intro e;have:=congrArg List.length e;rw[List.length_drop]at this;simp at this;omega
   rw[Lib.validD_step _ hne]at hv;have hle:=Lib.decodeL_le (l.drop p) hne;have hpos:=EI (l.drop p);rw[List.length_drop]at hle
   by_cases hb:(Lib.decodeL (l.drop p)).1=65533∧(Lib.decodeL (l.drop p)).2=1
   ·rw[if_pos hb]at hv;cases hv
   ·rw[if_neg hb,List.drop_drop]at hv
    have he:=Lib.encode_decode (l.drop p) hne hb
    have hr0:(Lib.decodeL (l.drop p)).1≠0:=by
     intro e;rw[e]at he;have e2:Lib.encodeRune ((0:Nat):Int)=[0]:=by decide
     rw[e2]at he;refine h0 (List.mem_of_mem_take (i:=(Lib.decodeL (l.drop p)).2) ?_);rw[←he];simp
    have hru:ruF (Lib.decodeL (l.drop p)).1=(l.drop p).take (Lib.decodeL (l.drop p)).2:=by
     unfold ruF;rw[if_neg hr0];exact he
    rw[hru,CW l fuel (p+(Lib.decodeL (l.drop p)).2) (by omega) (by omega) hv (fun hm=>h0 (by
     rw[←List.drop_drop]at hm;exact List.mem_of_mem_drop hm)),←List.drop_drop,List.take_append_drop]
  ·rw[if_neg h,List.drop_eq_nil_of_le (by omega)]
theorem OJ:∀(l:List UInt8),(13:UInt8)∉l→Em l=l
 | [],_=>by decide
 |c::l,h=>by
  rw[Qu c l (fun e=>h (by simp[e])),OJ l (fun e=>h (by simp[e]))]
theorem Mh(l:List UInt8)(hv:Lib.validD l=true)(h0:(0:UInt8)∉l)(h13:(13:UInt8)∉l):j5 l=l:=by
 have hz:(⟨l.toArray⟩:Bt).size=l.length:=by show(List.toArray l).size=_;simp
 unfold j5 deF;rw[hz,CW l l.length 0 (by omega) (by omega) (by simpa using hv) (by simpa using h0),List.drop_zero,OJ l h13]
theorem OL(n n' b0 b1 b2 b3 c1 c2 c3:Nat)(hn:n≤n')(h1:1<n→c1=b1)(h2:2<n→c2=b2)(h3:3<n→c3=b3)(hv:Lib.decodeN n b0 b1 b2 b3≠(65533,1)):Lib.decodeN n' b0 c1 c2 c3=Lib.decodeN n b0 b1 b2 b3:=by
 unfold Lib.decodeN at hv⊢
 by_cases a0:b0<128
 ·rw[if_pos a0,if_pos a0]
 rw[if_neg a0]at hv;rw[if_neg a0,if_neg a0]
 by_cases a1:b0 / 32=6∧(1<n∧b1 / 64=2)
 ·obtain⟨x,y,z⟩:=a1
  have e1:b0 / 32=6∧(1<n'∧b1 / 64=2):=⟨x,by omega,z⟩;have e2:b0 / 32=6∧(1<n∧b1 / 64=2):=⟨x,y,z⟩;rw[h1 y,if_pos e1,if_pos e2]
 rw[if_neg a1]at hv;rw[if_neg a1]
 by_cases a2:b0 / 16=14∧(1<n∧b1 / 64=2)∧(2<n∧b2 / 64=2)
 ·obtain⟨x,⟨y1,y2⟩,z1,z2⟩:=a2
  have e0:¬(b0 / 32=6∧(1<n'∧b1 / 64=2)):=by omega
  have e1:b0 / 16=14∧(1<n'∧b1 / 64=2)∧(2<n'∧b2 / 64=2):=⟨x,⟨by omega,y2⟩,by omega,z2⟩;have e2:b0 / 16=14∧(1<n∧b1 / 64=2)∧(2<n∧b2 / 64=2):=⟨x,⟨y1,y2⟩,z1,z2⟩;rw[h1 y1,h2 z1,if_neg e0,if_pos e1,if_pos e2]
 rw[if_neg a2]at hv;rw[if_neg a2]
 by_cases a3:b0 / 8=30∧(1<n∧b1 / 64=2)∧(2<n∧b2 / 64=2)∧(3<n∧b3 / 64=2)
 ·obtain⟨x,⟨y1,y2⟩,⟨z1,z2⟩,w1,w2⟩:=a3
  have e0:¬(b0 / 32=6∧(1<n'∧b1 / 64=2)):=by omega
  have e4:¬(b0 / 16=14∧(1<n'∧b1 / 64=2)∧(2<n'∧b2 / 64=2)):=by omega
  have e1:b0 / 8=30∧(1<n'∧b1 / 64=2)∧(2<n'∧b2 / 64=2)∧(3<n'∧b3 / 64=2):=⟨x,⟨by omega,y2⟩,⟨by omega,z2⟩,by omega,w2⟩;have e2:b0 / 8=30∧(1<n∧b1 / 64=2)∧(2<n∧b2 / 64=2)∧(3<n∧b3 / 64=2):=⟨x,⟨y1,y2⟩,⟨z1,z2⟩,w1,w2⟩;rw[h1 y1,h2 z1,h3 w1,if_neg e0,if_neg e4,if_pos e1,if_pos e2]
 rw[if_neg a3]at hv;exact absurd rfl hv
theorem OM(a b:List UInt8)(ha:a≠[])(hv:¬((Lib.decodeL a).1=65533∧(Lib.decodeL a).2=1)):Lib.decodeL (a++b)=Lib.decodeL a:=by
 have hpos:0<a.length:=List.length_pos_iff.2 ha
 have g:∀i,i<a.length→(a++b).getD i 0=a.getD i 0:=by
  intro i hi;simp[List.getD_eq_getElem?_getD,List.getElem?_append_left hi]
 rw[Lib.decodeL_N,Lib.decodeL_N,g 0 hpos];refine OL _ _ _ _ _ _ _ _ _ (by rw[List.length_append];omega) (fun h=>by rw[g 1 h]) (fun h=>by rw[g 2 h]) (fun h=>by rw[g 3 h]) (fun e=>hv ?_);rw[Lib.decodeL_N,e];exact⟨rfl,rfl⟩
theorem yF:∀(N:Nat) (a b:List UInt8),a.length≤N→Lib.validD a=true→Lib.validD (a++b)=Lib.validD b
 |0,a,b,hN,_=>by
  obtain rfl:a=[]:=List.eq_nil_of_length_eq_zero (by omega);rfl
 |N+1,a,b,hN,hv=>by
  by_cases ha:a=[]
  ·subst ha;rfl
  ·rw[Lib.validD_step _ ha]at hv
   by_cases hb:(Lib.decodeL a).1=65533∧(Lib.decodeL a).2=1
   ·rw[if_pos hb]at hv;cases hv
   ·rw[if_neg hb]at hv
    have hle:=Lib.decodeL_le a ha;have hpos:=EI a;rw[Lib.validD_step _ (by simp[ha]),OM a b ha hb,if_neg hb,List.drop_append_of_le_length hle];exact yF N _ b (by rw[List.length_drop];omega) hv
def Cln(l:List UInt8):Prop:=Lib.validD l=true∧(0:UInt8)∉l∧(13:UInt8)∉l
theorem jJ{a b:List UInt8}(ha:Cln a)(hb:Cln b):Cln (a++b):=by
 refine⟨by rw[yF a.length a b (Nat.le_refl _) ha.1];exact hb.1,?_,?_⟩
 ·intro h
  rcases List.mem_append.1 h with h|h
  ·exact ha.2.1 h
  ·exact hb.2.1 h
 ·intro h
  rcases List.mem_append.1 h with h|h
  ·exact ha.2.2 h
  ·exact hb.2.2 h
theorem iA:Cln []:=⟨rfl,by simp,by simp⟩
theorem lH{l:List UInt8}(h:l.all easyB=true):Cln l:=by
 induction l with
 |nil=>exact iA
 |cons c l ih=>
  simp only[List.all_cons,Bool.and_eq_true]at h;obtain⟨h1,h2⟩:=h;obtain⟨i1,i2,i3⟩:=ih h2;simp only[easyB,Bool.and_eq_true,decide_eq_true_eq]at h1;obtain⟨⟨a,b⟩,d⟩:=h1;exact⟨by rw[Lib.validD_cons c l d];exact i1,by simp[i2,Ne.symm a],by simp[i3,Ne.symm b]⟩
theorem UJ{l:List UInt8}(h:Cln l):j5 l=l:=Mh l h.1 h.2.1 h.2.2
end Go.Proofs.YtkcmghlhpbepcaaGreatDoor.Ch
namespace Go.Proofs.YtkcmghlhpbepcaaGreatDoor.Ch
open Go Go.RowKit YtkcmghlhpbepcaaGreatDoor
theorem Br(c d:UInt8)(r:List UInt8)(h0:c.toNat / 32=6)(h1:d.toNat / 64=2)(h2:128≤c.toNat % 32 * 64+d.toNat % 64):Lib.validD (c::d::r)=Lib.validD r:=by
 rw[Lib.validD_step _ (by simp),Lib.decodeL_N]
 have e:Lib.decodeN (c::d::r).length ((c::d::r).getD 0 0).toNat ((c::d::r).getD 1 0).toNat ((c::d::r).getD 2 0).toNat ((c::d::r).getD 3 0).toNat=(c.toNat % 32 * 64+d.toNat % 64,2):=by
  have e1:c.toNat / 32=6∧(1<(c::d::r).length∧d.toNat / 64=2):=⟨h0,by simp,h1⟩;show Lib.decodeN (c::d::r).length c.toNat d.toNat _ _=_;unfold Lib.decodeN;rw[if_neg (by omega),if_pos e1,if_pos h2]
 rw[e,if_neg (by simp)];rfl
theorem zQ9(c d f:UInt8)(r:List UInt8)(h0:c.toNat / 16=14)(h1:d.toNat / 64=2)(h2:f.toNat / 64=2)(h3:2048≤c.toNat % 16 * 4096+d.toNat % 64 * 64+f.toNat % 64)
 (h4:c.toNat % 16 * 4096+d.toNat % 64 * 64+f.toNat % 64<55296∨57344≤c.toNat % 16 * 4096+d.toNat % 64 * 64+f.toNat % 64):Lib.validD (c::d::f::r)=Lib.validD r:=by
 rw[Lib.validD_step _ (by simp),Lib.decodeL_N]
 have e:Lib.decodeN (c::d::f::r).length ((c::d::f::r).getD 0 0).toNat ((c::d::f::r).getD 1 0).toNat ((c::d::f::r).getD 2 0).toNat ((c::d::f::r).getD 3 0).toNat=(c.toNat % 16 * 4096+d.toNat % 64 * 64+f.toNat % 64,3):=by
  have e1:c.toNat / 16=14∧(1<(c::d::f::r).length∧d.toNat / 64=2)∧(2<(c::d::f::r).length∧f.toNat / 64=2):=⟨h0,⟨by simp,h1⟩,by simp,h2⟩;have e0:¬(c.toNat / 32=6∧(1<(c::d::f::r).length∧d.toNat / 64=2)):=by omega
  show Lib.decodeN (c::d::f::r).length c.toNat d.toNat f.toNat _=_;unfold Lib.decodeN;rw[if_neg (by omega),if_neg e0,if_pos e1,if_pos (by omega)]
 rw[e,if_neg (by simp)];rfl
theorem Bu(c d f g:UInt8)(r:List UInt8)(h0:c.toNat / 8=30)(h1:d.toNat / 64=2)(h2:f.toNat / 64=2)(h3:g.toNat / 64=2)(h4:65536≤c.toNat % 8 * 262144+d.toNat % 64 * 4096+f.toNat % 64 * 64+g.toNat % 64)
 (h5:c.toNat % 8 * 262144+d.toNat % 64 * 4096+f.toNat % 64 * 64+g.toNat % 64≤1114111):Lib.validD (c::d::f::g::r)=Lib.validD r:=by
 rw[Lib.validD_step _ (by simp),Lib.decodeL_N]
 have e:Lib.decodeN (c::d::f::g::r).length ((c::d::f::g::r).getD 0 0).toNat ((c::d::f::g::r).getD 1 0).toNat ((c::d::f::g::r).getD 2 0).toNat ((c::d::f::g::r).getD 3 0).toNat=(c.toNat % 8 * 262144+d.toNat % 64 * 4096+f.toNat % 64 * 64+g.toNat % 64,4):=by
  have e1:c.toNat / 8=30∧(1<(c::d::f::g::r).length∧d.toNat / 64=2)∧(2<(c::d::f::g::r).length∧f.toNat / 64=2)∧(3<(c::d::f::g::r).length∧g.toNat / 64=2):=⟨h0,⟨by simp,h1⟩,⟨by simp,h2⟩,by simp,h3⟩;have e0:¬(c.toNat / 32=6∧(1<(c::d::f::g::r).length∧d.toNat / 64=2)):=by omega
  have e2:¬(c.toNat / 16=14∧(1<(c::d::f::g::r).length∧d.toNat / 64=2)∧(2<(c::d::f::g::r).length∧f.toNat / 64=2)):=by omega
  show Lib.decodeN (c::d::f::g::r).length c.toNat d.toNat f.toNat g.toNat=_;unfold Lib.decodeN;rw[if_neg (by omega),if_neg e0,if_neg e2,if_pos e1,if_pos (by omega)]
 rw[e,if_neg (by simp)];rfl
theorem esc_hi(q:Bool)(c:UInt8)(h:128≤c.toNat):pV q c=[c]:=by
 have:=jw (p:=fun c=>decide (c.toNat<128)||(pV true c==[c]&&pV false c==[c])) (by decide +kernel) c;rw[decide_eq_false (by omega)]at this;simp at this;cases q
 ·exact this.2
 ·exact this.1
theorem esc_lo(q:Bool)(c:UInt8)(h:c.toNat<128):∀x∈pV q c,x.toNat<128:=by
 have:=jw (p:=fun c=>!decide (c.toNat<128)||((pV true c).all (fun x=>decide (x.toNat<128))&&(pV false c).all (fun x=>decide (x.toNat<128)))) (by decide +kernel) c;rw[decide_eq_true h]at this;simp only[Bool.not_true,Bool.false_or,Bool.and_eq_true,List.all_eq_true,decide_eq_true_eq]at this;cases q
 ·exact this.2
 ·exact this.1
theorem qy{c:UInt8}(h:c≠194)(l:List UInt8):wG (c::l)=false:=by
 unfold wG Lib.hasPrefix;simp[List.isPrefixOf,Ne.symm h]
theorem C9(q:Bool)(c:UInt8)(l:List UInt8)(h:128≤c.toNat)(hh:wG (c::l)=false):wrL q (c::l)=c::wrL q l:=by
 rw[Da hh,esc_hi q c h];rfl
theorem Db(a X:List UInt8)(h:∀x∈a,x.toNat<128):Lib.validD (a++X)=Lib.validD X:=by
 have:=Lib.validD_ascii a.length (a++X) (by rw[List.take_left];exact h)
 rwa [List.drop_left]at this
theorem n194{d:UInt8}(h:d.toNat / 64=2):d≠194:=by
 rintro rfl;simp at h
theorem zG(q:Bool):∀(N:Nat) (l:List UInt8),l.length≤N→Lib.validD l=true→Lib.validD (wrL q l)=true
 |0,l,hN,_=>by
  obtain rfl:l=[]:=List.eq_nil_of_length_eq_zero (by omega);rfl
 |N+1,[],_,_=>rfl
 |N+1,c::t,hN,hv=>by
  have hN':t.length≤N:=by simpa using hN
  rcases Lib.decodeN_shape (c::t).length ((c::t).getD 0 0).toNat ((c::t).getD 1 0).toNat ((c::t).getD 2 0).toNat ((c::t).getD 3 0).toNat with⟨h0,-⟩|⟨h0,hn,h1,h2,-⟩|⟨h0,hn,h1,h2,h3,h4,-⟩|⟨h0,hn,h1,h2,h3,h4,h5,-⟩|hb
  ·have h0:c.toNat<128:=h0
   rw[Lib.validD_cons c t h0]at hv;rw[Da (qy (by rintro rfl;simp at h0) t),Db _ _ (esc_lo q c h0)];exact zG q N t hN' hv
  ·cases t with
   |nil=>simp at hn
   |cons d r=>
    have h0:c.toNat / 32=6:=h0;have h1:d.toNat / 64=2:=h1;have h2:128≤c.toNat % 32 * 64+d.toNat % 64:=h2;rw[Br c d r h0 h1 h2]at hv;have hr:=zG q N r (by simp at hN';omega) hv;cases hh:wG (c::d::r)with
    |true=>
     rw[II hh,Db _ _ (by decide)];exact hr
    |false=>
     rw[C9 q c _ (by omega) hh,C9 q d _ (by omega) (qy (n194 h1) r),Br c d _ h0 h1 h2];exact hr
  ·rcases t with _|⟨d,_|⟨f,r⟩⟩
   ·simp at hn
   ·simp at hn
   ·have h0:c.toNat / 16=14:=h0
    have h1:d.toNat / 64=2:=h1;have h2:f.toNat / 64=2:=h2;rw[zQ9 c d f r h0 h1 h2 h3 h4]at hv;have hr:=zG q N r (by simp at hN';omega) hv;rw[C9 q c _ (by omega) (qy (by rintro rfl;simp at h0) _),C9 q d _ (by omega) (qy (n194 h1) _),C9 q f _ (by omega) (qy (n194 h2) _),zQ9 c d f _ h0 h1 h2 h3 h4];exact hr
  ·rcases t with _|⟨d,_|⟨f,_|⟨g,r⟩⟩⟩
   ·simp at hn
   ·simp at hn
   ·simp at hn
   ·have h0:c.toNat / 8=30:=h0
    have h1:d.toNat / 64=2:=h1;have h2:f.toNat / 64=2:=h2;have h3:g.toNat / 64=2:=h3;rw[Bu c d f g r h0 h1 h2 h3 h4 h5]at hv;have hr:=zG q N r (by simp at hN';omega) hv;rw[C9 q c _ (by omega) (qy (by rintro rfl;simp at h0) _),C9 q d _ (by omega) (qy (n194 h1) _),C9 q f _ (by omega) (qy (n194 h2) _),C9 q g _ (by omega) (qy (n194 h3) _),Bu c d f g _ h0 h1 h2 h3 h4 h5];exact hr
  ·rw[Lib.validD_step _ (by simp),Lib.decodeL_N,hb,if_pos ⟨rfl,rfl⟩]at hv
   cases hv
theorem Kn(q:Bool)(z c:UInt8)(hz:z=0∨z=13)(h:c≠z):z∉pV q c:=by
 have:=jw (p:=fun c=>(c==0||(!(pV true c).contains 0&& !(pV false c).contains 0))&&(c==13||(!(pV true c).contains 13&& !(pV false c).contains 13))) (by decide +kernel) c;simp only[Bool.and_eq_true,Bool.or_eq_true,beq_iff_eq,Bool.not_eq_true',List.contains_eq_mem,decide_eq_false_iff_not]at this
 rcases hz with rfl|rfl
 ·rcases this.1 with h1|h1
  ·exact absurd h1 h
  ·cases q
   ·exact h1.2
   ·exact h1.1
 ·rcases this.2 with h1|h1
  ·exact absurd h1 h
  ·cases q
   ·exact h1.2
   ·exact h1.1
theorem BD(q:Bool)(z:UInt8)(hz:z=0∨z=13):∀(N:Nat) (l:List UInt8),l.length≤N→z∉l→z∉wrL q l
 |0,l,hN,_=>by
  obtain rfl:l=[]:=List.eq_nil_of_length_eq_zero (by omega);simp[wrL]
 |N+1,[],_,_=>by simp[wrL]
 |N+1,c::t,hN,h=>by
  have hN':t.length≤N:=by simpa using hN
  cases hh:wG (c::t)with
  |true=>
   rw[II hh,List.mem_append];rintro(e|e)
   ·rcases hz with rfl|rfl<;>simp at e
   ·exact BD q z hz N _ (by rw[List.length_drop];simp;omega) (fun e2=>h (List.mem_of_mem_drop e2)) e
  |false=>
   rw[Da hh,List.mem_append];rintro(e|e)
   ·exact Kn q z c hz (fun e2=>h (by simp[e2])) e
   ·exact BD q z hz N t hN' (fun e2=>h (by simp[e2])) e
theorem QC(q:Bool){l:List UInt8}(h:Cln l):Cln (wrL q l):=⟨zG q l.length l (Nat.le_refl _) h.1,BD q 0 (.inl rfl) l.length l (Nat.le_refl _) h.2.1,BD q 13 (.inr rfl) l.length l (Nat.le_refl _) h.2.2⟩
end Go.Proofs.YtkcmghlhpbepcaaGreatDoor.Ch
namespace Go.Proofs.aj.W7
open Go.RowKit Go.Proofs aj YtkcmghlhpbepcaaGreatDoor ah.aD YtkcmghlhpbepcaaGreatDoor.Ch
structure Ed (t:Tok):Prop where
 name:Cln t.name
 data:Cln t.data
 attrs:∀a∈t.attrs,Cln a.1∧Cln a.2
theorem Kg:∀(l:List (Txt×Txt)),(∀a∈l,Cln a.1∧Cln a.2)→Cln (dY l)
 | [],_=>iA
 |a::l,h=>by
  have h1:=h a (by simp)
  have e:dY (a::l)=[32]++(a.1++([61,34]++(wrL true a.2++([34]++dY l)))):=by
   show(32::(a.1++61::34::(wrL true a.2++[34])))++dY l=_;simp
  rw[e];exact jJ (lH (by decide)) (jJ h1.1 (jJ (lH (by decide)) (jJ (QC true h1.2) (jJ (lH (by decide)) (Kg l (fun b hb=>h b (by simp[hb])))))))
theorem TR{o:Txt}(ho:Cln o){t:Tok}(h1:Cln t.name)(h2:∀a∈t.attrs,Cln a.1∧Cln a.2):Cln (jR o t):=by
 unfold jR;refine jJ (jJ (jJ (jJ ho h1) (Kg _ h2)) ?_) (lH (by decide));unfold mY
 split
 ·exact lH (by decide)
 ·exact iA
theorem tok_cln(b:Bool){t:Tok}(h:Ed t):Cln (oG b t):=by
 unfold oG
 split
 ·split
  ·exact h.data
  ·exact QC false h.data
 ·split
  ·exact TR (lH (by decide)) h.name h.attrs
  ·split
   ·exact TR (lH (by decide)) h.name (by simp)
   ·split
    ·exact jJ (jJ (lH (by decide)) h.data) (lH (by decide))
    ·split
     ·exact jJ (jJ (lH (by decide)) h.data) (lH (by decide))
     ·exact iA
theorem IQ:∀(L:List Tok) (b:Bool),(∀t∈L,Ed t)→Cln (eY b L)
 | [],_,_=>iA
 |t::L,b,h=>jJ (tok_cln b (h t (by simp))) (IQ L _ (fun x hx=>h x (by simp[hx])))
structure QE (x:Rw):Prop where
 name:Cln x.f2.data.toList
 data:Cln x.f3.data.toList
 attrs:∀a∈x.f4,Cln a.f0.data.toList∧Cln a.f1.data.toList
theorem tokP_cln{x:Rw}(h:QE x):Ed (mP x):=by
 unfold mP
 split
 ·refine⟨h.name,iA,fun a ha=>?_⟩
  obtain⟨y,hy,rfl⟩:=List.mem_map.1 ha;exact h.attrs y hy
 ·split
  ·exact⟨iA,h.data,by simp⟩
  ·exact⟨iA,h.data,by simp⟩
theorem Pj:∀(r:List Rw) (op:List Bt),(∀x∈r,QE x)→(∀n∈op,Cln n.data.toList)→∀t∈kT r op,Ed t
 | [],op,_,ho=>by
   intro t ht;obtain⟨n,hn,rfl⟩:=List.mem_map.1 ht;exact⟨ho n (List.mem_reverse.1 hn),iA,by simp[endP]⟩
 |x::r,op,hr,ho=>by
  intro t ht;rw[kT]at ht
  rcases List.mem_append.1 ht with ht|ht
  ·obtain⟨n,hn,rfl⟩:=List.mem_map.1 ht
   exact⟨ho n (List.mem_of_mem_drop (List.mem_reverse.1 hn)),iA,by simp[endP]⟩
  ·rcases List.mem_cons.1 ht with rfl|ht
   ·exact tokP_cln (hr x (by simp))
   ·refine Pj r _ (fun y hy=>hr y (by simp[hy])) (fun n hn=>?_) t ht
    unfold opA at hn
    split at hn
    ·rcases List.mem_append.1 hn with hn|hn
     ·exact ho n (List.mem_of_mem_take hn)
     ·obtain rfl:=List.mem_singleton.1 hn
      exact(hr x (by simp)).name
    ·exact ho n (List.mem_of_mem_take hn)
theorem Ph(M:Nat):∀(r:List Rw) (op:List Bt),(∀x∈r,x.f3.size≤M∧x.f4.length≤1000000)→oL (emit r op)≤r.length * M∧∀t∈emit r op,t.f3.length≤1000000
 | [],op,_=>by
   have e:∀m:List Bt,oL (m.map Bl)=0:=by
    intro m
    induction m with
    |nil=>rfl
    |cons n m ih=>
     have e1:oL ((n::m).map Bl)=0+oL (m.map Bl):=rfl;rw[e1,ih]
   refine⟨by rw[emit,e];omega,fun t ht=>?_⟩;obtain⟨n,hn,rfl⟩:=List.mem_map.1 ht;simp[Bl]
 |x::r,op,h=>by
  have e:∀m:List Bt,oL (m.map Bl)=0:=by
   intro m
   induction m with
   |nil=>rfl
   |cons n m ih=>
    have e1:oL ((n::m).map Bl)=0+oL (m.map Bl):=rfl;rw[e1,ih]
  obtain⟨i1,i2⟩:=Ph M r (opA (op.take x.f0.toNat) x) (fun y hy=>h y (by simp[hy]));have hx:=h x (by simp)
  have ht:(tT x).f2.size≤M∧(tT x).f3.length≤1000000:=by
   unfold tT
   split
   ·exact⟨Nat.zero_le _,hx.2⟩
   ·split
    ·exact⟨hx.1,Nat.zero_le _⟩
    ·exact⟨hx.1,Nat.zero_le _⟩
  refine⟨?_,fun t hm=>?_⟩
  ·have e2:oL (emit (x::r) op)=oL ((op.drop x.f0.toNat).reverse.map Bl)+((tT x).f2.size+oL (emit r (opA (op.take x.f0.toNat) x))):=by
    rw[emit];simp[oL]
   rw[e2,e,List.length_cons,Nat.add_mul];omega
  ·rw[emit]at hm
   rcases List.mem_append.1 hm with hm|hm
   ·obtain⟨n,hn,rfl⟩:=List.mem_map.1 hm
    simp[Bl]
   ·rcases List.mem_cons.1 hm with rfl|hm
    ·exact ht.2
    ·exact i2 t hm
end Go.Proofs.aj.W7
namespace Go.Proofs.YtkcmghlhpbepcaaGreatDoor.Ch
open Go Go.RowKit YtkcmghlhpbepcaaGreatDoor
theorem sN:∀(N:Nat) (a b:List UInt8),a.length≤N→(∀c r,b=c::r→c.toNat<128)→Lib.validD (a++b)=true→Lib.validD a=true∧Lib.validD b=true
 |_,[],b,_,_,hv=>⟨rfl,hv⟩
 |0,c::t,b,hN,_,_=>by simp at hN
 |N+1,c::t,b,hN,hb,hv=>by
  have hN':t.length≤N:=by simpa using hN
  have hv:Lib.validD (c::(t++b))=true:=hv
  rcases Lib.decodeN_shape (c::(t++b)).length ((c::(t++b)).getD 0 0).toNat ((c::(t++b)).getD 1 0).toNat ((c::(t++b)).getD 2 0).toNat ((c::(t++b)).getD 3 0).toNat with⟨h0,-⟩|⟨h0,hn,h1,h2,-⟩|⟨h0,hn,h1,h2,h3,h4,-⟩|⟨h0,hn,h1,h2,h3,h4,h5,-⟩|hbad
  ·have h0:c.toNat<128:=h0
   rw[Lib.validD_cons c (t++b) h0]at hv;obtain⟨i1,i2⟩:=sN N t b hN' hb hv;exact⟨by rw[Lib.validD_cons c t h0];exact i1,i2⟩
  ·rcases t with _|⟨d,r⟩
   ·rcases b with _|⟨d,r⟩
    ·simp at hn
    ·have h1:d.toNat / 64=2:=h1
     have:=hb d r rfl;omega
   ·have h0:c.toNat / 32=6:=h0
    have h1:d.toNat / 64=2:=h1;have h2:128≤c.toNat % 32 * 64+d.toNat % 64:=h2;rw[List.cons_append,Br c d (r++b) h0 h1 h2]at hv;obtain⟨i1,i2⟩:=sN N r b (by simp at hN';omega) hb hv;exact⟨by rw[Br c d r h0 h1 h2];exact i1,i2⟩
  ·rcases t with _|⟨d,_|⟨f,r⟩⟩
   ·rcases b with _|⟨d,r⟩
    ·simp at hn
    ·have h1:d.toNat / 64=2:=h1
     have:=hb d r rfl;omega
   ·rcases b with _|⟨f,r⟩
    ·simp at hn
    ·have h2:f.toNat / 64=2:=h2
     have:=hb f r rfl;omega
   ·have h0:c.toNat / 16=14:=h0
    have h1:d.toNat / 64=2:=h1;have h2:f.toNat / 64=2:=h2;rw[List.cons_append,List.cons_append,zQ9 c d f (r++b) h0 h1 h2 h3 h4]at hv;obtain⟨i1,i2⟩:=sN N r b (by simp at hN';omega) hb hv;exact⟨by rw[zQ9 c d f r h0 h1 h2 h3 h4];exact i1,i2⟩
  ·rcases t with _|⟨d,_|⟨f,_|⟨g,r⟩⟩⟩
   ·rcases b with _|⟨d,r⟩
    ·simp at hn
    ·have h1:d.toNat / 64=2:=h1
     have:=hb d r rfl;omega
   ·rcases b with _|⟨f,r⟩
    ·simp at hn
    ·have h2:f.toNat / 64=2:=h2
     have:=hb f r rfl;omega
   ·rcases b with _|⟨g,r⟩
    ·simp at hn
    ·have h3:g.toNat / 64=2:=h3
     have:=hb g r rfl;omega
   ·have h0:c.toNat / 8=30:=h0
    have h1:d.toNat / 64=2:=h1;have h2:f.toNat / 64=2:=h2;have h3:g.toNat / 64=2:=h3;rw[List.cons_append,List.cons_append,List.cons_append,Bu c d f g (r++b) h0 h1 h2 h3 h4 h5]at hv;obtain⟨i1,i2⟩:=sN N r b (by simp at hN';omega) hb hv;exact⟨by rw[Bu c d f g r h0 h1 h2 h3 h4 h5];exact i1,i2⟩
  ·rw[Lib.validD_step _ (by simp),Lib.decodeL_N,hbad,if_pos ⟨rfl,rfl⟩]at hv
   cases hv
theorem Mv{a b:List UInt8}(hb:∀c r,b=c::r→c.toNat<128)(h:Cln (a++b)):Cln a∧Cln b:=by
 obtain⟨h1,h2,h3⟩:=h;obtain⟨v1,v2⟩:=sN a.length a b (Nat.le_refl _) hb h1;exact⟨⟨v1,fun e=>h2 (by simp[e]),fun e=>h3 (by simp[e])⟩,v2,fun e=>h2 (by simp[e]),fun e=>h3 (by simp[e])⟩
theorem rM{c:UInt8}{l:List UInt8}(hc:c.toNat<128)(h:Cln (c::l)):Cln l:=by
 obtain⟨h1,h2,h3⟩:=h;rw[Lib.validD_cons c l hc]at h1;exact⟨h1,fun e=>h2 (by simp[e]),fun e=>h3 (by simp[e])⟩
theorem Mt{l:List UInt8}(k:Nat)(hk:∀c,l[k]?=some c→c.toNat<128)(h:Cln l):Cln (l.take k)∧Cln (l.drop k):=by
 refine Mv (fun c r e=>hk c ?_) (by rw[List.take_append_drop];exact h);have:=congrArg List.head? e;rw[List.head?_drop]at this;exact this
theorem IV(p:UInt8→Bool)(hp:∀c,p c=true→c.toNat<128){l:List UInt8}(h:Cln l):Cln (l.take (l.findIdx p))∧Cln (l.drop (l.findIdx p)):=by
 refine Mt _ (fun c hc=>hp c ?_) h;obtain⟨hk,rfl⟩:=List.getElem?_eq_some_iff.1 hc;exact List.findIdx_getElem
theorem IY:∀(a:List UInt8) {b:List UInt8},(∀c∈a,c.toNat<128)→Cln (a++b)→Cln b
 | [],_,_,h=>h
 |c::a,b,ha,h=>IY a (fun x hx=>ha x (by simp[hx])) (rM (ha c (by simp)) h)
theorem qU{p l:List UInt8}(hp:p.isPrefixOf l=true)(ha:∀c∈p,c.toNat<128)(h:Cln l):Cln (l.drop p.length):=by
 obtain⟨t,rfl⟩:=List.isPrefixOf_iff_prefix.1 hp;rw[List.drop_left];exact IY p ha h
theorem cln_cutS{s e:List UInt8}(hne:e≠[])(he:∀c∈e,c.toNat<128)(h:Cln s):Cln (Lib.cut s e).1∧Cln (Lib.cut s e).2.1:=by
 unfold Lib.cut
 rcases Lib.index_spec s e with⟨h1,-⟩|⟨j,h1,hj,h2,-⟩
 ·rw[h1]
  simpa using⟨h,iA⟩
 ·rw[h1]
  have hp:e.isPrefixOf (s.drop j)=true:=h2;have h3:=Mt j (fun c hc=>?_) h
  ·have h4:=qU hp he h3.2
   rw[List.drop_drop]at h4;simpa using⟨h3.1,h4⟩
  ·obtain⟨t,ht⟩:=List.isPrefixOf_iff_prefix.1 hp
   obtain⟨x,y,rfl⟩:=List.exists_cons_of_ne_nil hne;have:=congrArg List.head? ht;rw[List.head?_drop]at this;rw[hc]at this;obtain rfl:=Option.some.inj this;exact he x (by simp)
theorem vJ(c:UInt8)(h:128≤c.toNat):mI c=c:=by
 unfold mI;rw[if_neg (by omega)]
theorem low_lo(c:UInt8)(h:c.toNat<128):(mI c).toNat<128:=by
 have:=jw (p:=fun c=>!decide (c.toNat<128)||decide ((mI c).toNat<128)) (by decide +kernel) c;rw[decide_eq_true h]at this;simpa using this
theorem wJ:∀(N:Nat) (l:List UInt8),l.length≤N→Lib.validD l=true→Lib.validD (iZ l)=true
 |_,[],_,_=>rfl
 |0,c::t,hN,_=>by simp at hN
 |N+1,c::t,hN,hv=>by
  have hN':t.length≤N:=by simpa using hN
  rcases Lib.decodeN_shape (c::t).length ((c::t).getD 0 0).toNat ((c::t).getD 1 0).toNat ((c::t).getD 2 0).toNat ((c::t).getD 3 0).toNat with⟨h0,-⟩|⟨h0,hn,h1,h2,-⟩|⟨h0,hn,h1,h2,h3,h4,-⟩|⟨h0,hn,h1,h2,h3,h4,h5,-⟩|hbad
  ·have h0:c.toNat<128:=h0
   rw[Lib.validD_cons c t h0]at hv;show Lib.validD (mI c::iZ t)=true;rw[Lib.validD_cons _ _ (low_lo c h0)];exact wJ N t hN' hv
  ·rcases t with _|⟨d,r⟩
   ·simp at hn
   ·have h0:c.toNat / 32=6:=h0
    have h1:d.toNat / 64=2:=h1;have h2:128≤c.toNat % 32 * 64+d.toNat % 64:=h2;rw[Br c d r h0 h1 h2]at hv;show Lib.validD (mI c::mI d::iZ r)=true;rw[vJ c (by omega),vJ d (by omega),Br c d _ h0 h1 h2];exact wJ N r (by simp at hN';omega) hv
  ·rcases t with _|⟨d,_|⟨f,r⟩⟩
   ·simp at hn
   ·simp at hn
   ·have h0:c.toNat / 16=14:=h0
    have h1:d.toNat / 64=2:=h1;have h2:f.toNat / 64=2:=h2;rw[zQ9 c d f r h0 h1 h2 h3 h4]at hv;show Lib.validD (mI c::mI d::mI f::iZ r)=true;rw[vJ c (by omega),vJ d (by omega),vJ f (by omega),zQ9 c d f _ h0 h1 h2 h3 h4];exact wJ N r (by simp at hN';omega) hv
  ·rcases t with _|⟨d,_|⟨f,_|⟨g,r⟩⟩⟩
   ·simp at hn
   ·simp at hn
   ·simp at hn
   ·have h0:c.toNat / 8=30:=h0
    have h1:d.toNat / 64=2:=h1;have h2:f.toNat / 64=2:=h2;have h3:g.toNat / 64=2:=h3;rw[Bu c d f g r h0 h1 h2 h3 h4 h5]at hv;show Lib.validD (mI c::mI d::mI f::mI g::iZ r)=true;rw[vJ c (by omega),vJ d (by omega),vJ f (by omega),vJ g (by omega),Bu c d f g _ h0 h1 h2 h3 h4 h5];exact wJ N r (by simp at hN';omega) hv
  ·rw[Lib.validD_step _ (by simp),Lib.decodeL_N,hbad,if_pos ⟨rfl,rfl⟩]at hv
   cases hv
theorem low_no(z:UInt8)(hz:z=0∨z=13){l:List UInt8}(h:z∉l):z∉iZ l:=by
 unfold iZ;rw[List.mem_map];rintro⟨c,hc,e⟩;have:=jw (p:=fun c=>(c==0||mI c !=0)&&(c==13||mI c !=13)) (by decide +kernel) c;simp only[Bool.and_eq_true,Bool.or_eq_true,beq_iff_eq,bne_iff_ne]at this
 rcases hz with rfl|rfl
 ·rcases this.1 with e2|e2
  ·subst e2;exact h hc
  ·exact e2 e
 ·rcases this.2 with e2|e2
  ·subst e2;exact h hc
  ·exact e2 e
theorem TP{l:List UInt8}(h:Cln l):Cln (iZ l):=⟨wJ l.length l (Nat.le_refl _) h.1,low_no 0 (.inl rfl) h.2.1,low_no 13 (.inr rfl) h.2.2⟩
def encN(c:Nat):List UInt8:=
 if c<128 then [UInt8.ofNat c]
 else if c<2048 then [UInt8.ofNat (192+c / 64),UInt8.ofNat (128+c % 64)]
 else if c<65536 then [UInt8.ofNat (224+c / 4096),UInt8.ofNat (128+c / 64 % 64),UInt8.ofNat (128+c % 64)]
 else [UInt8.ofNat (240+c / 262144),UInt8.ofNat (128+c / 4096 % 64),UInt8.ofNat (128+c / 64 % 64),UInt8.ofNat (128+c % 64)]
theorem TS(c:Nat)(h1:c≤1114111)(h2:c<55296∨57344≤c):Lib.validD (encN c)=true∧∀x∈encN c,x.toNat<128→x.toNat=c:=by
 have tn:∀n,n<256→(UInt8.ofNat n).toNat=n:=fun n hn=>by rw[UInt8.toNat_ofNat'];omega
 unfold encN
 split
 ·have:=tn c (by omega)
  refine⟨?_,?_⟩
  ·rw[Lib.validD_cons _ _ (by omega)];rfl
  ·intro x hx _
   obtain rfl:=List.mem_singleton.1 hx;exact this
 ·split
  ·have t1:=tn (192+c / 64) (by omega)
   have t2:=tn (128+c % 64) (by omega);refine⟨?_,?_⟩
   ·rw[Br _ _ _ (by omega) (by omega) (by omega)];rfl
   ·intro x hx hlt
    simp only[List.mem_cons,List.not_mem_nil,or_false]at hx
    rcases hx with rfl|rfl<;>omega
  ·split
   ·have t1:=tn (224+c / 4096) (by omega)
    have t2:=tn (128+c / 64 % 64) (by omega);have t3:=tn (128+c % 64) (by omega);refine⟨?_,?_⟩
    ·rw[zQ9 _ _ _ _ (by omega) (by omega) (by omega) (by omega) (by omega)];rfl
    ·intro x hx hlt
     simp only[List.mem_cons,List.not_mem_nil,or_false]at hx
     rcases hx with rfl|rfl|rfl<;>omega
   ·have t1:=tn (240+c / 262144) (by omega)
    have t2:=tn (128+c / 4096 % 64) (by omega);have t3:=tn (128+c / 64 % 64) (by omega);have t4:=tn (128+c % 64) (by omega);refine⟨?_,?_⟩
    ·rw[Bu _ _ _ _ _ (by omega) (by omega) (by omega) (by omega) (by omega) (by omega)];rfl
    ·intro x hx hlt
     simp only[List.mem_cons,List.not_mem_nil,or_false]at hx
     rcases hx with rfl|rfl|rfl|rfl<;>omega
theorem TT(n:Int)(h0:0≤n)(h1:n≤1114111)(h2:n<55296∨57344≤n):(Utf8.encode n).data.toList=encN n.toNat:=by
 have hv:Utf8.valid n=true:=by
  unfold Utf8.valid;simp only[Bool.or_eq_true,Bool.and_eq_true,decide_eq_true_eq];omega
 unfold Utf8.encode encN;simp only[hv,if_true]
 repeat' split
 all_goals rfl
theorem rune_enc(r:Int)(h0:0≤r)(h1:r≤1114111)(h2:r<55296∨57344≤r):Lib.encodeRune r=encN r.toNat:=by
 obtain⟨n,rfl⟩:=Int.eq_ofNat_of_zero_le h0;unfold Lib.encodeRune encN;rw[Int.toNat_natCast]
 split
 ·rw[Lib.encodeRuneZ_one (by omega) (by omega)];rfl
 ·split
  ·rw[Lib.encodeRuneZ_two (by omega) (by omega)]
   simp only[List.map_cons,List.map_nil];rw[show(192+(n:Int) / 64).toNat=192+n / 64 from by omega,show(128+(n:Int) % 64).toNat=128+n % 64 from by omega]
  ·split
   ·rw[Lib.encodeRuneZ_three (by omega)]
    simp only[List.map_cons,List.map_nil];rw[show(224+(n:Int) / 4096).toNat=224+n / 4096 from by omega,show(128+(n:Int) / 64 % 64).toNat=128+n / 64 % 64 from by omega,show(128+(n:Int) % 64).toNat=128+n % 64 from by omega]
   ·rw[Lib.encodeRuneZ_four (by omega) (by omega)]
    simp only[List.map_cons,List.map_nil];rw[show(240+(n:Int) / 262144).toNat=240+n / 262144 from by omega,show(128+(n:Int) / 4096 % 64).toNat=128+n / 4096 % 64 from by omega,show(128+(n:Int) / 64 % 64).toNat=128+n / 64 % 64 from by omega,show(128+(n:Int) % 64).toNat=128+n % 64 from by omega]
theorem TU(c:Nat)(h1:c≤1114111)(h2:c<55296∨57344≤c)(h3:c≠0)(h4:c≠13):Cln (encN c):=by
 obtain⟨a,b⟩:=TS c h1 h2;refine⟨a,fun e=>?_,fun e=>?_⟩
 ·exact h3 (b 0 e (by decide)).symm
 ·exact h4 (b 13 e (by decide)).symm
theorem code_cln(n:Int):Cln (Ae n):=by
 have h:1≤BI n∧BI n≤1114111∧(BI n<55296∨57344≤BI n)∧BI n≠13:=by
  unfold BI
  repeat' split
  all_goals omega
 unfold Ae;rw[TT _ (by omega) h.2.1 h.2.2.1];exact TU _ (by omega) (by omega) (by omega) (by omega)
theorem mem_ite{c:Prop} [Decidable c]{a b:Int}{L:List Int}(h1:a∈L)(h2:b∈L):(if c then a else b)∈L:=by split<;>assumption
theorem Ve(l:List UInt8):mJ l=0∨(1≤mJ l∧mJ l<55296∧mJ l≠13):=by
 have h:mJ l∈([38,60,62,34,39,160,169,174,182,183,233,228,246,252,223,8364,8230,8211,8212,8226,9,10,58,40,0] :List Int):=by
  unfold mJ
  repeat' refine mem_ite ?_ ?_
  all_goals simp
 generalize mJ l=n at *;simp only[List.mem_cons,List.not_mem_nil,or_false]at h;omega
theorem Vf(l:List UInt8):Cln (je l).1:=by
 unfold je
 have hc:∀b,Cln (kM b (l.drop 2)).1∧Cln (kM b l.tail).1:=by
  intro b;constructor<;>(unfold kM;split;exact code_cln _;exact iA)
 split
 ·exact(hc 16).1
 ·split
  ·exact(hc 10).2
  ·unfold sV
   split
   ·exact iA
   ·rcases Ve l with h|h
    ·contradiction
    ·show Cln (Utf8.encode (mJ l)).data.toList
     rw[TT _ (by omega) (by omega) (by omega)];exact TU _ (by omega) (by omega) (by omega) (by omega)
theorem Df{q:UInt8}(hq:q.toNat<128){l:List UInt8}(h:Cln l):Cln (gW q l).1∧((gW q l).2.2=true→Cln (gW q l).2.1):=by
 cases e:(gW q l).2.2 with
 |true=>
  have h2:=MS e;rw[h2]at h;obtain⟨a,b⟩:=Mv (fun c r e=>by rw[←(List.cons.inj e).1];exact hq) h;exact⟨a,fun _=>rM hq b⟩
 |false=>
  refine⟨?_,fun e=>by cases e⟩;rw[(Ko e).1];exact h
theorem Mx:∀(N:Nat) (l:List UInt8),l.length≤N→Cln l→Cln (jc l)
 |_,[],_,_=>by rw[q9];exact iA
 |0,c::t,hN,_=>by simp at hN
 |N+1,c::t,hN,h=>by
  cases e:(gW 38 (c::t)).2.2 with
  |false=>rw[Jt e];exact(Df (by decide) h).1
  |true=>
   obtain⟨h1,h2⟩:=Df (q:=38) (by decide) h;have h2:=h2 e;have hl:=nO 38 (c::t);rw[e,if_pos rfl]at hl;rw[MV e];refine jJ h1 ?_;generalize (gW 38 (c::t)).2.1=r at *;simp only[List.length_cons]at hN hl;cases e2:((gW 59 r).2.2&&(je (gW 59 r).1).2)with
   |false=>
    rw[MW e2];exact jJ (a:=[38]) (lH (by decide)) (Mx N r (by omega) h2)
   |true=>
    rw[Bool.and_eq_true]at e2;rw[Gg e2.1 e2.2];have hl2:=nO 59 r;exact jJ (Vf _) (Mx N _ (by omega) ((Df (by decide) h2).2 e2.1))
theorem Gc{l:List UInt8}(h:Cln l):Cln (jc l):=Mx l.length l (Nat.le_refl _) h
theorem rep_at{l old new:List UInt8}{j:Nat}(hi:Lib.index l old=j)(h0:old≠[])(hne:(old==new)=false):Lib.replaceAll l old new=l.take j++new++Lib.replaceAll (l.drop (j+old.length)) old new:=by
 unfold Lib.replaceAll Lib.replace;rw[hne,if_neg (by decide),if_neg (by decide)]
 have e1:Lib.replaceNum l old (-1)=Lib.replaceNum (l.drop (j+old.length)) old (-1)+1:=by
  unfold Lib.replaceNum;rw[if_pos (Or.inl (by decide)),if_pos (Or.inl (by decide)),Lib.count_hit h0 hi,Nat.add_comm]
 rw[e1,Lib.replaceK_hit _ _ _ _ _ hi]
theorem MB{l old new:List UInt8}(hi:Lib.index l old= -1):Lib.replaceAll l old new=l:=by
 unfold Lib.replaceAll Lib.replace
 split
 ·rfl
 ·have e1:Lib.replaceNum l old (-1)=0:=by
   unfold Lib.replaceNum;rw[if_pos (Or.inl (by decide)),Lib.count_miss hi]
  rw[e1,Lib.replaceK]
theorem Kh(old new:List UInt8)(h0:old≠[])(hne:(old==new)=false)(ho:∀c∈old,c.toNat<128)(hn:∀c∈new,c.toNat<128)(hz:(0:UInt8)∉new):∀(N:Nat) (l:List UInt8),l.length≤N→(Lib.validD l=true∧(0:UInt8)∉l)→(Lib.validD (Lib.replaceAll l old new)=true∧(0:UInt8)∉Lib.replaceAll l old new):=by
 intro N
 induction N with
 |zero=>
  intro l hN h;obtain rfl:l=[]:=List.eq_nil_of_length_eq_zero (by omega)
  have:Lib.index [] old= -1:=by
   cases old with
   |nil=>exact absurd rfl h0
   |cons a t=>rfl
  rw[MB this];exact h
 |succ N ih=>
  intro l hN h
  rcases Lib.index_spec l old with⟨h1,-⟩|⟨j,h1,hj,h2,-⟩
  ·rw[MB h1];exact h
  ·rw[rep_at h1 h0 hne]
   have hp:old.isPrefixOf (l.drop j)=true:=h2;obtain⟨t,ht⟩:=List.isPrefixOf_iff_prefix.1 hp;have hd:l.drop (j+old.length)=t:=by rw[←List.drop_drop,←ht,List.drop_left]
   have hl:l=l.take j++(old++t):=by rw[ht,List.take_append_drop]
   have hlen:=congrArg List.length hl;simp only[List.length_append]at hlen;have hop:0<old.length:=List.length_pos_iff.2 h0
   obtain⟨v1,v2⟩:=sN (l.take j).length (l.take j) (old++t) (Nat.le_refl _) (fun c r e=>by
    obtain⟨x,y,rfl⟩:=List.exists_cons_of_ne_nil h0;rw[List.cons_append]at e;rw[←(List.cons.inj e).1];exact ho x (by simp)) (by rw[←hl];exact h.1)
   rw[Db old t ho]at v2;have z1:(0:UInt8)∉l.take j:=fun e=>h.2 (List.mem_of_mem_take e)
   have z2:(0:UInt8)∉t:=fun e=>h.2 (by rw[hl];simp[e])
   obtain⟨i1,i2⟩:=ih t (by omega) ⟨v2,z2⟩;rw[hd,List.append_assoc];refine⟨?_,?_⟩
   ·rw[yF _ _ _ (Nat.le_refl _) v1,Db new _ hn];exact i1
   ·simp only[List.mem_append]
    rintro(e|e|e)
    ·exact z1 e
    ·exact hz e
    ·exact i2 e
theorem rep_none:∀(N:Nat) (l:List UInt8),l.length≤N→(13:UInt8)∉Lib.replaceAll l [13] [10]:=by
 intro N
 induction N with
 |zero=>
  intro l hN;obtain rfl:l=[]:=List.eq_nil_of_length_eq_zero (by omega);rw[MB rfl];simp
 |succ N ih=>
  intro l hN
  rcases Lib.index_spec l [13]with⟨h1,h2⟩|⟨j,h1,hj,h2,h3⟩
  ·rw[MB h1]
   intro e;obtain⟨k,hk,ek⟩:=List.getElem_of_mem e;have:=h2 k (by omega);unfold Lib.occAt at this;rw[List.drop_eq_getElem_cons hk,ek]at this;simp[List.isPrefixOf]at this
  ·rw[rep_at h1 (by simp) (by decide),List.append_assoc]
   simp only[List.mem_append];rintro(e|e|e)
   ·obtain⟨k,hk,ek⟩:=List.getElem_of_mem e
    rw[List.getElem_take]at ek;rw[List.length_take]at hk;have:=h3 k (by omega);unfold Lib.occAt at this;rw[List.drop_eq_getElem_cons (by omega),ek]at this;simp[List.isPrefixOf]at this
   ·simp at e
   ·refine ih _ ?_ e
    have hp:([13] :List UInt8).isPrefixOf (l.drop j)=true:=h2;have:=(List.isPrefixOf_iff_prefix.1 hp).length_le;simp only[List.length_drop,List.length_cons,List.length_nil]at this⊢;omega
theorem ru_ok(r:Nat):Lib.validD (ruF r)=true∧(0:UInt8)∉ruF r:=by
 unfold ruF
 by_cases hb:(if r=0 then(65533:Int)else(r:Int))≤1114111∧((if r=0 then(65533:Int)else(r:Int))<55296∨57344≤(if r=0 then(65533:Int)else(r:Int)))
 ·have h1:1≤(if r=0 then(65533:Int)else(r:Int)):=by split<;>omega
  generalize (if r=0 then(65533:Int)else(r:Int))=q at *;rw[rune_enc q (by omega) hb.1 hb.2];obtain⟨a,b⟩:=TS q.toNat (by omega) (by omega);refine⟨a,fun e=>?_⟩;have h2:=b 0 e (by decide);have h3:(0:UInt8).toNat=0:=rfl;omega
 ·unfold Lib.encodeRune
  rw[Lib.encodeRuneZ_bad (by
   generalize (if r=0 then(65533:Int)else(r:Int))=q at *;omega)]
  exact⟨by decide,by decide⟩
theorem Ki(s:Bt):∀(fuel p:Nat),Lib.validD (nP s fuel p)=true∧(0:UInt8)∉nP s fuel p
 |0,p=>⟨rfl,by simp[nP]⟩
 |fuel+1,p=>by
  rw[nP]
  split
  ·obtain⟨a,b⟩:=ru_ok (Utf8.decode s p).1
   obtain⟨c,d⟩:=Ki s fuel (p+(Utf8.decode s p).2);refine⟨by rw[yF _ _ _ (Nat.le_refl _) a];exact c,?_⟩;rw[List.mem_append];rintro(e|e)
   ·exact b e
   ·exact d e
  ·exact⟨rfl,by simp⟩
theorem U8(l:List UInt8):Cln (j5 l):=by
 unfold j5 Em deF;have h1:=Ki ⟨l.toArray⟩ (⟨l.toArray⟩:Bt).size 0;generalize nP ⟨l.toArray⟩ (⟨l.toArray⟩:Bt).size 0=d at *;have h2:=Kh [13,10] [10] (by simp) (by decide) (by decide) (by decide) (by decide) d.length d (Nat.le_refl _) h1;have h3:=Kh [13] [10] (by simp) (by decide) (by decide) (by decide) (by decide) _ _ (Nat.le_refl _) h2;exact⟨h3.1,h3.2,rep_none _ _ (Nat.le_refl _)⟩
end Go.Proofs.YtkcmghlhpbepcaaGreatDoor.Ch
namespace Go.Proofs.aj.W7
open Go.RowKit Go.Proofs aj YtkcmghlhpbepcaaGreatDoor ah.aD YtkcmghlhpbepcaaGreatDoor.Ch
theorem zH{p:UInt8→Bool}(h:(List.range 256).all (fun k=>!(p (UInt8.ofNat k))||decide ((UInt8.ofNat k).toNat<128))=true)(c:UInt8)(hc:p c=true):c.toNat<128:=by
 have:=jw (p:=fun c=>!(p c)||decide (c.toNat<128)) h c;rw[hc]at this;simpa using this
theorem IU{p:UInt8→Bool}(hp:∀c,p c=false→c.toNat<128):∀ {s:Txt},Cln s→Cln (s.drop (s.findIdx p))
 | [],h=>h
 |c::t,h=>by
  rw[List.findIdx_cons];cases hc:p c with
  |true=>exact h
  |false=>
   simp only[cond_false,List.drop_succ_cons];exact IU hp (rM (hp c hc) h)
theorem Pk{s:Txt}(h:Cln s):Cln (mg s):=IU (fun c hc=>zH (p:=fun c=>!(!YtkcmghlhpbepcaaGreatDoor.dz c)) (by decide +kernel) c (by rw[hc];rfl)) h
theorem gap_cln{s:Txt}(h:Cln s):Cln (s.drop (rC s)):=IU (fun c hc=>zH (p:=fun c=>!(!YtkcmghlhpbepcaaGreatDoor.dz c&&c !=47)) (by decide +kernel) c (by rw[hc];rfl)) h
theorem val_cln{nm s:Txt}(hn:Cln nm)(h:Cln s):(Cln (Aw nm s).1.1∧Cln (Aw nm s).1.2)∧((Aw nm s).2.2=true→Cln (Aw nm s).2.1):=by
 unfold Aw
 split
 ·exact⟨⟨hn,iA⟩,fun e=>by cases e⟩
 ·rename_i q t
  split
  ·rename_i hq
   have hq':q.toNat<128:=by rcases hq with rfl|rfl<;>decide
   obtain⟨a,b⟩:=Df hq' (rM hq' h);exact⟨⟨hn,Gc a⟩,b⟩
  ·obtain⟨a,b⟩:=IV (fun c=>YtkcmghlhpbepcaaGreatDoor.dz c||c==62) (zH (by decide +kernel)) h
   exact⟨⟨hn,Gc a⟩,fun _=>b⟩
theorem Va{nm s:Txt}(hn:Cln nm)(h:Cln s):(Cln (sS nm s).1.1∧Cln (sS nm s).1.2)∧((sS nm s).2.2=true→Cln (sS nm s).2.1):=by
 have h1:=Pk h;unfold sS
 split
 ·exact⟨⟨hn,iA⟩,fun e=>by cases e⟩
 ·rename_i c t e
  rw[e]at h1
  split
  ·rename_i hc
   subst hc;exact val_cln hn (Pk (rM (by decide) h1))
  ·exact⟨⟨hn,iA⟩,fun _=>h⟩
theorem Vb{s:Txt}(h:Cln s):(Cln (lU s).1.1∧Cln (lU s).1.2)∧((lU s).2.2=true→Cln (lU s).2.1):=by
 have hk:=Mt (qB s) (fun c hc=>?_) h
 ·exact Va (TP hk.1) hk.2
 ·unfold qB at hc
  rw[Nat.add_comm,←List.getElem?_tail]at hc;obtain⟨hk,rfl⟩:=List.getElem?_eq_some_iff.1 hc;exact zH (p:=fun c=>bY c||c==61) (by decide +kernel) _ (List.findIdx_getElem (w:=hk))
theorem IW:∀(n:Nat) (acc:List (Txt×Txt)) (s:Txt) r,lS n acc s=some r→(∀a∈acc,Cln a.1∧Cln a.2)→Cln s→(∀a∈r.1,Cln a.1∧Cln a.2)∧Cln r.2.2
 |0,_,_,_,h,_,_=>by simp[lS]at h
 |n+1,acc,s,r,h,ha,hs=>by
  unfold lS at h;have hg:=gap_cln hs;cases hd:s.drop (rC s)with
  |nil=>rw[hd]at h;simp at h
  |cons c s1=>
   rw[hd]at h hg;simp only at h
   split at h
   ·rename_i hc
    simp at h;subst h;subst hc;exact⟨ha,rM (by decide) hg⟩
   ·obtain⟨a1,a2⟩:=Vb hg
    split at h
    ·rename_i hc
     refine IW n _ _ r h (fun a hm=>?_) (a2 hc);unfold z8 at hm
     split at hm
     ·exact ha a hm
     ·rcases List.mem_append.1 hm with hm|hm
      ·exact ha a hm
      ·obtain rfl:=List.mem_singleton.1 hm
       exact a1
    ·simp at h
theorem QI{s r:Txt}{t:Tok}(h:fC s=some (t,r))(hs:Cln s):(Cln t.name∧∀a∈t.attrs,Cln a.1∧Cln a.2)∧t.data=[]∧Cln r:=by
 unfold fC at h;obtain⟨a,b⟩:=IV bY (zH (by decide +kernel)) hs;cases ha:kR [] (s.drop (s.findIdx bY))with
 |none=>rw[ha]at h;simp at h
 |some q=>
  rw[ha]at h;simp at h;have h2:=IW _ _ _ _ ha (by simp) b;obtain⟨rfl,rfl⟩:=h;exact⟨⟨TP a,h2.1⟩,rfl,h2.2⟩
theorem Pm(nm:Txt):∀(s:Txt) (c:UInt8),s[YtkcmghlhpbepcaaGreatDoor.iL nm s]?=some c→c.toNat<128
 | [],c,h=>by simp at h
 |x::t,c,h=>by
  rw[YtkcmghlhpbepcaaGreatDoor.iL]at h
  split at h
  ·rename_i hc
   simp only[List.getElem?_cons_zero,Option.some.injEq]at h;subst h;unfold gQ at hc
   split at hc
   ·rename_i e
    rw[(List.cons.inj e).1]
    decide
   ·cases hc
  ·rw[Nat.add_comm,List.getElem?_cons_succ]at h
   exact Pm nm t c h
def nK(L:List Tok):Prop:=∀t∈L,Ed t
theorem Dg:nK []:=fun t h=>by cases h
theorem Dh{a b:List Tok}(ha:nK a)(hb:nK b):nK (a++b):=fun t h=>by
 rcases List.mem_append.1 h with h|h
 ·exact ha t h
 ·exact hb t h
theorem Di{k:Int}{nm d:Txt}{l:List (Txt×Txt)}{b:Bool}(h1:Cln nm)(h2:∀a∈l,Cln a.1∧Cln a.2)(h3:Cln d):nK [⟨k,nm,l,d,b⟩]:=fun t h=>by
 obtain rfl:=List.mem_singleton.1 h;exact⟨h1,h3,h2⟩
theorem zI{k:Int}{d:Txt}(h:Cln d):nK [⟨k,[],[],d,false⟩]:=Di iA (by simp) h
theorem IX(nm:Txt){s:Txt}(h:Cln s):nK (jE nm s)∧Cln (jD nm s):=by
 obtain⟨a,b⟩:=Mt (YtkcmghlhpbepcaaGreatDoor.iL nm s) (Pm nm s) h;refine⟨?_,b⟩;unfold jE
 split
 ·exact Dg
 ·refine zI ?_
  split
  ·exact Gc a
  ·exact a
theorem J8{p:UInt8→Bool}(hp:∀c,p c=true→c.toNat<128):∀(m:Txt),Cln m.reverse→Cln (m.dropWhile p).reverse
 | [],h=>h
 |c::m,h=>by
  rw[List.dropWhile_cons]
  split
  ·rename_i hc
   rw[List.reverse_cons]at h;exact J8 hp m (Mv (fun x r e=>by rw[←(List.cons.inj e).1];exact hp c hc) h).1
  ·exact h
theorem J9{p:UInt8→Bool}(hp:∀c,p c=true→c.toNat<128):∀ {m:Txt},Cln m→Cln (m.dropWhile p)
 | [],h=>h
 |c::m,h=>by
  rw[List.dropWhile_cons]
  split
  ·rename_i hc
   exact J9 hp (rM (hp c hc) h)
  ·exact h
theorem trim_cln{s:Txt}(h:Cln s):Cln (jS s):=by
 unfold jS;have hp:=zH (p:=YtkcmghlhpbepcaaGreatDoor.dz) (by decide +kernel);refine J8 hp _ ?_;rw[List.reverse_reverse];exact J9 hp h
theorem wI{k:Int}{s e:Txt}(hne:e≠[])(he:∀c∈e,c.toNat<128)(h:Cln s):nK (mF k s e).1∧Cln (mF k s e).2:=by
 obtain⟨a,b⟩:=cln_cutS hne he h;refine⟨zI ?_,b⟩;unfold jM
 split
 ·exact trim_cln a
 ·exact a
theorem Pn{s:Txt}(h:Cln s):nK (jk s).1∧Cln (jk s).2:=by
 unfold jk
 split
 ·rename_i hp
  exact⟨zI iA,qU (p:=[62]) hp (by decide) h⟩
 ·split
  ·rename_i hp
   exact⟨zI iA,qU (p:=[45,62]) hp (by decide) h⟩
  ·split
   ·exact wI (by simp) (by decide) h
   ·exact wI (by simp) (by decide) h
theorem Ka(k:Int){s:Txt}(h:Cln s):nK (pq k s).1∧Cln (pq k s).2:=by
 unfold pq;cases ho:fC s with
 |none=>exact⟨Dg,iA⟩
 |some x=>
  obtain⟨t,r⟩:=x;obtain⟨⟨h1,h2⟩,h3,h4⟩:=QI ho h;simp only
  split
  ·exact⟨Di h1 (by simp) iA,h4⟩
  ·split
   ·obtain⟨a,b⟩:=IX t.name h4
    exact⟨Dh (a:=[_]) (Di h1 h2 (by rw[h3];exact iA)) a,b⟩
   ·exact⟨Di h1 h2 (by rw[h3];exact iA),h4⟩
theorem low_asc(c:UInt8)(h:(mI c).toNat<128):c.toNat<128:=by
 rcases Nat.lt_or_ge c.toNat 128 with h1|h1
 ·exact h1
 ·rw[vJ c h1]at h
  exact h
theorem doct_cln{s:Txt}(hd:jN s=true)(h:Cln s):Cln (s.drop 8):=by
 unfold jN at hd;simp only[Bool.and_eq_true,beq_iff_eq]at hd;refine IY (s.take 8) (fun c hc=>low_asc c ?_) (by rw[List.take_append_drop];exact h);have:mI c∈iZ (s.take 8):=List.mem_map.2 ⟨c,hc,rfl⟩;rw[hd.1.2]at this
 revert this
 generalize mI c=x;simp only[List.mem_cons,List.not_mem_nil,or_false];rintro(rfl|rfl|rfl|rfl|rfl|rfl|rfl|rfl)<;>decide
theorem IZ{s:Txt}{x:UInt8}(hx:x.toNat<128)(hp:Lib.hasPrefix s [x]=true)(h:Cln s):Cln s.tail:=by
 have:=qU (p:=[x]) hp (by simpa using hx) h
 rwa [List.length_singleton,List.drop_one]at this
theorem open_cln{s:Txt}(h:Cln s){r:List Tok×Txt}(ho:jd s=some r):nK r.1∧Cln r.2:=by
 unfold jd at ho
 split at ho
 ·obtain rfl:=Option.some.inj ho;exact Ka 1 h
 split at ho
 ·rename_i hp
  rw[Bool.and_eq_true]at hp;obtain rfl:=Option.some.inj ho;exact Ka 2 (IZ (by decide) hp.1 h)
 split at ho
 ·rename_i hp
  obtain rfl:=Option.some.inj ho;exact⟨Dg,qU (p:=[47,62]) hp (by decide) h⟩
 split at ho
 ·rename_i hp
  obtain rfl:=Option.some.inj ho;exact Pn (qU (p:=[33,45,45]) hp (by decide) h)
 split at ho
 ·rename_i hp
  obtain rfl:=Option.some.inj ho;exact wI (by simp) (by decide) (doct_cln hp h)
 split at ho
 ·rename_i hp
  obtain rfl:=Option.some.inj ho;exact wI (by simp) (by decide) (IZ (by decide) hp h)
 split at ho
 ·obtain rfl:=Option.some.inj ho;exact wI (by simp) (by decide) h
 split at ho
 ·rename_i hp
  rw[Bool.and_eq_true]at hp;obtain rfl:=Option.some.inj ho;exact wI (by simp) (by decide) (IZ (by decide) hp.2 h)
 ·cases ho
theorem I4{t:Txt}(h:Cln t):nK (fE t):=by
 unfold fE
 split
 ·exact Dg
 ·exact zI (Gc h)
theorem Gd:∀(n:Nat) (t s:Txt),Cln t→Cln s→nK (YtkcmghlhpbepcaaGreatDoor.runN n t s)
 |0,t,s,ht,hs=>I4 ht
 |n+1,t,s,ht,hs=>by
  obtain⟨a,b⟩:=IV (fun c=>c==60) (zH (by decide +kernel)) hs;rw[YtkcmghlhpbepcaaGreatDoor.runN]
  split
  ·exact I4 (jJ ht a)
  ·rename_i x s1 e
   have hx:x.toNat<128:=by
    have e1:s[YtkcmghlhpbepcaaGreatDoor.gT s]?=some x:=by rw[←List.head?_drop,e];rfl
    obtain⟨hk,rfl⟩:=List.getElem?_eq_some_iff.1 e1;exact zH (p:=fun c=>c==60) (by decide +kernel) _ (List.findIdx_getElem (w:=hk))
   have b2:Cln (x::s1):=by rw[←e];exact b
   have b3:=rM hx b2
   split
   ·exact Gd n _ s1 (jJ (jJ ht a) (lH (by decide))) b3
   ·rename_i ts r ho
    obtain⟨o1,o2⟩:=open_cln b3 ho;exact Dh (Dh (I4 (jJ ht a)) o1) (Gd n [] r iA o2)
theorem in_cln(nm:Txt){s:Txt}(h:Cln s):nK (inL s nm):=by
 unfold inL
 split
 ·obtain⟨a,b⟩:=IX nm h
  exact Dh a (Gd _ _ _ iA b)
 ·exact Gd _ _ _ iA h
end Go.Proofs.aj.W7
namespace Go.Proofs.aj.W7
open Go.RowKit Go.Proofs aj YtkcmghlhpbepcaaGreatDoor ah.aD
theorem TJ:∀(l out:List At),distinct (out++l)→qC out l=out++l
 | [],out,_=>by rw[qC,List.append_nil]
 |a::r,out,h=>by
  have hn:BJ out a=false:=by
   cases e:BJ out a with
   |false=>rfl
   |true=>
    exfalso
    unfold BJ at e;obtain⟨b,hb,hb2⟩:=List.any_eq_true.1 e;obtain⟨i,hi,rfl⟩:=List.getElem_of_mem hb;have hl:(out++a::r).length=out.length+(r.length+1):=by simp
    have:=h out.length i (by omega) (by omega) (by
     rw[List.getElem_append_left hi];have e1:(out++a::r)[out.length]'(by omega)=a:=by simp
     rw[e1];exact(TA _ _).1 hb2)
    omega
  rw[qC,hn,if_neg (by decide),TJ r (out++[a]) (by rw[List.append_assoc];exact h),List.append_assoc];rfl
theorem O1{l:List At}(h:distinct l):ny l=l:=TJ l [] h
theorem O4{l:List At}(h:distinct l):((l.map lV).map Prod.fst).Nodup:=by
 rw[List.map_map];refine List.pairwise_iff_getElem.2 fun i j hi hj hij e=>?_
 rw[List.length_map]at hi hj;rw[List.getElem_map,List.getElem_map]at e;have e2:l[i].f0.data.toList=l[j].f0.data.toList:=e;have:=h i j hi hj (by rw[Lib.toList_data,Lib.toList_data];exact e2);omega
theorem J5:∀(l out:List At) (a:At),a∈qC out l→a∈out∨a∈l
 | [],out,a,h=>.inl h
 |b::r,out,a,h=>by
  rw[qC]at h
  rcases J5 r _ a h with h|h
  ·split at h
   ·exact .inl h
   ·rcases List.mem_append.1 h with h|h
    ·exact .inl h
    ·exact .inr (by rw[List.mem_singleton.1 h];simp)
  ·exact .inr (by simp[h])
theorem once_mem{l:List At}{a:At}(h:a∈ny l):a∈l:=by
 rcases J5 l [] a h with h|h
 ·cases h
 ·exact h
end Go.Proofs.aj.W7
