/- Lemmas and walks, part 29. -/
import Derived.Test.YtkcmghlhpbepcaaGreatDoorNB28
set_option linter.unusedVariables false
set_option linter.unusedSimpArgs false
namespace Go.Proofs.YtkcmghlhpbepcaaGreatDoor
open Go.Proofs
theorem LD{d X sub:Txt}{j:Nat}(h:Lib.occAt (d++X) sub j=true)(hl:j+sub.length≤d.length):Lib.occAt d sub j=true:=by
 have hp:=List.isPrefixOf_iff_prefix.1 h;rw[List.drop_append_of_le_length (by omega)]at hp;refine List.isPrefixOf_iff_prefix.2 ?_;exact List.prefix_of_prefix_length_le hp (List.prefix_append _ _) (by rw[List.length_drop];omega)
theorem JA{d X:Txt}(h:E8 d):lT (d++45::45::62::X)=([⟨3,[],[],d,false⟩],X):=by
 have g:∀k,(d++45::45::62::X)[d.length+k]?=(45::45::62::X)[k]?:=by
  intro k;rw[List.getElem?_append_right (by omega)]
  congr 1
  omega
 have g0:=g 0;have g1:=g 1;have g2:=g 2;simp only[List.getElem?_cons_zero,List.getElem?_cons_succ]at g0 g1 g2
 have n1:Lib.hasPrefix (d++45::45::62::X) [62]=false:=by
  have:=h.gt;cases d with
  |nil=>simp[Lib.hasPrefix,List.isPrefixOf]
  |cons c t=>simp[Lib.hasPrefix,List.isPrefixOf]at this⊢;exact this
 have n2:Lib.hasPrefix (d++45::45::62::X) [45,62]=false:=by
  have:=h.arrow
  match d,this with
  | [],_=>simp[Lib.hasPrefix,List.isPrefixOf]
  | [c],_=>simp[Lib.hasPrefix,List.isPrefixOf]
  |c::e::t,this=>simp[Lib.hasPrefix,List.isPrefixOf]at this⊢;exact this
 have i1:Lib.index (d++45::45::62::X) [45,45,62]=d.length:=by
  refine Lib.index_hit (i:=d.length) ?_ (by simp) (by simp[Lib.occAt]);intro j hj;cases hp:Lib.occAt (d++45::45::62::X) [45,45,62] j with
  |false=>rfl
  |true=>
   by_cases hl:j+3≤d.length
   ·have:=LD hp (by simpa using hl)
    rw[h.no1 j]at this;cases this
   ·have h3:=JB hp 2 (by simp)
    rcases(by omega:j+2=d.length+0∨j+2=d.length+1)with e|e
    ·rw[e,g0]at h3;simp at h3
    ·rw[e,g1]at h3;simp at h3
 have i2:¬(0≤Lib.index (d++45::45::62::X) [45,45,33,62]∧(Lib.index (d++45::45::62::X) [45,45,62]<0∨Lib.index (d++45::45::62::X) [45,45,33,62]<Lib.index (d++45::45::62::X) [45,45,62])):=by
  rw[i1]
  rcases Lib.index_spec (d++45::45::62::X) [45,45,33,62]with⟨h1,h2⟩|⟨j,h1,h2,hp,h4⟩
  ·omega
  ·rw[h1]
   rintro⟨_,hj⟩;have hj:j<d.length:=by omega
   by_cases hl:j+4≤d.length
   ·have:=LD hp (by simpa using hl)
    rw[h.no2 j]at this;cases this
   ·have h3:=JB hp 3 (by simp)
    have h5:=JB hp 2 (by simp)
    rcases(by omega:j+3=d.length+0∨j+3=d.length+1∨j+3=d.length+2)with e|e|e
    ·rw[e,g0]at h3;simp at h3
    ·rw[e,g1]at h3;simp at h3
    ·rw[(by omega:j+2=d.length+1),g1]at h5;simp at h5
 unfold lT;rw[n1,n2];simp only[Bool.false_eq_true,if_false];rw[if_neg i2];simp[rO,lJ,cut_hit i1]
theorem JC{d X:Txt}(h:E8 d):jN (33::45::45::(d++45::45::62::X))=some ([⟨3,[],[],d,false⟩],X):=by
 unfold jN;rw[if_neg (by simp[jA,mh]),if_neg (by simp[Lib.hasPrefix]),if_neg (by simp[Lib.hasPrefix]),if_pos (by simp[Lib.hasPrefix])];simp[JA h]
theorem open_doc{d X:Txt}(h:DocOK d):jN (33::100::111::99::116::121::112::101::32::(d++62::X))=some ([⟨4,[],[],d,false⟩],X):=by
 have hc:Lib.cut (32::(d++62::X)) [62]=(32::d,X,true):=by
  rw[cut_eq,show 32::(d++62::X)=(32::d)++62::X from rfl];exact Ql (by simp[h.no])
 unfold jN;rw[if_neg (by simp[jA,mh]),if_neg (by simp[Lib.hasPrefix]),if_neg (by simp[Lib.hasPrefix]),if_neg (by simp[Lib.hasPrefix]),if_pos (by simp[ko,lN,lowB,jA,mh])];simp[rO,lJ,hc,h.trim]
theorem zR(q:Bool):∀l r,iU (wrL q l++r)=l++iU r
 | [],r=>by simp[wrL]
 | [c],r=>by
   rw[wrL,Dp];rfl
 |c::d::l,r=>by
  rw[wrL]
  split
  ·rename_i h
   rw[List.append_assoc,Kj,zR q l r,h.1,h.2];rfl
  ·rw[List.append_assoc,Dp,zR q (d::l) r]
   rfl
theorem run_push{q a Y:Txt}(ha:(60:UInt8)∉a):oZ q (a++Y)=oZ (q++a) Y:=by
 have hf:jC (a++Y)=a.length+jC Y:=by
  unfold jC;rw[List.findIdx_append]
  have h2:¬(a.findIdx (fun c=>c==60)<a.length):=by
   rw[List.findIdx_lt_length];rintro⟨x,hx,e⟩;exact ha (by rw[←beq_iff_eq.1 e];exact hx)
  rw[if_neg h2,Nat.add_comm]
 have e1:(a++Y).take (a.length+jC Y)=a++Y.take (jC Y):=by rw[List.take_append,List.take_of_length_le (by omega),Nat.add_sub_cancel_left]
 have e2:(a++Y).drop (a.length+jC Y)=Y.drop (jC Y):=by
  rw[List.drop_append,List.drop_eq_nil_of_le (by omega),Nat.add_sub_cancel_left,List.nil_append]
 rw[Bn,hf,Bn (q++a),e2,e1];cases hd:Y.drop (jC Y)with
 |nil=>simp
 |cons c s1=>
  simp only;cases jN s1 with
  |none=>simp
  |some x=>simp
def uX(p:Txt):List Tok:=if p=[]then []else [⟨0,[],[],p,false⟩]
def oF:Txt→List Tok→List Tok
 |p,[]=>uX p
 |p,t::r=>if t.kind=0 then oF (p++t.data) r else uX p++t::oF [] r
structure Pend (q p:Txt):Prop where
 dec:∀r,iU (q++r)=p++iU r
 no:(60:UInt8)∉q
 nil:q=[]↔p=[]
theorem E9:Pend [] []:=⟨fun r=>rfl,by simp,by simp⟩
theorem pW{q p:Txt}(h:Pend q p):fC q=uX p:=by
 unfold fC uX;have h1:=h.dec [];rw[Ae,List.append_nil,List.append_nil]at h1
 by_cases e:q=[]
 ·rw[if_pos e,if_pos (h.nil.1 e)]
 ·rw[if_neg e,if_neg (fun x=>e (h.nil.2 x)),h1]
theorem Rk{q p d:Txt}(h:Pend q p)(hd:d≠[]):Pend (q++wrL false d) (p++d):=by
 refine⟨fun r=>?_,?_,?_⟩
 ·rw[List.append_assoc,h.dec,zR,List.append_assoc]
 ·rw[List.mem_append]
  rintro(e|e)
  ·exact h.no e
  ·exact Fa d e
 ·simp[hd,wr_nil hd]
theorem JD{nm:Txt}{r:List Tok}(h:Closed nm r)(b:Bool):eO b r=eO false r:=by
 rcases h with rfl|⟨q,rfl⟩
 ·rfl
 ·rfl
theorem LG{nm:Txt}{r:List Tok}(h:Closed nm r)(p:Txt):oF p r=uX p++oF [] r:=by
 rcases h with rfl|⟨q,rfl⟩
 ·simp[oF,uX]
 ·simp[oF,uX]
theorem Cm(nm:Txt)(q:List Tok)(b:Bool):eO b (⟨2,nm,[],[],false⟩::q)=60::47::(nm++62::eO false q):=by
 simp[eO,rP,qd,kr,pq,uY]
theorem yg(nm:Txt)(l:List (Txt×Txt))(b:Bool)(q:List Tok):eO false (⟨1,nm,l,[],b⟩::q)=60::(nm++(kr l++(pq b++62::eO (mQ nm) q))):=by
 simp[eO,rP,qd,uY]
theorem CQ{nm:Txt}{r:List Tok}(h:Closed nm r):ji nm (eO false r)=0:=by
 rcases h with rfl|⟨q,rfl⟩
 ·rfl
 ·rw[Cm]
  exact Rl
theorem GI{nm X:Txt}:∀ {a:Txt},(60:UInt8)∉a→ji nm (a++X)=a.length+ji nm X
 | [],_=>by simp
 |c::a,h=>by
  have hc:c≠60:=fun e=>h (by simp[e])
  have h0:gN nm (c::(a++X))=false:=by
   unfold gN
   split
   ·rename_i e
    simp only[List.cons.injEq]at e;exact absurd e.1 hc
   ·rfl
  rw[List.cons_append,ji,h0,GI (a:=a) (fun e=>h (by simp[e]))];simp;omega
theorem Ga{nm x y:Txt}(hn:(60:UInt8)∉nm)(hl:lN nm=nm)(hx:x≠[])(h0:gN nm x=false)(hy:y=[]∨∃z,y=60::z):gN nm (x++y)=false:=by
 rcases hy with rfl|⟨z,rfl⟩
 ·rw[List.append_nil];exact h0
 ·cases hc:gN nm (x++60::z)with
  |false=>rfl
  |true=>
   exfalso
   match x,hx with
   | [a],_=>simp[gN]at hc
   |a::b::r,_=>
    unfold gN at hc
    split at hc
    ·rename_i r' e
     simp only[List.cons_append,List.cons.injEq]at e;obtain⟨rfl,rfl,rfl⟩:=e;simp only[Bool.and_eq_true,decide_eq_true_eq,beq_iff_eq,hl]at hc;obtain⟨⟨h1,h2⟩,h3⟩:=hc
     rcases Nat.lt_trichotomy nm.length r.length with hlt|heq|hgt
     ·have e1:(r++60::z).take nm.length=r.take nm.length:=List.take_append_of_le_length (by omega)
      have e2:(r++60::z).drop nm.length=r.drop nm.length++60::z:=List.drop_append_of_le_length (by omega);rw[e1]at h2;rw[e2]at h3;cases hd:r.drop nm.length with
      |nil=>
       have:=congrArg List.length hd;simp at this;omega
      |cons c t=>
       rw[hd,List.cons_append]at h3;simp only at h3;simp[gN,h2,hl,hd,h3,hlt]at h0
     ·rw[heq,List.drop_left]at h3
      exact absurd h3 (by simp[dZ,dM])
     ·have hm:(60:UInt8)∈(r++60::z).take nm.length:=by
       rw[List.take_append,List.mem_append]
       right
       obtain⟨k,hk⟩:∃k,nm.length - r.length=k+1:=⟨nm.length - r.length - 1,by omega⟩
       rw[hk];simp
      have hm2:lowB 60∈nm:=by rw[←h2];exact List.mem_map_of_mem hm
      exact hn hm2
    ·cases hc
theorem LH{nm y:Txt}(hn:(60:UInt8)∉nm)(hl:lN nm=nm)(hy:y=[]∨∃z,y=60::z):∀ {d:Txt},LJ nm d→ji nm (d++y)=d.length+ji nm y
 | [],_=>by simp
 |c::d,h=>by
  have h0:gN nm (c::d)=false:=by simpa using h 0 (by simp)
  have h1:=Ga hn hl (by simp) h0 hy;rw[List.cons_append]at h1
  rw[List.cons_append,ji,h1,LH hn hl hy (d:=d) (fun j hj=>by
   have:=h (j+1) (by simpa using hj);simpa using this)]
  simp;omega
theorem LK{nm:Txt}(h:mQ nm=true):(60:UInt8)∉nm∧kT nm=false:=by
 unfold mQ inB at h;rw[List.contains_iff_mem]at h;simp only[KG,List.mem_cons,List.not_mem_nil,or_false]at h
 rcases h with e|e|e|e|e|e<;>(rw[e];decide)
theorem LM{nm:Txt}{r:List Tok}(h:Closed nm r):eO false r=[]∨∃z,eO false r=60::z:=by
 rcases h with rfl|⟨q,rfl⟩
 ·exact .inl rfl
 ·rw[Cm]
  exact .inr ⟨_,rfl⟩
theorem LP{nm Y:Txt}(h:ji nm Y=0):kY nm Y=[]∧kL nm Y=Y:=by
 unfold kY kL;rw[h];simp
theorem CS{nm a Y:Txt}(ha:a≠[])(h:ji nm (a++Y)=a.length):kY nm (a++Y)=[⟨0,[],[],if kT nm then iU a else a,false⟩]∧kL nm (a++Y)=Y:=by
 unfold kY kL;rw[h,List.take_left,List.drop_left];simp[ha]
theorem Rm{L:List Tok}(h:Good L):∀q p,Pend q p→oZ q (eO false L)=oF p L:=by
 induction h with
 |nil=>intro q p hp;rw[eO,Jz,pW hp,oF]
 | @text d r hd _ ih=>
   intro q p hp;have e:eO false (⟨0,[],[],d,false⟩::r)=wrL false d++eO false r:=by simp[eO,rP,uY]
   rw[e,run_push (Fa d),ih _ _ (Rk hp hd)];simp[oF]
 | @start nm l b r hs hrs _ ih=>
   intro q p hp
   have hr:mQ nm=false:=by
    rw[Bool.or_eq_false_iff]at hrs;exact hrs.1
   rw[yg,uZ (zS hs.name hs.attrs hs.once),pW hp,hrs,hr];simp[oF,ih _ _ E9]
 | @shut nm l b r hs hrs hcl _ ih=>
   intro q p hp;obtain⟨i1,i2⟩:=LP (CQ hcl);rw[yg,uZ (zS hs.name hs.attrs hs.once),pW hp,hrs,JD hcl];simp[oF,i1,i2,ih _ _ E9]
 | @full nm l b d r hs hrs hd hraw hcl _ ih=>
   intro q p hp
   have hj:oF p (⟨1,nm,l,[],b⟩::⟨0,[],[],d,false⟩::r)=uX p++⟨1,nm,l,[],b⟩::⟨0,[],[],d,false⟩::oF [] r:=by
    simp[oF,LG hcl d,uX,hd]
   have he0:=CQ hcl
   have key:∃a,eO (mQ nm) (⟨0,[],[],d,false⟩::r)=a++eO false r∧kY nm (a++eO false r)=[⟨0,[],[],d,false⟩]∧kL nm (a++eO false r)=eO false r:=by
    cases hr:mQ nm with
    |true=>
     obtain⟨h60,oD⟩:=LK hr;have he:=LH h60 hs.name.low (LM hcl) (hraw hr);rw[he0,Nat.add_zero]at he;obtain⟨i1,i2⟩:=CS hd he;refine⟨d,by simp[eO,rP,uY],?_,i2⟩;rw[i1,oD];rfl
    |false=>
     have oD:kT nm=true:=by rw[hr]at hrs;simpa using hrs
     have he:=GI (nm:=nm) (X:=eO false r) (Fa d);rw[he0,Nat.add_zero]at he;obtain⟨i1,i2⟩:=CS (wr_nil hd) he;refine⟨wrL false d,by simp[eO,rP,uY],?_,i2⟩;rw[i1,oD];simp[Hl]
   obtain⟨a,k1,k2,k3⟩:=key;rw[yg,uZ (zS hs.name hs.attrs hs.once),pW hp,hrs,k1,k2,k3,hj];simp[ih _ _ E9]
 | @shuts nm r hn _ ih=>
   intro q p hp;rw[Cm,uZ (open_end hn),pW hp];simp[oF,ih _ _ E9]
 | @note d r hd _ ih=>
   intro q p hp;have e:eO false (⟨3,[],[],d,false⟩::r)=60::(33::45::45::(d++45::45::62::eO false r)):=by simp[eO,rP,uY]
   rw[e,uZ (JC hd),pW hp];simp[oF,ih _ _ E9]
 | @doct d r hd _ ih=>
   intro q p hp;have e:eO false (⟨4,[],[],d,false⟩::r)=60::(33::100::111::99::116::121::112::101::32::(d++62::eO false r)):=by simp[eO,rP,uY]
   rw[e,uZ (open_doc hd),pW hp];simp[oF,ih _ _ E9]
def wt(t:Tok):Nat:=if t.kind=0 then 6 * t.data.length else(rP false t).length
def wts(l:List Tok):Nat:=(l.map wt).sum
end Go.Proofs.YtkcmghlhpbepcaaGreatDoor
namespace Go.Proofs.aj.W7
open Go.RowKit Go.Proofs Go.Proofs.aj Go.Proofs.YtkcmghlhpbepcaaGreatDoor Go.Proofs.ah.aD
def oI(x:Rw):Tok:=if x.f1=0 then⟨1,x.f2.data.toList,x.f4.map rE,[],false⟩else if x.f1=1 then⟨0,[],[],x.f3.data.toList,false⟩else⟨3,[],[],x.f3.data.toList,false⟩
def endP(n:ByteArray):Tok:=⟨2,n.data.toList,[],[],false⟩
def mG:List Rw→List ByteArray→List Tok
 | [],op=>op.reverse.map endP
 |x::r,op=>(op.drop x.f0.toNat).reverse.map endP++oI x::mG r (opA (op.take x.f0.toNat) x)
theorem pairsTS7(l:List At):(l.map rE).map pairT=l:=by
 induction l with
 |nil=>rfl
 |cons a l ih=>
  rw[List.map_cons,List.map_cons,ih];rfl
theorem tokT_P(x:Rw):Dg (oI x)=rU x:=by
 unfold oI rU
 split
 ·show(⟨1,⟨x.f2.data.toList.toArray⟩,⟨#[]⟩,(x.f4.map rE).map pairT,false⟩:Tk)=_
  rw[pairsTS7]
 ·split<;>rfl
theorem Qv:∀(r:List Rw) (op:List ByteArray),(mG r op).map Dg=emit r op
 | [],op=>by
   rw[mG,emit,List.map_map];rfl
 |x::r,op=>by
  rw[mG,emit,List.map_append,List.map_map,List.map_cons,tokT_P,Qv r];rfl
abbrev GoodT:=Go.Proofs.YtkcmghlhpbepcaaGreatDoor.Good
def Shut(d:Int):List Rw→Prop
 | []=>True
 |z::_=>z.f0≤d
structure yS (x:Rw) (r:List Rw):Prop where
 start:x.f1=0→DV x.f2.data.toList (x.f4.map rE)
 note:x.f1=2→E8 x.f3.data.toList
 inner:x.f1=0→(mQ x.f2.data.toList||kT x.f2.data.toList)=true→kS x.f2=false∧
  (Shut x.f0 r∨∃y r',r=y::r'∧y.f1=1∧y.f0=x.f0+1∧(mQ x.f2.data.toList=true→LJ x.f2.data.toList y.f3.data.toList)∧Shut x.f0 r')
def vv:List Rw→Prop
 | []=>True
 |x::r=>yS x r∧vv r
def Bp(op:List ByteArray):Prop:=∀n∈op,sZ n.data.toList
theorem yT{L:List Tok}(hL:GoodT L):∀(m:List ByteArray),Bp m→GoodT (m.map endP++L)
 | [],_=>hL
 |n::m,h=>.shuts (h n (by simp)) (yT hL m (fun k hk=>h k (by simp[hk])))
theorem CZ{n:ByteArray}{op:List ByteArray}{out:List Rw}:∀ {r:List Rw},Shut op.length r→RowsFit r (op++[n]) out→Closed n.data.toList (mG r (op++[n]))
 | [],_,_=>.inr ⟨op.reverse.map endP,by rw[mG,List.reverse_append];rfl⟩
 |z::r,hz,hf=>by
  have h0:=hf.1.lo;have hz':z.f0≤op.length:=hz;refine .inr ⟨(op.drop z.f0.toNat).reverse.map endP++oI z::mG r (opA ((op++[n]).take z.f0.toNat) z),?_⟩;rw[mG,List.drop_append_of_le_length (by omega),List.reverse_append];rfl
theorem Rz{x:Rw}{r:List Rw}{op:List ByteArray}(h:yS x r)(ho:Bp op):Bp (opA (op.take x.f0.toNat) x):=by
 unfold opA
 split
 ·rename_i hc
  intro n hn
  rcases List.mem_append.1 hn with hn|hn
  ·exact ho n (List.mem_of_mem_take hn)
  ·obtain rfl:=List.mem_singleton.1 hn
   exact(h.start hc.1).name
 ·exact fun n hn=>ho n (List.mem_of_mem_take hn)
theorem RA:∀(N:Nat) (r:List Rw) (op:List ByteArray) (out:List Rw),r.length≤N→RowsFit r op out→vv r→Bp op→GoodT (mG r op):=by
 intro N
 induction N with
 |zero=>
  intro r op out hN _ _ ho;obtain rfl:r=[]:=List.eq_nil_of_length_eq_zero (by omega);have:=yT .nil op.reverse (fun n hn=>ho n (List.mem_reverse.1 hn))
  rwa [List.append_nil]at this
 |succ N ih=>
  intro r op out hN hf hg ho;cases r with
  |nil=>
   have:=yT .nil op.reverse (fun n hn=>ho n (List.mem_reverse.1 hn))
   rwa [List.append_nil]at this
  |cons x r=>
   obtain⟨f1,f2⟩:=hf;obtain⟨g1,g2⟩:=hg;have ho2:=Rz g1 ho;have hN':r.length≤N:=by simpa using hN
   refine yT ?_ _ (fun n hn=>ho n (List.mem_of_mem_drop (List.mem_reverse.1 hn)));have hrec:=ih r _ _ hN' f2 g2 ho2;have hlen:(op.take x.f0.toNat).length=x.f0.toNat:=by rw[List.length_take];have:=f1.hi;have:=f1.lo;omega
   have hlo:=f1.lo
   rcases f1.kind with k|k|k
   ·have e:oI x=⟨1,x.f2.data.toList,x.f4.map rE,[],false⟩:=by unfold oI;rw[if_pos k]
    rw[e];cases hrs:(mQ x.f2.data.toList||kT x.f2.data.toList)with
    |false=>exact .start (g1.start k) hrs hrec
    |true=>
     obtain⟨hv,hin⟩:=g1.inner k hrs;have eo:opA (op.take x.f0.toNat) x=op.take x.f0.toNat++[x.f2]:=by unfold opA;rw[if_pos ⟨k,hv⟩]
     rw[eo]at hrec f2 ho2⊢;have hd:((op.take x.f0.toNat).length:Int)=x.f0:=by omega
     rcases hin with hs|⟨y,r',rfl,y1,y2,y3,y4⟩
     ·exact .shut (g1.start k) hrs (CZ (by rw[hd];exact hs) f2) hrec
     ·obtain⟨q1,q2⟩:=f2
      have hy:(op.take x.f0.toNat++[x.f2]).length=y.f0.toNat:=by rw[List.length_append,List.length_singleton];omega
      have hdr:(op.take x.f0.toNat++[x.f2]).drop y.f0.toNat=[]:=List.drop_eq_nil_of_le (by omega);have htk:(op.take x.f0.toNat++[x.f2]).take y.f0.toNat=op.take x.f0.toNat++[x.f2]:=List.take_of_length_le (by omega);have e2:oI y=⟨0,[],[],y.f3.data.toList,false⟩:=by unfold oI;rw[if_neg (by omega),if_pos y1]
      have eo2:opA ((op.take x.f0.toNat++[x.f2]).take y.f0.toNat) y=op.take x.f0.toNat++[x.f2]:=by unfold opA;rw[if_neg (by omega),htk]
      rw[eo2]at q2;have hr2:=ih r' _ _ (by simp only[List.length_cons]at hN';omega) q2 g2.2 ho2;rw[mG,hdr,e2,eo2];exact .full (g1.start k) hrs (q1.text y1).1 y3 (CZ (by rw[hd];exact y4) q2) hr2
   ·have e:oI x=⟨0,[],[],x.f3.data.toList,false⟩:=by unfold oI;rw[if_neg (by omega),if_pos k]
    rw[e];exact .text (f1.text k).1 hrec
   ·have e:oI x=⟨3,[],[],x.f3.data.toList,false⟩:=by unfold oI;rw[if_neg (by omega),if_neg (by omega)]
    rw[e];exact .note (g1.note k) hrec
def Apart:Bool→List Tok→Prop
 |_,[]=>True
 |b,t::r=>(t.kind=0→b=false∧t=⟨0,[],[],t.data,false⟩∧t.data≠[])∧Apart (decide (t.kind=0)) r
theorem zV:∀(L:List Tok) (p:Txt),Apart (decide (p≠[])) L→oF p L=uX p++L
 | [],p,_=>by rw[oF,List.append_nil]
 |t::r,p,h=>by
  obtain⟨h1,h2⟩:=h;rw[oF]
  by_cases k:t.kind=0
  ·obtain⟨a,b,c⟩:=h1 k
   have hp:p=[]:=by simpa using a
   subst hp;rw[if_pos k,List.nil_append,zV r t.data (by simpa [k,c]using h2),uX,if_neg c,uX,if_pos rfl];rw[←b];rfl
  ·rw[if_neg k,zV r [] (by simpa [k]using h2)]
   rfl
theorem Fz{L:List Tok}(hL:Apart false L):∀(m:List ByteArray) (b:Bool),(m=[]→b=false)→Apart b (m.map endP++L)
 | [],b,h=>by rw[h rfl];exact hL
 |n::m,b,h=>⟨fun k=>by simp[endP]at k,Fz hL m _ (fun _=>rfl)⟩
theorem FB:∀(r:List Rw) (op:List ByteArray) (out:List Rw) (b:Bool),RowsFit r op out→(b=true→wW op out=true)→Apart b (mG r op)
 | [],op,out,b,_,_=>by
   rw[mG];generalize op.reverse=m
   induction m generalizing b with
   |nil=>trivial
   |cons n m ih=>exact⟨fun k=>by simp[endP]at k,ih _ (by simp[endP])⟩
 |x::r,op,out,b,hf,hb=>by
  obtain⟨f1,f2⟩:=hf;have hlo:=f1.lo;have hhi:=f1.hi;have hlen:(op.take x.f0.toNat).length=x.f0.toNat:=by rw[List.length_take];omega
  rw[mG]
  have hrest:∀c:Bool,(c=true→wW (op.take x.f0.toNat) out=true)→Apart c (oI x::mG r (opA (op.take x.f0.toNat) x)):=by
   intro c hc;refine⟨fun k=>?_,FB r _ (out++[x]) _ f2 (fun k=>?_)⟩
   ·have k1:x.f1=1:=by
     rcases f1.kind with k'|k'|k'
     ·simp[oI,k']at k
     ·exact k'
     ·simp[oI,k']at k
    obtain⟨t1,t2⟩:=f1.text k1;have e:oI x=⟨0,[],[],x.f3.data.toList,false⟩:=by unfold oI;rw[if_neg (by omega),if_pos k1]
    rw[e];refine⟨?_,rfl,t1⟩;cases c with
    |false=>rfl
    |true=>rw[hc rfl]at t2;cases t2
   ·have k:=of_decide_eq_true k
    have k1:x.f1=1:=by
     rcases f1.kind with k'|k'|k'
     ·simp[oI,k']at k
     ·exact k'
     ·simp[oI,k']at k
    have eo:opA (op.take x.f0.toNat) x=op.take x.f0.toNat:=by unfold opA;rw[if_neg (by omega)]
    rw[eo];unfold wW;simp only[List.getLast?_append,List.getLast?_singleton,Option.some_or];simp[k1,hlen];omega
  by_cases hd:op.drop x.f0.toNat=[]
  ·have ht:op.take x.f0.toNat=op:=by
    have:=List.take_append_drop x.f0.toNat op;rw[hd,List.append_nil]at this;exact this
   rw[hd];exact hrest b (by rw[ht];exact hb)
  ·exact Fz (hrest false (by simp)) _ b (fun h=>absurd (by simpa using h) hd)
theorem emit_cut{r:List Rw}(hf:RowsFit r [] [])(hg:vv r):cutL (JG (mG r []))=mG r []:=by
 have h1:=Rm (RA r.length r [] [] (Nat.le_refl _) hf hg (by intro n hn;cases hn)) [] [] E9;have h2:=zV (mG r []) [] (by simpa using FB r [] [] false hf (by simp));rw[uX,if_pos rfl,List.nil_append]at h2;unfold cutL JG;rw[h1,h2]
def emitC(D:Nat):List Rw→List ByteArray→List Tok
 | [],op=>(op.drop D).reverse.map endP
 |x::r,op=>(op.drop x.f0.toNat).reverse.map endP++oI x::emitC D r (opA (op.take x.f0.toNat) x)
theorem FC:∀(r:List Rw) (op:List ByteArray),emitC 0 r op=mG r op
 | [],op=>rfl
 |x::r,op=>by rw[emitC,mG,FC r]
def Bq:List Rw→List ByteArray→List ByteArray
 | [],op=>op
 |x::r,op=>Bq r (opA (op.take x.f0.toNat) x)
def Hi:List Rw→List ByteArray→Prop
 | [],_=>True
 |x::r,op=>0≤x.f0∧x.f0≤op.length∧Hi r (opA (op.take x.f0.toNat) x)
theorem hi_fit:∀(r:List Rw) (op:List ByteArray) (out:List Rw),RowsFit r op out→Hi r op
 | [],_,_,_=>trivial
 |x::r,op,out,h=>⟨h.1.lo,h.1.hi,hi_fit r _ _ h.2⟩
theorem hi_app:∀(r1 r2:List Rw) (op:List ByteArray),Hi (r1++r2) op→Hi r1 op∧Hi r2 (Bq r1 op)
 | [],r2,op,h=>⟨trivial,h⟩
 |x::r1,r2,op,h=>by
  obtain⟨a,b,c⟩:=h;obtain⟨d,e⟩:=hi_app r1 r2 _ c;exact⟨⟨a,b,d⟩,e⟩
theorem hi_take{D:Nat}:∀ {r:List Rw} {op:List ByteArray},Hi r op→Shut D r→Hi r (op.take D)
 | [],_,_,_=>trivial
 |z::r,op,h,hs=>by
  obtain⟨a,b,c⟩:=h;have hz:z.f0≤D:=hs;refine⟨a,by rw[List.length_take];omega,?_⟩;rw[List.take_take,Nat.min_eq_left (by omega)];exact c
theorem zW{D:Nat}:∀(r:List Rw) (op:List ByteArray),Hi r op→D≤op.length→(∀x∈r,(D:Int)≤x.f0)→(Bq r op).take D=op.take D∧D≤(Bq r op).length
 | [],op,_,hD,_=>⟨rfl,hD⟩
 |x::r,op,h,hD,hx=>by
  obtain⟨a,b,c⟩:=h;have h0:=hx x (by simp);have hl:(op.take x.f0.toNat).length=x.f0.toNat:=by rw[List.length_take];omega
  have hle:D≤(opA (op.take x.f0.toNat) x).length:=by
   unfold opA
   split
   ·rw[List.length_append];omega
   ·omega
  have ht:(opA (op.take x.f0.toNat) x).take D=op.take D:=by
   have e:(op.take x.f0.toNat).take D=op.take D:=by rw[List.take_take,Nat.min_eq_left (by omega)]
   unfold opA
   split
   ·rw[List.take_append_of_le_length (by omega),e]
   ·exact e
  obtain⟨i1,i2⟩:=zW r _ c hle (fun y hy=>hx y (by simp[hy]));exact⟨by rw[Bq,i1,ht],i2⟩
theorem FD{α:Type}(op:List α){D E:Nat}(h:E≤D):op.drop E=(op.take D).drop E++op.drop D:=by
 have h1:(op.take D).drop E=(op.drop E).take (D - E):=List.drop_take;have h2:op.drop D=(op.drop E).drop (D - E):=by rw[List.drop_drop];congr 1;omega
 rw[h1,h2,List.take_append_drop]
theorem Cn{D E:Nat}(hE:E≤D):∀(r1:List Rw) (op:List ByteArray) (r2:List Rw),Shut D r2→(∀z∈r2,0≤z.f0)→emitC E (r1++r2) op=emitC D r1 op++emitC E r2 ((Bq r1 op).take D)
 | [],op,[],_,_=>by
   rw[List.append_nil,emitC,emitC,emitC,Bq,FD op hE,List.reverse_append,List.map_append]
 | [],op,z::r,hs,h0=>by
   have hz:z.f0≤D:=hs;have h0z:=h0 z (by simp);have hd:z.f0.toNat≤D:=by omega
   rw[List.nil_append,emitC,emitC,Bq,emitC,List.take_take,Nat.min_eq_left hd,FD op hd,List.reverse_append,List.map_append,List.append_assoc]
 |x::r1,op,r2,hs,h0=>by
  rw[List.cons_append,emitC,emitC,Bq,Cn hE r1 _ r2 hs h0,List.append_assoc,List.cons_append]
def jP(b:Bool):List Tok→Bool
 | []=>b
 |t::r=>jP (uY t) r
theorem zX(b:Bool):∀(L M:List Tok),eO b (L++M)=eO b L++eO (jP b L) M
 | [],M=>by simp[eO,jP]
 |t::L,M=>by rw[List.cons_append,eO,eO,jP,zX (uY t) L M,List.append_assoc]
theorem zY(b:Bool):∀(L M:List Tok),jP b (L++M)=jP (jP b L) M
 | [],M=>rfl
 |t::L,M=>by rw[List.cons_append,jP,jP,zY (uY t) L M]
theorem FE(s:ByteArray):nO voids s=kS s:=by rw[Mf];rfl
theorem Qw(s:ByteArray):nO raws s=mQ s.data.toList:=by
 have e:nO raws s=KG.any (fun x=>x==s.data.toList):=rfl;rw[e];unfold mQ inB;rw[List.contains_eq_any_beq]
 congr 1
 funext x
 exact Bool.eq_iff_iff.2 ⟨fun h=>by simpa using(by simpa using h:x=s.data.toList).symm,fun h=>by simpa using(by simpa using h:s.data.toList=x).symm⟩
def lU(xs:List Rw)(j t:Nat):List Rw:=(xs.drop j).take (t - j)
theorem oG(xs:List Rw)(j:Nat):lU xs j j=[]:=by simp[lU]
theorem Mh(xs:List Rw){j e t:Nat}(h1:j≤e)(h2:e≤t):lU xs j t=lU xs j e++lU xs e t:=by
 unfold lU;rw[show t - j=(e - j)+(t - e)from by omega,List.take_add,List.drop_drop,show j+(e - j)=e from by omega]
theorem pX{xs:List Rw}{j t:Nat}(h:j<t)(hj:j<xs.length):lU xs j t=xs[j]::lU xs (j+1) t:=by
 unfold lU;rw[List.drop_eq_getElem_cons hj,show t - j=(t - (j+1))+1 from by omega,List.take_succ_cons]
theorem yU{xs:List Rw}{x:Rw}:∀(d j t:Nat),t - j≤d→t≤xs.length→x∈lU xs j t→∃m,∃h:m<xs.length,j≤m∧m<t∧x=xs[m]
 |0,j,t,hd,ht,hx=>by
  unfold lU at hx;rw[show t - j=0 from by omega]at hx;simp at hx
 |d+1,j,t,hd,ht,hx=>by
  by_cases h:j<t
  ·rw[pX h (by omega)]at hx
   rcases List.mem_cons.1 hx with rfl|hx
   ·exact⟨j,by omega,Nat.le_refl _,h,rfl⟩
   ·obtain⟨m,hm,a,b,c⟩:=yU d (j+1) t (by omega) ht hx
    exact⟨m,hm,by omega,b,c⟩
  ·unfold lU at hx
   rw[show t - j=0 from by omega]at hx;simp at hx
def NodeS(xs:List Rw)(n m:Nat):Prop:=∀(h:m<xs.length) (op:List ByteArray),xs[m].f0=(op.length:Int)→Hi (lU xs m (gq xs m)) op→
 eO false (emitC op.length (lU xs m (gq xs m)) op)=nW xs n false m∧jP false (emitC op.length (lU xs m (gq xs m)) op)=false
theorem GR(xs:List Rw)(n D t:Nat)(ht:t≤xs.length):∀(d j:Nat) (op:List ByteArray),t - j≤d→j≤t→op.length=D→Hi (lU xs j t) op→(∀m,j≤m→m<t→gq xs m≤t)→
 (∀m,(h:m<xs.length)→j≤m→m<t→(D:Int)≤xs[m].f0)→(∀m,j≤m→m<t→NodeS xs n m)→
 eO false (emitC D (lU xs j t) op)=(kE xs t j).flatMap (nW xs n false)∧jP false (emitC D (lU xs j t) op)=false:=by
 intro d
 induction d with
 |zero=>
  intro j op hd hj ho _ _ _ _;obtain rfl:j=t:=by omega
  rw[oG,qA (by omega),emitC,List.drop_eq_nil_of_le (by omega)];exact⟨rfl,rfl⟩
 |succ d ih=>
  intro j op hd hj ho hh hc hD hN
  by_cases h:j<t
  ·have hjl:j<xs.length:=by omega
   have hgt:=kX xs j;have hle:=hc j (Nat.le_refl _) h;have hs:=Mh xs (Nat.le_of_lt hgt) hle;rw[hs]at hh⊢;obtain⟨h1,h2⟩:=hi_app _ _ _ hh
   have hjd:xs[j].f0=(D:Int):=by
    have a:=hD j hjl (Nat.le_refl _) h;rw[pX hgt hjl]at h1;have b:=h1.2.1;omega
   have hsh:Shut D (lU xs (gq xs j) t):=by
    by_cases he:gq xs j<t
    ·rw[pX he (by omega)]
     have a:=at_end xs j (by omega);rw[iI xs j hjl,iI xs _ (by omega)]at a;show xs[gq xs j].f0≤D;omega
    ·rw[show gq xs j=t from by omega,oG]
     trivial
   have h0:∀z∈lU xs (gq xs j) t,0≤z.f0:=by
    intro z hz;obtain⟨m,hm,a,b,rfl⟩:=yU _ _ _ (Nat.le_refl _) ht hz;have:=hD m hm (by omega) b;omega
   obtain⟨e1,e2⟩:=zW (D:=D) _ _ h1 (by omega) (fun z hz=>by
    obtain⟨m,hm,a,b,rfl⟩:=yU _ _ _ (Nat.le_refl _) (by omega) hz;exact hD m hm a (by omega))
   have eop:op.take D=op:=List.take_of_length_le (by omega);have h3:=hi_take h2 hsh;rw[e1,eop]at h3;obtain⟨n1,n2⟩:=hN j (Nat.le_refl _) h hjl op (by omega) h1;rw[ho]at n1 n2;obtain⟨k1,k2⟩:=ih (gq xs j) op (by omega) hle ho h3 (fun m a b=>hc m (by omega) b) (fun m hm a b=>hD m hm (by omega) b) (fun m a b=>hN m (by omega) b);rw[Cn (Nat.le_refl D) _ _ _ hsh h0,e1,eop,zX,zY,n1,n2,k1,k2,pV h hjl,List.flatMap_cons];exact⟨rfl,rfl⟩
  ·obtain rfl:j=t:=by omega
   rw[oG,qA (by omega),emitC,List.drop_eq_nil_of_le (by omega)];exact⟨rfl,rfl⟩
theorem yV(nm:ByteArray)(l:List At)(b:Bool):rP b ⟨1,nm.data.toList,l.map rE,[],false⟩=tagT nm l:=by
 have e:kr (l.map rE)=l.flatMap atT:=by
  unfold kr;rw[List.flatMap_map]
  congr 1
  funext a
  simp[atT,rE]
 unfold rP;rw[if_neg (by simp),if_pos rfl];unfold qd;simp only[e,pq,tagT];simp
theorem RB(xs:List Rw)(hk:∀m,(h:m<xs.length)→xs[m].f1=0∨xs[m].f1=1∨xs[m].f1=2)(hg:∀m,(h:m<xs.length)→yS xs[m] (xs.drop (m+1))):
 ∀(n m:Nat),xs.length - m≤n→NodeS xs n m:=by
 intro n
 induction n with
 |zero=>intro m hn h;omega
 |succ n ih=>
  intro m hn h op ho hh;have hgt:=kX xs m;have hle:=nE xs m h;have hm1:((m:Nat):Int)=(m:Int):=rfl;rw[pX hgt h]at hh⊢;obtain⟨a0,a1,a2⟩:=hh;have hd:xs[m].f0.toNat=op.length:=by omega
  have hin:∀j (hj:j<xs.length),m<j→j<gq xs m→xs[m].f0<xs[j].f0:=by
   intro j hj b1 b2;have:=Br xs m j b1 b2 hj
   rwa [iI xs m h,iI xs j hj]at this
  have hleaf:opA op xs[m]=op→gq xs m=m+1:=by
   intro e
   by_cases hl:m+1<gq xs m
   ·rw[hd,List.take_length,e,pX hl (by omega)]at a2
    have b:=hin (m+1) (by omega) (by omega) hl;have c:=a2.2.1;omega
   ·omega
  rw[emitC,hd,List.drop_length,List.take_length];simp only[nW];rw[nH xs m h];rw[hd,List.take_length]at a2
  rcases hk m h with k|k|k
  ·have et:oI xs[m]=⟨1,xs[m].f2.data.toList,xs[m].f4.map rE,[],false⟩:=by unfold oI;rw[if_pos k]
   rw[if_neg (by omega),if_neg (by omega),et];cases hv:kS xs[m].f2 with
   |true=>
    have eo:opA op xs[m]=op:=by unfold opA;rw[if_neg (by rw[hv];simp)]
    have hr:mQ xs[m].f2.data.toList=false:=by
     cases hr:mQ xs[m].f2.data.toList with
     |false=>rfl
     |true=>
      have:=((hg m h).inner k (by rw[hr];rfl)).1;rw[hv]at this;cases this
    rw[eo,hleaf eo,oG,emitC,List.drop_length];unfold Mi;rw[FE,hv,if_pos rfl];simp[eO,jP,yV,uY,hr]
   |false=>
    have eo:opA op xs[m]=op++[xs[m].f2]:=by unfold opA;rw[if_pos ⟨k,hv⟩]
    rw[eo]at a2⊢;have hlen:(op++[xs[m].f2]).length=op.length+1:=by simp
    have GU:∀j (hj:j<xs.length),m+1≤j→j<gq xs m→((op.length+1:Nat):Int)≤xs[j].f0:=by
     intro j hj b1 b2;have:=hin j hj (by omega) b2;omega
    have hsplit:emitC op.length (lU xs (m+1) (gq xs m)) (op++[xs[m].f2])=emitC (op.length+1) (lU xs (m+1) (gq xs m)) (op++[xs[m].f2])++[endP xs[m].f2]:=by
     have e:=Cn (D:=op.length+1) (E:=op.length) (by omega) (lU xs (m+1) (gq xs m)) (op++[xs[m].f2]) [] trivial (by simp)
     obtain⟨e1,-⟩:=zW (D:=op.length+1) _ _ a2 (by omega) (fun z hz=>by
      obtain⟨j,hj,b1,b2,rfl⟩:=yU _ _ _ (Nat.le_refl _) hle hz;exact GU j hj b1 b2)
     rw[List.append_nil]at e;rw[e,e1,List.take_of_length_le (by omega),emitC,List.drop_left];rfl
    have hend:rP false (endP xs[m].f2)=([60,47]++xs[m].f2.data.toList)++[62]:=by
     simp[rP,endP,qd,kr,pq]
    unfold Mi;rw[FE,hv,if_neg (by decide),Qw,hsplit,yX xs m h];cases hrs:(mQ xs[m].f2.data.toList||kT xs[m].f2.data.toList)with
    |false=>
     have hr:mQ xs[m].f2.data.toList=false:=by rw[Bool.or_eq_false_iff]at hrs;exact hrs.1
     obtain⟨q1,q2⟩:=GR xs n (op.length+1) (gq xs m) hle _ (m+1) (op++[xs[m].f2]) (Nat.le_refl _) (by omega) hlen a2 (fun j b1 b2=>DW xs m j (by omega) b2 h) GU (fun j b1 b2=>ih j (by omega));rw[hr];have hrt:uY ⟨1,xs[m].f2.data.toList,xs[m].f4.map rE,[],false⟩=false:=by simp[uY,hr]
     simp only[List.reverse_nil,List.map_nil,List.nil_append];rw[eO,jP,hrt,zX,zY,q1,q2,yV,eO,eO,hend,jP,jP];refine⟨by simp,by simp[uY,endP]⟩
    |true=>
     obtain⟨-,hin2⟩:=(hg m h).inner k hrs;simp only[List.reverse_nil,List.map_nil,List.nil_append]
     rcases hin2 with hs|⟨y,r',hr',y1,y2,y3,y4⟩
     ·have he:gq xs m=m+1:=by
       by_cases hl:m+1<gq xs m
       ·have b:=hin (m+1) (by omega) (by omega) hl
        rw[List.drop_eq_getElem_cons (by omega)]at hs;have c:xs[m+1].f0≤xs[m].f0:=hs;omega
       ·omega
      rw[he,oG,qA (by omega),emitC,List.drop_eq_nil_of_le (by omega)];simp only[List.reverse_nil,List.map_nil,List.nil_append];rw[eO,eO,eO,yV,jP,jP,jP]
      have hend2:∀b,rP b (endP xs[m].f2)=([60,47]++xs[m].f2.data.toList)++[62]:=by
       intro b;simp[rP,endP,qd,kr,pq]
      rw[hend2];exact⟨by simp,by simp[uY,endP]⟩
     ·have hl1:m+1<xs.length:=by
       by_cases hl:m+1<xs.length
       ·exact hl
       ·rw[List.drop_eq_nil_of_le (by omega)]at hr'
        cases hr'
      rw[List.drop_eq_getElem_cons hl1]at hr';obtain⟨rfl,rfl⟩:=List.cons.inj hr'
      have he:gq xs m=m+2:=by
       have g1:m+1<gq xs m:=by
        by_cases hl:m+1<gq xs m
        ·exact hl
        ·have a:=at_end xs m (by omega)
         have e:gq xs m=m+1:=by omega
         rw[e,iI xs m h,iI xs _ hl1]at a;omega
       by_cases hl:m+2<gq xs m
       ·have b:=hin (m+2) (by omega) (by omega) hl
        rw[List.drop_eq_getElem_cons (by omega)]at y4;have c:xs[m+2].f0≤xs[m].f0:=y4;omega
       ·omega
      have hgt2:=kX xs (m+1);rw[he,pX (by omega) hl1,oG,pV (by omega) hl1,qA (by omega),emitC];have hy:xs[m+1].f0.toNat=op.length+1:=by omega
      have ey:oI xs[m+1]=⟨0,[],[],xs[m+1].f3.data.toList,false⟩:=by unfold oI;rw[if_neg (by omega),if_pos y1]
      have eo2:opA (op++[xs[m].f2]) xs[m+1]=op++[xs[m].f2]:=by unfold opA;rw[if_neg (by omega)]
      rw[hy,List.take_of_length_le (by omega),List.drop_eq_nil_of_le (by omega),eo2,emitC,List.drop_eq_nil_of_le (by omega),ey];obtain⟨n',rfl⟩:∃n',n=n'+1:=⟨n - 1,by omega⟩
      have hend2:∀b,rP b (endP xs[m].f2)=([60,47]++xs[m].f2.data.toList)++[62]:=by
       intro b;simp[rP,endP,qd,kr,pq]
      have hnode:nW xs (n'+1) (mQ xs[m].f2.data.toList) (m+1)=rP (mQ xs[m].f2.data.toList) ⟨0,[],[],xs[m+1].f3.data.toList,false⟩:=by
       simp only[nW];rw[nH xs (m+1) hl1,if_pos y1];simp[rP]
      simp only[List.reverse_nil,List.map_nil,List.nil_append,List.singleton_append,List.cons_append,List.flatMap_cons,List.flatMap_nil,List.append_nil];rw[eO,eO,eO,eO,yV,hend2,jP,jP,jP,jP,hnode];exact⟨by simp[uY],by simp[uY,endP]⟩
  ·have et:oI xs[m]=⟨0,[],[],xs[m].f3.data.toList,false⟩:=by unfold oI;rw[if_neg (by omega),if_pos k]
   have eo:opA op xs[m]=op:=by unfold opA;rw[if_neg (by omega)]
   rw[if_pos k,et,eo,hleaf eo,oG,emitC,List.drop_length];simp[eO,jP,rP,uY]
  ·have et:oI xs[m]=⟨3,[],[],xs[m].f3.data.toList,false⟩:=by unfold oI;rw[if_neg (by omega),if_neg (by omega)]
   have eo:opA op xs[m]=op:=by unfold opA;rw[if_neg (by omega)]
   rw[if_neg (by omega),if_pos k,et,eo,hleaf eo,oG,emitC,List.drop_length];simp[eO,jP,rP,uY]
theorem NA(xs:List Rw)(hf:RowsFit xs [] [])(hk:∀m,(h:m<xs.length)→xs[m].f1=0∨xs[m].f1=1∨xs[m].f1=2)(hg:∀m,(h:m<xs.length)→yS xs[m] (xs.drop (m+1)))(h0:∀m,(h:m<xs.length)→0≤xs[m].f0):
 (jh xs (-1)).flatMap (nW xs xs.length false)=JG (mG xs []):=by
 have hi:=hi_fit xs [] [] hf;have e:lU xs 0 xs.length=xs:=by simp[lU]
 have h:=GR xs xs.length 0 xs.length (Nat.le_refl _) xs.length 0 [] (by omega) (by omega) rfl (by rw[e];exact hi) (fun m _ b=>nE xs m b) (fun m hm _ _=>h0 m hm) (fun m _ b=>RB xs hk hg xs.length m (by omega));rw[e,FC]at h;rw[rC (.inl rfl)];exact h.1.symm
end Go.Proofs.aj.W7
