/- Lemmas and walks, part 40. -/
import Derived.Test.YtkcmghlhpbepcaaGreatDoorWS39
set_option linter.unusedVariables false
set_option linter.unusedSimpArgs false
set_option maxHeartbeats 8000000
set_option maxRecDepth 100000
namespace Go.Proofs.aj.W7
open Go.RowKit Go.Proofs Go.Proofs.aj Go.Proofs.YtkcmghlhpbepcaaGreatDoor Go.Proofs.ah.aD Go.Proofs.YtkcmghlhpbepcaaGreatDoor.Ch
def rsB(n:Txt):Bool:=mJ n||mq n
def InnRow(x:Rw)(r:List Rw):Prop:=x.f1=0→rsB x.f2.data.toList=true→jv x.f2=false∧
 (Shut x.f0 r∨∃y r',r=y::r'∧y.f1=1∧y.f0=x.f0+1∧(mJ x.f2.data.toList=true→G9 x.f2.data.toList y.f3.data.toList)∧Shut x.f0 r')
def Inn:List Rw→Prop
 | []=>True
 |x::r=>InnRow x r∧Inn r
structure yV (x:Rw):Prop where
 start:x.f1=0→qM x.f2.data.toList (x.f4.map kJ)
 note:x.f1=2→rP x.f3.data.toList
 cln:Ku x
 sz:(dS (x.f4.map kJ)).length+x.f2.data.toList.length≤1000000
def ToksFine(L:List Tok):Prop:=∀t∈L,CQ t∧(dS t.attrs).length+t.name.length≤1000000
theorem Ia:∀(r:List Rw),Inn r→(∀x∈r,yV x)→uL r
 | [],_,_=>trivial
 |x::r,h,hb=>by
  have h1:=hb x (by simp);exact⟨⟨h1.start,h1.note,fun k hr=>h.1 k hr⟩,Ia r h.2 (fun y hy=>hb y (by simp[hy]))⟩
structure Next (out:List Rw) (z:Rw):Prop where
 void:z.f1=0→rsB z.f2.data.toList=true→jv z.f2=false
 one:∀pre x,out=pre++[x]→x.f1=0→rsB x.f2.data.toList=true→z.f0≤x.f0∨(z.f1=1∧z.f0=x.f0+1∧(mJ x.f2.data.toList=true→G9 x.f2.data.toList z.f3.data.toList))
 two:∀pre x y,out=pre++[x,y]→x.f1=0→rsB x.f2.data.toList=true→y.f1=1→y.f0=x.f0+1→z.f0≤x.f0
theorem Next.tail{x:Rw}{r:List Rw}{z:Rw}(h:Next (x::r) z):Next r z:=
 ⟨h.void,fun pre y e=>h.one (x::pre) y (by rw[e];rfl),fun pre y y2 e=>h.two (x::pre) y y2 (by rw[e];rfl)⟩
theorem M4:∀(out:List Rw) (z:Rw),Inn out→Next out z→Inn (out++[z])
 | [],z,_,hn=>⟨fun k hr=>⟨hn.void k hr,.inl trivial⟩,trivial⟩
 |x::r,z,h,hn=>by
  refine⟨fun k hr=>?_,M4 r z h.2 hn.tail⟩;obtain⟨hv,hin⟩:=h.1 k hr;refine⟨hv,?_⟩;cases r with
  |nil=>
   rcases hn.one [] x rfl k hr with g|⟨g1,g2,g3⟩
   ·exact .inl g
   ·exact .inr ⟨z,[],rfl,g1,g2,g3,trivial⟩
  |cons y r2=>
   rcases hin with g|⟨y',r',e,g1,g2,g3,g4⟩
   ·exact .inl g
   ·obtain⟨rfl,rfl⟩:=List.cons.inj e
    refine .inr ⟨y,r2++[z],rfl,g1,g2,g3,?_⟩;cases r2 with
    |nil=>exact hn.two [] x y rfl k hr g1 g2
    |cons a b=>exact g4
theorem QX:∀(a b:List Rw),Inn (a++b)→Inn a
 | [],_,_=>trivial
 |x::r,b,h=>by
  refine⟨fun k hr=>?_,QX r b h.2⟩;obtain⟨hv,hin⟩:=h.1 k hr;refine⟨hv,?_⟩;cases r with
  |nil=>exact .inl trivial
  |cons y r2=>
   rcases hin with g|⟨y',r',e,g1,g2,g3,g4⟩
   ·exact .inl g
   ·obtain⟨rfl,rfl⟩:=List.cons.inj e
    refine .inr ⟨y,r2,rfl,g1,g2,g3,?_⟩;cases r2 with
    |nil=>trivial
    |cons a b=>exact g4
theorem Oy:∀(pre:List Rw) (x:Rw) (r:List Rw),Inn (pre++x::r)→InnRow x r
 | [],_,_,h=>h.1
 |_::pre,x,r,h=>Oy pre x r h.2
structure Safe (op:List Bt) (out:List Rw):Prop where
 one:∀pre x,out=pre++[x]→x.f1=0→rsB x.f2.data.toList=true→(op.length:Int)≤x.f0
 two:∀pre x y,out=pre++[x,y]→x.f1=0→rsB x.f2.data.toList=true→y.f1=1→y.f0=x.f0+1→(op.length:Int)≤x.f0
theorem Safe.less{op op2:List Bt}{out:List Rw}(h:Safe op out)(hl:op2.length≤op.length):Safe op2 out:=
 ⟨fun pre x e k hr=>by have:=h.one pre x e k hr;omega,fun pre x y e k hr k2 k3=>by have:=h.two pre x y e k hr k2 k3;omega⟩
theorem Safe.next{op:List Bt}{out:List Rw}(h:Safe op out){z:Rw}(hz:z.f0≤op.length)(hv:z.f1=0→rsB z.f2.data.toList=true→jv z.f2=false):Next out z:=
 ⟨hv,fun pre x e k hr=>.inl (by have:=h.one pre x e k hr;omega),fun pre x y e k hr k2 k3=>by have:=h.two pre x y e k hr k2 k3;omega⟩
theorem uN{pre out:List Rw}{x y z:Rw}(e:out++[z]=pre++[x,y]):y=z∧out=pre++[x]:=by
 have e2:out++[z]=(pre++[x])++[y]:=by rw[e];simp
 obtain⟨h1,h2⟩:=List.append_inj' e2 rfl;exact⟨(List.cons.inj h2).1.symm,h1⟩
theorem qz{pre out:List Rw}{x z:Rw}(e:out++[z]=pre++[x]):x=z∧out=pre:=by
 obtain⟨h1,h2⟩:=List.append_inj' e rfl;exact⟨(List.cons.inj h2).1.symm,h1⟩
theorem Safe.plain{op:List Bt}{out:List Rw}(h:Safe op out){z:Rw}(hz:z.f0≤op.length)(hr:z.f1=0→rsB z.f2.data.toList=false):Safe op (out++[z]):=by
 refine⟨fun pre x e k g=>?_,fun pre x y e k g k2 k3=>?_⟩
 ·obtain⟨rfl,-⟩:=qz e
  rw[hr k]at g;cases g
 ·obtain⟨rfl,rfl⟩:=uN e
  have:=h.one pre x rfl k g;omega
structure Rows (out:List Rw):Prop where
 inn:Inn out
 base:∀x∈out,yV x
theorem Rows.add{out:List Rw}{z:Rw}(h:Rows out)(hn:Next out z)(hb:yV z):Rows (out++[z]):=
 ⟨M4 out z h.inn hn,fun x hx=>by
  rcases List.mem_append.1 hx with hx|hx
  ·exact h.base x hx
  ·rw[List.mem_singleton.1 hx];exact hb⟩
structure Pend (op:List Bt) (out:List Rw) (L:List Tok) (op':List Bt) (n:Bt):Prop where
 op:op=op'++[n]
 ok:n.data.toList≠[]∧lD n=false∧jv n=false
 shut:Closed n.data.toList L
 safe:Safe op' out
def State(op:List Bt)(out:List Rw)(L:List Tok):Prop:=Safe op out∨∃op' n,Pend op out L op' n
theorem F3:∀l:Txt,rsB l=true→l≠[]∧lD ⟨l.toArray⟩=false∧jv ⟨l.toArray⟩=false:=by
 have key:∀l∈EI++IK,l≠[]∧lD ⟨l.toArray⟩=false∧jv ⟨l.toArray⟩=false:=by
  intro l hl;rw[goneL_eq,MO]
  revert l
  decide +kernel
 intro l h;refine key l ?_;unfold rsB mJ mq inB at h;rw[Bool.or_eq_true,List.contains_iff_mem,List.contains_iff_mem]at h;exact List.mem_append.2 h
theorem wY{op:List Bt}{out:List Rw}{x:Rw}(h:(kg op out false x).2=false):(kg op out false x).1=out++[⟨(op.length:Int),x.f1,x.f2,x.f3,x.f4⟩]:=by
 unfold kg at h⊢
 split
 ·rename_i g
  rw[if_pos g]at h;cases h
 ·rfl
theorem wZ:Cln (⟨#[]⟩:Bt).data.toList:=gY
theorem Ib{d:Int}{s:Bt}(h:Cln s.data.toList):yV ⟨d,1,⟨#[]⟩,s,[]⟩:=⟨fun k=>by simp at k,fun k=>by simp at k,⟨wZ,h,by simp⟩,by simp[dS]⟩
theorem Sj{d:Int}{s:Bt}(hn:rP s.data.toList)(h:Cln s.data.toList):yV ⟨d,2,⟨#[]⟩,s,[]⟩:=⟨fun k=>by simp at k,fun _=>hn,⟨wZ,h,by simp⟩,by simp[dS]⟩
theorem Oz{d:Int}{nm:Txt}{l:List (Txt×Txt)}(h:qM nm l)(h1:Cln nm)(h2:∀a∈l,Cln a.1∧Cln a.2)(hz:(dS l).length+nm.length≤1000000):yV ⟨d,0,⟨nm.toArray⟩,⟨#[]⟩,mh (l.map pairT)⟩:=by
 have hd:distinct (l.map pairT):=by
  intro i j hi hj e;rw[List.length_map]at hi hj;rw[List.getElem_map,List.getElem_map]at e
  have e2:(l.map Prod.fst)[i]'(by rw[List.length_map];exact hi)=(l.map Prod.fst)[j]'(by rw[List.length_map];exact hj):=by
   rw[List.getElem_map,List.getElem_map];rw[Lib.toList_data,Lib.toList_data]at e;exact e
  exact(List.getElem_inj h.once).1 e2
 have hm:∀a∈mh (l.map pairT),∃b∈l,pairT b=a:=fun a ha=>List.mem_map.1 (once_mem ha)
 refine⟨fun _=>⟨h.name,fun a ha=>?_,M0 (tF _ [] wX)⟩,fun k=>by simp at k,⟨h1,wZ,fun a ha=>?_⟩,?_⟩
 ·obtain⟨c,hc,rfl⟩:=List.mem_map.1 ha
  obtain⟨b,hb,rfl⟩:=hm c hc;exact h.attrs b hb
 ·obtain⟨b,hb,rfl⟩:=hm a ha
  exact h2 b hb
 ·show(dS ((mh (l.map pairT)).map kJ)).length+nm.length≤1000000
  rw[MZ hd,EF];exact hz
theorem Ic{op:List Bt}{out:List Rw}{d:Txt}(hR:Rows out)(hS:Safe op out)(hc:Cln d)(hb:(Go.Proofs.aj.W7.gI op out false ⟨d.toArray⟩).2=false):Rows (Go.Proofs.aj.W7.gI op out false ⟨d.toArray⟩).1∧Safe op (Go.Proofs.aj.W7.gI op out false ⟨d.toArray⟩).1:=by
 unfold Go.Proofs.aj.W7.gI at hb⊢
 by_cases e:(⟨d.toArray⟩:Bt).data.toList=[]
 ·rw[if_pos e];exact⟨hR,hS⟩
 rw[if_neg e]at hb⊢;cases hj:ou op out with
 |false=>
  rw[hj,if_neg (by decide)]at hb;rw[if_neg (by decide),wY hb];exact⟨hR.add (hS.next (Int.le_refl _) (fun k=>by simp at k)) (Ib hc),hS.plain (Int.le_refl _) (fun k=>by simp at k)⟩
 |true=>
  rw[if_pos rfl];unfold ou at hj;cases hL:out.getLast? with
  |none=>rw[hL]at hj;cases hj
  |some y=>
   rw[hL]at hj;simp only[Bool.and_eq_true,decide_eq_true_eq]at hj;have hpos:0<out.length:=by cases out with|nil=>cases hL|cons a l=>simp
   have hr:=BA out hpos;rw[hL]at hr;rw[←Option.some.inj hr];obtain⟨pre,rfl⟩:=List.getLast?_eq_some_iff.1 hL;have e2:(pre++[y]).set ((pre++[y]).length - 1) (tV y ⟨d.toArray⟩)=pre++[tV y ⟨d.toArray⟩]:=by simp
   show Rows ((pre++[y]).set ((pre++[y]).length - 1) (tV y ⟨d.toArray⟩))∧Safe op ((pre++[y]).set ((pre++[y]).length - 1) (tV y ⟨d.toArray⟩));rw[e2]
   have hle:∀p2 x,pre=p2++[x]→x.f1=0→rsB x.f2.data.toList=true→y.f0≤x.f0:=by
    rintro p2 x rfl k g;have h1:=Oy p2 x [y] (by simpa using hR.inn) k g
    rcases h1.2 with h2|⟨y',r',e3,g1,g2,g3,g4⟩
    ·exact h2
    ·obtain⟨rfl,rfl⟩:=List.cons.inj e3
     have:=hS.two p2 x y (by simp) k g hj.1 g2;omega
   have hyb:=hR.base y (by simp)
   have hn:Next pre (tV y ⟨d.toArray⟩):=by
    refine⟨fun k=>?_,fun p2 x e3 k g=>.inl (hle p2 x e3 k g),fun p2 x y0 e3 k g k2 k3=>?_⟩
    ·have:y.f1=0:=k
     omega
    ·subst e3
     have h1:=Oy p2 x [y0,y] (by simpa using hR.inn) k g
     rcases h1.2 with h2|⟨y',r',e4,g1,g2,g3,g4⟩
     ·have h3:y0.f0≤x.f0:=h2
      omega
     ·obtain⟨rfl,rfl⟩:=List.cons.inj e4
      exact g4
   have hRp:Rows pre:=⟨QX pre [y] hR.inn,fun x hx=>hR.base x (by simp[hx])⟩;refine⟨hRp.add hn ⟨fun k=>?_,fun k=>?_,⟨hyb.cln.name,?_,hyb.cln.attrs⟩,hyb.sz⟩,⟨fun p2 x e3 k g=>?_,fun p2 x y2 e3 k g k2 k3=>?_⟩⟩
   ·have:y.f1=0:=k
    omega
   ·have:y.f1=2:=k
    omega
   ·show Cln (y.f3++⟨d.toArray⟩).data.toList
    rw[FI];exact jr hyb.cln.data hc
   ·obtain⟨rfl,-⟩:=qz e3
    have:y.f1=0:=k;omega
   ·obtain⟨rfl,e4⟩:=uN e3
    have h1:=hle p2 x e4 k g;have h2:y.f0=x.f0+1:=k3;omega
theorem Sk{op:List Bt}{out:List Rw}{s:Bt}(hR:Rows out)(hS:Safe op out)(hn:rP s.data.toList)(hc:Cln s.data.toList)(hb:(kg op out false ⟨0,2,⟨#[]⟩,s,[]⟩).2=false):Rows (kg op out false ⟨0,2,⟨#[]⟩,s,[]⟩).1∧Safe op (kg op out false ⟨0,2,⟨#[]⟩,s,[]⟩).1:=by
 rw[wY hb];exact⟨hR.add (hS.next (Int.le_refl _) (fun k=>by simp at k)) (Sj hn hc),hS.plain (Int.le_refl _) (fun k=>by simp at k)⟩
theorem F4(op:List Bt)(nm:Bt):(fQ op nm).length≤op.length:=by
 unfold fQ nZ
 split
 ·exact Nat.le_trans (rA _ _ _ _) (rA _ _ _ _)
 ·exact rA _ _ _ _
theorem Ab{op:List Bt}{out:List Rw}{nm:Txt}{l:List (Txt×Txt)}(hR:Rows out)(hS:Safe op out)(hs:qM nm l)(h1:Cln nm)(h2:∀a∈l,Cln a.1∧Cln a.2)(hz:(dS l).length+nm.length≤1000000)(hb:(ko op out false ⟨nm.toArray⟩ (l.map pairT)).2.2=false):
 ((ko op out false ⟨nm.toArray⟩ (l.map pairT)).1=op∧(ko op out false ⟨nm.toArray⟩ (l.map pairT)).2.1=out)∨∃(op2:List Bt) (z:Rw),op2.length≤op.length∧z.f0=(op2.length:Int)∧z.f1=0∧z.f2=⟨nm.toArray⟩∧Rows (out++[z])∧
   (ko op out false ⟨nm.toArray⟩ (l.map pairT)).1=(if jv ⟨nm.toArray⟩then op2 else op2++[⟨nm.toArray⟩])∧(ko op out false ⟨nm.toArray⟩ (l.map pairT)).2.1=out++[z]:=by
 unfold ko at hb⊢
 by_cases e1:(⟨nm.toArray⟩:Bt).data.toList=[]
 ·rw[if_pos e1];exact .inl ⟨rfl,rfl⟩
 rw[if_neg e1]at hb⊢;cases e2:lD ⟨nm.toArray⟩with
 |true=>rw[if_pos rfl];exact .inl ⟨rfl,rfl⟩
 |false=>
  rw[e2,if_neg (by decide)]at hb;rw[if_neg (by decide)];have hl:=wY hb;refine .inr ⟨fQ op ⟨nm.toArray⟩,⟨((fQ op ⟨nm.toArray⟩).length:Int),0,⟨nm.toArray⟩,⟨#[]⟩,mh (l.map pairT)⟩,F4 _ _,rfl,rfl,rfl,?_,rfl,hl⟩;exact hR.add ((hS.less (F4 _ _)).next (Int.le_refl _) (fun _ g=>(F3 nm g).2.2)) (Oz hs h1 h2 hz)
theorem end_step{op:List Bt}{out:List Rw}{n:Bt}(hR:Rows out)(hS:Safe op out)(hb:(Go.Proofs.aj.W7.iy op out false n).2.2=false):Rows (Go.Proofs.aj.W7.iy op out false n).2.1∧Safe (Go.Proofs.aj.W7.iy op out false n).1 (Go.Proofs.aj.W7.iy op out false n).2.1:=by
 unfold Go.Proofs.aj.W7.iy at hb⊢
 by_cases e1:n.data.toList=[]
 ·rw[if_pos e1];exact⟨hR,hS⟩
 rw[if_neg e1]at hb⊢
 by_cases e2:lD n=true
 ·rw[if_pos e2];exact⟨hR,hS⟩
 rw[if_neg e2]at hb⊢
 by_cases e3:jv n=true
 ·rw[if_pos e3];exact⟨hR,hS⟩
 rw[if_neg e3]at hb⊢
 by_cases e4:0≤dU op [n] (y9 n) op.length
 ·rw[if_pos e4];exact⟨hR,hS.less (by rw[List.length_take];omega)⟩
 rw[if_neg e4]at hb⊢
 by_cases e5:n.data.toList=[112]
 ·rw[if_pos e5]at hb⊢
  have hl:=wY hb;show Rows (kg op out false ⟨0,0,n,⟨#[]⟩,[]⟩).1∧Safe op (kg op out false ⟨0,0,n,⟨#[]⟩,[]⟩).1;rw[hl];have hrs:rsB n.data.toList=false:=by rw[e5];decide
  have hst:qM n.data.toList []:=⟨⟨by rw[e5];decide,by rw[e5];decide,by rw[e5];decide⟩,by simp,by simp⟩;refine⟨hR.add (hS.next (Int.le_refl _) (fun _ g=>by have g:rsB n.data.toList=true:=g;rw[hrs]at g;cases g)) ⟨fun _=>hst,fun k=>by simp at k,⟨?_,wZ,by simp⟩,by show(dS []).length+n.data.toList.length≤1000000;rw[e5];decide⟩,hS.plain (Int.le_refl _) (fun _=>hrs)⟩;show Cln n.data.toList;rw[e5];exact kP (by decide)
 ·rw[if_neg e5];exact⟨hR,hS⟩
theorem BM(nm d:Txt)(l:List (Txt×Txt))(b:Bool)(op:List Bt)(out:List Rw):fV op out (l9 ⟨1,nm,l,d,b⟩)=ko op out false ⟨nm.toArray⟩ (l.map pairT):=by simp[fV,l9]
theorem Kv(d:Txt)(op:List Bt)(out:List Rw):fV op out (l9 ⟨0,[],[],d,false⟩)=(op,Go.Proofs.aj.W7.gI op out false ⟨d.toArray⟩):=by simp[fV,l9]
theorem end_tk(nm:Txt)(op:List Bt)(out:List Rw):fV op out (l9 ⟨2,nm,[],[],false⟩)=Go.Proofs.aj.W7.iy op out false ⟨nm.toArray⟩:=by simp[fV,l9]
theorem QY(d:Txt)(op:List Bt)(out:List Rw):fV op out (l9 ⟨3,[],[],d,false⟩)=(op,kg op out false ⟨0,2,⟨#[]⟩,⟨d.toArray⟩,[]⟩):=by simp[fV,l9]
theorem doct_tk(d:Txt)(op:List Bt)(out:List Rw):fV op out (l9 ⟨4,[],[],d,false⟩)=(op,out,false):=by simp[fV,l9]
theorem l6{t:Tk}{r:List Tk}{op:List Bt}{out o:List Rw}(h:jY (t::r) op out=some o):(fV op out t).2.2=false∧jY r (fV op out t).1 (fV op out t).2.1=some o:=by
 rw[jY]at h;cases hb:(fV op out t).2.2 with
 |true=>rw[hb,if_pos rfl]at h;cases h
 |false=>rw[hb,if_neg (by decide)]at h;exact⟨rfl,h⟩
theorem pend_not{op op':List Bt}{out:List Rw}{t:Tok}{L:List Tok}{n:Bt}(h:Pend op out (t::L) op' n)(hk:t.kind≠2):False:=by
 rcases h.shut with e|⟨q,e⟩
 ·cases e
 ·rw[(List.cons.inj e).1]at hk
  exact hk rfl
theorem yX{op:List Bt}{out:List Rw}{t:Tok}{L:List Tok}(h:State op out (t::L))(hk:t.kind≠2):Safe op out:=by
 rcases h with h|⟨op',n,h⟩
 ·exact h
 ·exact(pend_not h hk).elim
theorem Sl{L:List Tok}(hL:MR L):∀(op:List Bt) (out:List Rw),ToksFine L→Rows out→State op out L→∀o,jY (L.map l9) op out=some o→Rows o:=by
 induction hL with
 |nil=>
  intro op out _ hR _ o ho;obtain rfl:=Option.some.inj ho;exact hR
 | @text d r hd hr ih=>
   intro op out hC hR hst o ho;have hS:=yX hst (by simp);obtain⟨hb,h2⟩:=l6 ho;rw[Kv]at hb h2;obtain⟨a,b⟩:=Ic hR hS (hC _ (List.mem_cons_self ..)).1.data hb;exact ih _ _ (fun t ht=>hC t (by simp[ht])) a (.inl b) o h2
 | @start nm l b r hs hrs hr ih=>
   intro op out hC hR hst o ho;have hS:=yX hst (by simp);obtain⟨hb,h2⟩:=l6 ho;rw[BM]at hb h2;obtain⟨hc,hcz⟩:=hC _ (List.mem_cons_self ..)
   rcases Ab hR hS hs hc.name hc.attrs hcz hb with⟨e1,e2⟩|⟨op2,z,z1,z2,z3,z4,hR2,e1,e2⟩
   ·rw[e1,e2]at h2
    exact ih _ _ (fun t ht=>hC t (by simp[ht])) hR (.inl hS) o h2
   ·rw[e1,e2]at h2
    refine ih _ _ (fun t ht=>hC t (by simp[ht])) hR2 (.inl ?_) o h2
    have hn:z.f1=0→rsB z.f2.data.toList=true→False:=by
     intro _ g;rw[z4]at g;have g:rsB nm=true:=g;unfold rsB at g;rw[hrs]at g;cases g
    refine⟨fun pre x e k g=>?_,fun pre x y e k g k2 k3=>?_⟩
    ·obtain⟨rfl,-⟩:=qz e
     exact(hn k g).elim
    ·obtain⟨rfl,-⟩:=uN e
     omega
 | @shut nm l b r hs hrs hcl hr ih=>
   intro op out hC hR hst o ho;have hS:=yX hst (by simp);obtain⟨hb,h2⟩:=l6 ho;rw[BM]at hb h2;obtain⟨hc,hcz⟩:=hC _ (List.mem_cons_self ..)
   rcases Ab hR hS hs hc.name hc.attrs hcz hb with⟨e1,e2⟩|⟨op2,z,z1,z2,z3,z4,hR2,e1,e2⟩
   ·rw[e1,e2]at h2
    exact ih _ _ (fun t ht=>hC t (by simp[ht])) hR (.inl hS) o h2
   ·obtain⟨g1,g2,g3⟩:=F3 nm hrs
    rw[g3,if_neg (by decide)]at e1;rw[e1,e2]at h2;refine ih _ _ (fun t ht=>hC t (by simp[ht])) hR2 (.inr ⟨op2,⟨nm.toArray⟩,rfl,⟨g1,g2,g3⟩,hcl,?_⟩) o h2;refine⟨fun pre x e k g=>?_,fun pre x y e k g k2 k3=>?_⟩
    ·obtain⟨rfl,-⟩:=qz e
     omega
    ·obtain⟨rfl,-⟩:=uN e
     omega
 | @full nm l b d r hs hrs hd hraw hcl hr ih=>
   intro op out hC hR hst o ho;have hS:=yX hst (by simp);obtain⟨hb,h2⟩:=l6 ho;rw[BM]at hb h2;obtain⟨hc,hcz⟩:=hC _ (List.mem_cons_self ..);have hc2:=(hC ⟨0,[],[],d,false⟩ (by simp)).1
   rcases Ab hR hS hs hc.name hc.attrs hcz hb with⟨e1,e2⟩|⟨op2,z,z1,z2,z3,z4,hR2,e1,e2⟩
   ·rw[e1,e2]at h2
    obtain⟨hb3,h3⟩:=l6 h2;rw[Kv]at hb3 h3;obtain⟨a,c⟩:=Ic hR hS hc2.data hb3;exact ih _ _ (fun t ht=>hC t (by simp[ht])) a (.inl c) o h3
   ·obtain⟨g1,g2,g3⟩:=F3 nm hrs
    rw[g3,if_neg (by decide)]at e1;rw[e1,e2]at h2;obtain⟨hb3,h3⟩:=l6 h2;rw[Kv]at hb3 h3
    have hj:ou (op2++[⟨nm.toArray⟩]) (out++[z])=false:=by
     unfold ou;rw[List.getLast?_append];simp[z3]
    unfold Go.Proofs.aj.W7.gI at hb3 h3;have hd2:¬(⟨d.toArray⟩:Bt).data.toList=[]:=hd;rw[if_neg hd2,hj,if_neg (by decide)]at hb3 h3;have hl:=wY hb3;simp only at h3;rw[hl]at h3;have hlen:(op2++[(⟨nm.toArray⟩:Bt)]).length=op2.length+1:=by simp
    refine ih _ _ (fun t ht=>hC t (by simp[ht])) (hR2.add ⟨fun k=>by simp at k,fun pre x e k g=>.inr ⟨rfl,?_,?_⟩,fun pre x y e k g k2 k3=>?_⟩ (Ib hc2.data)) (.inr ⟨op2,⟨nm.toArray⟩,rfl,⟨g1,g2,g3⟩,hcl,?_⟩) o h3
    ·obtain⟨rfl,-⟩:=qz e
     show((op2++[(⟨nm.toArray⟩:Bt)]).length:Int)=x.f0+1;rw[hlen];omega
    ·obtain⟨rfl,-⟩:=qz e
     rw[z4];exact hraw
    ·obtain⟨rfl,-⟩:=uN e
     omega
    ·refine⟨fun pre x e k g=>?_,fun pre x y e k g k2 k3=>?_⟩
     ·obtain⟨rfl,-⟩:=qz e
      simp at k
     ·obtain⟨-,e4⟩:=uN e
      obtain⟨rfl,-⟩:=qz e4;omega
 | @shuts nm r hn hr ih=>
   intro op out hC hR hst o ho;obtain⟨hb,h2⟩:=l6 ho;rw[end_tk]at hb h2
   rcases hst with hS|⟨op',n,hP⟩
   ·obtain⟨a,b⟩:=end_step hR hS hb
    exact ih _ _ (fun t ht=>hC t (by simp[ht])) a (.inl b) o h2
   ·rcases hP.shut with e|⟨q,e⟩
    ·cases e
    ·have en:nm=n.data.toList:=by
      have:=(List.cons.inj e).1;injection this
     have en2:(⟨nm.toArray⟩:Bt)=n:=by
      rw[en]
     rw[en2,hP.op,QS hP.ok]at h2;exact ih _ _ (fun t ht=>hC t (by simp[ht])) hR (.inl hP.safe) o h2
 | @note d r hn hr ih=>
   intro op out hC hR hst o ho;have hS:=yX hst (by simp);obtain⟨hb,h2⟩:=l6 ho;rw[QY]at hb h2;obtain⟨a,b⟩:=Sk hR hS hn (hC _ (List.mem_cons_self ..)).1.data hb;exact ih _ _ (fun t ht=>hC t (by simp[ht])) a (.inl b) o h2
 | @doct d r hn hr ih=>
   intro op out hC hR hst o ho;have hS:=yX hst (by simp);obtain⟨hb,h2⟩:=l6 ho;rw[doct_tk]at hb h2;exact ih _ _ (fun t ht=>hC t (by simp[ht])) hR (.inl hS) o h2
def opsOf:List Rw→List Bt→List Bt
 | [],op=>op
 |x::r,op=>opsOf r (opA (op.take x.f0.toNat) x)
theorem M5:∀(out:List Rw) (x:Rw) (op:List Bt) (o2:List Rw),RowsFit out op o2→FQ x (opsOf out op) (o2++out)→RowsFit (out++[x]) op o2
 | [],x,op,o2,_,h=>⟨by rw[List.append_nil]at h;exact h,trivial⟩
 |y::r,x,op,o2,h,hx=>⟨h.1,M5 r x _ _ h.2 (by rw[List.append_assoc];exact hx)⟩
theorem M6:∀(out:List Rw) (x:Rw) (op:List Bt),opsOf (out++[x]) op=opA ((opsOf out op).take x.f0.toNat) x
 | [],x,op=>rfl
 |y::r,x,op=>M6 r x _
def unv(st:List Bt):List Bt:=match st.getLast? with|some n=>if jv n then st.dropLast else st|none=>st
theorem nil_of{b:Bt}(h:b.data.toList=[]):b=⟨#[]⟩:=by
 obtain⟨⟨l⟩⟩:=b;have:l=[]:=h;rw[this]
theorem fit_laws{out:List Rw}{st:List Bt}(h:Laws out st):zR none out=true→(∀x∈out,x.f0<60)→out.length≤4096→RowsFit out [] []∧opsOf out []=unv st:=by
 induction h with
 |nil=>intro _ _ _;exact⟨trivial,rfl⟩
 |snoc out st x h hx ih=>
  intro hj hd hl;rw[List.length_append,List.length_singleton]at hl;rw[BD,Bool.and_eq_true]at hj;obtain⟨i1,i2⟩:=ih hj.1 (fun y hy=>hd y (by simp[hy])) (by omega);have hlo:=hx.lo;have hhi:=hx.hi
  have htk:(unv st).take x.f0.toNat=st.take x.f0.toNat∧x.f0≤(unv st).length:=by
   unfold unv;cases hg:st.getLast? with
   |none=>exact⟨rfl,hhi⟩
   |some n=>
    simp only;cases hv:jv n with
    |false=>exact⟨rfl,hhi⟩
    |true=>
     rw[if_pos rfl];obtain⟨ys,rfl⟩:=List.getLast?_eq_some_iff.1 hg;rw[List.dropLast_concat];rw[List.length_append,List.length_singleton]at hhi
     have hne:x.f0≠((ys.length+1:Nat):Int):=by
      intro e;have:=hx.void n (by rw[e,Int.toNat_natCast,List.take_of_length_le (by simp),List.getLast?_append];rfl);rw[hv]at this;cases this
     refine⟨?_,by omega⟩;rw[List.take_append_of_le_length (by omega)]
  have hdl:xg out.getLast? x=false:=by
   have:=hj.2;cases out with
   |nil=>simpa [zR]using this
   |cons a b=>simpa [zR]using this
  have hfit:FQ x (unv st) out:=by
   refine⟨hlo,htk.2,hd x (by simp),by omega,hx.ok.kind,fun k=>?_,fun k=>?_,fun k=>?_⟩
   ·obtain⟨a1,a2,a3⟩:=hx.ok.el k
    obtain⟨b1,b2⟩:=hx.nest k;exact⟨a1,b2,by rw[htk.1];exact b1,nil_of a2,MZ a3⟩
   ·obtain⟨a1,a2⟩:=hx.ok.no k
    exact⟨nil_of a1,a2⟩
   ·unfold xg at hdl
    rw[k]at hdl;simp only[decide_true,Bool.true_and,Bool.or_eq_false_iff,decide_eq_false_iff_not]at hdl;refine⟨hdl.1,?_⟩;have hlen:((unv st).take x.f0.toNat).length=x.f0.toNat:=by rw[List.length_take];omega
    unfold ou;rw[hlen];have h2:=hdl.2;cases hg:out.getLast? with
    |none=>rfl
    |some y=>
     rw[hg]at h2;simp only[Bool.and_eq_false_iff,decide_eq_false_iff_not]at h2⊢
     rcases h2 with h2|h2
     ·exact .inl h2
     ·exact .inr (by omega)
  refine⟨M5 out x [] [] i1 (by rw[i2];exact hfit),?_⟩;rw[M6,i2,htk.1];unfold after opA unv
  by_cases k:x.f1=0
  ·rw[if_pos k,List.getLast?_append]
   simp only[List.getLast?_singleton,Option.some_or,k,true_and];cases hv:jv x.f2 with
   |true=>simp
   |false=>simp
  ·rw[if_neg k,if_neg (by simp[k])]
   cases hg:(st.take x.f0.toNat).getLast? with
   |none=>rfl
   |some n=>
    simp only;rw[hx.void n hg,if_neg (by decide)]
theorem parsed(s nm:Txt)(hs:s.length≤10000)(o:List Rw)(h:jY (sK s nm) [] []=some o):RowsFit o [] []∧(MR (inL (kG s) nm)→Rows o)∧(∃op,Built op o (o8 (sK s nm))∧∀x∈o,x.f4.length≤80 * s.length):=by
 obtain⟨h1,h2⟩:=zS s nm (by omega);obtain⟨op,hB,hA⟩:=MP (sK s nm) (by omega) (80 * s.length) (fun t ht=>⟨h2 t ht,by omega⟩) o h;obtain⟨st,hl⟩:=R6 _ o h;refine⟨(fit_laws hl hB.normal (fun x hx=>(hB.depth x hx).2) hB.len).1,fun hg=>?_,op,hB,hA⟩;refine Sl hg [] [] (fun t ht=>⟨in_cln nm (Sm s) t ht,?_⟩) ⟨trivial,by simp⟩ (.inl ⟨fun pre x e=>by simp at e,fun pre x y e=>by simp at e⟩) o h;have h3:=Om ht;have h4:=QK (kG s) nm;have h5:=wW s;have h6:=Oo (kG s) nm t ht
 have h7:(dS t.attrs).length+t.name.length≤wt t:=by
  by_cases k1:t.kind=1
  ·have hd:=(h6.tag (.inl k1)).2
   obtain⟨k,nm2,at_,d,sf⟩:=t;simp only at k1 hd;subst k1;subst hd;rw[MC];simp only[jG,List.length_append];omega
  ·have ha:=(h6.start k1).1
   have hsf:=(h6.start k1).2
   by_cases k2:t.kind=2
   ·have hd:=(h6.tag (.inr k2)).2
    obtain⟨k,nm2,at_,d,sf⟩:=t;simp only at k2 ha hd hsf;subst k2;subst ha;subst hd;subst hsf;rw[wt_k2];simp only[jG,List.length_append,dS,List.flatMap_nil,List.length_nil];omega
   ·rw[ha,h6.other k1 k2]
    simp[dS]
 omega
end Go.Proofs.aj.W7
namespace Go.Proofs.aj.W7
open Go.RowKit Go.Proofs.ah.aD Go.Proofs.ah.bG Go.Proofs.ah.bR
attribute [local go_sem] dD dF dV dW bU bV dG dH
def dJ.f(l0:List (S34)):Option (Bt):=(fK.f l0 (-1)).bind fun t636=>(some t636)
theorem dJ.calls(A0:Option Addr)(c0:Nat)(l0:List (S34))(r:Bt)(w:World)(hr0:Kd.C k34 w A0 l0.length l0)(hc0:l0.length≤c0)(h:dJ.f l0=some r)(hS_:Go.Proofs.YtkcmghlhpbepcaaGreatDoor.Std w):
 Calls Tryz.prog 42 #[.slice A0 l0.length c0] w fun e w'=>e=.returned (.string r)∧Below w.heap.size w w':=by
 have HS_:=ak.mk hS_;clear hS_;have HR0:=ak.mk hr0;have HC0:=ak.mk hc0;clear hr0 hc0;have HB:=ak.mk (Below.refl w.heap.size w);have H:((fK.f l0 (-1)).bind fun t636=>(some t636))=some r:=h;clear h;replace H:=Option.bind_eq_some_iff.mp H;obtain⟨t636,A20,H⟩:=H;replace H:(some t636)=some r:=H;have A2:=ak.mk A20;clear A20;obtain rfl:=Option.some.inj H;go_enter Tryz.func42,Tryz.ntmps42
 go_wp2_with(first|((with_reducible refine aZ (f:=90) rfl ?_);refine dO (some 4) rfl rfl Tryz.func90 (by kernel_rfl) rfl #[.slice A0 l0.length c0,.int .i64 (-1)] rfl q'a ?_;(with_reducible refine(fK.calls _ _ l0 (-1) t636 _ ?dz ?dA A2.out (Go.Proofs.YtkcmghlhpbepcaaGreatDoor.Std.below HS_.out bz)).mono ?_);(case dz=>repeat(first|exact HR0.out|(with_reducible refine Kd.nA ?_ _)|(with_reducible refine Kd.nW ?_ _)|(with_reducible refine Kd.qB ?_)));(case dA=>exact HC0.out);rintro e w3 ⟨rfl,hb⟩;refine⟨_,rfl,?_⟩;replace HB:=ak.mk (aG bz hb);(try clear hb);(try clear hb2);(try clear hk);(try clear hi)))
 go_ret;exact⟨by first|rfl|(simp[aJ,aM]<;>rfl)|(simp[*,aJ,aM]<;>rfl),bz⟩
theorem eqA36(d:Nat)(w:World)(x0 y0 x1 y1:Bt):
 (Op.equalIn (d+2) 36 (.agg #[.string x0,.string x1]) (.agg #[.string y0,.string y1])).run Tryz.prog w=.ok (x0.toList==y0.toList&&(x1.toList==y1.toList)) w:=by
 refine eqA_of Tryz.underlying36 (by kernel_rfl) ?_;refine eqf_cons (by rfl) (by go_simp;rfl) (by go_simp;rfl) (by go_simp) ?_;exact eqf_last (by rfl) (by go_simp;rfl) (by go_simp;rfl) (by go_simp)
end Go.Proofs.aj.W7
namespace Go.Proofs.aj.W7
open Go.RowKit Go.Proofs.ah.aD Go.Proofs.ah.bG Go.Proofs.ah.bR
attribute [local go_sem] dD dF dV dW bU bV dG dH
attribute [local go_sem high] eqA36
def gQ.l0:Nat→List (S36)→List (S36)→Int→Int→Option (Bool)
 |0,_,_,_,_=>none
 |k+1,x0,x1,x10,x11=>if x11<x10 then(if 0≤x11 then(if x11<(x0.length:Int)then(if x11<(x1.length:Int)then(if(!((((bg x0 x11).f0).toList)==(((bg x1 x11).f0).toList))||(!((((bg x0 x11).f1).toList)==(((bg x1 x11).f1).toList))))=true then(some false)else(gQ.l0 k x0 x1 x10 (wrap64 (x11+1))))else(none))else(none))else(none))else(some ((x0.length:Int)==(x1.length:Int)))
def gQ.f(k:Nat)(l0 l1:List (S36)):Option (Bool):=gQ.l0 k l0 l1 (mn (l0.length:Int) (l1.length:Int)) 0
theorem gQ.calls(k:Nat)(A0:Option Addr)(c0:Nat)(l0:List (S36))(A1:Option Addr)(c1:Nat)(l1:List (S36))(r:Bool)(w:World)(hr0:Kd.C k36 w A0 l0.length l0)(hc0:l0.length≤c0)(hr1:Kd.C k36 w A1 l1.length l1)(hc1:l1.length≤c1)(h:gQ.f k l0 l1=some r):
 Calls Tryz.prog 88 #[.slice A0 l0.length c0,.slice A1 l1.length c1] w fun e w'=>e=.returned (.bool r)∧Below w.heap.size w w':=by
 have hu36:=Tryz.underlying36;have HR0:=ak.mk hr0;have HC0:=ak.mk hc0;clear hr0 hc0;have HR1:=ak.mk hr1;have HC1:=ak.mk hc1;clear hr1 hc1;have HB:=ak.mk (Below.refl w.heap.size w);have H:(gQ.l0 k l0 l1 (mn (l0.length:Int) (l1.length:Int)) 0)=some r:=h;clear h;obtain⟨ji3,hji3⟩:∃j_:Int,(mn (l0.length:Int) (l1.length:Int))=j_:=⟨_,rfl⟩
 replace H:(gQ.l0 k l0 l1 ji3 0)=some r:=by first|(rw[hji3]at H;exact H)|(simp only[hji3]at H⊢;exact H)
 (try(have hji3l:0≤ji3:=by(rw[←hji3];unfold mn;(repeat' split)<;>omega)))
 (try(have hji3m:0≤ji3:=by omega))
 have hji3_:(if(l1.length:Int)<(l0.length:Int)then(l1.length:Int)else(l0.length:Int))=ji3:=hji3;have hji3_n:(if l1.length<l0.length then(l1.length:Int)else(l0.length:Int))=ji3:=by(first|(simpa only[Int.ofNat_lt]using hji3_)|(simpa using hji3_))
 have H':=ak.mk H;clear H;go_enter Tryz.func88,Tryz.ntmps88;go_wp2
 repeat(go_quiet (fail);try go_wp2)
 go_loopg [11] k (fun kq v11 w'=>∃(jw:Int),v11=.int .i64 jw∧ak (gQ.l0 kq l0 l1 ji3 jw=some r)∧ak (kq≤k)∧ak (Below w.heap.size w w'))
 case atStart=>exact⟨(0),q'c,H',⟨Nat.le_refl _⟩,⟨bz⟩⟩
 case round=>
  clear H'
  try clear c1
  try clear p2
  obtain⟨jw,rfl,HA,HK1,HB⟩:=hrel;cases gk with
  |zero=>exact absurd HA.out (by simp[gQ.l0])
  |succ k1=>
   have H:=HA.out;clear HA;simp only[gQ.l0]at H
   by_cases c4:jw<ji3
   ·rw[if_pos c4]at H
    have nN:decide (jw<ji3)=true:=decide_eq_true c4;clear c4
    by_cases c5:0≤jw
    ·rw[if_pos c5]at H
     have xD:decide (0≤jw)=true:=decide_eq_true c5;clear c5
     by_cases c6:jw<(l0.length:Int)
     ·rw[if_pos c6]at H
      have AA:decide (jw<(l0.length:Int))=true:=decide_eq_true c6;clear c6
      by_cases c7:jw<(l1.length:Int)
      ·rw[if_pos c7]at H
       have c7b0:decide (jw<(l1.length:Int))=true:=decide_eq_true c7;clear c7
       by_cases c8:(!((((bg l0 jw).f0).toList)==(((bg l1 jw).f0).toList))||(!((((bg l0 jw).f1).toList)==(((bg l1 jw).f1).toList))))=true
       ·rw[if_pos c8]at H
        have zh:(!((((bg l0 jw).f0).toList)==(((bg l1 jw).f0).toList))||(!((((bg l0 jw).f1).toList)==(((bg l1 jw).f1).toList))))=true:=c8;clear c8;obtain rfl:=Option.some.inj H;have p101:0≤(jw:Int):=q'b;have q101:jw<(l0.length:Int):=q'b;obtain⟨ad101,e101,vB,vC⟩:=l7 HR0.out jw p101 q101;cases e101;replace vB:=(HB.out.cell (World.block_lt_of_cell? w _ vB)).trans vB;replace vC:=(HB.out.cell (World.block_lt_of_cell? w _ vC)).trans vC;replace p101:=eq_true p101;replace q101:=eq_true q101;have p102:0≤(jw:Int):=q'b;have q102:jw<(l1.length:Int):=q'b;obtain⟨ad102,e102,vD,vE⟩:=l7 HR1.out jw p102 q102;cases e102;replace vD:=(HB.out.cell (World.block_lt_of_cell? w _ vD)).trans vD;replace vE:=(HB.out.cell (World.block_lt_of_cell? w _ vE)).trans vE;replace p102:=eq_true p102;replace q102:=eq_true q102;go_wp2
        repeat(go_quiet (fail);try go_wp2)
        go_ret;exact⟨by first|rfl|(simp[aJ,aM]<;>rfl)|(simp only[←hji3];first|rfl|(simp[aJ,aM]<;>rfl))|(simp[*,aJ,aM]<;>rfl),bz⟩
       ·rw[if_neg c8]at H
        have zh:(!((((bg l0 jw).f0).toList)==(((bg l1 jw).f0).toList))||(!((((bg l0 jw).f1).toList)==(((bg l1 jw).f1).toList))))=false:=by simpa using c8
        clear c8;have H':=ak.mk H;clear H;have p101:0≤(jw:Int):=q'b;have q101:jw<(l0.length:Int):=q'b;obtain⟨ad101,e101,vB,vC⟩:=l7 HR0.out jw p101 q101;cases e101;replace vB:=(HB.out.cell (World.block_lt_of_cell? w _ vB)).trans vB;replace vC:=(HB.out.cell (World.block_lt_of_cell? w _ vC)).trans vC;replace p101:=eq_true p101;replace q101:=eq_true q101;have p102:0≤(jw:Int):=q'b;have q102:jw<(l1.length:Int):=q'b;obtain⟨ad102,e102,vD,vE⟩:=l7 HR1.out jw p102 q102;cases e102;replace vD:=(HB.out.cell (World.block_lt_of_cell? w _ vD)).trans vD;replace vE:=(HB.out.cell (World.block_lt_of_cell? w _ vE)).trans vE;replace p102:=eq_true p102;replace q102:=eq_true q102;go_wp2
        repeat(go_quiet (fail);try go_wp2)
        go_roundg k1
        case measure=>have:=HK1.out;omega
        case rel=>exact⟨(wrap64 (jw+1)),q'c,H',⟨by have:=HK1.out;omega⟩,⟨bz⟩⟩
      ·rw[if_neg c7]at H
       exact absurd H (by simp)
     ·rw[if_neg c6]at H
      exact absurd H (by simp)
    ·rw[if_neg c5]at H
     exact absurd H (by simp)
   ·rw[if_neg c4]at H
    have nN:decide (jw<ji3)=false:=decide_eq_false c4;clear c4;obtain rfl:=Option.some.inj H;go_wp2
    repeat(go_quiet (fail);try go_wp2)
    go_ret;exact⟨by first|rfl|(simp[aJ,aM]<;>rfl)|(simp only[←hji3];first|rfl|(simp[aJ,aM]<;>rfl))|(simp[*,aJ,aM]<;>rfl),bz⟩
end Go.Proofs.aj.W7
