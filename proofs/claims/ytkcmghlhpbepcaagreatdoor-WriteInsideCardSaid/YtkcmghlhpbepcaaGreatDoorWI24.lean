/- Lemmas and walks, part 24. -/
import Derived.Test.YtkcmghlhpbepcaaGreatDoorWI23
set_option linter.unusedVariables false
set_option linter.unusedSimpArgs false
set_option maxHeartbeats 8000000
set_option maxRecDepth 100000
namespace Go.Proofs.aj.W7
open Go.RowKit Go.Proofs aj YtkcmghlhpbepcaaGreatDoor ah.aD YtkcmghlhpbepcaaGreatDoor.Ch
def rsB(n:Txt):Bool:=kX n||kV n
def InnRow(x:Rw)(r:List Rw):Prop:=x.f1=0→rsB x.f2.data.toList=true→jq x.f2=false∧
 (Shut x.f0 r∨∃y r',r=y::r'∧y.f1=1∧y.f0=x.f0+1∧(kX x.f2.data.toList=true→H8 x.f2.data.toList y.f3.data.toList)∧Shut x.f0 r')
def Inn:List Rw→Prop
 | []=>True
 |x::r=>InnRow x r∧Inn r
structure sG (x:Rw):Prop where
 start:x.f1=0→sD x.f2.data.toList (x.f4.map lV)
 note:x.f1=2→tN x.f3.data.toList
 cln:QE x
 sz:(dY (x.f4.map lV)).length+x.f2.data.toList.length≤1000000
def ToksFine(L:List Tok):Prop:=∀t∈L,Ed t∧(dY t.attrs).length+t.name.length≤1000000
theorem Ee:∀(r:List Rw),Inn r→(∀x∈r,sG x)→zD r
 | [],_,_=>trivial
 |x::r,h,hb=>by
  have h1:=hb x (by simp);exact⟨⟨h1.start,h1.note,fun k hr=>h.1 k hr⟩,Ee r h.2 (fun y hy=>hb y (by simp[hy]))⟩
structure Next (out:List Rw) (z:Rw):Prop where
 void:z.f1=0→rsB z.f2.data.toList=true→jq z.f2=false
 one:∀pre x,out=pre++[x]→x.f1=0→rsB x.f2.data.toList=true→z.f0≤x.f0∨(z.f1=1∧z.f0=x.f0+1∧(kX x.f2.data.toList=true→H8 x.f2.data.toList z.f3.data.toList))
 two:∀pre x y,out=pre++[x,y]→x.f1=0→rsB x.f2.data.toList=true→y.f1=1→y.f0=x.f0+1→z.f0≤x.f0
theorem Next.tail{x:Rw}{r:List Rw}{z:Rw}(h:Next (x::r) z):Next r z:=
 ⟨h.void,fun pre y e=>h.one (x::pre) y (by rw[e];rfl),fun pre y y2 e=>h.two (x::pre) y y2 (by rw[e];rfl)⟩
theorem O6:∀(out:List Rw) (z:Rw),Inn out→Next out z→Inn (out++[z])
 | [],z,_,hn=>⟨fun k hr=>⟨hn.void k hr,.inl trivial⟩,trivial⟩
 |x::r,z,h,hn=>by
  refine⟨fun k hr=>?_,O6 r z h.2 hn.tail⟩;obtain⟨hv,hin⟩:=h.1 k hr;refine⟨hv,?_⟩;cases r with
  |nil=>
   rcases hn.one [] x rfl k hr with g|⟨g1,g2,g3⟩
   ·exact .inl g
   ·exact .inr ⟨z,[],rfl,g1,g2,g3,trivial⟩
  |cons y r2=>
   rcases hin with g|⟨y',r',e,g1,g2,g3,g4⟩
   ·exact .inl g
   ·obtain⟨rfl,rfl⟩:=List.cons.inj e
    refine .inr ⟨y,r2++[z],rfl,g1,g2,g3,?_⟩;cases r2 with
    |nil=>exact hn.two [] x y rfl k hr g1 g2
    |cons a b=>exact g4
theorem Ml:∀(a b:List Rw),Inn (a++b)→Inn a
 | [],_,_=>trivial
 |x::r,b,h=>by
  refine⟨fun k hr=>?_,Ml r b h.2⟩;obtain⟨hv,hin⟩:=h.1 k hr;refine⟨hv,?_⟩;cases r with
  |nil=>exact .inl trivial
  |cons y r2=>
   rcases hin with g|⟨y',r',e,g1,g2,g3,g4⟩
   ·exact .inl g
   ·obtain⟨rfl,rfl⟩:=List.cons.inj e
    refine .inr ⟨y,r2,rfl,g1,g2,g3,?_⟩;cases r2 with
    |nil=>trivial
    |cons a b=>exact g4
theorem Mq:∀(pre:List Rw) (x:Rw) (r:List Rw),Inn (pre++x::r)→InnRow x r
 | [],_,_,h=>h.1
 |_::pre,x,r,h=>Mq pre x r h.2
structure Safe (op:List Bt) (out:List Rw):Prop where
 one:∀pre x,out=pre++[x]→x.f1=0→rsB x.f2.data.toList=true→(op.length:Int)≤x.f0
 two:∀pre x y,out=pre++[x,y]→x.f1=0→rsB x.f2.data.toList=true→y.f1=1→y.f0=x.f0+1→(op.length:Int)≤x.f0
theorem Safe.less{op op2:List Bt}{out:List Rw}(h:Safe op out)(hl:op2.length≤op.length):Safe op2 out:=
 ⟨fun pre x e k hr=>by have:=h.one pre x e k hr;omega,fun pre x y e k hr k2 k3=>by have:=h.two pre x y e k hr k2 k3;omega⟩
theorem Safe.next{op:List Bt}{out:List Rw}(h:Safe op out){z:Rw}(hz:z.f0≤op.length)(hv:z.f1=0→rsB z.f2.data.toList=true→jq z.f2=false):Next out z:=
 ⟨hv,fun pre x e k hr=>.inl (by have:=h.one pre x e k hr;omega),fun pre x y e k hr k2 k3=>by have:=h.two pre x y e k hr k2 k3;omega⟩
theorem wH{pre out:List Rw}{x y z:Rw}(e:out++[z]=pre++[x,y]):y=z∧out=pre++[x]:=by
 have e2:out++[z]=(pre++[x])++[y]:=by rw[e];simp
 obtain⟨h1,h2⟩:=List.append_inj' e2 rfl;exact⟨(List.cons.inj h2).1.symm,h1⟩
theorem rJ{pre out:List Rw}{x z:Rw}(e:out++[z]=pre++[x]):x=z∧out=pre:=by
 obtain⟨h1,h2⟩:=List.append_inj' e rfl;exact⟨(List.cons.inj h2).1.symm,h1⟩
theorem Safe.plain{op:List Bt}{out:List Rw}(h:Safe op out){z:Rw}(hz:z.f0≤op.length)(hr:z.f1=0→rsB z.f2.data.toList=false):Safe op (out++[z]):=by
 refine⟨fun pre x e k g=>?_,fun pre x y e k g k2 k3=>?_⟩
 ·obtain⟨rfl,-⟩:=rJ e
  rw[hr k]at g;cases g
 ·obtain⟨rfl,rfl⟩:=wH e
  have:=h.one pre x rfl k g;omega
structure Rows (out:List Rw):Prop where
 inn:Inn out
 base:∀x∈out,sG x
theorem Rows.add{out:List Rw}{z:Rw}(h:Rows out)(hn:Next out z)(hb:sG z):Rows (out++[z]):=
 ⟨O6 out z h.inn hn,fun x hx=>by
  rcases List.mem_append.1 hx with hx|hx
  ·exact h.base x hx
  ·rw[List.mem_singleton.1 hx];exact hb⟩
structure Pend (op:List Bt) (out:List Rw) (L:List Tok) (op':List Bt) (n:Bt):Prop where
 op:op=op'++[n]
 ok:n.data.toList≠[]∧mo n=false∧jq n=false
 shut:Closed n.data.toList L
 safe:Safe op' out
def State(op:List Bt)(out:List Rw)(L:List Tok):Prop:=Safe op out∨∃op' n,Pend op out L op' n
theorem IJ:∀l:Txt,rsB l=true→l≠[]∧mo ⟨l.toArray⟩=false∧jq ⟨l.toArray⟩=false:=by
 have key:∀l∈Ep++GD,l≠[]∧mo ⟨l.toArray⟩=false∧jq ⟨l.toArray⟩=false:=by
  intro l hl;rw[goneL_eq,Ip]
  revert l
  decide +kernel
 intro l h;refine key l ?_;unfold rsB kX kV inB at h;rw[Bool.or_eq_true,List.contains_iff_mem,List.contains_iff_mem]at h;exact List.mem_append.2 h
theorem yH{op:List Bt}{out:List Rw}{x:Rw}(h:(kN op out false x).2=false):(kN op out false x).1=out++[⟨(op.length:Int),x.f1,x.f2,x.f3,x.f4⟩]:=by
 unfold kN at h⊢
 split
 ·rename_i g
  rw[if_pos g]at h;cases h
 ·rfl
theorem yI:Cln (⟨#[]⟩:Bt).data.toList:=iA
theorem J6{d:Int}{s:Bt}(h:Cln s.data.toList):sG ⟨d,1,⟨#[]⟩,s,[]⟩:=⟨fun k=>by simp at k,fun k=>by simp at k,⟨yI,h,by simp⟩,by simp[dY]⟩
theorem U5{d:Int}{s:Bt}(hn:tN s.data.toList)(h:Cln s.data.toList):sG ⟨d,2,⟨#[]⟩,s,[]⟩:=⟨fun k=>by simp at k,fun _=>hn,⟨yI,h,by simp⟩,by simp[dY]⟩
theorem QF{d:Int}{nm:Txt}{l:List (Txt×Txt)}(h:sD nm l)(h1:Cln nm)(h2:∀a∈l,Cln a.1∧Cln a.2)(hz:(dY l).length+nm.length≤1000000):sG ⟨d,0,⟨nm.toArray⟩,⟨#[]⟩,ny (l.map pairT)⟩:=by
 have hd:distinct (l.map pairT):=by
  intro i j hi hj e;rw[List.length_map]at hi hj;rw[List.getElem_map,List.getElem_map]at e
  have e2:(l.map Prod.fst)[i]'(by rw[List.length_map];exact hi)=(l.map Prod.fst)[j]'(by rw[List.length_map];exact hj):=by
   rw[List.getElem_map,List.getElem_map];rw[Lib.toList_data,Lib.toList_data]at e;exact e
  exact(List.getElem_inj h.once).1 e2
 have hm:∀a∈ny (l.map pairT),∃b∈l,pairT b=a:=fun a ha=>List.mem_map.1 (once_mem ha)
 refine⟨fun _=>⟨h.name,fun a ha=>?_,O4 (vI _ [] yG)⟩,fun k=>by simp at k,⟨h1,yI,fun a ha=>?_⟩,?_⟩
 ·obtain⟨c,hc,rfl⟩:=List.mem_map.1 ha
  obtain⟨b,hb,rfl⟩:=hm c hc;exact h.attrs b hb
 ·obtain⟨b,hb,rfl⟩:=hm a ha
  exact h2 b hb
 ·show(dY ((ny (l.map pairT)).map lV)).length+nm.length≤1000000
  rw[O1 hd,Gx];exact hz
theorem J7{op:List Bt}{out:List Rw}{d:Txt}(hR:Rows out)(hS:Safe op out)(hc:Cln d)(hb:(aj.W7.gT op out false ⟨d.toArray⟩).2=false):Rows (aj.W7.gT op out false ⟨d.toArray⟩).1∧Safe op (aj.W7.gT op out false ⟨d.toArray⟩).1:=by
 unfold aj.W7.gT at hb⊢
 by_cases e:(⟨d.toArray⟩:Bt).data.toList=[]
 ·rw[if_pos e];exact⟨hR,hS⟩
 rw[if_neg e]at hb⊢;cases hj:nu op out with
 |false=>
  rw[hj,if_neg (by decide)]at hb;rw[if_neg (by decide),yH hb];exact⟨hR.add (hS.next (Int.le_refl _) (fun k=>by simp at k)) (J6 hc),hS.plain (Int.le_refl _) (fun k=>by simp at k)⟩
 |true=>
  rw[if_pos rfl];unfold nu at hj;cases hL:out.getLast? with
  |none=>rw[hL]at hj;cases hj
  |some y=>
   rw[hL]at hj;simp only[Bool.and_eq_true,decide_eq_true_eq]at hj;have hpos:0<out.length:=by cases out with|nil=>cases hL|cons a l=>simp
   have hr:=CX out hpos;rw[hL]at hr;rw[←Option.some.inj hr];obtain⟨pre,rfl⟩:=List.getLast?_eq_some_iff.1 hL;have e2:(pre++[y]).set ((pre++[y]).length - 1) (vQ y ⟨d.toArray⟩)=pre++[vQ y ⟨d.toArray⟩]:=by simp
   show Rows ((pre++[y]).set ((pre++[y]).length - 1) (vQ y ⟨d.toArray⟩))∧Safe op ((pre++[y]).set ((pre++[y]).length - 1) (vQ y ⟨d.toArray⟩));rw[e2]
   have hle:∀p2 x,pre=p2++[x]→x.f1=0→rsB x.f2.data.toList=true→y.f0≤x.f0:=by
    rintro p2 x rfl k g;have h1:=Mq p2 x [y] (by simpa using hR.inn) k g
    rcases h1.2 with h2|⟨y',r',e3,g1,g2,g3,g4⟩
    ·exact h2
    ·obtain⟨rfl,rfl⟩:=List.cons.inj e3
     have:=hS.two p2 x y (by simp) k g hj.1 g2;omega
   have hyb:=hR.base y (by simp)
   have hn:Next pre (vQ y ⟨d.toArray⟩):=by
    refine⟨fun k=>?_,fun p2 x e3 k g=>.inl (hle p2 x e3 k g),fun p2 x y0 e3 k g k2 k3=>?_⟩
    ·have:y.f1=0:=k
     omega
    ·subst e3
     have h1:=Mq p2 x [y0,y] (by simpa using hR.inn) k g
     rcases h1.2 with h2|⟨y',r',e4,g1,g2,g3,g4⟩
     ·have h3:y0.f0≤x.f0:=h2
      omega
     ·obtain⟨rfl,rfl⟩:=List.cons.inj e4
      exact g4
   have hRp:Rows pre:=⟨Ml pre [y] hR.inn,fun x hx=>hR.base x (by simp[hx])⟩;refine⟨hRp.add hn ⟨fun k=>?_,fun k=>?_,⟨hyb.cln.name,?_,hyb.cln.attrs⟩,hyb.sz⟩,⟨fun p2 x e3 k g=>?_,fun p2 x y2 e3 k g k2 k3=>?_⟩⟩
   ·have:y.f1=0:=k
    omega
   ·have:y.f1=2:=k
    omega
   ·show Cln (y.f3++⟨d.toArray⟩).data.toList
    rw[Io];exact jJ hyb.cln.data hc
   ·obtain⟨rfl,-⟩:=rJ e3
    have:y.f1=0:=k;omega
   ·obtain⟨rfl,e4⟩:=wH e3
    have h1:=hle p2 x e4 k g;have h2:y.f0=x.f0+1:=k3;omega
theorem U6{op:List Bt}{out:List Rw}{s:Bt}(hR:Rows out)(hS:Safe op out)(hn:tN s.data.toList)(hc:Cln s.data.toList)(hb:(kN op out false ⟨0,2,⟨#[]⟩,s,[]⟩).2=false):Rows (kN op out false ⟨0,2,⟨#[]⟩,s,[]⟩).1∧Safe op (kN op out false ⟨0,2,⟨#[]⟩,s,[]⟩).1:=by
 rw[yH hb];exact⟨hR.add (hS.next (Int.le_refl _) (fun k=>by simp at k)) (U5 hn hc),hS.plain (Int.le_refl _) (fun k=>by simp at k)⟩
theorem IK(op:List Bt)(nm:Bt):(gH op nm).length≤op.length:=by
 unfold gH oW
 split
 ·exact Nat.le_trans (sZ _ _ _ _) (sZ _ _ _ _)
 ·exact sZ _ _ _ _
theorem Bv{op:List Bt}{out:List Rw}{nm:Txt}{l:List (Txt×Txt)}(hR:Rows out)(hS:Safe op out)(hs:sD nm l)(h1:Cln nm)(h2:∀a∈l,Cln a.1∧Cln a.2)(hz:(dY l).length+nm.length≤1000000)(hb:(kP op out false ⟨nm.toArray⟩ (l.map pairT)).2.2=false):
 ((kP op out false ⟨nm.toArray⟩ (l.map pairT)).1=op∧(kP op out false ⟨nm.toArray⟩ (l.map pairT)).2.1=out)∨∃(op2:List Bt) (z:Rw),op2.length≤op.length∧z.f0=(op2.length:Int)∧z.f1=0∧z.f2=⟨nm.toArray⟩∧Rows (out++[z])∧
   (kP op out false ⟨nm.toArray⟩ (l.map pairT)).1=(if jq ⟨nm.toArray⟩then op2 else op2++[⟨nm.toArray⟩])∧(kP op out false ⟨nm.toArray⟩ (l.map pairT)).2.1=out++[z]:=by
 unfold kP at hb⊢
 by_cases e1:(⟨nm.toArray⟩:Bt).data.toList=[]
 ·rw[if_pos e1];exact .inl ⟨rfl,rfl⟩
 rw[if_neg e1]at hb⊢;cases e2:mo ⟨nm.toArray⟩with
 |true=>rw[if_pos rfl];exact .inl ⟨rfl,rfl⟩
 |false=>
  rw[e2,if_neg (by decide)]at hb;rw[if_neg (by decide)];have hl:=yH hb;refine .inr ⟨gH op ⟨nm.toArray⟩,⟨((gH op ⟨nm.toArray⟩).length:Int),0,⟨nm.toArray⟩,⟨#[]⟩,ny (l.map pairT)⟩,IK _ _,rfl,rfl,rfl,?_,rfl,hl⟩;exact hR.add ((hS.less (IK _ _)).next (Int.le_refl _) (fun _ g=>(IJ nm g).2.2)) (QF hs h1 h2 hz)
theorem end_step{op:List Bt}{out:List Rw}{n:Bt}(hR:Rows out)(hS:Safe op out)(hb:(aj.W7.iL op out false n).2.2=false):Rows (aj.W7.iL op out false n).2.1∧Safe (aj.W7.iL op out false n).1 (aj.W7.iL op out false n).2.1:=by
 unfold aj.W7.iL at hb⊢
 by_cases e1:n.data.toList=[]
 ·rw[if_pos e1];exact⟨hR,hS⟩
 rw[if_neg e1]at hb⊢
 by_cases e2:mo n=true
 ·rw[if_pos e2];exact⟨hR,hS⟩
 rw[if_neg e2]at hb⊢
 by_cases e3:jq n=true
 ·rw[if_pos e3];exact⟨hR,hS⟩
 rw[if_neg e3]at hb⊢
 by_cases e4:0≤dS op [n] (zZ n) op.length
 ·rw[if_pos e4];exact⟨hR,hS.less (by rw[List.length_take];omega)⟩
 rw[if_neg e4]at hb⊢
 by_cases e5:n.data.toList=[112]
 ·rw[if_pos e5]at hb⊢
  have hl:=yH hb;show Rows (kN op out false ⟨0,0,n,⟨#[]⟩,[]⟩).1∧Safe op (kN op out false ⟨0,0,n,⟨#[]⟩,[]⟩).1;rw[hl];have hrs:rsB n.data.toList=false:=by rw[e5];decide
  have hst:sD n.data.toList []:=⟨⟨by rw[e5];decide,by rw[e5];decide,by rw[e5];decide⟩,by simp,by simp⟩;refine⟨hR.add (hS.next (Int.le_refl _) (fun _ g=>by have g:rsB n.data.toList=true:=g;rw[hrs]at g;cases g)) ⟨fun _=>hst,fun k=>by simp at k,⟨?_,yI,by simp⟩,by show(dY []).length+n.data.toList.length≤1000000;rw[e5];decide⟩,hS.plain (Int.le_refl _) (fun _=>hrs)⟩;show Cln n.data.toList;rw[e5];exact lH (by decide)
 ·rw[if_neg e5];exact⟨hR,hS⟩
theorem Dc(nm d:Txt)(l:List (Txt×Txt))(b:Bool)(op:List Bt)(out:List Rw):gI op out (kZ ⟨1,nm,l,d,b⟩)=kP op out false ⟨nm.toArray⟩ (l.map pairT):=by simp[gI,kZ]
theorem F9(d:Txt)(op:List Bt)(out:List Rw):gI op out (kZ ⟨0,[],[],d,false⟩)=(op,aj.W7.gT op out false ⟨d.toArray⟩):=by simp[gI,kZ]
theorem end_tk(nm:Txt)(op:List Bt)(out:List Rw):gI op out (kZ ⟨2,nm,[],[],false⟩)=aj.W7.iL op out false ⟨nm.toArray⟩:=by simp[gI,kZ]
theorem TK(d:Txt)(op:List Bt)(out:List Rw):gI op out (kZ ⟨3,[],[],d,false⟩)=(op,kN op out false ⟨0,2,⟨#[]⟩,⟨d.toArray⟩,[]⟩):=by simp[gI,kZ]
theorem doct_tk(d:Txt)(op:List Bt)(out:List Rw):gI op out (kZ ⟨4,[],[],d,false⟩)=(op,out,false):=by simp[gI,kZ]
theorem ng{t:Tk}{r:List Tk}{op:List Bt}{out o:List Rw}(h:jQ (t::r) op out=some o):(gI op out t).2.2=false∧jQ r (gI op out t).1 (gI op out t).2.1=some o:=by
 rw[jQ]at h;cases hb:(gI op out t).2.2 with
 |true=>rw[hb,if_pos rfl]at h;cases h
 |false=>rw[hb,if_neg (by decide)]at h;exact⟨rfl,h⟩
theorem pend_not{op op':List Bt}{out:List Rw}{t:Tok}{L:List Tok}{n:Bt}(h:Pend op out (t::L) op' n)(hk:t.kind≠2):False:=by
 rcases h.shut with e|⟨q,e⟩
 ·cases e
 ·rw[(List.cons.inj e).1]at hk
  exact hk rfl
theorem zV{op:List Bt}{out:List Rw}{t:Tok}{L:List Tok}(h:State op out (t::L))(hk:t.kind≠2):Safe op out:=by
 rcases h with h|⟨op',n,h⟩
 ·exact h
 ·exact(pend_not h hk).elim
theorem U7{L:List Tok}(hL:OT L):∀(op:List Bt) (out:List Rw),ToksFine L→Rows out→State op out L→∀o,jQ (L.map kZ) op out=some o→Rows o:=by
 induction hL with
 |nil=>
  intro op out _ hR _ o ho;obtain rfl:=Option.some.inj ho;exact hR
 | @text d r hd hr ih=>
   intro op out hC hR hst o ho;have hS:=zV hst (by simp);obtain⟨hb,h2⟩:=ng ho;rw[F9]at hb h2;obtain⟨a,b⟩:=J7 hR hS (hC _ (List.mem_cons_self ..)).1.data hb;exact ih _ _ (fun t ht=>hC t (by simp[ht])) a (.inl b) o h2
 | @start nm l b r hs hrs hr ih=>
   intro op out hC hR hst o ho;have hS:=zV hst (by simp);obtain⟨hb,h2⟩:=ng ho;rw[Dc]at hb h2;obtain⟨hc,hcz⟩:=hC _ (List.mem_cons_self ..)
   rcases Bv hR hS hs hc.name hc.attrs hcz hb with⟨e1,e2⟩|⟨op2,z,z1,z2,z3,z4,hR2,e1,e2⟩
   ·rw[e1,e2]at h2
    exact ih _ _ (fun t ht=>hC t (by simp[ht])) hR (.inl hS) o h2
   ·rw[e1,e2]at h2
    refine ih _ _ (fun t ht=>hC t (by simp[ht])) hR2 (.inl ?_) o h2
    have hn:z.f1=0→rsB z.f2.data.toList=true→False:=by
     intro _ g;rw[z4]at g;have g:rsB nm=true:=g;unfold rsB at g;rw[hrs]at g;cases g
    refine⟨fun pre x e k g=>?_,fun pre x y e k g k2 k3=>?_⟩
    ·obtain⟨rfl,-⟩:=rJ e
     exact(hn k g).elim
    ·obtain⟨rfl,-⟩:=wH e
     omega
 | @shut nm l b r hs hrs hcl hr ih=>
   intro op out hC hR hst o ho;have hS:=zV hst (by simp);obtain⟨hb,h2⟩:=ng ho;rw[Dc]at hb h2;obtain⟨hc,hcz⟩:=hC _ (List.mem_cons_self ..)
   rcases Bv hR hS hs hc.name hc.attrs hcz hb with⟨e1,e2⟩|⟨op2,z,z1,z2,z3,z4,hR2,e1,e2⟩
   ·rw[e1,e2]at h2
    exact ih _ _ (fun t ht=>hC t (by simp[ht])) hR (.inl hS) o h2
   ·obtain⟨g1,g2,g3⟩:=IJ nm hrs
    rw[g3,if_neg (by decide)]at e1;rw[e1,e2]at h2;refine ih _ _ (fun t ht=>hC t (by simp[ht])) hR2 (.inr ⟨op2,⟨nm.toArray⟩,rfl,⟨g1,g2,g3⟩,hcl,?_⟩) o h2;refine⟨fun pre x e k g=>?_,fun pre x y e k g k2 k3=>?_⟩
    ·obtain⟨rfl,-⟩:=rJ e
     omega
    ·obtain⟨rfl,-⟩:=wH e
     omega
 | @full nm l b d r hs hrs hd hraw hcl hr ih=>
   intro op out hC hR hst o ho;have hS:=zV hst (by simp);obtain⟨hb,h2⟩:=ng ho;rw[Dc]at hb h2;obtain⟨hc,hcz⟩:=hC _ (List.mem_cons_self ..);have hc2:=(hC ⟨0,[],[],d,false⟩ (by simp)).1
   rcases Bv hR hS hs hc.name hc.attrs hcz hb with⟨e1,e2⟩|⟨op2,z,z1,z2,z3,z4,hR2,e1,e2⟩
   ·rw[e1,e2]at h2
    obtain⟨hb3,h3⟩:=ng h2;rw[F9]at hb3 h3;obtain⟨a,c⟩:=J7 hR hS hc2.data hb3;exact ih _ _ (fun t ht=>hC t (by simp[ht])) a (.inl c) o h3
   ·obtain⟨g1,g2,g3⟩:=IJ nm hrs
    rw[g3,if_neg (by decide)]at e1;rw[e1,e2]at h2;obtain⟨hb3,h3⟩:=ng h2;rw[F9]at hb3 h3
    have hj:nu (op2++[⟨nm.toArray⟩]) (out++[z])=false:=by
     unfold nu;rw[List.getLast?_append];simp[z3]
    unfold aj.W7.gT at hb3 h3;have hd2:¬(⟨d.toArray⟩:Bt).data.toList=[]:=hd;rw[if_neg hd2,hj,if_neg (by decide)]at hb3 h3;have hl:=yH hb3;simp only at h3;rw[hl]at h3;have hlen:(op2++[(⟨nm.toArray⟩:Bt)]).length=op2.length+1:=by simp
    refine ih _ _ (fun t ht=>hC t (by simp[ht])) (hR2.add ⟨fun k=>by simp at k,fun pre x e k g=>.inr ⟨rfl,?_,?_⟩,fun pre x y e k g k2 k3=>?_⟩ (J6 hc2.data)) (.inr ⟨op2,⟨nm.toArray⟩,rfl,⟨g1,g2,g3⟩,hcl,?_⟩) o h3
    ·obtain⟨rfl,-⟩:=rJ e
     show((op2++[(⟨nm.toArray⟩:Bt)]).length:Int)=x.f0+1;rw[hlen];omega
    ·obtain⟨rfl,-⟩:=rJ e
     rw[z4];exact hraw
    ·obtain⟨rfl,-⟩:=wH e
     omega
    ·refine⟨fun pre x e k g=>?_,fun pre x y e k g k2 k3=>?_⟩
     ·obtain⟨rfl,-⟩:=rJ e
      simp at k
     ·obtain⟨-,e4⟩:=wH e
      obtain⟨rfl,-⟩:=rJ e4;omega
 | @shuts nm r hn hr ih=>
   intro op out hC hR hst o ho;obtain⟨hb,h2⟩:=ng ho;rw[end_tk]at hb h2
   rcases hst with hS|⟨op',n,hP⟩
   ·obtain⟨a,b⟩:=end_step hR hS hb
    exact ih _ _ (fun t ht=>hC t (by simp[ht])) a (.inl b) o h2
   ·rcases hP.shut with e|⟨q,e⟩
    ·cases e
    ·have en:nm=n.data.toList:=by
      have:=(List.cons.inj e).1;injection this
     have en2:(⟨nm.toArray⟩:Bt)=n:=by
      rw[en]
     rw[en2,hP.op,TF hP.ok]at h2;exact ih _ _ (fun t ht=>hC t (by simp[ht])) hR (.inl hP.safe) o h2
 | @note d r hn hr ih=>
   intro op out hC hR hst o ho;have hS:=zV hst (by simp);obtain⟨hb,h2⟩:=ng ho;rw[TK]at hb h2;obtain⟨a,b⟩:=U6 hR hS hn (hC _ (List.mem_cons_self ..)).1.data hb;exact ih _ _ (fun t ht=>hC t (by simp[ht])) a (.inl b) o h2
 | @doct d r hn hr ih=>
   intro op out hC hR hst o ho;have hS:=zV hst (by simp);obtain⟨hb,h2⟩:=ng ho;rw[doct_tk]at hb h2;exact ih _ _ (fun t ht=>hC t (by simp[ht])) hR (.inl hS) o h2
def opsOf:List Rw→List Bt→List Bt
 | [],op=>op
 |x::r,op=>opsOf r (opA (op.take x.f0.toNat) x)
theorem O7:∀(out:List Rw) (x:Rw) (op:List Bt) (o2:List Rw),RowsFit out op o2→D8 x (opsOf out op) (o2++out)→RowsFit (out++[x]) op o2
 | [],x,op,o2,_,h=>⟨by rw[List.append_nil]at h;exact h,trivial⟩
 |y::r,x,op,o2,h,hx=>⟨h.1,O7 r x _ _ h.2 (by rw[List.append_assoc];exact hx)⟩
theorem O8:∀(out:List Rw) (x:Rw) (op:List Bt),opsOf (out++[x]) op=opA ((opsOf out op).take x.f0.toNat) x
 | [],x,op=>rfl
 |y::r,x,op=>O8 r x _
def unv(st:List Bt):List Bt:=match st.getLast? with|some n=>if jq n then st.dropLast else st|none=>st
theorem nil_of{b:Bt}(h:b.data.toList=[]):b=⟨#[]⟩:=by
 obtain⟨⟨l⟩⟩:=b;have:l=[]:=h;rw[this]
theorem fit_laws{out:List Rw}{st:List Bt}(h:Laws out st):Bh none out=true→(∀x∈out,x.f0<60)→out.length≤4096→RowsFit out [] []∧opsOf out []=unv st:=by
 induction h with
 |nil=>intro _ _ _;exact⟨trivial,rfl⟩
 |snoc out st x h hx ih=>
  intro hj hd hl;rw[List.length_append,List.length_singleton]at hl;rw[CY,Bool.and_eq_true]at hj;obtain⟨i1,i2⟩:=ih hj.1 (fun y hy=>hd y (by simp[hy])) (by omega);have hlo:=hx.lo;have hhi:=hx.hi
  have htk:(unv st).take x.f0.toNat=st.take x.f0.toNat∧x.f0≤(unv st).length:=by
   unfold unv;cases hg:st.getLast? with
   |none=>exact⟨rfl,hhi⟩
   |some n=>
    simp only;cases hv:jq n with
    |false=>exact⟨rfl,hhi⟩
    |true=>
     rw[if_pos rfl];obtain⟨ys,rfl⟩:=List.getLast?_eq_some_iff.1 hg;rw[List.dropLast_concat];rw[List.length_append,List.length_singleton]at hhi
     have hne:x.f0≠((ys.length+1:Nat):Int):=by
      intro e;have:=hx.void n (by rw[e,Int.toNat_natCast,List.take_of_length_le (by simp),List.getLast?_append];rfl);rw[hv]at this;cases this
     refine⟨?_,by omega⟩;rw[List.take_append_of_le_length (by omega)]
  have hdl:yK out.getLast? x=false:=by
   have:=hj.2;cases out with
   |nil=>simpa [Bh]using this
   |cons a b=>simpa [Bh]using this
  have hfit:D8 x (unv st) out:=by
   refine⟨hlo,htk.2,hd x (by simp),by omega,hx.ok.kind,fun k=>?_,fun k=>?_,fun k=>?_⟩
   ·obtain⟨a1,a2,a3⟩:=hx.ok.el k
    obtain⟨b1,b2⟩:=hx.nest k;exact⟨a1,b2,by rw[htk.1];exact b1,nil_of a2,O1 a3⟩
   ·obtain⟨a1,a2⟩:=hx.ok.no k
    exact⟨nil_of a1,a2⟩
   ·unfold yK at hdl
    rw[k]at hdl;simp only[decide_true,Bool.true_and,Bool.or_eq_false_iff,decide_eq_false_iff_not]at hdl;refine⟨hdl.1,?_⟩;have hlen:((unv st).take x.f0.toNat).length=x.f0.toNat:=by rw[List.length_take];omega
    unfold nu;rw[hlen];have h2:=hdl.2;cases hg:out.getLast? with
    |none=>rfl
    |some y=>
     rw[hg]at h2;simp only[Bool.and_eq_false_iff,decide_eq_false_iff_not]at h2⊢
     rcases h2 with h2|h2
     ·exact .inl h2
     ·exact .inr (by omega)
  refine⟨O7 out x [] [] i1 (by rw[i2];exact hfit),?_⟩;rw[O8,i2,htk.1];unfold after opA unv
  by_cases k:x.f1=0
  ·rw[if_pos k,List.getLast?_append]
   simp only[List.getLast?_singleton,Option.some_or,k,true_and];cases hv:jq x.f2 with
   |true=>simp
   |false=>simp
  ·rw[if_neg k,if_neg (by simp[k])]
   cases hg:(st.take x.f0.toNat).getLast? with
   |none=>rfl
   |some n=>
    simp only;rw[hx.void n hg,if_neg (by decide)]
theorem parsed(s nm:Txt)(hs:s.length≤10000)(o:List Rw)(h:jQ (uY s nm) [] []=some o):RowsFit o [] []∧(OT (inL (j5 s) nm)→Rows o)∧(∃op,Built op o (oL (uY s nm))∧∀x∈o,x.f4.length≤80 * s.length):=by
 obtain⟨h1,h2⟩:=Bj s nm (by omega);obtain⟨op,hB,hA⟩:=OP (uY s nm) (by omega) (80 * s.length) (fun t ht=>⟨h2 t ht,by omega⟩) o h;obtain⟨st,hl⟩:=UR _ o h;refine⟨(fit_laws hl hB.normal (fun x hx=>(hB.depth x hx).2) hB.len).1,fun hg=>?_,op,hB,hA⟩;refine U7 hg [] [] (fun t ht=>⟨in_cln nm (U8 s) t ht,?_⟩) ⟨trivial,by simp⟩ (.inl ⟨fun pre x e=>by simp at e,fun pre x y e=>by simp at e⟩) o h;have h3:=Qw ht;have h4:=Tx (j5 s) nm;have h5:=tQ s;have h6:=Mi (j5 s) nm t ht
 have h7:(dY t.attrs).length+t.name.length≤wt t:=by
  by_cases k1:t.kind=1
  ·have hd:=(h6.tag (.inl k1)).2
   obtain⟨k,nm2,at_,d,sf⟩:=t;simp only at k1 hd;subst k1;subst hd;rw[OC];simp only[jR,List.length_append];omega
  ·have ha:=(h6.start k1).1
   have hsf:=(h6.start k1).2
   by_cases k2:t.kind=2
   ·have hd:=(h6.tag (.inr k2)).2
    obtain⟨k,nm2,at_,d,sf⟩:=t;simp only at k2 ha hd hsf;subst k2;subst ha;subst hd;subst hsf;rw[wt_k2];simp only[jR,List.length_append,dY,List.flatMap_nil,List.length_nil];omega
   ·rw[ha,h6.other k1 k2]
    simp[dY]
 omega
end Go.Proofs.aj.W7
namespace Go.Proofs.aj.W7
open Go.RowKit ah.aD ah.bH ah.bU
attribute [local go_sem] dB dD dW dX bZ cu dF dG
def nU.f(l0:List (S34)):Option (Bt):=(gJ.f l0 (-1)).bind fun t636=>(some t636)
theorem nU.calls(A0:Option Addr)(c0:Nat)(l0:List (S34))(r:Bt)(w:World)(hr0:Kd.C k34 w A0 l0.length l0)(hc0:l0.length≤c0)(h:nU.f l0=some r)(hS_:YtkcmghlhpbepcaaGreatDoor.Std w):
 Calls Tryz.prog 42 #[.slice A0 l0.length c0] w fun e w'=>e=.returned (.string r)∧Below w.heap.size w w':=by
 have HS_:=ak.mk hS_;clear hS_;have HR0:=ak.mk hr0;have HC0:=ak.mk hc0;clear hr0 hc0;have HB:=ak.mk (Below.refl w.heap.size w);have H:((gJ.f l0 (-1)).bind fun t636=>(some t636))=some r:=h;clear h;replace H:=Option.bind_eq_some_iff.mp H;obtain⟨t636,A20,H⟩:=H
 try dsimp only at H
 have A2:=ak.mk A20;clear A20;obtain rfl:=Option.some.inj H;go_enter Tryz.func42,Tryz.ntmps42
 go_wp2_with(first|((with_reducible refine bC (f:=90) rfl ?_);refine eG (some 4) rfl rfl Tryz.func90 (by kernel_rfl) rfl #[.slice A0 l0.length c0,.int .i64 (-1)] rfl q'a ?_;(with_reducible refine(gJ.calls _ _ l0 (-1) t636 _ ?dI ?dJ A2.out (YtkcmghlhpbepcaaGreatDoor.Std.below HS_.out bz)).mono ?_);(case dI=>repeat(first|exact HR0.out|(with_reducible refine Kd.eH ?_ _)|(with_reducible refine Kd.eP ?_ _)|(with_reducible refine Kd.fA ?_)));(case dJ=>exact HC0.out);rintro e w3 ⟨rfl,hb⟩;refine⟨_,rfl,?_⟩;replace HB:=ak.mk (aG bz hb);(try clear hb);(try clear hb2);(try clear hk);(try clear hi)))
 go_ret;exact⟨by first|rfl|(simp[aI,aJ]<;>rfl)|(simp[*,aI,aJ]<;>rfl),bz⟩
theorem eqA36(d:Nat)(w:World)(x0 y0 x1 y1:Bt):
 (Op.equalIn (d+2) 36 (.agg #[.string x0,.string x1]) (.agg #[.string y0,.string y1])).run Tryz.prog w=.ok (x0.toList==y0.toList&&(x1.toList==y1.toList)) w:=by
 refine eqA_of Tryz.underlying36 (by kernel_rfl) ?_;refine eqf_cons (by rfl) (by go_simp;rfl) (by go_simp;rfl) (by go_simp) ?_;exact eqf_last (by rfl) (by go_simp;rfl) (by go_simp;rfl) (by go_simp)
end Go.Proofs.aj.W7
namespace Go.Proofs.aj.W7
open Go.RowKit ah.aD ah.bH ah.bU
attribute [local go_sem] dB dD dW dX bZ cu dF dG
attribute [local go_sem high] eqA36
def iE.l0:Nat→List (S36)→List (S36)→Int→Int→Option (Bool)
 |0,_,_,_,_=>none
 |k+1,x0,x1,x10,x11=>if x11<x10 then(if 0≤x11 then(if x11<(x0.length:Int)then(if x11<(x1.length:Int)then(if(!((((bD x0 x11).f0).toList)==(((bD x1 x11).f0).toList))||(!((((bD x0 x11).f1).toList)==(((bD x1 x11).f1).toList))))=true then(some false)else(iE.l0 k x0 x1 x10 (wrap64 (x11+1))))else(none))else(none))else(none))else(some ((x0.length:Int)==(x1.length:Int)))
def iE.f(k:Nat)(l0 l1:List (S36)):Option (Bool):=iE.l0 k l0 l1 (mn (l0.length:Int) (l1.length:Int)) 0
theorem iE.calls(k:Nat)(A0:Option Addr)(c0:Nat)(l0:List (S36))(A1:Option Addr)(c1:Nat)(l1:List (S36))(r:Bool)(w:World)(hr0:Kd.C k36 w A0 l0.length l0)(hc0:l0.length≤c0)(hr1:Kd.C k36 w A1 l1.length l1)(hc1:l1.length≤c1)(h:iE.f k l0 l1=some r):
 Calls Tryz.prog 88 #[.slice A0 l0.length c0,.slice A1 l1.length c1] w fun e w'=>e=.returned (.bool r)∧Below w.heap.size w w':=by
 have hu36:=Tryz.underlying36;have HR0:=ak.mk hr0;have HC0:=ak.mk hc0;clear hr0 hc0;have HR1:=ak.mk hr1;have HC1:=ak.mk hc1;clear hr1 hc1;have HB:=ak.mk (Below.refl w.heap.size w);have H:(iE.l0 k l0 l1 (mn (l0.length:Int) (l1.length:Int)) 0)=some r:=h;clear h;obtain⟨ji3,wV⟩:∃j_:Int,(mn (l0.length:Int) (l1.length:Int))=j_:=⟨_,rfl⟩
 replace H:(iE.l0 k l0 l1 ji3 0)=some r:=by first|(rw[wV]at H;exact H)|(simp only[wV]at H⊢;exact H)
 (try(have hji3l:0≤ji3:=by(rw[←wV];unfold mn;(repeat' split)<;>omega)))
 (try(have hji3m:0≤ji3:=by omega))
 have hji3_:(if(l1.length:Int)<(l0.length:Int)then(l1.length:Int)else(l0.length:Int))=ji3:=wV;have hji3_n:(if l1.length<l0.length then(l1.length:Int)else(l0.length:Int))=ji3:=by(first|(simpa only[Int.ofNat_lt]using hji3_)|(simpa using hji3_))
 have H':=ak.mk H;clear H;go_enter Tryz.func88,Tryz.ntmps88;go_wp2
 repeat(go_quiet (fail);try go_wp2)
 go_loopg [11] k (fun kq v11 w'=>∃(kG:Int),v11=.int .i64 kG∧ak (iE.l0 kq l0 l1 ji3 kG=some r)∧ak (kq≤k)∧ak (Below w.heap.size w w'))
 case atStart=>exact⟨(0),q'c,H',⟨Nat.le_refl _⟩,⟨bz⟩⟩
 case round=>
  clear H'
  try clear c1
  try clear p2
  obtain⟨kG,rfl,HA,HK1,HB⟩:=hrel;cases gk with
  |zero=>exact absurd HA.out (by simp[iE.l0])
  |succ k1=>
   have H:=HA.out;clear HA;simp only[iE.l0]at H
   by_cases c4:kG<ji3
   ·rw[if_pos c4]at H
    have lY:=decide_eq_true c4;clear c4
    by_cases c5:0≤kG
    ·rw[if_pos c5]at H
     have tX:=decide_eq_true c5;clear c5
     by_cases c6:kG<(l0.length:Int)
     ·rw[if_pos c6]at H
      have AO:=decide_eq_true c6;clear c6
      by_cases c7:kG<(l1.length:Int)
      ·rw[if_pos c7]at H
       have GI:=decide_eq_true c7;clear c7
       by_cases c8:(!((((bD l0 kG).f0).toList)==(((bD l1 kG).f0).toList))||(!((((bD l0 kG).f1).toList)==(((bD l1 kG).f1).toList))))=true
       ·rw[if_pos c8]at H
        have yZ:(!((((bD l0 kG).f0).toList)==(((bD l1 kG).f0).toList))||(!((((bD l0 kG).f1).toList)==(((bD l1 kG).f1).toList))))=true:=c8;clear c8;obtain rfl:=Option.some.inj H;have p101:0≤(kG:Int):=q'b;have q101:kG<(l0.length:Int):=q'b;obtain⟨ad101,e101,wW,wX⟩:=ni HR0.out kG p101 q101;cases e101;replace wW:=(HB.out.cell (World.block_lt_of_cell? w _ wW)).trans wW;replace wX:=(HB.out.cell (World.block_lt_of_cell? w _ wX)).trans wX;replace p101:=eq_true p101;replace q101:=eq_true q101;have p102:0≤(kG:Int):=q'b;have q102:kG<(l1.length:Int):=q'b;obtain⟨ad102,e102,wY,wZ⟩:=ni HR1.out kG p102 q102;cases e102;replace wY:=(HB.out.cell (World.block_lt_of_cell? w _ wY)).trans wY;replace wZ:=(HB.out.cell (World.block_lt_of_cell? w _ wZ)).trans wZ;replace p102:=eq_true p102;replace q102:=eq_true q102;go_wp2
        repeat(go_quiet (fail);try go_wp2)
        go_ret;exact⟨by first|rfl|(simp[aI,aJ]<;>rfl)|(simp only[←wV];first|rfl|(simp[aI,aJ]<;>rfl))|(simp[*,aI,aJ]<;>rfl),bz⟩
       ·rw[if_neg c8]at H
        have yZ:(!((((bD l0 kG).f0).toList)==(((bD l1 kG).f0).toList))||(!((((bD l0 kG).f1).toList)==(((bD l1 kG).f1).toList))))=false:=by simpa using c8
        clear c8;have H':=ak.mk H;clear H;have p101:0≤(kG:Int):=q'b;have q101:kG<(l0.length:Int):=q'b;obtain⟨ad101,e101,wW,wX⟩:=ni HR0.out kG p101 q101;cases e101;replace wW:=(HB.out.cell (World.block_lt_of_cell? w _ wW)).trans wW;replace wX:=(HB.out.cell (World.block_lt_of_cell? w _ wX)).trans wX;replace p101:=eq_true p101;replace q101:=eq_true q101;have p102:0≤(kG:Int):=q'b;have q102:kG<(l1.length:Int):=q'b;obtain⟨ad102,e102,wY,wZ⟩:=ni HR1.out kG p102 q102;cases e102;replace wY:=(HB.out.cell (World.block_lt_of_cell? w _ wY)).trans wY;replace wZ:=(HB.out.cell (World.block_lt_of_cell? w _ wZ)).trans wZ;replace p102:=eq_true p102;replace q102:=eq_true q102;go_wp2
        repeat(go_quiet (fail);try go_wp2)
        go_roundg k1
        case measure=>have:=HK1.out;omega
        case rel=>exact⟨(wrap64 (kG+1)),q'c,H',⟨lz HK1.out⟩,⟨bz⟩⟩
      ·rw[if_neg c7]at H
       exact absurd H (by simp)
     ·rw[if_neg c6]at H
      exact absurd H (by simp)
    ·rw[if_neg c5]at H
     exact absurd H (by simp)
   ·rw[if_neg c4]at H
    have lY:=decide_eq_false c4;clear c4;obtain rfl:=Option.some.inj H;go_wp2
    repeat(go_quiet (fail);try go_wp2)
    go_ret;exact⟨by first|rfl|(simp[aI,aJ]<;>rfl)|(simp only[←wV];first|rfl|(simp[aI,aJ]<;>rfl))|(simp[*,aI,aJ]<;>rfl),bz⟩
end Go.Proofs.aj.W7
namespace Go.Proofs.aj.W7
open Go.RowKit ah.aD ah.bH ah.bU
attribute [local go_sem] dB dD dW dX bZ cu dF dG
def rD.f(k:Nat)(eD dV:Int)(dH eu:Bt)(bG:List (S36))(y8 y9:Int)(za ze:Bt)(vY:List (S36)):Option (Bool):=if eD=y8 then(if dV=y9 then(if dH.toList=za.toList then(if eu.toList=ze.toList then((iE.f k bG vY).bind fun t105=>(some t105))else(some false))else(some false))else(some false))else(some false)
theorem rD.calls(k:Nat)(eD dV:Int)(dH eu:Bt)(iT:Option Addr)(fM:Nat)(bG:List (S36))(y8 y9:Int)(za ze:Bt)(Dz:Option Addr)(DC:Nat)(vY:List (S36))(r:Bool)(w:World)(zh:Kd.C k36 w iT bG.length bG)(zi:bG.length≤fM)(hr1_4:Kd.C k36 w Dz vY.length vY)(hc1_4:vY.length≤DC)(h:rD.f k eD dV dH eu bG y8 y9 za ze vY=some r):
 Calls Tryz.prog 87 #[.agg #[.int .i64 eD,.int .i64 dV,.string dH,.string eu,.slice iT bG.length fM],.agg #[.int .i64 y8,.int .i64 y9,.string za,.string ze,.slice Dz vY.length DC]] w fun e w'=>e=.returned (.bool r)∧Below w.heap.size w w':=by
 have hu34:=Tryz.underlying34;have zl:=ak.mk zh;have ND:=ak.mk zi;clear zh zi;have HR1_4:=ak.mk hr1_4;have HC1_4:=ak.mk hc1_4;clear hr1_4 hc1_4;have HB:=ak.mk (Below.refl w.heap.size w);have H:(if eD=y8 then(if dV=y9 then(if dH.toList=za.toList then(if eu.toList=ze.toList then((iE.f k bG vY).bind fun t105=>(some t105))else(some false))else(some false))else(some false))else(some false))=some r:=h;clear h
 by_cases c3:eD=y8
 ·rw[if_pos c3]at H
  have oD:=beq_iff_eq.mpr c3;have AL:=bne_eq_false_iff_eq.mpr c3;clear c3
  by_cases c4:dV=y9
  ·rw[if_pos c4]at H
   have lY:=beq_iff_eq.mpr c4;have Ab:=bne_eq_false_iff_eq.mpr c4;clear c4
   by_cases c5:dH.toList=za.toList
   ·rw[if_pos c5]at H
    have tX:=beq_iff_eq.mpr c5;have c5b1:=bne_eq_false_iff_eq.mpr c5;clear c5
    by_cases c6:eu.toList=ze.toList
    ·rw[if_pos c6]at H
     have AO:=beq_iff_eq.mpr c6;have c6b1:=bne_eq_false_iff_eq.mpr c6;clear c6;replace H:=Option.bind_eq_some_iff.mp H;obtain⟨t105,A70,H⟩:=H
     try dsimp only at H
     have A7:=ak.mk A70;clear A70;obtain rfl:=Option.some.inj H;go_enter Tryz.func87,Tryz.ntmps87
     go_wp2_with(first|((with_reducible refine cB (N:=2) rfl ?_);refine fH ?hg (N:=2) ?hd (cs:=#[.int .i64 eD,.int .i64 dV,.string dH,.string eu,.slice iT bG.length fM]) (t:=34) ?hr ?_;(case hd=>rfl);(case hg=>rfl);(case hr=>first|(go_simp;done)|(go_simp;rfl));intro gu hg w8 gG hb;have fq:=ak.mk (gG);have GW103:=ak.mk ((by rw[hg];exact(aU bz):w.heap.size≤gu));have mW:=ak.mk ((by rw[hg];exact(aU bz):w.heap.size≤gu));replace HB:=ak.mk (aG bz hb);clear hb gG hg)|((with_reducible refine cB (N:=3) rfl ?_);refine fH ?hg (N:=3) ?hd (cs:=#[.int .i64 y8,.int .i64 y9,.string za,.string ze,.slice Dz vY.length DC]) (t:=34) ?hr ?_;(case hd=>rfl);(case hg=>rfl);(case hr=>first|(go_simp;done)|(go_simp;rfl));intro iC hg w9 gG hb;have gL:=ak.mk (gG);have GW104:=ak.mk ((by rw[hg];exact(aU (bs mW.out)):w.heap.size≤iC));have Al:=ak.mk ((by rw[hg];exact(aU (bs mW.out)):w.heap.size≤iC));have oq:=ak.mk ((by rw[hg];exact Nat.ne_of_lt (iK (g:=gu) (o:=.cells #[.int .i64 eD,.int .i64 dV,.string dH,.string eu,.slice iT bG.length fM] 34 (0,0)) (kz fq.out)):gu≠iC));have ou:=ak.mk ((by rw[hg];exact Nat.ne_of_gt (iK (g:=gu) (o:=.cells #[.int .i64 eD,.int .i64 dV,.string dH,.string eu,.slice iT bG.length fM] 34 (0,0)) (kz fq.out)):iC≠gu));replace fq:=ak.mk (dK (g:=gu) (o:=.cells #[.int .i64 eD,.int .i64 dV,.string dH,.string eu,.slice iT bG.length fM] 34 (0,0)) (kz fq.out) hb);replace HB:=ak.mk (aG (bs mW.out) hb);clear hb gG hg;have hnb10:=oq.out;have hnc10:=ou.out;have Q7:w9.cell? ⟨gu,0,none⟩=some (.int .i64 eD):=(aC fq.out 0).trans rfl;have Q8:w9.cell? ⟨gu,1,none⟩=some (.int .i64 dV):=(aC fq.out 1).trans rfl;have Q9:w9.cell? ⟨gu,2,none⟩=some (.string dH):=(aC fq.out 2).trans rfl;have Ra:w9.cell? ⟨gu,3,none⟩=some (.string eu):=(aC fq.out 3).trans rfl;have Rb:w9.cell? ⟨gu,4,none⟩=some (.slice iT bG.length fM):=(aC fq.out 4).trans rfl;have Rf:=ay fq.out 0;have Rh:=ay fq.out 1;have Ri:=ay fq.out 2;have Rj:=ay fq.out 3;have Rk:=ay fq.out 4;have hcz12_0:w9.cell? ⟨iC,0,none⟩=some (.int .i64 y8):=(aC gL.out 0).trans rfl;have hcz12_1:w9.cell? ⟨iC,1,none⟩=some (.int .i64 y9):=(aC gL.out 1).trans rfl;have hcz12_2:w9.cell? ⟨iC,2,none⟩=some (.string za):=(aC gL.out 2).trans rfl;have hcz12_3:w9.cell? ⟨iC,3,none⟩=some (.string ze):=(aC gL.out 3).trans rfl;have hcz12_4:w9.cell? ⟨iC,4,none⟩=some (.slice Dz vY.length DC):=(aC gL.out 4).trans rfl;have hfz12_0:=ay gL.out 0;have hfz12_1:=ay gL.out 1;have hfz12_2:=ay gL.out 2;have hfz12_3:=ay gL.out 3;have hfz12_4:=ay gL.out 4)|(go_at_call 88;(with_reducible refine(iE.calls k _ _ bG _ _ vY t105 _ ?dI ?dJ ?oI ?oJ A7.out).mono ?_);(case dI=>exact cz (Kd.bT zl.out HB.out));(case dJ=>exact ND.out);(case oI=>exact cz (Kd.bT HR1_4.out HB.out));(case oJ=>exact HC1_4.out);rintro e w13 ⟨rfl,hb⟩;replace fq:=ak.mk (dK (g:=gu) (o:=.cells #[.int .i64 eD,.int .i64 dV,.string dH,.string eu,.slice iT bG.length fM] 34 (0,0)) (kz fq.out) hb);replace gL:=ak.mk (dK (g:=iC) (o:=.cells #[.int .i64 y8,.int .i64 y9,.string za,.string ze,.slice Dz vY.length DC] 34 (0,0)) (kz gL.out) hb);replace HB:=ak.mk (aG (by repeat(first|(with_reducible first|exact HB.out|apply dn|apply bE|apply bX|refine aH ?_ mW.out|refine aH ?_ Al.out)|exact HB.out)) hb);(try clear hb);(try clear hb2);(try clear hk);(try clear hi)))
     go_ret;exact⟨by first|rfl|(simp[aI,aJ]<;>rfl)|(simp[*,aI,aJ]<;>rfl),by repeat(first|(with_reducible first|exact HB.out|apply dn|apply bE|apply bX|refine aH ?_ mW.out|refine aH ?_ Al.out)|exact HB.out)⟩
    ·rw[if_neg c6]at H
     have AO:=beq_eq_false_iff_ne.mpr c6;have c6b1:=bne_iff_ne.mpr c6;obtain rfl:=Option.some.inj H;go_enter Tryz.func87,Tryz.ntmps87
     go_wp2_with(first|((with_reducible refine cB (N:=2) rfl ?_);refine fH ?hg (N:=2) ?hd (cs:=#[.int .i64 eD,.int .i64 dV,.string dH,.string eu,.slice iT bG.length fM]) (t:=34) ?hr ?_;(case hd=>rfl);(case hg=>rfl);(case hr=>first|(go_simp;done)|(go_simp;rfl));intro gu hg w14 gG hb;have fq:=ak.mk (gG);have GW103:=ak.mk ((by rw[hg];exact(aU bz):w.heap.size≤gu));have mW:=ak.mk ((by rw[hg];exact(aU bz):w.heap.size≤gu));replace HB:=ak.mk (aG bz hb);clear hb gG hg)|((with_reducible refine cB (N:=3) rfl ?_);refine fH ?hg (N:=3) ?hd (cs:=#[.int .i64 y8,.int .i64 y9,.string za,.string ze,.slice Dz vY.length DC]) (t:=34) ?hr ?_;(case hd=>rfl);(case hg=>rfl);(case hr=>first|(go_simp;done)|(go_simp;rfl));intro iC hg w15 gG hb;have gL:=ak.mk (gG);have GW104:=ak.mk ((by rw[hg];exact(aU (bs mW.out)):w.heap.size≤iC));have Al:=ak.mk ((by rw[hg];exact(aU (bs mW.out)):w.heap.size≤iC));have oq:=ak.mk ((by rw[hg];exact Nat.ne_of_lt (iK (g:=gu) (o:=.cells #[.int .i64 eD,.int .i64 dV,.string dH,.string eu,.slice iT bG.length fM] 34 (0,0)) (kz fq.out)):gu≠iC));have ou:=ak.mk ((by rw[hg];exact Nat.ne_of_gt (iK (g:=gu) (o:=.cells #[.int .i64 eD,.int .i64 dV,.string dH,.string eu,.slice iT bG.length fM] 34 (0,0)) (kz fq.out)):iC≠gu));replace fq:=ak.mk (dK (g:=gu) (o:=.cells #[.int .i64 eD,.int .i64 dV,.string dH,.string eu,.slice iT bG.length fM] 34 (0,0)) (kz fq.out) hb);replace HB:=ak.mk (aG (bs mW.out) hb);clear hb gG hg;have hnb16:=oq.out;have hnc16:=ou.out;have hcz17_0:w15.cell? ⟨gu,0,none⟩=some (.int .i64 eD):=(aC fq.out 0).trans rfl;have hcz17_1:w15.cell? ⟨gu,1,none⟩=some (.int .i64 dV):=(aC fq.out 1).trans rfl;have hcz17_2:w15.cell? ⟨gu,2,none⟩=some (.string dH):=(aC fq.out 2).trans rfl;have hcz17_3:w15.cell? ⟨gu,3,none⟩=some (.string eu):=(aC fq.out 3).trans rfl;have hcz17_4:w15.cell? ⟨gu,4,none⟩=some (.slice iT bG.length fM):=(aC fq.out 4).trans rfl;have hfz17_0:=ay fq.out 0;have hfz17_1:=ay fq.out 1;have hfz17_2:=ay fq.out 2;have hfz17_3:=ay fq.out 3;have hfz17_4:=ay fq.out 4;have ug:w15.cell? ⟨iC,0,none⟩=some (.int .i64 y8):=(aC gL.out 0).trans rfl;have uh:w15.cell? ⟨iC,1,none⟩=some (.int .i64 y9):=(aC gL.out 1).trans rfl;have uj:w15.cell? ⟨iC,2,none⟩=some (.string za):=(aC gL.out 2).trans rfl;have um:w15.cell? ⟨iC,3,none⟩=some (.string ze):=(aC gL.out 3).trans rfl;have uo:w15.cell? ⟨iC,4,none⟩=some (.slice Dz vY.length DC):=(aC gL.out 4).trans rfl;have uq:=ay gL.out 0;have uw:=ay gL.out 1;have uy:=ay gL.out 2;have uz:=ay gL.out 3;have uD:=ay gL.out 4))
     go_ret;exact⟨by first|rfl|(simp[aI,aJ]<;>rfl)|(simp[*,aI,aJ]<;>rfl),by repeat(first|(with_reducible first|exact HB.out|apply dn|apply bE|apply bX|refine aH ?_ mW.out|refine aH ?_ Al.out)|exact HB.out)⟩
   ·rw[if_neg c5]at H
    have tX:=beq_eq_false_iff_ne.mpr c5;have c5b1:=bne_iff_ne.mpr c5;obtain rfl:=Option.some.inj H;go_enter Tryz.func87,Tryz.ntmps87
    go_wp2_with(first|((with_reducible refine cB (N:=2) rfl ?_);refine fH ?hg (N:=2) ?hd (cs:=#[.int .i64 eD,.int .i64 dV,.string dH,.string eu,.slice iT bG.length fM]) (t:=34) ?hr ?_;(case hd=>rfl);(case hg=>rfl);(case hr=>first|(go_simp;done)|(go_simp;rfl));intro gu hg w19 gG hb;have fq:=ak.mk (gG);have GW103:=ak.mk ((by rw[hg];exact(aU bz):w.heap.size≤gu));have mW:=ak.mk ((by rw[hg];exact(aU bz):w.heap.size≤gu));replace HB:=ak.mk (aG bz hb);clear hb gG hg)|((with_reducible refine cB (N:=3) rfl ?_);refine fH ?hg (N:=3) ?hd (cs:=#[.int .i64 y8,.int .i64 y9,.string za,.string ze,.slice Dz vY.length DC]) (t:=34) ?hr ?_;(case hd=>rfl);(case hg=>rfl);(case hr=>first|(go_simp;done)|(go_simp;rfl));intro iC hg w20 gG hb;have gL:=ak.mk (gG);have GW104:=ak.mk ((by rw[hg];exact(aU (bs mW.out)):w.heap.size≤iC));have Al:=ak.mk ((by rw[hg];exact(aU (bs mW.out)):w.heap.size≤iC));have oq:=ak.mk ((by rw[hg];exact Nat.ne_of_lt (iK (g:=gu) (o:=.cells #[.int .i64 eD,.int .i64 dV,.string dH,.string eu,.slice iT bG.length fM] 34 (0,0)) (kz fq.out)):gu≠iC));have ou:=ak.mk ((by rw[hg];exact Nat.ne_of_gt (iK (g:=gu) (o:=.cells #[.int .i64 eD,.int .i64 dV,.string dH,.string eu,.slice iT bG.length fM] 34 (0,0)) (kz fq.out)):iC≠gu));replace fq:=ak.mk (dK (g:=gu) (o:=.cells #[.int .i64 eD,.int .i64 dV,.string dH,.string eu,.slice iT bG.length fM] 34 (0,0)) (kz fq.out) hb);replace HB:=ak.mk (aG (bs mW.out) hb);clear hb gG hg;have hnb21:=oq.out;have hnc21:=ou.out;have KC:w20.cell? ⟨gu,0,none⟩=some (.int .i64 eD):=(aC fq.out 0).trans rfl;have KD:w20.cell? ⟨gu,1,none⟩=some (.int .i64 dV):=(aC fq.out 1).trans rfl;have KE:w20.cell? ⟨gu,2,none⟩=some (.string dH):=(aC fq.out 2).trans rfl;have KF:w20.cell? ⟨gu,3,none⟩=some (.string eu):=(aC fq.out 3).trans rfl;have KG:w20.cell? ⟨gu,4,none⟩=some (.slice iT bG.length fM):=(aC fq.out 4).trans rfl;have KH:=ay fq.out 0;have KI:=ay fq.out 1;have KJ:=ay fq.out 2;have KL:=ay fq.out 3;have KM:=ay fq.out 4;have hcz23_0:w20.cell? ⟨iC,0,none⟩=some (.int .i64 y8):=(aC gL.out 0).trans rfl;have hcz23_1:w20.cell? ⟨iC,1,none⟩=some (.int .i64 y9):=(aC gL.out 1).trans rfl;have hcz23_2:w20.cell? ⟨iC,2,none⟩=some (.string za):=(aC gL.out 2).trans rfl;have hcz23_3:w20.cell? ⟨iC,3,none⟩=some (.string ze):=(aC gL.out 3).trans rfl;have hcz23_4:w20.cell? ⟨iC,4,none⟩=some (.slice Dz vY.length DC):=(aC gL.out 4).trans rfl;have hfz23_0:=ay gL.out 0;have hfz23_1:=ay gL.out 1;have hfz23_2:=ay gL.out 2;have hfz23_3:=ay gL.out 3;have hfz23_4:=ay gL.out 4))
    go_ret;exact⟨by first|rfl|(simp[aI,aJ]<;>rfl)|(simp[*,aI,aJ]<;>rfl),by repeat(first|(with_reducible first|exact HB.out|apply dn|apply bE|apply bX|refine aH ?_ mW.out|refine aH ?_ Al.out)|exact HB.out)⟩
  ·rw[if_neg c4]at H
   have lY:=beq_eq_false_iff_ne.mpr c4;have Ab:=bne_iff_ne.mpr c4;obtain rfl:=Option.some.inj H;go_enter Tryz.func87,Tryz.ntmps87
   go_wp2_with(first|((with_reducible refine cB (N:=2) rfl ?_);refine fH ?hg (N:=2) ?hd (cs:=#[.int .i64 eD,.int .i64 dV,.string dH,.string eu,.slice iT bG.length fM]) (t:=34) ?hr ?_;(case hd=>rfl);(case hg=>rfl);(case hr=>first|(go_simp;done)|(go_simp;rfl));intro gu hg w24 gG hb;have fq:=ak.mk (gG);have GW103:=ak.mk ((by rw[hg];exact(aU bz):w.heap.size≤gu));have mW:=ak.mk ((by rw[hg];exact(aU bz):w.heap.size≤gu));replace HB:=ak.mk (aG bz hb);clear hb gG hg)|((with_reducible refine cB (N:=3) rfl ?_);refine fH ?hg (N:=3) ?hd (cs:=#[.int .i64 y8,.int .i64 y9,.string za,.string ze,.slice Dz vY.length DC]) (t:=34) ?hr ?_;(case hd=>rfl);(case hg=>rfl);(case hr=>first|(go_simp;done)|(go_simp;rfl));intro iC hg w25 gG hb;have gL:=ak.mk (gG);have GW104:=ak.mk ((by rw[hg];exact(aU (bs mW.out)):w.heap.size≤iC));have Al:=ak.mk ((by rw[hg];exact(aU (bs mW.out)):w.heap.size≤iC));have oq:=ak.mk ((by rw[hg];exact Nat.ne_of_lt (iK (g:=gu) (o:=.cells #[.int .i64 eD,.int .i64 dV,.string dH,.string eu,.slice iT bG.length fM] 34 (0,0)) (kz fq.out)):gu≠iC));have ou:=ak.mk ((by rw[hg];exact Nat.ne_of_gt (iK (g:=gu) (o:=.cells #[.int .i64 eD,.int .i64 dV,.string dH,.string eu,.slice iT bG.length fM] 34 (0,0)) (kz fq.out)):iC≠gu));replace fq:=ak.mk (dK (g:=gu) (o:=.cells #[.int .i64 eD,.int .i64 dV,.string dH,.string eu,.slice iT bG.length fM] 34 (0,0)) (kz fq.out) hb);replace HB:=ak.mk (aG (bs mW.out) hb);clear hb gG hg;have hnb26:=oq.out;have hnc26:=ou.out;have hcz27_0:w25.cell? ⟨gu,0,none⟩=some (.int .i64 eD):=(aC fq.out 0).trans rfl;have hcz27_1:w25.cell? ⟨gu,1,none⟩=some (.int .i64 dV):=(aC fq.out 1).trans rfl;have hcz27_2:w25.cell? ⟨gu,2,none⟩=some (.string dH):=(aC fq.out 2).trans rfl;have hcz27_3:w25.cell? ⟨gu,3,none⟩=some (.string eu):=(aC fq.out 3).trans rfl;have hcz27_4:w25.cell? ⟨gu,4,none⟩=some (.slice iT bG.length fM):=(aC fq.out 4).trans rfl;have hfz27_0:=ay fq.out 0;have hfz27_1:=ay fq.out 1;have hfz27_2:=ay fq.out 2;have hfz27_3:=ay fq.out 3;have hfz27_4:=ay fq.out 4;have Rl:w25.cell? ⟨iC,0,none⟩=some (.int .i64 y8):=(aC gL.out 0).trans rfl;have Rm:w25.cell? ⟨iC,1,none⟩=some (.int .i64 y9):=(aC gL.out 1).trans rfl;have Rn:w25.cell? ⟨iC,2,none⟩=some (.string za):=(aC gL.out 2).trans rfl;have Ro:w25.cell? ⟨iC,3,none⟩=some (.string ze):=(aC gL.out 3).trans rfl;have Rp:w25.cell? ⟨iC,4,none⟩=some (.slice Dz vY.length DC):=(aC gL.out 4).trans rfl;have Rq:=ay gL.out 0;have Rs:=ay gL.out 1;have Rt:=ay gL.out 2;have Ru:=ay gL.out 3;have Rv:=ay gL.out 4))
   go_ret;exact⟨by first|rfl|(simp[aI,aJ]<;>rfl)|(simp[*,aI,aJ]<;>rfl),by repeat(first|(with_reducible first|exact HB.out|apply dn|apply bE|apply bX|refine aH ?_ mW.out|refine aH ?_ Al.out)|exact HB.out)⟩
 ·rw[if_neg c3]at H
  have oD:=beq_eq_false_iff_ne.mpr c3;have AL:=bne_iff_ne.mpr c3;obtain rfl:=Option.some.inj H;go_enter Tryz.func87,Tryz.ntmps87
  go_wp2_with(first|((with_reducible refine cB (N:=2) rfl ?_);refine fH ?hg (N:=2) ?hd (cs:=#[.int .i64 eD,.int .i64 dV,.string dH,.string eu,.slice iT bG.length fM]) (t:=34) ?hr ?_;(case hd=>rfl);(case hg=>rfl);(case hr=>first|(go_simp;done)|(go_simp;rfl));intro gu hg w29 gG hb;have fq:=ak.mk (gG);have GW103:=ak.mk ((by rw[hg];exact(aU bz):w.heap.size≤gu));have mW:=ak.mk ((by rw[hg];exact(aU bz):w.heap.size≤gu));replace HB:=ak.mk (aG bz hb);clear hb gG hg)|((with_reducible refine cB (N:=3) rfl ?_);refine fH ?hg (N:=3) ?hd (cs:=#[.int .i64 y8,.int .i64 y9,.string za,.string ze,.slice Dz vY.length DC]) (t:=34) ?hr ?_;(case hd=>rfl);(case hg=>rfl);(case hr=>first|(go_simp;done)|(go_simp;rfl));intro iC hg w30 gG hb;have gL:=ak.mk (gG);have GW104:=ak.mk ((by rw[hg];exact(aU (bs mW.out)):w.heap.size≤iC));have Al:=ak.mk ((by rw[hg];exact(aU (bs mW.out)):w.heap.size≤iC));have oq:=ak.mk ((by rw[hg];exact Nat.ne_of_lt (iK (g:=gu) (o:=.cells #[.int .i64 eD,.int .i64 dV,.string dH,.string eu,.slice iT bG.length fM] 34 (0,0)) (kz fq.out)):gu≠iC));have ou:=ak.mk ((by rw[hg];exact Nat.ne_of_gt (iK (g:=gu) (o:=.cells #[.int .i64 eD,.int .i64 dV,.string dH,.string eu,.slice iT bG.length fM] 34 (0,0)) (kz fq.out)):iC≠gu));replace fq:=ak.mk (dK (g:=gu) (o:=.cells #[.int .i64 eD,.int .i64 dV,.string dH,.string eu,.slice iT bG.length fM] 34 (0,0)) (kz fq.out) hb);replace HB:=ak.mk (aG (bs mW.out) hb);clear hb gG hg;have hnb31:=oq.out;have hnc31:=ou.out;have hcz32_0:w30.cell? ⟨gu,0,none⟩=some (.int .i64 eD):=(aC fq.out 0).trans rfl;have hcz32_1:w30.cell? ⟨gu,1,none⟩=some (.int .i64 dV):=(aC fq.out 1).trans rfl;have hcz32_2:w30.cell? ⟨gu,2,none⟩=some (.string dH):=(aC fq.out 2).trans rfl;have hcz32_3:w30.cell? ⟨gu,3,none⟩=some (.string eu):=(aC fq.out 3).trans rfl;have hcz32_4:w30.cell? ⟨gu,4,none⟩=some (.slice iT bG.length fM):=(aC fq.out 4).trans rfl;have hfz32_0:=ay fq.out 0;have hfz32_1:=ay fq.out 1;have hfz32_2:=ay fq.out 2;have hfz32_3:=ay fq.out 3;have hfz32_4:=ay fq.out 4;have hcz33_0:w30.cell? ⟨iC,0,none⟩=some (.int .i64 y8):=(aC gL.out 0).trans rfl;have hcz33_1:w30.cell? ⟨iC,1,none⟩=some (.int .i64 y9):=(aC gL.out 1).trans rfl;have hcz33_2:w30.cell? ⟨iC,2,none⟩=some (.string za):=(aC gL.out 2).trans rfl;have hcz33_3:w30.cell? ⟨iC,3,none⟩=some (.string ze):=(aC gL.out 3).trans rfl;have hcz33_4:w30.cell? ⟨iC,4,none⟩=some (.slice Dz vY.length DC):=(aC gL.out 4).trans rfl;have hfz33_0:=ay gL.out 0;have hfz33_1:=ay gL.out 1;have hfz33_2:=ay gL.out 2;have hfz33_3:=ay gL.out 3;have hfz33_4:=ay gL.out 4))
  go_ret;exact⟨by first|rfl|(simp[aI,aJ]<;>rfl)|(simp[*,aI,aJ]<;>rfl),by repeat(first|(with_reducible first|exact HB.out|apply dn|apply bE|apply bX|refine aH ?_ mW.out|refine aH ?_ Al.out)|exact HB.out)⟩
end Go.Proofs.aj.W7
namespace Go.Proofs.aj.W7
open Go.RowKit Go.Proofs YtkcmghlhpbepcaaGreatDoor
theorem oK{w:World}{a:Addr}{v:Value}(h:w.cell? a=some v):∀o,(w.alloc o).cell? a=some v:=fun o=>aV h ((Below.refl _ w).alloc (Nat.le_refl _) o)
structure Rr where
 depth:Int
 kind:Int
 name:Txt
 data:Txt
 attrs:List (Txt×Txt)
 deriving DecidableEq
def prS(a:S36):Txt×Txt:=(a.f0.data.toList,a.f1.data.toList)
def nL(x:Rw):Rr:=⟨x.f0,x.f1,x.f2.data.toList,x.f3.data.toList,x.f4.map prS⟩
theorem w64{x:Int}(h0: -9223372036854775808≤x)(h1:x≤9223372036854775807):wrap64 x=x:=by unfold wrap64;omega
theorem sJ(a b:ByteArray):a.toList=b.toList↔a.data.toList=b.data.toList:=by rw[Lib.toList_data,Lib.toList_data]
theorem bytes_beq(a b:ByteArray):(a.toList==b.toList)=(a.data.toList==b.data.toList):=by rw[Lib.toList_data,Lib.toList_data]
theorem attrs_l0(xs ys:List S36)(hx:xs.length≤9223372036854775807)(hy:ys.length≤9223372036854775807):∀(d i k:Nat),min xs.length ys.length - i≤d→i≤min xs.length ys.length→d<k→
 iE.l0 k xs ys ((min xs.length ys.length:Nat):Int) i=some (decide ((xs.drop i).map prS=(ys.drop i).map prS)):=by
 intro d
 induction d with
 |zero=>
  intro i k hd hi hk;obtain⟨k,rfl⟩:∃m,k=m+1:=⟨k - 1,by omega⟩
  simp only[iE.l0];rw[if_neg (by omega)]
  by_cases h:xs.length=ys.length
  ·rw[List.drop_of_length_le (by omega),List.drop_of_length_le (by omega)]
   simp[h]
  ·have e1:((xs.length:Int)==(ys.length:Int))=false:=by rw[beq_eq_false_iff_ne];omega
   have e2:¬(xs.drop i).map prS=(ys.drop i).map prS:=fun e=>by have:=congrArg List.length e;simp at this;omega
   rw[e1,decide_eq_false e2]
 |succ d ih=>
  intro i k hd hi hk;obtain⟨k,rfl⟩:∃m,k=m+1:=⟨k - 1,by omega⟩
  by_cases hlt:i<min xs.length ys.length
  ·have hxi:i<xs.length:=by omega
   have hyi:i<ys.length:=by omega
   have ex:bD xs i=xs[i]:=by simp[bD,hxi]
   have ey:bD ys i=ys[i]:=by simp[bD,hyi]
   simp only[iE.l0];rw[if_pos (by omega),if_pos (by omega),if_pos (by omega),if_pos (by omega),ex,ey,bytes_beq,bytes_beq,List.drop_eq_getElem_cons hxi,List.drop_eq_getElem_cons hyi,List.map_cons,List.map_cons]
   by_cases he:prS xs[i]=prS ys[i]
   ·have h1:(xs[i].f0.data.toList==ys[i].f0.data.toList)=true:=by rw[beq_iff_eq];exact congrArg Prod.fst he
    have h2:(xs[i].f1.data.toList==ys[i].f1.data.toList)=true:=by rw[beq_iff_eq];exact congrArg Prod.snd he
    rw[h1,h2];simp only[Bool.not_true,Bool.or_self,Bool.false_eq_true,if_false];rw[show wrap64 ((i:Int)+1)=((i+1:Nat):Int)from by rw[w64 (by omega) (by omega)];omega,ih (i+1) k (by omega) (by omega) (by omega),he]
    congr 1
    simp
   ·have h1:(!(xs[i].f0.data.toList==ys[i].f0.data.toList)|| !(xs[i].f1.data.toList==ys[i].f1.data.toList))=true:=by
     by_cases h2:xs[i].f0.data.toList=ys[i].f0.data.toList
     ·have h3:¬xs[i].f1.data.toList=ys[i].f1.data.toList:=fun h3=>he (by unfold prS;rw[h2,h3])
      rw[Bool.or_eq_true];exact .inr (by rw[Bool.not_eq_true',beq_eq_false_iff_ne];exact h3)
     ·rw[Bool.or_eq_true];exact .inl (by rw[Bool.not_eq_true',beq_eq_false_iff_ne];exact h2)
    rw[h1,if_pos rfl,decide_eq_false (fun e=>he (List.cons.inj e).1)]
  ·have hii:i=min xs.length ys.length:=by omega
   have:=ih i (k+1) (by omega) hi (by omega);exact this
theorem mn_nat(x y:Nat):ah.aD.mn (x:Int) (y:Int)=((min x y:Nat):Int):=by unfold ah.aD.mn;split<;>omega
theorem attrs_f(xs ys:List S36)(hx:xs.length≤9223372036854775807)(hy:ys.length≤9223372036854775807)(k:Nat)(hk:xs.length<k):iE.f k xs ys=some (decide (xs.map prS=ys.map prS)):=by
 unfold iE.f;rw[mn_nat];exact attrs_l0 xs ys hx hy (min xs.length ys.length) 0 k (by omega) (by omega) (by omega)
theorem same1_f(x y:Rw)(hx:x.f4.length≤9223372036854775807)(hy:y.f4.length≤9223372036854775807)(k:Nat)(hk:x.f4.length<k):
 rD.f k x.f0 x.f1 x.f2 x.f3 x.f4 y.f0 y.f1 y.f2 y.f3 y.f4=some (decide (nL x=nL y)):=by
 unfold rD.f
 by_cases h0:x.f0=y.f0
 ·rw[if_pos h0]
  by_cases h1:x.f1=y.f1
  ·rw[if_pos h1]
   by_cases h2:x.f2.data.toList=y.f2.data.toList
   ·rw[if_pos ((sJ _ _).2 h2)]
    by_cases h3:x.f3.data.toList=y.f3.data.toList
    ·rw[if_pos ((sJ _ _).2 h3),attrs_f _ _ hx hy k hk,Option.bind_some]
     congr 1
     rw[decide_eq_decide];unfold nL;simp[h0,h1,h2,h3]
    ·rw[if_neg (fun h=>h3 ((sJ _ _).1 h)),decide_eq_false (fun e=>h3 (congrArg Rr.data e))]
   ·rw[if_neg (fun h=>h2 ((sJ _ _).1 h)),decide_eq_false (fun e=>h2 (congrArg Rr.name e))]
  ·rw[if_neg h1,decide_eq_false (fun e=>h1 (congrArg Rr.kind e))]
 ·rw[if_neg h0,decide_eq_false (fun e=>h0 (congrArg Rr.depth e))]
theorem P6(xs ys:List Rw)(A B:Option Addr)(c d:Nat)(w:World)(hx:k34.C w A xs.length xs)(hy:k34.C w B ys.length ys)(b:Bool)(hb:decide (xs.map nL=ys.map nL)=b):
 Calls Tryz.prog 86 #[.slice A xs.length c,.slice B ys.length d,.func (.func 87) #[] #[]] w fun e w'=>e=.returned (.bool b)∧Below w.heap.size w w':=by
 have hxl:=hx.2.1;have hyl:=hy.2.1
 by_cases hlen:xs.length=ys.length
 ·have hlI:((xs.length:Int) !=(ys.length:Int))=false:=by rw[bne_eq_false_iff_eq];omega
  have hlI2:((ys.length:Int) !=(ys.length:Int))=false:=by simp
  go_enter Tryz.func86,Tryz.ntmps86;replace hlen:=Lib.hid hlen;go_wp2
  go_loopw [17] (fun v wr=>∃(k:Nat),v=.int .i64 k∧k≤xs.length∧Hid (∀j (h1:j<xs.length) (h2:j<ys.length),j<k→nL xs[j]=nL ys[j])∧Below w.heap.size w wr) (fun v _=>xs.length - (intOf v).toNat)
  case atStart=>exact⟨0,rfl,by omega,fun j _ _ h=>by omega,Below.refl _ _⟩
  case round=>
   obtain⟨k,rfl,hk,hno,hB⟩:=hrel;have hle:=hlen.out
   by_cases hlt:k<xs.length
   ·have hlty:k<ys.length:=by omega
    obtain⟨g,o,A4,c4,rfl,z0,z1,z2,z3,z4,l4,g4⟩:=wS (ah.aD.Kd.bT hx hB) k hlt;obtain⟨g',o',B4,d4,rfl,y0,y1,y2,y3,y4,m4,h4⟩:=wS (ah.aD.Kd.bT hy hB) k hlty
    have hsm:Hid (∀W,Below wr.heap.size wr W→Calls Tryz.prog 87 #[.agg #[.int .i64 xs[k].f0,.int .i64 xs[k].f1,.string xs[k].f2,.string xs[k].f3,.slice A4 xs[k].f4.length c4],.agg #[.int .i64 ys[k].f0,.int .i64 ys[k].f1,.string ys[k].f2,.string ys[k].f3,.slice B4 ys[k].f4.length d4]] W fun e w'=>e=.returned (.bool (decide (nL xs[k]=nL ys[k])))∧Below W.heap.size W w'):=fun W hW=>
     rD.calls (xs[k].f4.length+1) _ _ _ _ _ _ _ _ _ _ _ _ _ _ _ W (ah.aD.Kd.bT g4 hW) l4 (ah.aD.Kd.bT h4 hW) m4 (same1_f xs[k] ys[k] g4.2.1 h4.2.1 _ (by omega))
    have hyes:Hid (nL xs[k]=nL ys[k]→∀j (h1:j<xs.length) (h2:j<ys.length),j<k+1→nL xs[j]=nL ys[j]):=fun h j h1 h2 hj=>by
     by_cases e:j=k
     ·subst e;exact h
     ·exact hno.out j h1 h2 (by omega)
    have hnot:Hid (¬nL xs[k]=nL ys[k]→b=false):=fun h=>by
     rw[←hb];refine decide_eq_false (fun e=>h ?_);have e2:(xs.map nL)[k]?=(ys.map nL)[k]?:=by rw[e]
     rw[List.getElem?_map,List.getElem?_map,List.getElem?_eq_getElem hlt,List.getElem?_eq_getElem hlty]at e2;simpa using e2
    by_cases he:nL xs[k]=nL ys[k]
    ·skip
     rw[decide_eq_true he]at hsm;have hy2:=Lib.hid (hyes.out he);clear he hyes hnot hno hb hle;generalize xs[k]=x at *;generalize ys[k]=y at *;obtain⟨xd,xk,xn,xt,xa⟩:=x;obtain⟨yd,yk,yn,yt,ya⟩:=y;simp only at z0 z1 z2 z3 z4 y0 y1 y2 y3 y4 hsm;have Y0:=oK y0;have Y1:=oK y1;have Y2:=oK y2;have Y3:=oK y3;have Y4:=oK y4
     go_wp2_with(go_at_call 87;((with_reducible refine(hsm.out _ (((Below.refl _ _).alloc (Nat.le_refl _) _).alloc (by rw[World.size_alloc];omega) _)).mono ?_);rintro e w1 ⟨rfl,hb1⟩;have hB1:=bB ((hB.alloc hB.size _).alloc (by rw[World.size_alloc];have:=hB.size;omega) _) (by rw[World.size_alloc,World.size_alloc];have:=hB.size;omega) hb1))
     exact⟨⟨k+1,rfl,by omega,hy2,hB1⟩,by simp[intOf];omega⟩
    ·skip
     rw[decide_eq_false he]at hsm;have hbf:=hnot.out he;clear he hyes hnot hno hb hle;generalize xs[k]=x at *;generalize ys[k]=y at *;obtain⟨xd,xk,xn,xt,xa⟩:=x;obtain⟨yd,yk,yn,yt,ya⟩:=y;simp only at z0 z1 z2 z3 z4 y0 y1 y2 y3 y4 hsm;have Y0:=oK y0;have Y1:=oK y1;have Y2:=oK y2;have Y3:=oK y3;have Y4:=oK y4
     go_wp2_with(go_at_call 87;((with_reducible refine(hsm.out _ (((Below.refl _ _).alloc (Nat.le_refl _) _).alloc (by rw[World.size_alloc];omega) _)).mono ?_);rintro e w1 ⟨rfl,hb1⟩;have hB1:=bB ((hB.alloc hB.size _).alloc (by rw[World.size_alloc];have:=hB.size;omega) _) (by rw[World.size_alloc,World.size_alloc];have:=hB.size;omega) hb1))
     go_ret;rw[hbf];exact⟨rfl,hB1⟩
   ·have hbt:b=true:=by
     rw[←hb];refine decide_eq_true (List.ext_getElem (by simp;omega) (fun j h1 h2=>?_));simp only[List.length_map]at h1 h2;rw[List.getElem_map,List.getElem_map];exact hno.out j h1 h2 (by omega)
    clear hno hb hle;subst hbt;go_wp2;go_ret;exact⟨rfl,hB⟩
 ·have hbf:b=false:=by rw[←hb];exact decide_eq_false (fun e=>hlen (by have:=congrArg List.length e;simpa using this))
  have hlI:((xs.length:Int) !=(ys.length:Int))=true:=by rw[bne_iff_ne];omega
  have hlI2:((xs.length:Int)==(ys.length:Int))=false:=by rw[beq_eq_false_iff_ne];omega
  clear hb;subst hbf;go_enter Tryz.func86,Tryz.ntmps86;go_wp2;go_ret;exact⟨rfl,Below.refl _ _⟩
def wo.f(l0 l1:List Rw):Option Bool:=some (decide (l0.map nL=l1.map nL))
theorem wo.calls(A0:Option Addr)(c0:Nat)(l0:List Rw)(A1:Option Addr)(c1:Nat)(l1:List Rw)(r:Bool)(w:World)(hr0:k34.C w A0 l0.length l0)(hc0:l0.length≤c0)(hr1:k34.C w A1 l1.length l1)(hc1:l1.length≤c1)(h:wo.f l0 l1=some r):
 Calls Tryz.prog 40 #[.slice A0 l0.length c0,.slice A1 l1.length c1] w fun e w'=>e=.returned (.bool r)∧Below w.heap.size w w':=by
 have hi:=Lib.hid (P6 l0 l1 A0 A1 c0 c1 w hr0 hr1 r (Option.some.inj h));clear h;go_enter Tryz.func40,Tryz.ntmps40
 go_wp2_with(go_at_call 86;((with_reducible refine hi.out.mono ?_);rintro e w1 ⟨rfl,hb1⟩))
 go_ret;exact⟨rfl,hb1⟩
end Go.Proofs.aj.W7
