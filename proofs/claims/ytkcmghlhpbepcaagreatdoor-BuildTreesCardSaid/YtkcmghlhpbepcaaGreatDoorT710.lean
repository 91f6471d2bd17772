/- Lemmas and walks, part 10. -/
import Derived.Test.YtkcmghlhpbepcaaGreatDoorT79
set_option linter.unusedVariables false
set_option linter.unusedSimpArgs false
set_option maxHeartbeats 8000000
set_option maxRecDepth 100000
namespace Go.Proofs.YtkcmghlhpbepcaaGreatDoor
open Go.RowKit Go.Proofs
theorem own_ne{w:World}{base:Nat}{e e':TypeId}{size n b:Nat}{v:Value}{xs:List Value}{cur:Array Value}{fz:Nat×Nat}(h:w.ownsRow base e size v n xs)(hb:w.heap[b]?=some (.cells cur e' fz))(hne:e'≠e):v.ownBlock≠some b:=by
 rcases h.2 with⟨rfl,_⟩|⟨g,cap,cr,rfl,hg,hh,_⟩
 ·simp[Value.ownBlock]
 ·intro e0
  have:g=b:=by simpa [Value.ownBlock]using e0
  subst this;rw[hb]at hh;simp at hh;exact hne hh.2.1
theorem lD{w w':World}{base:Nat}{e e':TypeId}{size n b:Nat}{v:Value}{xs:List Value}{cur:Array Value}{fz:Nat×Nat}(h:w.ownsRow base e size v n xs)(hg:w.grownBy w' (some b))(hb:w.heap[b]?=some (.cells cur e' fz))(hne:e'≠e):w'.ownsRow base e size v n xs:=
 World.ownsRow.kept h hg (.inr (own_ne h hb hne))
theorem sN{w:World}{base:Nat}{e:TypeId}{size n b:Nat}{v:Value}{xs:List Value}(h:w.ownsRow base e size v n xs)(hv:v.ownBlock=some b):∃cur,w.heap[b]?=some (.cells cur e (0,0)):=by
 rcases h.2 with⟨rfl,_⟩|⟨g,cap,cr,rfl,hg,hh,_⟩
 ·simp[Value.ownBlock]at hv
 ·have:g=b:=by simpa [Value.ownBlock]using hv
  subst this;exact⟨cr,hh⟩
theorem qo{w w':World}{base base':Nat}{e e':TypeId}{size n size' n':Nat}{v v':Value}{xs xs':List Value}(h:w.ownsRow base e size v n xs)(h':w.ownsRow base' e' size' v' n' xs')(hg:w.grownBy w' v'.ownBlock)(hne:e'≠e):w'.ownsRow base e size v n xs:=by
 cases hv:v'.ownBlock with
 |none=>rw[hv]at hg;exact World.ownsRow.kept h hg (by cases hx:v.ownBlock<;>simp)
 |some b=>
  rw[hv]at hg;obtain⟨cur,hc⟩:=sN h' hv;exact lD h hg hc hne
theorem own_below{w w1:World}{base:Nat}{e:TypeId}{size n:Nat}{v:Value}{xs:List Value}(h:w.ownsRow base e size v n xs)(hb:Below w.heap.size w w1):w1.ownsRow base e size v n xs:=
 World.ownsRow.kept h (jS hb none) (by cases hv:v.ownBlock<;>simp)
def mP(l:List (Txt×Txt)):List Value:=l.flatMap fun a=>[.string ⟨a.1.toArray⟩,.string ⟨a.2.toArray⟩]
def gQ(w:World)(base:Nat)(v:Value)(l:List (Txt×Txt)):Prop:=w.ownsRow base 36 2 v l.length (mP l)
def rR(t:Tok)(va:Value):List Value:=[.int .i64 t.kind,.string ⟨t.name.toArray⟩,.string ⟨t.data.toArray⟩,va,.bool t.self]
def jW(w:World)(base:Nat)(v:Value)(l:List Tok):Prop:=
 ∃ps:List (Tok×Value),ps.map Prod.fst=l∧w.ownsRow base 65 5 v l.length (ps.flatMap fun p=>rR p.1 p.2)∧∀p∈ps,gQ w base p.2 p.1.attrs
theorem gQ.nil(w:World)(base:Nat):gQ w base (.slice none 0 0) []:=World.ownsRow_nil _ _ _ _
theorem jW.nil(w:World)(base:Nat):jW w base (.slice none 0 0) []:=⟨[],rfl,World.ownsRow_nil _ _ _ _,by simp⟩
theorem gQ.below{w w1:World}{base:Nat}{v:Value}{l:List (Txt×Txt)}(h:gQ w base v l)(hb:Below w.heap.size w w1):gQ w1 base v l:=own_below h hb
theorem jW.below{w w1:World}{base:Nat}{v:Value}{l:List Tok}(h:jW w base v l)(hb:Below w.heap.size w w1):jW w1 base v l:=by
 obtain⟨ps,h1,h2,h3⟩:=h;exact⟨ps,h1,own_below h2 hb,fun p hp=>(h3 p hp).below hb⟩
theorem jW.other{w w':World}{base b:Nat}{v:Value}{l:List Tok}{cur:Array Value}{e':TypeId}{fz:Nat×Nat}(h:jW w base v l)(hg:w.grownBy w' (some b))(hb:w.heap[b]?=some (.cells cur e' fz))(h1:e'≠65)(h2:e'≠36):jW w' base v l:=by
 obtain⟨ps,k1,k2,k3⟩:=h;exact⟨ps,k1,lD k2 hg hb h1,fun p hp=>lD (k3 p hp) hg hb h2⟩
theorem Jk:∃i z,Tryz.prog.info? 65=some i∧i.zero=some z∧i.size=5∧i.bytes=72∧z.cells.size=5:=by
 have h:(Tryz.prog.info? 65).map (fun i=>(i.zero.map fun z=>z.cells.size,i.size,i.bytes))=some (some 5,5,72):=by kernel_rfl
 cases hi:Tryz.prog.info? 65 with
 |none=>rw[hi]at h;simp at h
 |some i=>
  rw[hi]at h;simp at h;obtain⟨⟨z,hz,hs⟩,h2,h3⟩:=h;exact⟨i,z,rfl,hz,h2,h3,hs⟩
theorem attrInfo:∃i z,Tryz.prog.info? 36=some i∧i.zero=some z∧i.size=2∧i.bytes=32∧z.cells.size=2:=by
 have h:(Tryz.prog.info? 36).map (fun i=>(i.zero.map fun z=>z.cells.size,i.size,i.bytes))=some (some 2,2,32):=by kernel_rfl
 cases hi:Tryz.prog.info? 36 with
 |none=>rw[hi]at h;simp at h
 |some i=>
  rw[hi]at h;simp at h;obtain⟨⟨z,hz,hs⟩,h2,h3⟩:=h;exact⟨i,z,rfl,hz,h2,h3,hs⟩
theorem addr_add(g j:Nat):(⟨g,0,none⟩:Addr).add j=⟨g,j,none⟩:=by unfold Addr.add;split<;>simp_all
theorem J7(a b:List (Txt×Txt)):mP (a++b)=mP a++mP b:=by simp[mP]
theorem Jl{w:World}{base:Nat}{e:TypeId}{size n:Nat}{v:Value}{xs:List Value}(h:w.ownsRow base e size v n xs):v.oneCell'=true:=by
 rcases h.2 with⟨rfl,_⟩|⟨g,cap,cr,rfl,_⟩<;>rfl
theorem EH{w:World}{ops:Array Oper}{rest:List Oper}{o:Oper}{a:Act}{Q:Exit→Act→World→Prop}(hgd:o.guard=none)(sl x:Operand)
 (ho:o.op=.call {callee:=.builtin .append,args:=#[sl,x],argTypes:=#[32,32] })
 (base g:Nat) (v:Value) (l:List (Txt×Txt)) (t:Txt×Txt) (hs:a.eval sl=v) (hown:gQ w base v l) (hx:a.eval x=.slice (some ⟨g,0,none⟩) 1 1)
 (hc0:w.cell? ⟨g,0,none⟩=some (.string ⟨t.1.toArray⟩)) (hc1:w.cell? ⟨g,1,none⟩=some (.string ⟨t.2.toArray⟩))
 (hlen:l.length+1≤1000000000000) (hbase:base≤w.heap.size)
 (h:∀v' w',gQ w' base v' (l++[t])→w.grownBy w' v.ownBlock→Below base w w'→wpList Tryz.prog ops Q rest (a.put o.dst v') w'):wpList Tryz.prog ops Q (o::rest) a w:=by
 obtain⟨i,z,hi,hz,h2,h3,hzs⟩:=attrInfo;refine wpList_append_own _ hgd sl x 32 ho base 36 i z 2 32 Tryz.underlying32 hi hz h2 h3 hzs (by decide) v l.length (mP l) hs hown ⟨g,0,none⟩ 1 1 (mP [t]) hx rfl ?_ ?_ (by unfold maxLen;omega) (by omega) hbase ?_
 ·intro j u hj
  rw[addr_add]
  match j,hj with
  |0,hj=>simp[mP]at hj;subst hj;exact hc0
  |1,hj=>simp[mP]at hj;subst hj;exact hc1
 ·intro u hu
  simp[mP]at hu
  rcases hu with rfl|rfl<;>rfl
 ·intro v' w' hown' hgrow _
  refine h v' w' ?_ hgrow ((Below.refl base w).grown hgrow hbase (fun k hk=>lV hown hk));unfold gQ;rw[J7];simpa using hown'
theorem oV{w:World}{ops:Array Oper}{rest:List Oper}{o:Oper}{a:Act}{Q:Exit→Act→World→Prop}(hgd:o.guard=none)(sl x:Operand)
 (ho:o.op=.call {callee:=.builtin .append,args:=#[sl,x],argTypes:=#[26,26] })
 (base g:Nat) (v va:Value) (l:List Tok) (t:Tok) (hs:a.eval sl=v) (hown:jW w base v l) (hx:a.eval x=.slice (some ⟨g,0,none⟩) 1 1)
 (hc0:w.cell? ⟨g,0,none⟩=some (.int .i64 t.kind)) (hc1:w.cell? ⟨g,1,none⟩=some (.string ⟨t.name.toArray⟩)) (hc2:w.cell? ⟨g,2,none⟩=some (.string ⟨t.data.toArray⟩)) (hc3:w.cell? ⟨g,3,none⟩=some va) (hc4:w.cell? ⟨g,4,none⟩=some (.bool t.self))
 (hat:gQ w base va t.attrs) (hlen:l.length+1≤1000000000000) (hbase:base≤w.heap.size)
 (h:∀v' w',jW w' base v' (l++[t])→w.grownBy w' v.ownBlock→Below base w w'→(∀(b:Nat) (cur:Array Value) (e:TypeId) (fz:Nat×Nat),w.heap[b]?=some (.cells cur e fz)→e≠65→w'.heap[b]?=some (.cells cur e fz))→wpList Tryz.prog ops Q rest (a.put o.dst v') w'):wpList Tryz.prog ops Q (o::rest) a w:=by
 obtain⟨i,z,hi,hz,h2,h3,hzs⟩:=Jk;obtain⟨ps,k1,k2,k3⟩:=hown;refine wpList_append_own _ hgd sl x 26 ho base 65 i z 5 72 Tryz.underlying26 hi hz h2 h3 hzs (by decide) v l.length _ hs k2 ⟨g,0,none⟩ 1 1 (rR t va) hx rfl ?_ ?_ (by unfold maxLen;omega) (by omega) hbase ?_
 ·intro j u hj
  rw[addr_add]
  match j,hj with
  |0,hj=>simp[rR]at hj;subst hj;exact hc0
  |1,hj=>simp[rR]at hj;subst hj;exact hc1
  |2,hj=>simp[rR]at hj;subst hj;exact hc2
  |3,hj=>simp[rR]at hj;subst hj;exact hc3
  |4,hj=>simp[rR]at hj;subst hj;exact hc4
 ·intro u hu
  simp[rR]at hu
  rcases hu with rfl|rfl|rfl|rfl|rfl
  ·rfl
  ·rfl
  ·rfl
  ·exact Jl hat
  ·rfl
 ·intro v' w' hown' hgrow _
  refine h v' w' ⟨ps++[(t,va)],by simp[k1],by simpa using hown',?_⟩ hgrow ((Below.refl base w).grown hgrow hbase (fun k hk=>lV k2 hk)) ?_
  ·intro p hp
   rw[List.mem_append]at hp
   rcases hp with hp|hp
   ·exact qo (k3 p hp) k2 hgrow (by decide)
   ·simp at hp
    subst hp;exact qo hat k2 hgrow (by decide)
  ·intro b cur e fz hb hne
   rw[hgrow.block b (Array.getElem?_eq_some_iff.1 hb).1 (fun e0=>own_ne k2 hb hne e0.symm)];exact hb
def Sc(w:World)(base b:Nat)(s t:Txt)(l:List Tok):Prop:=
 base≤b∧∃v,w.heap[b]?=some (.cells #[.string ⟨s.toArray⟩,.string ⟨t.toArray⟩,v] 92 (0,0))∧jW w base v l
theorem Sc.below{w w1:World}{base b:Nat}{s t:Txt}{l:List Tok}(h:Sc w base b s t l)(hb:Below w.heap.size w w1):Sc w1 base b s t l:=by
 obtain⟨h1,v,h2,h3⟩:=h;exact⟨h1,v,(hb.block b (Array.getElem?_eq_some_iff.1 h2).1).trans h2,h3.below hb⟩
theorem gL(w:World)(a:Addr)(v:Value):w.grownBy (w.setCell a v) (some a.block):=
 ⟨rfl,rfl,rfl,by simp,fun k _ hk=>heap_setCell_other w a k v (fun e=>hk (by simp[e]))⟩
theorem aW{B b j:Nat}{w W:World}(h:Below B w W)(hb:B≤b)(v:Value):Below B w (W.setCell ⟨b,j,none⟩ v):=h.setCell (p:=⟨b,j,none⟩) hb v
theorem Sc.oh{w:World}{base b:Nat}{s t:Txt}{l:List Tok}(h:Sc w base b s t l)(s':Txt):Sc (w.setCell ⟨b,0,none⟩ (.string ⟨s'.toArray⟩)) base b s' t l:=by
 obtain⟨h1,v,h2,h3⟩:=h;exact⟨h1,v,heap_setCell_same w b 0 _ _ _ h2,h3.other (gL w ⟨b,0,none⟩ _) h2 (by decide) (by decide)⟩
theorem Sc.Ca{w:World}{base b:Nat}{s t:Txt}{l:List Tok}(h:Sc w base b s t l)(t':Txt):Sc (w.setCell ⟨b,1,none⟩ (.string ⟨t'.toArray⟩)) base b s t' l:=by
 obtain⟨h1,v,h2,h3⟩:=h;exact⟨h1,v,heap_setCell_same w b 1 _ _ _ h2,h3.other (gL w ⟨b,1,none⟩ _) h2 (by decide) (by decide)⟩
theorem Sc.qp{w:World}{base b:Nat}{s t:Txt}{l l':List Tok}{v v':Value}(h1:base≤b)(h2:w.heap[b]?=some (.cells #[.string ⟨s.toArray⟩,.string ⟨t.toArray⟩,v] 92 (0,0)))(h3:jW w base v' l'):Sc (w.setCell ⟨b,2,none⟩ v') base b s t l':=
 ⟨h1,v',heap_setCell_same w b 2 _ _ _ h2,h3.other (gL w ⟨b,2,none⟩ _) h2 (by decide) (by decide)⟩
end Go.Proofs.YtkcmghlhpbepcaaGreatDoor
namespace Go.Proofs.YtkcmghlhpbepcaaGreatDoor
open Go.Proofs
theorem cut1_le(c:UInt8)(l:Txt):(gI c l).2.1.length≤l.length:=by
 have:=nJ c l;omega
theorem Gn(s:Txt):(kI s).length≤s.length:=by
 unfold kI;simp
theorem valF_le(nm s:Txt):(valF nm s).2.1.length≤s.length:=by
 unfold valF
 split
 ·simp
 ·rename_i q t
  split
  ·have:=cut1_le q t
   simp only[List.length_cons];omega
  ·simp only[List.length_drop]
   omega
theorem attrR_le(nm s:Txt):(attrR nm s).2.1.length≤s.length:=by
 have h1:=Gn s;unfold attrR
 split
 ·simp
 ·rename_i c t h
  rw[h]at h1;simp only[List.length_cons]at h1
  split
  ·have h2:=valF_le nm (kI t)
   have h3:=Gn t;omega
  ·simp
theorem rU(c:UInt8)(s:Txt):(pQ (c::s)).2.1.length≤s.length:=by
 have h:=attrR_le (kQ ((c::s).take (zw (c::s)))) ((c::s).drop (zw (c::s)));have:1≤zw (c::s):=by unfold zw;omega
 unfold pQ;simp only[List.length_drop,List.length_cons]at h;omega
theorem xS:∀(n m:Nat) (acc:List (Txt×Txt)) (s:Txt),s.length<n→s.length<m→qX n acc s=qX m acc s
 |0,_,_,_,h,_=>absurd h (Nat.not_lt_zero _)
 |_,0,_,_,_,h=>absurd h (Nat.not_lt_zero _)
 |n+1,m+1,acc,s,hn,hm=>by
  unfold qX;cases h:s.drop (uT s)with
  |nil=>rfl
  |cons c s1=>
   have h1:s1.length<s.length:=by
    have:=congrArg List.length h;simp at this;omega
   have h2:=rU c s1;simp only
   split
   ·rfl
   ·split
    ·exact xS n m _ _ (by omega) (by omega)
    ·rfl
theorem JZ(acc:List (Txt×Txt))(s:Txt):lU acc s=match s.drop (uT s)with
 | []=>none
 |c::s1=>if c=62 then some (acc,uq s,s1)else if(pQ (c::s1)).2.2 then lU (addA acc (pQ (c::s1)).1) (pQ (c::s1)).2.1 else none:=by
 unfold lU;rw[qX];cases h:s.drop (uT s)with
 |nil=>rfl
 |cons c s1=>
  have h1:s1.length<s.length:=by
   have:=congrArg List.length h;simp at this;omega
  have h2:=rU c s1;simp only
  split
  ·rfl
  ·split
   ·exact xS _ _ _ _ (by omega) (by omega)
   ·rfl
theorem Cb:∀(n:Nat) (acc:List (Txt×Txt)) (s:Txt) r,qX n acc s=some r→r.2.2.length≤s.length
 |0,_,_,_,h=>by simp[qX]at h
 |n+1,acc,s,r,h=>by
  unfold qX at h;cases hd:s.drop (uT s)with
  |nil=>rw[hd]at h;simp at h
  |cons c s1=>
   rw[hd]at h
   have h1:s1.length<s.length:=by
    have:=congrArg List.length hd;simp at this;omega
   have h2:=rU c s1;simp only at h
   split at h
   ·simp at h
    subst h;simp only;omega
   ·split at h
    ·have:=Cb n _ _ r h
     omega
    ·simp at h
theorem uD{s:Txt}{r:Tok×Txt}(h:fK s=some r):r.2.length≤s.length:=by
 unfold fK at h;cases ha:lU [] (s.drop (s.findIdx dY))with
 |none=>rw[ha]at h;simp at h
 |some q=>
  rw[ha]at h;simp at h;have:=Cb _ _ _ _ ha;subst h;simp only[List.length_drop]at *;omega
theorem Js(k:Int)(s:Txt):(tJ k s).2.length≤s.length:=by
 unfold tJ;cases ho:fK s with
 |none=>simp
 |some r=>
  have:=uD ho;simp only
  split
  ·simpa using this
  ·split
   ·simp only[mg,List.length_drop]
    omega
   ·simpa using this
theorem cut_le(s e:Txt):(Lib.cut s e).2.1.length≤s.length:=by
 unfold Lib.cut
 split
 ·simp
 ·simp
theorem sH(k:Int)(s e:Txt):(qz k s e).2.length≤s.length:=cut_le s e
theorem Gp(s:Txt):(kX s).2.length≤s.length:=by
 unfold kX
 split
 ·simp
 ·split
  ·simp
  ·exact sH _ _ _
theorem AJ{s:Txt}{r:List Tok×Txt}(h:kJ s=some r):r.2.length≤s.length:=by
 unfold kJ at h;have hd:∀n,(s.drop n).length≤s.length:=by simp
 have ht:s.tail.length≤s.length:=by simp
 split at h
 ·simp at h;subst h;exact Js _ _
 ·split at h
  ·simp at h;subst h;exact Nat.le_trans (Js _ _) ht
  ·split at h
   ·simp at h;subst h;exact hd 2
   ·split at h
    ·simp at h;subst h;exact Nat.le_trans (Gp _) (hd 3)
    ·split at h
     ·simp at h;subst h;exact Nat.le_trans (sH _ _ _) (hd 8)
     ·split at h
      ·simp at h;subst h;exact Nat.le_trans (sH _ _ _) ht
      ·split at h
       ·simp at h;subst h;exact sH _ _ _
       ·split at h
        ·simp at h;subst h;exact Nat.le_trans (sH _ _ _) ht
        ·simp at h
theorem sQ:∀(n m:Nat) (t s:Txt),s.length<n→s.length<m→runN n t s=runN m t s
 |0,_,_,_,h,_=>absurd h (Nat.not_lt_zero _)
 |_,0,_,_,_,h=>absurd h (Nat.not_lt_zero _)
 |n+1,m+1,t,s,hn,hm=>by
  unfold runN;cases h:s.drop (jC s)with
  |nil=>rfl
  |cons c s1=>
   have h1:s1.length<s.length:=by
    have:=congrArg List.length h;simp at this;omega
   simp only;cases ho:kJ s1 with
   |none=>exact sQ n m _ _ (by omega) (by omega)
   |some r=>
    have:=AJ ho;obtain⟨ts,r⟩:=r;simp only at *;rw[sQ n m _ _ (by omega) (by omega)]
theorem Jp(t s:Txt):pF t s=match s.drop (jC s)with
 | []=>eT (t++s.take (jC s))
 |_::s1=>
  match kJ s1 with
  |none=>pF (t++s.take (jC s)++[60]) s1
  |some (ts,r)=>eT (t++s.take (jC s))++ts++pF [] r:=by
 unfold pF;rw[runN];cases h:s.drop (jC s)with
 |nil=>rfl
 |cons c s1=>
  have h1:s1.length<s.length:=by
   have:=congrArg List.length h;simp at this;omega
  simp only;cases ho:kJ s1 with
  |none=>exact sQ _ _ _ _ (by omega) (by omega)
  |some r=>
   have:=AJ ho;obtain⟨ts,r⟩:=r;simp only at *;rw[sQ s.length (r.length+1) [] r (by omega) (by omega)]
end Go.Proofs.YtkcmghlhpbepcaaGreatDoor
namespace Go.Proofs.YtkcmghlhpbepcaaGreatDoor
open Go.RowKit Go.Proofs
@[go_sem] theorem tail_go (c : UInt8) (t : Txt) : (⟨(c :: t).toArray⟩ : Bt).extract 1 (t.length + 1) = ⟨t.toArray⟩ := rG
theorem fM{w:World}{b:Nat}{x y:Value}{t:TypeId}(h:w.heap[b]?=some (.cells #[x,y] t (0,0))):w.cell? ⟨b,0,none⟩=some x∧w.cell? ⟨b,1,none⟩=some y∧w.frozen? ⟨b,0,none⟩=false∧w.frozen? ⟨b,1,none⟩=false:=by
 refine⟨?_,?_,?_,?_⟩
 ·rw[Lib.cell_of_heap h];rfl
 ·rw[Lib.cell_of_heap h];rfl
 ·exact frozen_of_row w b 0 _ _ h
 ·exact frozen_of_row w b 1 _ _ h
theorem kr{w:World}{b:Nat}{x y:Value}{t:TypeId}(h:w.heap[b]?=some (.cells #[x,y] t (0,0))):(∀o,(w.alloc o).cell? ⟨b,0,none⟩=some x)∧(∀o,(w.alloc o).cell? ⟨b,1,none⟩=some y)∧(∀o,(w.alloc o).frozen? ⟨b,0,none⟩=false)∧(∀o,(w.alloc o).frozen? ⟨b,1,none⟩=false):=by
 have hlt:b<w.heap.size:=(Array.getElem?_eq_some_iff.1 h).1;have h':∀o,(w.alloc o).heap[b]?=some (.cells #[x,y] t (0,0)):=fun o=>(heap_alloc_old w _ hlt).trans h
 exact⟨fun o=>(fM (h' o)).1,fun o=>(fM (h' o)).2.1,fun o=>(fM (h' o)).2.2.1,fun o=>(fM (h' o)).2.2.2⟩
theorem attrK_le{l:Txt}(h:0<l.length):∃k,zw l=1+k∧l.tail.findIdx (fun c=>dY c||c==61)=k∧1+k≤l.length:=by
 refine⟨_,rfl,rfl,?_⟩;have:=List.findIdx_le_length (p:=fun c=>dY c||c==61) (xs:=l.tail);rw[List.length_tail]at this;omega
theorem nC{s t:Txt}{c:UInt8}(h:kI s=c::t):∃k,s.findIdx (fun c=>!dQ c)=k∧k<s.length∧(∀h:k<s.length,s[k]=c)∧s.drop (k+1)=t:=by
 unfold kI at h;refine⟨_,rfl,?_⟩;generalize s.findIdx (fun c=>!dQ c)=k at *
 have hlt:k<s.length:=by
  have:=congrArg List.length h;simp at this;omega
 rw[List.drop_eq_getElem_cons hlt]at h;injection h with h1 h2
 exact⟨hlt,fun _=>h1,h2⟩
theorem Bw{s:Txt}(h:kI s=[]):s.findIdx (fun c=>!dQ c)=s.length:=by
 have h1:=List.findIdx_le_length (p:=fun c=>!dQ c) (xs:=s);have h2:=List.drop_eq_nil_iff.1 h;omega
theorem Eo(l nm s1:Txt)(k:Nat)(hl:l.length≤1000000000)(hk:1+k≤l.length)(hK:l.tail.findIdx (fun c=>dY c||c==61)=k)(hnm:kQ (l.take (1+k))=nm)(hs1:l.drop (1+k)=s1)(hsk:kI s1=[])(w:World)(hS:Std w):
 Calls Tryz.prog 230 #[.string ⟨l.toArray⟩] w fun e w'=>e=.returned (.tuple #[.agg #[.string ⟨nm.toArray⟩,.string ⟨([] :Txt).toArray⟩],.string ⟨([] :Txt).toArray⟩,.bool false])∧Below w.heap.size w w':=by
 have hsl:s1.length≤1000000000:=by rw[←hs1];simp;omega
 have hc1:=Lib.hid (fun W=>nH l.tail (by simp;omega) W);have hc2:=Lib.hid (fun W=>kR (l.take (1+k)) (by simp;omega) W);have hc3:=Lib.hid (fun W=>nI s1 hsl W);rw[hK]at hc1;rw[hnm]at hc2;rw[Bw hsk]at hc3;clear hsk;clear hK hnm;go_enter Tryz.func230,Tryz.ntmps230
 go_wp2_with(first
  |(go_at_call 156;first
   |((with_reducible refine(hc1.out _).mono ?_);rintro e w1 ⟨rfl,rfl⟩)
   |((with_reducible refine(hc3.out _).mono ?_);rintro e w1 ⟨rfl,rfl⟩))
  |(go_at_call 187;((with_reducible refine(hc2.out _).mono ?_);rintro e w1 ⟨rfl,hb⟩;have hB1:=bO ((Below.refl w.heap.size w).alloc (Nat.le_refl _) _) (by simp) hb;have r0:=(hb.block w.heap.size (by simp)).trans (bR _ _ _);obtain⟨q1,q2,q3,q4⟩:=kr r0;have hz1:=hb.size;simp at hz1;have hS1:=hS.below hB1;have hne1:w1.heap.size≠w.heap.size:=(by omega);have hne2:w.heap.size≠w1.heap.size:=(by omega);clear hb)))
 refine bodyPost_ret (v:=.tuple #[.agg #[.string ⟨nm.toArray⟩,.string ⟨([] :Txt).toArray⟩],.string ⟨([] :Txt).toArray⟩,.bool false]) (by simp[results,Tryz.results230,go_sem,q1,q2]) rfl ⟨rfl,aW (aW (hB1.alloc (by omega) _) (Nat.le_refl _) _) (Nat.le_refl _) _⟩
theorem Ep(l nm s1 t2:Txt)(c:UInt8)(k:Nat)(hl:l.length≤1000000000)(hk:1+k≤l.length)(hK:l.tail.findIdx (fun c=>dY c||c==61)=k)(hnm:kQ (l.take (1+k))=nm)(hs1:l.drop (1+k)=s1)(hsk:kI s1=c::t2)(hc61:c≠61)(w:World)(hS:Std w):
 Calls Tryz.prog 230 #[.string ⟨l.toArray⟩] w fun e w'=>e=.returned (.tuple #[.agg #[.string ⟨nm.toArray⟩,.string ⟨([] :Txt).toArray⟩],.string ⟨(s1:Txt).toArray⟩,.bool true])∧Below w.heap.size w w':=by
 have hsl:s1.length≤1000000000:=by rw[←hs1];simp;omega
 have hc1:=Lib.hid (fun W=>nH l.tail (by simp;omega) W);have hc2:=Lib.hid (fun W=>kR (l.take (1+k)) (by simp;omega) W);have hc3:=Lib.hid (fun W=>nI s1 hsl W);rw[hK]at hc1;rw[hnm]at hc2;obtain⟨k2,h21,h22,h23,h24⟩:=nC hsk;rw[h21]at hc3;have h23:=h23 h22;obtain⟨n,hn⟩:∃n,(c.toNat:Int)=n:=⟨_,rfl⟩
 have hn61:n≠61:=by
  intro e;exact hc61 (u8_eq (n:=61) (by omega) (by omega))
 clear hsk h21 h24 hc61;clear hK hnm;go_enter Tryz.func230,Tryz.ntmps230
 go_wp2_with(first
  |(go_at_call 156;first
   |((with_reducible refine(hc1.out _).mono ?_);rintro e w1 ⟨rfl,rfl⟩)
   |((with_reducible refine(hc3.out _).mono ?_);rintro e w1 ⟨rfl,rfl⟩))
  |(go_at_call 187;((with_reducible refine(hc2.out _).mono ?_);rintro e w1 ⟨rfl,hb⟩;have hB1:=bO ((Below.refl w.heap.size w).alloc (Nat.le_refl _) _) (by simp) hb;have r0:=(hb.block w.heap.size (by simp)).trans (bR _ _ _);obtain⟨q1,q2,q3,q4⟩:=kr r0;have hz1:=hb.size;simp at hz1;have hS1:=hS.below hB1;have hne1:w1.heap.size≠w.heap.size:=(by omega);have hne2:w.heap.size≠w1.heap.size:=(by omega);clear hb)))
 refine bodyPost_ret (v:=.tuple #[.agg #[.string ⟨nm.toArray⟩,.string ⟨([] :Txt).toArray⟩],.string ⟨(s1:Txt).toArray⟩,.bool true]) (by simp[results,Tryz.results230,go_sem,q1,q2]) rfl ⟨rfl,aW (aW (hB1.alloc (by omega) _) (Nat.le_refl _) _) (Nat.le_refl _) _⟩
theorem Er(l nm s1 t2:Txt)(k:Nat)(hl:l.length≤1000000000)(hk:1+k≤l.length)(hK:l.tail.findIdx (fun c=>dY c||c==61)=k)(hnm:kQ (l.take (1+k))=nm)(hs1:l.drop (1+k)=s1)(hsk:kI s1=61::t2)(pK:kI t2=[])(w:World)(hS:Std w):
 Calls Tryz.prog 230 #[.string ⟨l.toArray⟩] w fun e w'=>e=.returned (.tuple #[.agg #[.string ⟨nm.toArray⟩,.string ⟨([] :Txt).toArray⟩],.string ⟨([] :Txt).toArray⟩,.bool false])∧Below w.heap.size w w':=by
 have hsl:s1.length≤1000000000:=by rw[←hs1];simp;omega
 have hc1:=Lib.hid (fun W=>nH l.tail (by simp;omega) W);have hc2:=Lib.hid (fun W=>kR (l.take (1+k)) (by simp;omega) W);have hc3:=Lib.hid (fun W=>nI s1 hsl W);rw[hK]at hc1;rw[hnm]at hc2;obtain⟨k2,h21,h22,h23,h24⟩:=nC hsk;rw[h21]at hc3;have h23:=h23 h22;have ht2:t2.length≤1000000000:=by rw[←h24];simp;omega
 have hc4:=Lib.hid (fun W=>rH t2 ht2 W);rw[Bw pK]at hc4;clear hsk h21 pK;clear hK hnm;go_enter Tryz.func230,Tryz.ntmps230
 go_wp2_with(first
  |(go_at_call 156;first
   |((with_reducible refine(hc1.out _).mono ?_);rintro e w1 ⟨rfl,rfl⟩)
   |((with_reducible refine(hc3.out _).mono ?_);rintro e w1 ⟨rfl,rfl⟩)
   |((with_reducible refine(hc4.out _).mono ?_);rintro e w1 ⟨rfl,rfl⟩))
  |(go_at_call 187;((with_reducible refine(hc2.out _).mono ?_);rintro e w1 ⟨rfl,hb⟩;have hB1:=bO ((Below.refl w.heap.size w).alloc (Nat.le_refl _) _) (by simp) hb;have r0:=(hb.block w.heap.size (by simp)).trans (bR _ _ _);obtain⟨q1,q2,q3,q4⟩:=kr r0;have hz1:=hb.size;simp at hz1;have hS1:=hS.below hB1;have hne1:w1.heap.size≠w.heap.size:=(by omega);have hne2:w.heap.size≠w1.heap.size:=(by omega);clear hb)))
 refine bodyPost_ret (v:=.tuple #[.agg #[.string ⟨nm.toArray⟩,.string ⟨([] :Txt).toArray⟩],.string ⟨([] :Txt).toArray⟩,.bool false]) (by simp[results,Tryz.results230,go_sem,q1,q2]) rfl ⟨rfl,aW (aW (hB1.alloc (by omega) _) (Nat.le_refl _) _) (Nat.le_refl _) _⟩
theorem Bj(l nm s1 t2 t3:Txt)(k:Nat)(hl:l.length≤1000000000)(hk:1+k≤l.length)(hK:l.tail.findIdx (fun c=>dY c||c==61)=k)(hnm:kQ (l.take (1+k))=nm)(hs1:l.drop (1+k)=s1)(hsk:kI s1=61::t2)(pK:kI t2=34::t3)(w:World)(hS:Std w):
 Calls Tryz.prog 230 #[.string ⟨l.toArray⟩] w fun e w'=>e=.returned (.tuple #[.agg #[.string ⟨nm.toArray⟩,.string ⟨(iY (gI 34 t3).1:Txt).toArray⟩],.string ⟨((gI 34 t3).2.1:Txt).toArray⟩,.bool (gI 34 t3).2.2])∧Below w.heap.size w w':=by
 have hsl:s1.length≤1000000000:=by rw[←hs1];simp;omega
 have hc1:=Lib.hid (fun W=>nH l.tail (by simp;omega) W);have hc2:=Lib.hid (fun W=>kR (l.take (1+k)) (by simp;omega) W);have hc3:=Lib.hid (fun W=>nI s1 hsl W);rw[hK]at hc1;rw[hnm]at hc2;obtain⟨k2,h21,h22,h23,h24⟩:=nC hsk;rw[h21]at hc3;have h23:=h23 h22;have ht2:t2.length≤1000000000:=by rw[←h24];simp;omega
 have hc4:=Lib.hid (fun W=>rH t2 ht2 W);obtain⟨k3,h31⟩:∃k3,t2.findIdx (fun c=>!dQ c)=k3:=⟨_,rfl⟩
 rw[h31]at hc4;have h3le:k3≤t2.length:=by rw[←h31];exact List.findIdx_le_length
 have h32:t2.drop k3=34::t3:=by rw[←h31];exact pK
 have h3l:=congrArg List.length h32;simp only[List.length_drop,List.length_cons]at h3l;have hcut:=Lib.hid (fun W hS=>cut_c t3 34 (by omega) W hS);have hcl:=nJ 34 t3;generalize gI 34 t3=cc at *;obtain⟨v1,v2,fd⟩:=cc;have hdec:=Lib.hid (fun W hS=>pO v1 (by simp only at hcl;omega) W hS);simp only at hcut;clear hsk h21 pK h31 hcl;clear hK hnm;go_enter Tryz.func230,Tryz.ntmps230
 go_wp2_with(first
  |(go_at_call 156;first
   |((with_reducible refine(hc1.out _).mono ?_);rintro e w1 ⟨rfl,rfl⟩)
   |((with_reducible refine(hc3.out _).mono ?_);rintro e w1 ⟨rfl,rfl⟩)
   |((with_reducible refine(hc4.out _).mono ?_);rintro e w1 ⟨rfl,rfl⟩))
  |(go_at_call 187;((with_reducible refine(hc2.out _).mono ?_);rintro e w1 ⟨rfl,hb⟩;have hB1:=bO ((Below.refl w.heap.size w).alloc (Nat.le_refl _) _) (by simp) hb;have r0:=(hb.block w.heap.size (by simp)).trans (bR _ _ _);obtain⟨q1,q2,q3,q4⟩:=kr r0;have hz1:=hb.size;simp at hz1;have hS1:=hS.below hB1;have hne1:w1.heap.size≠w.heap.size:=(by omega);have hne2:w.heap.size≠w1.heap.size:=(by omega);clear hb))
  |(go_at_call 188;((with_reducible refine(hcut.out _ (hS1.alloc _)).mono ?_);rintro e w2 ⟨rfl,hb2⟩;have hB2:=bO (hB1.alloc (by omega) _) (by simp;omega) hb2;have r02:=(hb2.block w.heap.size (by simp;omega)).trans ((heap_alloc_old w1 _ (by omega)).trans r0);have r12:=(hb2.block w1.heap.size (by simp)).trans (bR _ _ _);have hz2:=hb2.size;simp at hz2;have hS2:=hS.below hB2;clear hb2))
  |(go_at_call 155;((with_reducible refine(hdec.out _ hS2).mono ?_);rintro e w3 ⟨rfl,hb3⟩;have hB3:=bO hB2 (by omega) hb3;obtain⟨p1,p2,p3,p4⟩:=fM ((hb3.block w.heap.size (by omega)).trans r02);obtain⟨p5,p6,p7,p8⟩:=fM ((hb3.block w1.heap.size (by omega)).trans r12);clear hb3)))
 refine bodyPost_ret (v:=.tuple #[.agg #[.string ⟨nm.toArray⟩,.string ⟨(iY v1:Txt).toArray⟩],.string ⟨(v2:Txt).toArray⟩,.bool fd]) (by simp[results,Tryz.results230,go_sem,p1,p2,hne1,hne2]) rfl ⟨rfl,aW (aW (aW hB3 (by omega) _) (Nat.le_refl _) _) (Nat.le_refl _) _⟩
theorem Bl(l nm s1 t2 t3:Txt)(k:Nat)(hl:l.length≤1000000000)(hk:1+k≤l.length)(hK:l.tail.findIdx (fun c=>dY c||c==61)=k)(hnm:kQ (l.take (1+k))=nm)(hs1:l.drop (1+k)=s1)(hsk:kI s1=61::t2)(pK:kI t2=39::t3)(w:World)(hS:Std w):
 Calls Tryz.prog 230 #[.string ⟨l.toArray⟩] w fun e w'=>e=.returned (.tuple #[.agg #[.string ⟨nm.toArray⟩,.string ⟨(iY (gI 39 t3).1:Txt).toArray⟩],.string ⟨((gI 39 t3).2.1:Txt).toArray⟩,.bool (gI 39 t3).2.2])∧Below w.heap.size w w':=by
 have hsl:s1.length≤1000000000:=by rw[←hs1];simp;omega
 have hc1:=Lib.hid (fun W=>nH l.tail (by simp;omega) W);have hc2:=Lib.hid (fun W=>kR (l.take (1+k)) (by simp;omega) W);have hc3:=Lib.hid (fun W=>nI s1 hsl W);rw[hK]at hc1;rw[hnm]at hc2;obtain⟨k2,h21,h22,h23,h24⟩:=nC hsk;rw[h21]at hc3;have h23:=h23 h22;have ht2:t2.length≤1000000000:=by rw[←h24];simp;omega
 have hc4:=Lib.hid (fun W=>rH t2 ht2 W);obtain⟨k3,h31⟩:∃k3,t2.findIdx (fun c=>!dQ c)=k3:=⟨_,rfl⟩
 rw[h31]at hc4;have h3le:k3≤t2.length:=by rw[←h31];exact List.findIdx_le_length
 have h32:t2.drop k3=39::t3:=by rw[←h31];exact pK
 have h3l:=congrArg List.length h32;simp only[List.length_drop,List.length_cons]at h3l;have hcut:=Lib.hid (fun W hS=>cut_c t3 39 (by omega) W hS);have hcl:=nJ 39 t3;generalize gI 39 t3=cc at *;obtain⟨v1,v2,fd⟩:=cc;have hdec:=Lib.hid (fun W hS=>pO v1 (by simp only at hcl;omega) W hS);simp only at hcut;clear hsk h21 pK h31 hcl;clear hK hnm;go_enter Tryz.func230,Tryz.ntmps230
 go_wp2_with(first
  |(go_at_call 156;first
   |((with_reducible refine(hc1.out _).mono ?_);rintro e w1 ⟨rfl,rfl⟩)
   |((with_reducible refine(hc3.out _).mono ?_);rintro e w1 ⟨rfl,rfl⟩)
   |((with_reducible refine(hc4.out _).mono ?_);rintro e w1 ⟨rfl,rfl⟩))
  |(go_at_call 187;((with_reducible refine(hc2.out _).mono ?_);rintro e w1 ⟨rfl,hb⟩;have hB1:=bO ((Below.refl w.heap.size w).alloc (Nat.le_refl _) _) (by simp) hb;have r0:=(hb.block w.heap.size (by simp)).trans (bR _ _ _);obtain⟨q1,q2,q3,q4⟩:=kr r0;have hz1:=hb.size;simp at hz1;have hS1:=hS.below hB1;have hne1:w1.heap.size≠w.heap.size:=(by omega);have hne2:w.heap.size≠w1.heap.size:=(by omega);clear hb))
  |(go_at_call 188;((with_reducible refine(hcut.out _ (hS1.alloc _)).mono ?_);rintro e w2 ⟨rfl,hb2⟩;have hB2:=bO (hB1.alloc (by omega) _) (by simp;omega) hb2;have r02:=(hb2.block w.heap.size (by simp;omega)).trans ((heap_alloc_old w1 _ (by omega)).trans r0);have r12:=(hb2.block w1.heap.size (by simp)).trans (bR _ _ _);have hz2:=hb2.size;simp at hz2;have hS2:=hS.below hB2;clear hb2))
  |(go_at_call 155;((with_reducible refine(hdec.out _ hS2).mono ?_);rintro e w3 ⟨rfl,hb3⟩;have hB3:=bO hB2 (by omega) hb3;obtain⟨p1,p2,p3,p4⟩:=fM ((hb3.block w.heap.size (by omega)).trans r02);obtain⟨p5,p6,p7,p8⟩:=fM ((hb3.block w1.heap.size (by omega)).trans r12);clear hb3)))
 refine bodyPost_ret (v:=.tuple #[.agg #[.string ⟨nm.toArray⟩,.string ⟨(iY v1:Txt).toArray⟩],.string ⟨(v2:Txt).toArray⟩,.bool fd]) (by simp[results,Tryz.results230,go_sem,p1,p2,hne1,hne2]) rfl ⟨rfl,aW (aW (aW hB3 (by omega) _) (Nat.le_refl _) _) (Nat.le_refl _) _⟩
end Go.Proofs.YtkcmghlhpbepcaaGreatDoor
