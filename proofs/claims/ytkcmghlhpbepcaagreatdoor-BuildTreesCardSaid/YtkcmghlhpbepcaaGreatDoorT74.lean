/- Lemmas and walks, part 4. -/
import Derived.Test.YtkcmghlhpbepcaaGreatDoorT73
set_option linter.unusedVariables false
set_option linter.unusedSimpArgs false
namespace Go.Proofs.ah.aG
open Go.RowKit
namespace Kd
def tag{α:Type}(f:Nat→Nat)(d:Kd α):Kd (α×Nat) where
 sz:=d.sz
 E:=d.E
 K:=fun w x cs=>d.K w x.1 cs
 M:=fun w base ok x cs=>d.M w base (fun k=>ok k∧f k=x.2) x.1 cs
 iT:=fun h=>d.iT h
 iM:=fun h=>d.iM h
 gG:=fun hb h=>d.gG hb h
 gy:=fun h=>d.gy h
 fq:=fun hok h=>d.fq (fun k hk=>⟨hok k hk.1,hk.2⟩) h
 fH:=fun h=>d.fq (fun _ hk=>⟨⟨hk.1.1,hk.2⟩,hk.1.2⟩) (d.fH h)
 gK:=fun hm h=>d.gK (fun k hk=>hm k hk.1) h
 gH:=fun hb h=>d.gH hb h
def bare{α:Type}(d:Kd α):Kd α where
 sz:=d.sz
 E:=d.E
 K:=d.K
 M:=fun w base _ x cs=>d.M w base (fun _=>False) x cs
 iT:=fun h=>d.iT h
 iM:=fun h=>d.iM h
 gG:=fun hb h=>d.gG hb h
 gy:=fun h=>d.gy h
 fq:=fun _ h=>h
 fH:=fun h=>h
 gK:=fun _ h=>d.gK (fun _ hk=>hk.elim) h
 gH:=fun hb h=>d.gH hb h
def raw(sz:Nat):Kd (List Value) where
 sz:=sz
 E:=[]
 K:=fun _ x cs=>cs=x∧cs.length=sz∧∀u∈cs,u.oneCell'=true
 M:=fun _ _ _ x cs=>cs=x∧cs.length=sz∧∀u∈cs,u.oneCell'=true
 iT:=fun h=>h.2.1
 iM:=fun h=>h.2.2
 gG:=fun _ h=>h
 gy:=fun h=>h
 fq:=fun _ h=>h
 fH:=fun h=>h
 gK:=fun _ h=>h
 gH:=fun _ h=>h
def S{α:Type}(d:Kd α)(e:Nat)(w:World)(base:Nat)(ok:Nat→Prop)(v:Value)(xs:List α):Prop:=∃f,(tag f d).R e w base ok v xs.zipIdx
section
variable {α β : Type} {d : Kd α} {d' : Kd β} {e e' : Nat} {w w1 W : World} {base b : Nat} {ok ok' okv oku : Nat → Prop} {u v : Value} {xs : List α} {ys : List β}
theorem CG(hE:d.E=[])(h:d.R e w base ok v xs):d.R e w base (fun k=>some k=v.ownBlock) v xs:=by
 obtain⟨h0,inner,ho,hr⟩:=h;refine⟨fun k hk=>hk.symm,inner,ho,hr.pI (fun p c hp=>d.fq (fun k hk=>?_) (d.fH hp))⟩;obtain⟨_,_,_,q,hq,_⟩:=hk;rw[hE]at hq;cases hq
theorem uX(d:Kd α)(e:Nat)(w:World)(base:Nat)(ok:Nat→Prop):S d e w base ok (.slice none 0 0) []:=⟨fun _=>0,iJ _ _ _ _ _⟩
end
section
variable {α β : Type} {d : Kd α} {d' : Kd β} {e e' g : Nat} {w w1 W : World} {base b : Nat} {ok ok' okv oku : Nat → Prop} {u v : Value} {xs : List α} {ys : List β}
end
section
open Classical in
variable {P : Program} {ops : Array Oper} {rest : List Oper} {o : Oper} {a : Act} {Q : Exit → Act → World → Prop} {Kc : Act → World → Prop} {α : Type}
end
def gap{α:Type}(f:Nat→Nat)(d:Kd α)(i:Nat)(c:List Value):Kd (α×Nat) where
 sz:=d.sz
 E:=d.E
 K:=fun w x cs=>(x.2=i→cs=c∧cs.length=d.sz∧∀u∈cs,u.oneCell'=true)∧(x.2≠i→d.K w x.1 cs)
 M:=fun w base ok x cs=>(x.2=i→cs=c∧cs.length=d.sz∧∀u∈cs,u.oneCell'=true)∧(x.2≠i→d.M w base (fun k=>ok k∧f k=x.2) x.1 cs)
 iT:=fun {w x cs} h=>by
  by_cases hx:x.2=i
  ·exact(h.1 hx).2.1
  ·exact d.iT (h.2 hx)
 iM:=fun {w x cs} h=>by
  by_cases hx:x.2=i
  ·exact(h.1 hx).2.2
  ·exact d.iM (h.2 hx)
 gG:=fun hb h=>⟨h.1,fun hx=>d.gG hb (h.2 hx)⟩
 gy:=fun h=>⟨h.1,fun hx=>d.gy (h.2 hx)⟩
 fq:=fun hok h=>⟨h.1,fun hx=>d.fq (fun k hk=>⟨hok k hk.1,hk.2⟩) (h.2 hx)⟩
 fH:=fun h=>⟨h.1,fun hx=>d.fq (fun _ hk=>⟨⟨hk.1.1,hk.2⟩,hk.1.2⟩) (d.fH (h.2 hx))⟩
 gK:=fun hm h=>⟨h.1,fun hx=>d.gK (fun k hk=>hm k hk.1) (h.2 hx)⟩
 gH:=fun hb h=>⟨h.1,fun hx=>d.gH hb (h.2 hx)⟩
def H{α:Type}(d:Kd α)(e:Nat)(w:World)(base:Nat)(ok:Nat→Prop)(v:Value)(xs:List α)(i:Int)(oki:Nat→Prop)(c:List Value):Prop:=
 (∀k,oki k→ok k)∧∃f,(gap f d i.toNat c).R e w base (fun k=>ok k∧¬oki k) v xs.zipIdx
section
variable {α β : Type} {d : Kd α} {e e' g n cap : Nat} {w w1 W : World} {base : Nat} {ok ok' oki okp : Nat → Prop} {u v : Value} {xs : List α} {i : Int} {c : List Value}
open Classical in
end
section
variable {P : Program} {ops : Array Oper} {rest : List Oper} {o : Oper} {a : Act} {Q : Exit → Act → World → Prop} {α : Type}
end
end Kd
namespace Kd
theorem reps_one{α:Type}{R:α→List Value→Prop}{size:Nat}{ps:List α}{cs:List Value}(h:aY R size ps cs)(hs0:0<size)(hR:∀p c,R p c→∀u∈c,u.oneCell'=true):∀u∈cs,u.oneCell'=true:=by
 intro u hu;obtain⟨q,hq,rfl⟩:=List.mem_iff_getElem.1 hu
 have hql:q / size<ps.length:=by
  rw[Nat.div_lt_iff_lt_mul hs0,←h.1];exact hq
 refine hR _ _ (h.2 (q / size) _ (List.getElem?_eq_getElem hql)) _ ?_;rw[List.mem_iff_getElem?];refine⟨q % size,?_⟩;rw[List.getElem?_take,if_pos (Nat.mod_lt _ hs0),List.getElem?_drop,Nat.mul_comm,Nat.div_add_mod,List.getElem?_eq_getElem hq]
def arr{α:Type}(n:Nat)(d:Kd α)(hs:0<d.sz):Kd (List α) where
 sz:=n * d.sz
 E:=d.E
 K:=fun w xs cs=>xs.length=n∧aY (d.K w) d.sz xs cs
 M:=fun w base ok xs cs=>xs.length=n∧aY (d.M w base ok) d.sz xs cs
 iT:=fun h=>by rw[←h.1];exact h.2.1
 iM:=fun h=>reps_one h.2 hs (fun _ _ hk=>d.iM hk)
 gG:=fun hb h=>⟨h.1,h.2.pI (fun _ _ hk=>d.gG hb hk)⟩
 gy:=fun h=>⟨h.1,h.2.pI (fun _ _ hk=>d.gy hk)⟩
 fq:=fun hok h=>⟨h.1,h.2.pI (fun _ _ hk=>d.fq hok hk)⟩
 fH:=fun h=>⟨h.1,h.2.pI (fun _ _ hk=>d.fH hk)⟩
 gK:=fun hm h=>⟨h.1,h.2.pI (fun _ _ hk=>d.gK hm hk)⟩
 gH:=fun hb h=>⟨h.1,h.2.pI (fun _ _ hk=>d.gH hb hk)⟩
section
variable {α : Type} {n : Nat} {d : Kd α} {hs : 0 < d.sz} {w : World} {base : Nat} {ok : Nat → Prop} {xs : List α} {cs : List Value}
end
section
variable {α : Type} {n : Nat} {enc : α → Value} {h1 : ∀ x, (enc x).oneCell' = true} {hs : 0 < (scalar enc h1).sz} {w : World} {base : Nat} {ok : Nat → Prop} {xs : List α} {cs : List Value}
end
end Kd
section
variable {P : Program}
end
namespace Kd
section
variable {P : Program} {ops : Array Oper} {rest : List Oper} {o : Oper} {a : Act} {Q : Exit → Act → World → Prop} {Kc : Act → World → Prop} {α : Type}
end
def tagO{α:Type}(f:Nat→Nat)(d:Kd α):Kd (α×Option Nat) where
 sz:=d.sz
 E:=d.E
 K:=fun w x cs=>d.K w x.1 cs
 M:=fun w base ok x cs=>d.M w base (fun k=>ok k∧some (f k)=x.2) x.1 cs
 iT:=fun h=>d.iT h
 iM:=fun h=>d.iM h
 gG:=fun hb h=>d.gG hb h
 gy:=fun h=>d.gy h
 fq:=fun hok h=>d.fq (fun k hk=>⟨hok k hk.1,hk.2⟩) h
 fH:=fun h=>d.fq (fun _ hk=>⟨⟨hk.1.1,hk.2⟩,hk.1.2⟩) (d.fH h)
 gK:=fun hm h=>d.gK (fun k hk=>hm k hk.1) h
 gH:=fun hb h=>d.gH hb h
section
variable {α : Type} {d : Kd α} {e : Nat} {w : World} {base : Nat} {ok : Nat → Prop} {v : Value} {xs : List α}
def zipO(xs:List α)(z:α)(m:Nat):List (α×Option Nat):=xs.zipIdx.map (fun p=>(p.1,some p.2))++List.replicate m (z,none)
end
section
variable {P : Program} {ops : Array Oper} {rest : List Oper} {o : Oper} {a : Act} {Q : Exit → Act → World → Prop} {Kc : Act → World → Prop} {α : Type}
end
end Kd
namespace Kd
structure Heap {α:Type} (d:Kd α):Prop where
 K:∀ {w w1:World} {x:α} {cs:List Value},(∀k,k<w.heap.size→w1.heap[k]?=w.heap[k]?)→d.K w x cs→d.K w1 x cs
theorem Kh{w w1:World}(hb:∀k,k<w.heap.size→w1.heap[k]?=w.heap[k]?){a:Addr}{v:Value}(h:w.cell? a=some v):w1.cell? a=some v:=by
 have:=hb a.block (World.block_lt_of_cell? w a h);simpa [World.cell?,this]using h
theorem Heap.C{α:Type}{d:Kd α}(hd:Heap d){w w1:World}{A:Option Addr}{n:Nat}{xs:List α}(hb:∀k,k<w.heap.size→w1.heap[k]?=w.heap[k]?)(h:d.C w A n xs):d.C w1 A n xs:=
 ⟨h.1,h.2.1,fun hn=>by
  obtain⟨ad,e,hc⟩:=h.2.2 hn;refine⟨ad,e,fun j p hj=>?_⟩;obtain⟨c,hs,hr,hcell⟩:=hc j p hj;exact⟨c,hs,hd.K hb hr,fun i u hu=>Kh hb (hcell i u hu)⟩⟩
theorem heap_int(k:IntKind):Heap (Kd.int k):=⟨fun _ h=>h⟩
theorem J2:Heap Kd.bool:=⟨fun _ h=>h⟩
theorem lF:Heap Kd.string:=⟨fun _ h=>h⟩
theorem G7{α:Type}{d:Kd α}(e:Nat)(hd:Heap d):Heap (slice e d):=⟨by
 rintro w w1 x cs hb ⟨A,c,rfl,hl,hr⟩;exact⟨A,c,rfl,hl,hd.C hb hr⟩⟩
theorem qb{α β:Type}{a:Kd α}{b:Kd β}(ha:Heap a)(hb':Heap b):Heap (pair a b):=⟨by
 rintro w w1 x cs hb ⟨c0,c1,rfl,h0,h1⟩;exact⟨c0,c1,rfl,ha.K hb h0,hb'.K hb h1⟩⟩
theorem EI{α β:Type}{d:Kd α}(f:β→α)(hd:Heap d):Heap (iso d f):=⟨fun hb h=>hd.K hb h⟩
section
variable {α : Type} {d : Kd α} {e base g n c : Nat} {ok : Nat → Prop} {w w0 W : World} {A : Option Addr} {xs : List α}
end
end Kd
def Kept(w W:World)(S:Nat→Prop):Prop:=w.heap.size≤W.heap.size∧∀i,i<w.heap.size→¬S i→W.heap[i]?=w.heap[i]?
section
variable {w W W2 : World} {S S2 S' : Nat → Prop}
theorem Kept.refl(w:World)(S:Nat→Prop):Kept w w S:=⟨Nat.le_refl _,fun _ _ _=>rfl⟩
theorem Kept.of_below(h:Below w.heap.size w W)(S:Nat→Prop):Kept w W S:=⟨h.size,fun i hi _=>h.block i hi⟩
theorem Kept.mono(h:Kept w W S)(hs:∀k,S k→S' k):Kept w W S':=⟨h.1,fun i hi hn=>h.2 i hi (fun hk=>hn (hs i hk))⟩
theorem Kept.then_(h:Kept w W S)(k:Kept W W2 S2)(hs:∀k,S2 k→S k∨w.heap.size≤k):Kept w W2 S:=
 ⟨Nat.le_trans h.1 k.1,fun i hi hn=>(k.2 i (Nat.lt_of_lt_of_le hi h.1) (fun h2=>(hs i h2).elim hn (fun h3=>by omega))).trans (h.2 i hi hn)⟩
theorem Kept.nN{row:Option Nat}(hg:W.grownBy W2 row)(h:Kept w W S)(hr:∀k,row=some k→S k∨w.heap.size≤k):Kept w W2 S:=
 h.then_ (S2:=fun k=>row=some k) ⟨hg.size,fun i hi hn=>hg.block i hi (fun he=>hn he.symm)⟩ hr
theorem Kept.below(h:Kept w W S)(hb:Below W.heap.size W W2):Kept w W2 S:=h.then_ (Kept.of_below hb (fun _=>False)) (fun _ hk=>hk.elim)
theorem Kept.alloc(h:Kept w W S)(o:Obj):Kept w (W.alloc o) S:=h.below (gu (Below.refl _ _) o)
theorem Kept.drew(h:Kept w W S):Kept w W.drew S:=h
theorem Kept.drewN(h:Kept w W S)(m:Nat):Kept w (W.drewN m) S:=h
theorem Kept.setCell(h:Kept w W S){p:Addr}(hp:S p.block∨w.heap.size≤p.block)(u:Value):Kept w (W.setCell p u) S:=
 h.then_ (S2:=fun k=>k=p.block) ⟨by simp[World.setCell],fun i _ hn=>Below.heap_setCell W p u i hn⟩ (fun k hk=>by rw[hk];exact hp)
theorem Kept.keep{g:Nat}(h:iE w W g none)(k:Kept W W2 S2)(hs:∀k,S2 k→w.heap.size≤k):iE w W2 g none:=
 ⟨Nat.le_trans h.1 k.1,fun i hi hg hr=>(k.2 i (Nat.lt_of_lt_of_le hi h.1) (fun h2=>by have:=hs i h2;omega)).trans (h.2 i hi hg hr)⟩
theorem F8{g:Nat}{o:Obj}(hb:W.heap[g]?=some o)(hk:Kept W W2 S)(hne:¬S g):W2.heap[g]?=some o:=(hk.2 g (uf hb) hne).trans hb
end
namespace Kd
section
variable {α : Type} {d : Kd α} {e base n c : Nat} {ok oki S S2 : Nat → Prop} {w w0 W W1 W2 : World} {v : Value} {A : Option Addr} {xs : List α} {i : Int} {cs : List Value}
theorem R_kept(h:d.R e W base ok v xs)(hk:Kept W W2 S)(hne:∀k,ok k→¬S k):d.R e W2 base ok v xs:=AZ h (fun k ho hlt=>hk.2 k hlt (hne k ho))
end
end Kd
def mV(P:World→Prop)(W:World)(ok:Nat→Prop):Prop:=∀W':World,(∀k,ok k→k<W.heap.size→W'.heap[k]?=W.heap[k]?)→P W'
theorem jc{W W1:World}{k:Nat}(h:W1.heap[k]?=W.heap[k]?)(hlt:k<W.heap.size):k<W1.heap.size:=by
 rw[Array.getElem?_eq_getElem hlt]at h;exact(Array.getElem?_eq_some_iff.1 h).1
namespace mV
variable {P Q : World → Prop} {W W1 : World} {ok ok' : Nat → Prop}
theorem now(h:mV P W ok):P W:=h W (fun _ _ _=>rfl)
theorem mono(h:mV P W ok)(hok:∀k,ok k→ok' k):mV P W ok':=fun W' hW=>h W' (fun k hk hlt=>hW k (hok k hk) hlt)
theorem bound(h:mV P W ok):mV P W (fun k=>ok k∧k<W.heap.size):=fun W' hW=>h W' (fun k hk hlt=>hW k ⟨hk,hlt⟩ hlt)
theorem step(h:mV P W ok)(hm:∀k,ok k→k<W.heap.size→W1.heap[k]?=W.heap[k]?):mV P W1 ok:=fun W' hW=>h W' (fun k hk hlt=>(hW k hk (jc (hm k hk hlt) hlt)).trans (hm k hk hlt))
theorem imp(h:mV P W ok)(hi:∀W',P W'→Q W'):mV Q W ok:=fun W' hW=>hi W' (h W' hW)
theorem old(h:mV P W ok)(hb:Below W.heap.size W W1):mV P W1 (fun k=>ok k∧k<W.heap.size):=(h.bound).step (fun k _ hlt=>hb.block k hlt)
end mV
namespace Kd
def F{α:Type}(d:Kd α)(W:World)(ok:Nat→Prop)(A:Option Addr)(n:Nat)(xs:List α):Prop:=mV (fun W=>d.C W A n xs) W ok
def FK{α:Type}(d:Kd α)(W:World)(ok:Nat→Prop)(x:α)(c:List Value):Prop:=mV (fun W=>d.K W x c) W ok
section
variable {α β : Type} {d : Kd α} {e base n n' cc g N : Nat} {ok ok' okp S : Nat → Prop} {w w0 w1 W W1 : World} {A A' : Option Addr} {u v v1 : Value} {xs : List α} {xs' : List β} {d' : Kd β} {x : α} {c : List Value}
theorem F_now(h:F d W ok A n xs):d.C W A n xs:=mV.now h
theorem Ei(h:F d W ok A n xs)(hok:∀k,ok k→ok' k):F d W ok' A n xs:=mV.mono h hok
theorem JF(h:F d W ok A n xs):F d W (fun k=>ok k∧k<W.heap.size) A n xs:=mV.bound h
theorem F_step(h:F d W ok A n xs)(hm:∀k,ok k→k<W.heap.size→W1.heap[k]?=W.heap[k]?):F d W1 ok A n xs:=mV.step h hm
theorem F_imp(h:F d W ok A n xs)(hi:∀W',d.C W' A n xs→d'.C W' A' n' xs'):F d' W ok A' n' xs':=mV.imp h hi
theorem sP(h:F d W ok A n xs)(hb:Below W.heap.size W W1):F d W1 ok A n xs:=F_step h (fun k _ hlt=>hb.block k hlt)
theorem F_alloc(h:F d W ok A n xs)(o:Obj):F d (W.alloc o) ok A n xs:=sP h (gu (Below.refl _ _) o)
theorem F_drew(h:F d W ok A n xs):F d W.drew ok A n xs:=sP h (bU (Below.refl _ _))
theorem F_drewN(h:F d W ok A n xs)(m:Nat):F d (W.drewN m) ok A n xs:=sP h (eP (Below.refl _ _) m)
theorem F_far(h:F d W ok A n xs){p:Addr}(hok:∀k,ok k→k≠p.block)(u:Value):F d (W.setCell p u) ok A n xs:=F_step h (fun k hk _=>Below.heap_setCell W p u k (hok k hk))
theorem F_nil(d:Kd α)(W:World)(ok:Nat→Prop):F d W ok none ([] :List α).length []:=fun W' _=>C_nil d W'
theorem F_elder'(h:F d W ok A n xs)(hbase:∀k,v.ownBlock=some k→W.heap.size≤k)(hb:Below W.heap.size W W1):F d W1 (fun k=>ok k∧some k≠v.ownBlock) A n xs:=
 Ei (mV.old h hb) (fun k hk=>⟨hk.1,fun he=>by have:=hbase k he.symm;have:=hk.2;omega⟩)
theorem F_elderB(h:F d W ok A n xs)(a:Nat)(ha:W.heap.size≤a):F d W (fun k=>ok k∧k≠a) A n xs:=Ei (JF h) (fun k hk=>⟨hk.1,by have:=hk.2;omega⟩)
theorem F_after(h:F d W (fun k=>ok k∧some k≠v.ownBlock) A n xs)(hg:W.grownBy W1 v.ownBlock)(hat:v1.ownBlock=v.ownBlock∨∃b,v1.ownBlock=some b∧W.heap.size≤b):F d W1 (fun k=>ok k∧some k≠v1.ownBlock) A n xs:=by
 refine Ei (mV.step (JF h) (fun k hk hlt=>hg.block k hlt hk.1.2)) (fun k hk=>⟨hk.1.1,?_⟩)
 rcases hat with hat|⟨b,hb,hle⟩
 ·rw[hat];exact hk.1.2
 ·rw[hb]
  intro he;injection he with he
  have:=hk.2;omega
theorem C_F(hd:Heap d)(h:d.C w A n xs):F d w (fun k=>k<w.heap.size) A n xs:=fun _ hW=>hd.C (fun k hlt=>hW k hlt hlt) h
theorem R_F(h:d.R e W base ok (.slice A n cc) xs):F d W ok A n xs:=fun W' hW=>by
 have h2:=aI (AZ h hW);rw[h2.1];exact h2.2.2
theorem wQ(h:FK d W ok x c):d.K W x c:=mV.now h
theorem zq(h:FK d W ok x c)(hok:∀k,ok k→ok' k):FK d W ok' x c:=mV.mono h hok
theorem Bf(h:FK d W ok x c):FK d W (fun k=>ok k∧k<W.heap.size) x c:=mV.bound h
theorem Ej(h:FK d W ok x c)(hm:∀k,ok k→k<W.heap.size→W1.heap[k]?=W.heap[k]?):FK d W1 ok x c:=mV.step h hm
theorem FK_of_M(h:d.M W base ok x c):FK d W ok x c:=fun _ hW=>d.gy (M_step h hW)
theorem emptied(W:World)(g:Nat):∃W':World,(∀k,k≠g→W'.heap[k]?=W.heap[k]?)∧∀a:Addr,a.block=g→W'.cell? a=none:=by
 refine⟨{W with heap:=W.heap.setIfInBounds g (.cells #[] 0) },fun k hk=>by simp[Ne.symm hk],fun a ha=>?_⟩;subst ha
 by_cases hlt:a.block<W.heap.size
 ·simp[World.cell?,hlt]
 ·simp[World.cell?,hlt]
end
end Kd
namespace Kd
def chunks(sz n:Nat)(inner:List Value):List (List Value):=(List.range n).map fun j=>(inner.drop (j * sz)).take sz
theorem iN(sz n:Nat)(inner:List Value):(chunks sz n inner).length=n:=by simp[chunks]
theorem Kj{sz n:Nat}{inner:List Value}{j:Nat}(hj:j<n):(chunks sz n inner)[j]?=some ((inner.drop (j * sz)).take sz):=by simp[chunks,hj]
theorem uG{sz n:Nat}{inner:List Value}{j:Nat}{c:List Value}(h:(chunks sz n inner)[j]?=some c):c=(inner.drop (j * sz)).take sz:=by
 have hj:j<n:=by have:=(List.getElem?_eq_some_iff.1 h).1;rwa [iN]at this
 rw[Kj hj]at h;injection h with h
 exact h.symm
theorem Gx{α:Type}{Rr:α→List Value→Prop}{sz:Nat}{xs:List α}{inner:List Value}(h:aY Rr sz xs inner)(hR:∀x c,Rr x c→c.length=sz∧∀u∈c,u.oneCell'=true):aY (fun x cs=>cs=x∧cs.length=sz∧∀u∈cs,u.oneCell'=true) sz (chunks sz xs.length inner) inner:=by
 refine⟨by rw[iN];exact h.1,fun j p hj=>?_⟩;have hjl:j<xs.length:=by have:=(List.getElem?_eq_some_iff.1 hj).1;rwa [iN]at this
 have hp:=uG hj;exact⟨hp.symm,hR _ _ (h.2 j _ (List.getElem?_eq_getElem hjl))⟩
section
variable {α : Type} {d : Kd α} {e base n cc g : Nat} {ok ok' okp S : Nat → Prop} {w w1 W W1 : World} {A : Option Addr} {u v v1 : Value} {xs : List α} {x : α} {c : List Value}
theorem F_get(h:F d W ok A n xs)(z:α)(i:Int)(h0:0≤i)(h1:i<n):
 ∃ad c,A=some ad∧c.length=d.sz∧FK d W ok (xs.getD i.toNat z) c∧(∀j u,c[j]?=some u→W.cell? (ad.add (i.toNat * d.sz+j))=some u)∧(0<d.sz→ok ad.block):=by
 obtain⟨ad,c,rfl,hcl,hK,hcc⟩:=BH (F_now h) z i h0 h1
 have hin:0<d.sz→ok ad.block:=by
  intro hs
  by_cases hk:ok ad.block
  ·exact hk
  ·obtain⟨W',h2,h3⟩:=emptied W ad.block
   obtain⟨ad',c',he,hcl',_,hcc'⟩:=BH (h W' (fun k hk' _=>h2 k (fun e=>hk (e▸hk')))) z i h0 h1;injection he with he
   subst he;have h4:=hcc' 0 _ (List.getElem?_eq_getElem (by omega));rw[h3 _ (add_block _ _)]at h4;cases h4
 refine⟨ad,c,rfl,hcl,fun W' hW=>?_,hcc,hin⟩;obtain⟨ad',c',he,hcl',hK',hcc'⟩:=BH (h W' hW) z i h0 h1;injection he with he
 subst he
 have hc:c=c':=by
  apply List.ext_getElem?;intro j
  by_cases hj:j<d.sz
  ·have hb:W'.heap[ad.block]?=W.heap[ad.block]?:=by
    have h5:=hcc j _ (List.getElem?_eq_getElem (by omega));have h6:=World.block_lt_of_cell? W _ h5;rw[add_block]at h6;exact hW _ (hin (by omega)) h6
   have h5:=hcc j _ (List.getElem?_eq_getElem (by omega));have h6:=hcc' j _ (List.getElem?_eq_getElem (by omega));have h7:W'.cell? (ad.add (i.toNat * d.sz+j))=W.cell? (ad.add (i.toNat * d.sz+j)):=by simp[World.cell?,add_block,hb]
   rw[h7,h5]at h6;rw[List.getElem?_eq_getElem (by omega),List.getElem?_eq_getElem (by omega)];exact h6
  ·rw[List.getElem?_eq_none (by omega),List.getElem?_eq_none (by omega)]
 rw[hc];exact hK'
def N{α:Type}(d:Kd α)(e:Nat)(w:World)(base:Nat)(ok:Nat→Prop)(v:Value)(xs:List α):Prop:=
 (∀k,v.ownBlock=some k→ok k)∧∃rows:List (List Value),rows.length=xs.length∧(raw d.sz).R e w base (fun k=>some k=v.ownBlock) v rows∧∀(j:Nat) (x:α) (c:List Value),xs[j]?=some x→rows[j]?=some c→FK d w (fun k=>ok k∧some k≠v.ownBlock) x c
theorem Cm{sz:Nat}{rows:List (List Value)}(h:(raw sz).R e w base ok v rows):(raw sz).R e w base (fun k=>some k=v.ownBlock) v rows:=CG rfl h
theorem raw_any{sz:Nat}{rows:List (List Value)}(h:(raw sz).R e w base ok v rows):(raw sz).R e w base (fun _=>True) v rows:=dz h (fun _ _=>trivial)
theorem R_N(h:d.R e w base ok v xs):N d e w base ok v xs:=by
 obtain⟨h0,inner,ho,hr⟩:=h;refine⟨h0,chunks d.sz xs.length inner,iN _ _ _,⟨fun k hk=>hk.symm,inner,by rw[iN];exact ho,Gx hr (fun x c hp=>⟨d.iT (d.gy hp),d.iM (d.gy hp)⟩)⟩,fun j x c hx hc=>?_⟩;rw[uG hc];exact FK_of_M (hr.2 j x hx)
theorem uU(d:Kd α)(e:Nat)(w:World)(base:Nat)(ok:Nat→Prop):N d e w base ok (.slice none 0 0) []:=R_N (iJ _ _ _ _ _)
theorem wW(h:N d e w base ok v xs)(hok:∀k,ok k→ok' k):N d e w base ok' v xs:=by
 obtain⟨h0,rows,hl,hR,hf⟩:=h;exact⟨fun k hk=>hok k (h0 k hk),rows,hl,hR,fun j x c hx hc=>zq (hf j x c hx hc) (fun k hk=>⟨hok k hk.1,hk.2⟩)⟩
theorem N_lt(h:N d e w base ok v xs):∀k,v.ownBlock=some k→k<w.heap.size:=by
 obtain⟨_,rows,_,hR,_⟩:=h;exact fu hR
theorem N_base(h:N d e w base ok v xs):∀k,v.ownBlock=some k→base≤k:=by
 obtain⟨_,rows,_,hR,_⟩:=h;exact cK hR
theorem N_away(h:N d e w base ok v xs)(hok:∀k,ok k→k≠g):some g≠v.ownBlock:=fun he=>hok g (h.1 g he.symm) rfl
theorem N_bound(h:N d e w base ok v xs):N d e w base (fun k=>ok k∧k<w.heap.size) v xs:=by
 have hlt:=N_lt h;obtain⟨h0,rows,hl,hR,hf⟩:=h;exact⟨fun k hk=>⟨h0 k hk,hlt k hk⟩,rows,hl,hR,fun j x c hx hc=>zq (Bf (hf j x c hx hc)) (fun k hk=>⟨⟨hk.1.1,hk.2⟩,hk.1.2⟩)⟩
theorem N_lower{base':Nat}(h:N d e w base ok v xs)(hb:base'≤base):N d e w base' ok v xs:=by
 obtain⟨h0,rows,hl,hR,hf⟩:=h;exact⟨h0,rows,hl,bM hR hb,hf⟩
theorem N_step(h:N d e w base ok v xs)(hm:∀k,ok k→k<w.heap.size→w1.heap[k]?=w.heap[k]?):N d e w1 base ok v xs:=by
 obtain⟨h0,rows,hl,hR,hf⟩:=h;exact⟨h0,rows,hl,AZ hR (fun k hk hlt=>hm k (h0 k hk.symm) hlt),fun j x c hx hc=>Ej (hf j x c hx hc) (fun k hk hlt=>hm k hk.1 hlt)⟩
theorem yG(h:N d e w base ok v xs)(hb:Below w.heap.size w w1):N d e w1 base ok v xs:=N_step h (fun k _ hk=>hb.block k hk)
theorem qK(h:N d e w base ok v xs)(o:Obj):N d e (w.alloc o) base ok v xs:=yG h (gu (Below.refl _ _) o)
theorem uz(h:N d e w base ok v xs):N d e w.drew base ok v xs:=yG h (bU (Below.refl _ _))
theorem qL(h:N d e w base ok v xs)(m:Nat):N d e (w.drewN m) base ok v xs:=yG h (eP (Below.refl _ _) m)
theorem BQ(h:N d e w base ok v xs){p:Addr}(hok:∀k,ok k→k≠p.block)(u:Value):N d e (w.setCell p u) base ok v xs:=N_step h (fun k ho _=>Below.heap_setCell w p u k (hok k ho))
theorem N_elderB(h:N d e w base ok v xs)(a:Nat)(ha:w.heap.size≤a):N d e w base (fun k=>ok k∧k≠a) v xs:=wW (N_bound h) (fun k hk=>⟨hk.1,by have:=hk.2;omega⟩)
theorem N_slice(h:N d e w base ok v xs):∃A c,v=.slice A xs.length c:=by
 obtain⟨_,rows,hl,hR,_⟩:=h;obtain⟨A,c,he⟩:=bF hR;exact⟨A,c,by rw[he,hl]⟩
theorem EF{n c:Nat}(h:N d e w base ok (.slice A n c) xs):n=xs.length∧n≤c∧d.C w A xs.length xs:=by
 obtain⟨_,rows,hl,hR,hf⟩:=h;obtain⟨hn,hc,hC⟩:=aI hR;refine⟨by omega,hc,?_⟩;rw[hl]at hC;refine⟨rfl,hC.2.1,fun hp=>?_⟩;obtain⟨ad,he,hcell⟩:=hC.2.2 hp;refine⟨ad,he,fun j p hj=>?_⟩;have hjl:j<rows.length:=by have:=(List.getElem?_eq_some_iff.1 hj).1;omega
 obtain⟨c',hcl,hK,hcc⟩:=hcell j _ (List.getElem?_eq_getElem hjl);have hk:=wQ (hf j p _ hj (List.getElem?_eq_getElem hjl));refine⟨c',hcl,?_,hcc⟩;rw[show c'=rows[j]from hK.1];exact hk
end
end Kd
namespace Kd
section
variable {α : Type} {d : Kd α} {W : World} {g n : Nat} {S ok : Nat → Prop} {A : Option Addr} {ad : Addr} {xs : List α}
end
end Kd
section
variable {w w' u : World} {m B g : Nat} {o : Obj} {row : Option Nat} {S : Nat → Prop} {a : Addr} {v : Value}
end
namespace Kd
section
variable {α : Type} {d : Kd α} {e base n m : Nat} {ok : Nat → Prop} {w w' : World} {v : Value} {A : Option Addr} {xs : List α}
end
end Kd
section
variable {P : Program} {d : Nat} {xs ys : Array Value} {f : Field} {fs : List Field} {a b : Value} {r s : Bool} {w : World}
theorem eqf_last(hn:(f.name== "_")=false)(ha:(part f.type xs f.offset).run P w=.ok a w)(hb:(part f.type ys f.offset).run P w=.ok b w)(he:(Op.equalIn d f.type a b).run P w=.ok r w):(Op.eqFields d xs ys [f]).run P w=.ok r w:=by
 have hn':f.name≠ "_" :=by simpa using hn
 simp only[Op.eqFields,if_pos hn',Sem.run_bind,ha,hb,he,Result.andThen_ok];cases r<;>simp
theorem eqf_cons(hn:(f.name== "_")=false)(ha:(part f.type xs f.offset).run P w=.ok a w)(hb:(part f.type ys f.offset).run P w=.ok b w)(he:(Op.equalIn d f.type a b).run P w=.ok r w)(hr:(Op.eqFields d xs ys fs).run P w=.ok s w):(Op.eqFields d xs ys (f::fs)).run P w=.ok (r&&s) w:=by
 have hn':f.name≠ "_" :=by simpa using hn
 rw[Op.eqFields];simp only[if_pos hn',Sem.run_bind,ha,hb,he,Result.andThen_ok];cases r
 ·simp
 ·simpa using hr
theorem eqA_of{t:TypeId}{fs:Array Field}(hu:P.underlying t=some (.struct fs))(hp:P.stoodInHeld t=false)(h:(Op.eqFields d xs ys fs.toList).run P w=.ok r w):(Op.equalIn (d+1) t (.agg xs) (.agg ys)).run P w=.ok r w:=by
 have hf:P.fieldsOf t=fs:=by simp[Program.fieldsOf,hu]
 rw[run_equalIn_struct (P:=P) w d t xs ys (by rw[hf];exact hu) hp,hf];exact h
end
end Go.Proofs.ah.aG
namespace Go.Proofs.ah.aG
theorem aY.one{α:Type}{R:α→List Value→Prop}{ps:List α}{cs:List Value}{p:α}{v:Value}(hp:R p [v])(h:aY R 1 ps cs):aY R 1 (p::ps) (v::cs):=by
 refine⟨by simp[h.1],fun j q hq=>?_⟩;cases j with
 |zero=>
  simp only[List.getElem?_cons_zero,Option.some.injEq]at hq;subst hq;simpa using hp
 |succ j=>
  simp only[List.getElem?_cons_succ]at hq;have h1:=h.2 j q hq;simpa [Nat.mul_one]using h1
theorem aY.front{α:Type}{R:α→List Value→Prop}{size:Nat}{ps:List α}{cs c all:List Value}{p:α}(hp:R p c)(hc:c.length=size)(h:aY R size ps cs)(ha:c++cs=all):aY R size (p::ps) all:=by
 subst ha;refine⟨by rw[List.length_append,hc,h.1,List.length_cons,Nat.succ_mul,Nat.add_comm],fun j q hq=>?_⟩;cases j with
 |zero=>
  simp only[List.getElem?_cons_zero,Option.some.injEq]at hq;subst hq;rw[Nat.zero_mul,List.drop_zero,List.take_append_of_le_length (by omega),List.take_of_length_le (by omega)];exact hp
 |succ j=>
  simp only[List.getElem?_cons_succ]at hq;have h1:=h.2 j q hq;rw[Nat.succ_mul,List.drop_append,List.drop_of_length_le (by rw[hc];exact Nat.le_add_left _ _),List.nil_append,hc,Nat.add_sub_cancel];exact h1
theorem aY.c2{α:Type}{R:α→List Value→Prop}{ps:List α}{cs:List Value}{p:α}{va vb:Value}(hp:R p [va,vb])(h:aY R 2 ps cs):aY R 2 (p::ps) (va::vb::cs):=aY.front hp rfl h rfl
theorem aY.c3{α:Type}{R:α→List Value→Prop}{ps:List α}{cs:List Value}{p:α}{va vb vc:Value}(hp:R p [va,vb,vc])(h:aY R 3 ps cs):aY R 3 (p::ps) (va::vb::vc::cs):=aY.front hp rfl h rfl
theorem aY.c4{α:Type}{R:α→List Value→Prop}{ps:List α}{cs:List Value}{p:α}{va vb vc vd:Value}(hp:R p [va,vb,vc,vd])(h:aY R 4 ps cs):aY R 4 (p::ps) (va::vb::vc::vd::cs):=aY.front hp rfl h rfl
theorem aY.c5{α:Type}{R:α→List Value→Prop}{ps:List α}{cs:List Value}{p:α}{va vb vc vd ve:Value}(hp:R p [va,vb,vc,vd,ve])(h:aY R 5 ps cs):aY R 5 (p::ps) (va::vb::vc::vd::ve::cs):=aY.front hp rfl h rfl
theorem aY.c6{α:Type}{R:α→List Value→Prop}{ps:List α}{cs:List Value}{p:α}{va vb vc vd ve vf:Value}(hp:R p [va,vb,vc,vd,ve,vf])(h:aY R 6 ps cs):aY R 6 (p::ps) (va::vb::vc::vd::ve::vf::cs):=aY.front hp rfl h rfl
theorem aY.c7{α:Type}{R:α→List Value→Prop}{ps:List α}{cs:List Value}{p:α}{va vb vc vd ve vf vg:Value}(hp:R p [va,vb,vc,vd,ve,vf,vg])(h:aY R 7 ps cs):aY R 7 (p::ps) (va::vb::vc::vd::ve::vf::vg::cs):=aY.front hp rfl h rfl
theorem aY.c8{α:Type}{R:α→List Value→Prop}{ps:List α}{cs:List Value}{p:α}{va vb vc vd ve vf vg vh:Value}(hp:R p [va,vb,vc,vd,ve,vf,vg,vh])(h:aY R 8 ps cs):aY R 8 (p::ps) (va::vb::vc::vd::ve::vf::vg::vh::cs):=aY.front hp rfl h rfl
theorem aY.c9{α:Type}{R:α→List Value→Prop}{ps:List α}{cs:List Value}{p:α}{va vb vc vd ve vf vg vh vi:Value}(hp:R p [va,vb,vc,vd,ve,vf,vg,vh,vi])(h:aY R 9 ps cs):aY R 9 (p::ps) (va::vb::vc::vd::ve::vf::vg::vh::vi::cs):=aY.front hp rfl h rfl
theorem aY.c10{α:Type}{R:α→List Value→Prop}{ps:List α}{cs:List Value}{p:α}{va vb vc vd ve vf vg vh vi vj:Value}(hp:R p [va,vb,vc,vd,ve,vf,vg,vh,vi,vj])(h:aY R 10 ps cs):aY R 10 (p::ps) (va::vb::vc::vd::ve::vf::vg::vh::vi::vj::cs):=aY.front hp rfl h rfl
end Go.Proofs.ah.aG
namespace Go.Proofs.ah.bX
def up(b:Nat→Bool)(i:Nat):Nat→Bool:=fun j=>if j=i then true else b j
def lof(n:Nat)(O:List Nat)(b:Nat→Bool):List Bool:=(List.range n).map fun j=>if O.contains j then b j else true
def putSel(a:Act)(b:Nat→Bool):List (Nat×Tmp×Value)→Act
 | []=>a
 |e::r=>putSel (if b e.1=true then a.put (some e.2.1) e.2.2 else a) b r
section
variable {P : Program} {ops : Array Oper} {Q : Exit → Act → World → Prop} {md : Region.Mode} {T : Bool × List (List Nat × List Nat)} {B O : List Nat} {b : Nat → Bool} {i j n : Nat}
def StepAt(P:Program)(ops:Array Oper)(Q:Exit→Act→World→Prop)(B O:List Nat)(I:(Nat→Bool)→Act→World→Prop)(i:Nat):Prop:=
 ∀b a w,I b a w→b i=false→(∀j,(O.contains j&&(B.getD i 0).testBit j)=true→b j=true)→(∀d,(O.contains d&&(B.getD d 0).testBit i)=true→b d=false)→
  ∃oi,ops[i]?=some oi∧∀K:Act→World→Prop,Shut (∀a' w',I (up b i) a' w'→K a' w')→if Region.wanted oi (yielded ops a.tmps)=true then Oper.wp P oi a w K Q else K (a.put oi.dst undef) w
def baseOk(T:List (List Nat×List Nat))(O:List Nat):Bool:=
 (List.range T.length).all (fun d=>match T[d]? with
   |some r=>(O.contains d||r.1.all fun n=>!O.contains n)&&r.1.all fun n=>decide (n<d)
   |none=>false)&&O.all (fun i=>decide (i<T.length))&&decide O.Nodup
def Closed(T:List (List Nat×List Nat))(O:List Nat)(b:Nat→Bool):Prop:=∀d r,T[d]?=some r→O.contains d=true→b d=true→∀n∈r.1,O.contains n=true→b n=true
end
end Go.Proofs.ah.bX
namespace Go.Proofs.ah.aG
open Go.RowKit
theorem qo{v1 v2:Value}{n:Nat}(hlt:∀k,v1.ownBlock=some k→k<n)(hge:∀k,v2.ownBlock=some k→n≤k):v1.ownBlock=none∨v1.ownBlock≠v2.ownBlock:=by
 cases h:v1.ownBlock with
 |none=>exact .inl rfl
 |some k=>exact .inr (fun e=>by have:=hlt k h;have:=hge k e.symm;omega)
end Go.Proofs.ah.aG
namespace Go.Proofs.ah.bX
section
variable {ops : Array Oper} {a : Act} {o og : Oper} {g : Nat} {t : Tmp} {u : Bool}
end
end Go.Proofs.ah.bX
namespace Go.Proofs.ah.aG
open Go.RowKit
section
variable {P : Program} {ops : Array Oper} {rest : List Oper} {o : Oper} {a : Act} {Q : Exit → Act → World → Prop} {W : World}
theorem iQ(hw:Region.wanted o (yielded ops a.tmps)=true)(h:wpList P ops Q ({o with guard:=none } ::rest) a W):wpList P ops Q (o::rest) a W:=by
 have h1:Region.wanted {o with guard:=none } (yielded ops a.tmps)=true:=rfl
 unfold wpList at h⊢;rw[if_pos h1]at h;rw[if_pos hw];exact h
end
end Go.Proofs.ah.aG
