/- Lemmas and walks, part 4. -/
import Derived.Test.YtkcmghlhpbepcaaGreatDoorWS3
set_option linter.unusedVariables false
set_option linter.unusedSimpArgs false
namespace Go.Proofs.ah.aD
open Go.RowKit
namespace Kd
def tag{α:Type}(f:Nat→Nat)(d:Kd α):Kd (α×Nat) where
 sz:=d.sz
 E:=d.E
 K:=fun w x cs=>d.K w x.1 cs
 M:=fun w base ok x cs=>d.M w base (fun k=>ok k∧f k=x.2) x.1 cs
 kQ:=fun h=>d.kQ h
 kF:=fun h=>d.kF h
 iR:=fun hb h=>d.iR hb h
 iq:=fun h=>d.iq h
 gG:=fun hok h=>d.gG (fun k hk=>⟨hok k hk.1,hk.2⟩) h
 gL:=fun h=>d.gG (fun _ hk=>⟨⟨hk.1.1,hk.2⟩,hk.1.2⟩) (d.gL h)
 jd:=fun hm h=>d.jd (fun k hk=>hm k hk.1) h
 iT:=fun hb h=>d.iT hb h
def bare{α:Type}(d:Kd α):Kd α where
 sz:=d.sz
 E:=d.E
 K:=d.K
 M:=fun w base _ x cs=>d.M w base (fun _=>False) x cs
 kQ:=fun h=>d.kQ h
 kF:=fun h=>d.kF h
 iR:=fun hb h=>d.iR hb h
 iq:=fun h=>d.iq h
 gG:=fun _ h=>h
 gL:=fun h=>h
 jd:=fun _ h=>d.jd (fun _ hk=>hk.elim) h
 iT:=fun hb h=>d.iT hb h
def raw(sz:Nat):Kd (List Value) where
 sz:=sz
 E:=[]
 K:=fun _ x cs=>cs=x∧cs.length=sz∧∀u∈cs,u.oneCell'=true
 M:=fun _ _ _ x cs=>cs=x∧cs.length=sz∧∀u∈cs,u.oneCell'=true
 kQ:=fun h=>h.2.1
 kF:=fun h=>h.2.2
 iR:=fun _ h=>h
 iq:=fun h=>h
 gG:=fun _ h=>h
 gL:=fun h=>h
 jd:=fun _ h=>h
 iT:=fun _ h=>h
def S{α:Type}(d:Kd α)(e:Nat)(w:World)(base:Nat)(ok:Nat→Prop)(v:Value)(xs:List α):Prop:=∃f,(tag f d).R e w base ok v xs.zipIdx
section
variable {α β : Type} {d : Kd α} {d' : Kd β} {e e' : Nat} {w w1 W : World} {base b : Nat} {ok ok' okv oku : Nat → Prop} {u v : Value} {xs : List α} {ys : List β}
theorem S_nil(d:Kd α)(e:Nat)(w:World)(base:Nat)(ok:Nat→Prop):S d e w base ok (.slice none 0 0) []:=⟨fun _=>0,nI _ _ _ _ _⟩
end
section
variable {α β : Type} {d : Kd α} {d' : Kd β} {e e' g : Nat} {w w1 W : World} {base b : Nat} {ok ok' okv oku : Nat → Prop} {u v : Value} {xs : List α} {ys : List β}
end
section
open Classical in
variable {P : Program} {ops : Array Oper} {rest : List Oper} {o : Oper} {a : Act} {Q : Exit → Act → World → Prop} {Kc : Act → World → Prop} {α : Type}
end
def gap{α:Type}(f:Nat→Nat)(d:Kd α)(i:Nat)(c:List Value):Kd (α×Nat) where
 sz:=d.sz
 E:=d.E
 K:=fun w x cs=>(x.2=i→cs=c∧cs.length=d.sz∧∀u∈cs,u.oneCell'=true)∧(x.2≠i→d.K w x.1 cs)
 M:=fun w base ok x cs=>(x.2=i→cs=c∧cs.length=d.sz∧∀u∈cs,u.oneCell'=true)∧(x.2≠i→d.M w base (fun k=>ok k∧f k=x.2) x.1 cs)
 kQ:=fun {w x cs} h=>by
  by_cases hx:x.2=i
  ·exact(h.1 hx).2.1
  ·exact d.kQ (h.2 hx)
 kF:=fun {w x cs} h=>by
  by_cases hx:x.2=i
  ·exact(h.1 hx).2.2
  ·exact d.kF (h.2 hx)
 iR:=fun hb h=>⟨h.1,fun hx=>d.iR hb (h.2 hx)⟩
 iq:=fun h=>⟨h.1,fun hx=>d.iq (h.2 hx)⟩
 gG:=fun hok h=>⟨h.1,fun hx=>d.gG (fun k hk=>⟨hok k hk.1,hk.2⟩) (h.2 hx)⟩
 gL:=fun h=>⟨h.1,fun hx=>d.gG (fun _ hk=>⟨⟨hk.1.1,hk.2⟩,hk.1.2⟩) (d.gL (h.2 hx))⟩
 jd:=fun hm h=>⟨h.1,fun hx=>d.jd (fun k hk=>hm k hk.1) (h.2 hx)⟩
 iT:=fun hb h=>⟨h.1,fun hx=>d.iT hb (h.2 hx)⟩
def H{α:Type}(d:Kd α)(e:Nat)(w:World)(base:Nat)(ok:Nat→Prop)(v:Value)(xs:List α)(i:Int)(oki:Nat→Prop)(c:List Value):Prop:=
 (∀k,oki k→ok k)∧∃f,(gap f d i.toNat c).R e w base (fun k=>ok k∧¬oki k) v xs.zipIdx
section
variable {α β : Type} {d : Kd α} {e e' g n cap : Nat} {w w1 W : World} {base : Nat} {ok ok' oki okp : Nat → Prop} {u v : Value} {xs : List α} {i : Int} {c : List Value}
open Classical in
end
section
variable {P : Program} {ops : Array Oper} {rest : List Oper} {o : Oper} {a : Act} {Q : Exit → Act → World → Prop} {α : Type}
end
end Kd
namespace Kd
theorem reps_one{α:Type}{R:α→List Value→Prop}{size:Nat}{ps:List α}{cs:List Value}(h:bJ R size ps cs)(hs0:0<size)(hR:∀p c,R p c→∀u∈c,u.oneCell'=true):∀u∈cs,u.oneCell'=true:=by
 intro u hu;obtain⟨q,hq,rfl⟩:=List.mem_iff_getElem.1 hu
 have hql:q / size<ps.length:=by
  rw[Nat.div_lt_iff_lt_mul hs0,←h.1];exact hq
 refine hR _ _ (h.2 (q / size) _ (List.getElem?_eq_getElem hql)) _ ?_;rw[List.mem_iff_getElem?];refine⟨q % size,?_⟩;rw[List.getElem?_take,if_pos (Nat.mod_lt _ hs0),List.getElem?_drop,Nat.mul_comm,Nat.div_add_mod,List.getElem?_eq_getElem hq]
def arr{α:Type}(n:Nat)(d:Kd α)(hs:0<d.sz):Kd (List α) where
 sz:=n * d.sz
 E:=d.E
 K:=fun w xs cs=>xs.length=n∧bJ (d.K w) d.sz xs cs
 M:=fun w base ok xs cs=>xs.length=n∧bJ (d.M w base ok) d.sz xs cs
 kQ:=fun h=>by rw[←h.1];exact h.2.1
 kF:=fun h=>reps_one h.2 hs (fun _ _ hk=>d.kF hk)
 iR:=fun hb h=>⟨h.1,h.2.uQ (fun _ _ hk=>d.iR hb hk)⟩
 iq:=fun h=>⟨h.1,h.2.uQ (fun _ _ hk=>d.iq hk)⟩
 gG:=fun hok h=>⟨h.1,h.2.uQ (fun _ _ hk=>d.gG hok hk)⟩
 gL:=fun h=>⟨h.1,h.2.uQ (fun _ _ hk=>d.gL hk)⟩
 jd:=fun hm h=>⟨h.1,h.2.uQ (fun _ _ hk=>d.jd hm hk)⟩
 iT:=fun hb h=>⟨h.1,h.2.uQ (fun _ _ hk=>d.iT hb hk)⟩
section
variable {α : Type} {n : Nat} {d : Kd α} {hs : 0 < d.sz} {w : World} {base : Nat} {ok : Nat → Prop} {xs : List α} {cs : List Value}
end
section
variable {α : Type} {n : Nat} {enc : α → Value} {h1 : ∀ x, (enc x).oneCell' = true} {hs : 0 < (scalar enc h1).sz} {w : World} {base : Nat} {ok : Nat → Prop} {xs : List α} {cs : List Value}
end
end Kd
section
variable {P : Program}
end
namespace Kd
section
variable {P : Program} {ops : Array Oper} {rest : List Oper} {o : Oper} {a : Act} {Q : Exit → Act → World → Prop} {Kc : Act → World → Prop} {α : Type}
end
def tagO{α:Type}(f:Nat→Nat)(d:Kd α):Kd (α×Option Nat) where
 sz:=d.sz
 E:=d.E
 K:=fun w x cs=>d.K w x.1 cs
 M:=fun w base ok x cs=>d.M w base (fun k=>ok k∧some (f k)=x.2) x.1 cs
 kQ:=fun h=>d.kQ h
 kF:=fun h=>d.kF h
 iR:=fun hb h=>d.iR hb h
 iq:=fun h=>d.iq h
 gG:=fun hok h=>d.gG (fun k hk=>⟨hok k hk.1,hk.2⟩) h
 gL:=fun h=>d.gG (fun _ hk=>⟨⟨hk.1.1,hk.2⟩,hk.1.2⟩) (d.gL h)
 jd:=fun hm h=>d.jd (fun k hk=>hm k hk.1) h
 iT:=fun hb h=>d.iT hb h
section
variable {α : Type} {d : Kd α} {e : Nat} {w : World} {base : Nat} {ok : Nat → Prop} {v : Value} {xs : List α}
def zipO(xs:List α)(z:α)(m:Nat):List (α×Option Nat):=xs.zipIdx.map (fun p=>(p.1,some p.2))++List.replicate m (z,none)
end
section
variable {P : Program} {ops : Array Oper} {rest : List Oper} {o : Oper} {a : Act} {Q : Exit → Act → World → Prop} {Kc : Act → World → Prop} {α : Type}
end
end Kd
namespace Kd
structure Heap {α:Type} (d:Kd α):Prop where
 K:∀ {w w1:World} {x:α} {cs:List Value},(∀k,k<w.heap.size→w1.heap[k]?=w.heap[k]?)→d.K w x cs→d.K w1 x cs
theorem Sz{w w1:World}(hb:∀k,k<w.heap.size→w1.heap[k]?=w.heap[k]?){a:Addr}{v:Value}(h:w.cell? a=some v):w1.cell? a=some v:=by
 have:=hb a.block (World.block_lt_of_cell? w a h);simpa [World.cell?,this]using h
theorem Heap.C{α:Type}{d:Kd α}(hd:Heap d){w w1:World}{A:Option Addr}{n:Nat}{xs:List α}(hb:∀k,k<w.heap.size→w1.heap[k]?=w.heap[k]?)(h:d.C w A n xs):d.C w1 A n xs:=
 ⟨h.1,h.2.1,fun hn=>by
  obtain⟨ad,e,hc⟩:=h.2.2 hn;refine⟨ad,e,fun j p hj=>?_⟩;obtain⟨c,hs,hr,hcell⟩:=hc j p hj;exact⟨c,hs,hd.K hb hr,fun i u hu=>Sz hb (hcell i u hu)⟩⟩
section
variable {α : Type} {d : Kd α} {e base g n c : Nat} {ok : Nat → Prop} {w w0 W : World} {A : Option Addr} {xs : List α}
end
end Kd
def Kept(w W:World)(S:Nat→Prop):Prop:=w.heap.size≤W.heap.size∧∀i,i<w.heap.size→¬S i→W.heap[i]?=w.heap[i]?
section
variable {w W W2 : World} {S S2 S' : Nat → Prop}
theorem Kept.refl(w:World)(S:Nat→Prop):Kept w w S:=⟨Nat.le_refl _,fun _ _ _=>rfl⟩
theorem Kept.of_below(h:Below w.heap.size w W)(S:Nat→Prop):Kept w W S:=⟨h.size,fun i hi _=>h.block i hi⟩
theorem Kept.mono(h:Kept w W S)(hs:∀k,S k→S' k):Kept w W S':=⟨h.1,fun i hi hn=>h.2 i hi (fun hk=>hn (hs i hk))⟩
theorem Kept.then_(h:Kept w W S)(k:Kept W W2 S2)(hs:∀k,S2 k→S k∨w.heap.size≤k):Kept w W2 S:=
 ⟨Nat.le_trans h.1 k.1,fun i hi hn=>(k.2 i (Nat.lt_of_lt_of_le hi h.1) (fun h2=>(hs i h2).elim hn (fun h3=>by omega))).trans (h.2 i hi hn)⟩
theorem Kept.below(h:Kept w W S)(hb:Below W.heap.size W W2):Kept w W2 S:=h.then_ (Kept.of_below hb (fun _=>False)) (fun _ hk=>hk.elim)
theorem Kept.alloc(h:Kept w W S)(o:Obj):Kept w (W.alloc o) S:=h.below (bY (Below.refl _ _) o)
theorem Kept.drew(h:Kept w W S):Kept w W.drew S:=h
theorem Kept.drewN(h:Kept w W S)(m:Nat):Kept w (W.drewN m) S:=h
theorem Kept.setCell(h:Kept w W S){p:Addr}(hp:S p.block∨w.heap.size≤p.block)(u:Value):Kept w (W.setCell p u) S:=
 h.then_ (S2:=fun k=>k=p.block) ⟨by simp[World.setCell],fun i _ hn=>Below.heap_setCell W p u i hn⟩ (fun k hk=>by rw[hk];exact hp)
end
namespace Kd
section
variable {α : Type} {d : Kd α} {e base n c : Nat} {ok oki S S2 : Nat → Prop} {w w0 W W1 W2 : World} {v : Value} {A : Option Addr} {xs : List α} {i : Int} {cs : List Value}
end
end Kd
def BU(P:World→Prop)(W:World)(ok:Nat→Prop):Prop:=∀W':World,(∀k,ok k→k<W.heap.size→W'.heap[k]?=W.heap[k]?)→P W'
theorem kK{W W1:World}{k:Nat}(h:W1.heap[k]?=W.heap[k]?)(hlt:k<W.heap.size):k<W1.heap.size:=by
 rw[Array.getElem?_eq_getElem hlt]at h;exact(Array.getElem?_eq_some_iff.1 h).1
namespace BU
variable {P Q : World → Prop} {W W1 : World} {ok ok' : Nat → Prop}
theorem mono(h:BU P W ok)(hok:∀k,ok k→ok' k):BU P W ok':=fun W' hW=>h W' (fun k hk hlt=>hW k (hok k hk) hlt)
theorem bound(h:BU P W ok):BU P W (fun k=>ok k∧k<W.heap.size):=fun W' hW=>h W' (fun k hk hlt=>hW k ⟨hk,hlt⟩ hlt)
theorem step(h:BU P W ok)(hm:∀k,ok k→k<W.heap.size→W1.heap[k]?=W.heap[k]?):BU P W1 ok:=fun W' hW=>h W' (fun k hk hlt=>(hW k hk (kK (hm k hk hlt) hlt)).trans (hm k hk hlt))
theorem imp(h:BU P W ok)(hi:∀W',P W'→Q W'):BU Q W ok:=fun W' hW=>hi W' (h W' hW)
theorem old(h:BU P W ok)(hb:Below W.heap.size W W1):BU P W1 (fun k=>ok k∧k<W.heap.size):=(h.bound).step (fun k _ hlt=>hb.block k hlt)
end BU
namespace Kd
def F{α:Type}(d:Kd α)(W:World)(ok:Nat→Prop)(A:Option Addr)(n:Nat)(xs:List α):Prop:=BU (fun W=>d.C W A n xs) W ok
def FK{α:Type}(d:Kd α)(W:World)(ok:Nat→Prop)(x:α)(c:List Value):Prop:=BU (fun W=>d.K W x c) W ok
section
variable {α β : Type} {d : Kd α} {e base n n' cc g N : Nat} {ok ok' okp S : Nat → Prop} {w w0 w1 W W1 : World} {A A' : Option Addr} {u v v1 : Value} {xs : List α} {xs' : List β} {d' : Kd β} {x : α} {c : List Value}
theorem F_nil(d:Kd α)(W:World)(ok:Nat→Prop):F d W ok none ([] :List α).length []:=fun W' _=>C_nil d W'
theorem FK_of_M(h:d.M W base ok x c):FK d W ok x c:=fun _ hW=>d.iq (M_step h hW)
end
end Kd
namespace Kd
def chunks(sz n:Nat)(inner:List Value):List (List Value):=(List.range n).map fun j=>(inner.drop (j * sz)).take sz
theorem nU(sz n:Nat)(inner:List Value):(chunks sz n inner).length=n:=by simp[chunks]
theorem SB{sz n:Nat}{inner:List Value}{j:Nat}(hj:j<n):(chunks sz n inner)[j]?=some ((inner.drop (j * sz)).take sz):=by simp[chunks,hj]
theorem Gi{sz n:Nat}{inner:List Value}{j:Nat}{c:List Value}(h:(chunks sz n inner)[j]?=some c):c=(inner.drop (j * sz)).take sz:=by
 have hj:j<n:=by have:=(List.getElem?_eq_some_iff.1 h).1;rwa [nU]at this
 rw[SB hj]at h;injection h with h
 exact h.symm
theorem reps_raw{α:Type}{Rr:α→List Value→Prop}{sz:Nat}{xs:List α}{inner:List Value}(h:bJ Rr sz xs inner)(hR:∀x c,Rr x c→c.length=sz∧∀u∈c,u.oneCell'=true):bJ (fun x cs=>cs=x∧cs.length=sz∧∀u∈cs,u.oneCell'=true) sz (chunks sz xs.length inner) inner:=by
 refine⟨by rw[nU];exact h.1,fun j p hj=>?_⟩;have hjl:j<xs.length:=by have:=(List.getElem?_eq_some_iff.1 hj).1;rwa [nU]at this
 have hp:=Gi hj;exact⟨hp.symm,hR _ _ (h.2 j _ (List.getElem?_eq_getElem hjl))⟩
section
variable {α : Type} {d : Kd α} {e base n cc g : Nat} {ok ok' okp S : Nat → Prop} {w w1 W W1 : World} {A : Option Addr} {u v v1 : Value} {xs : List α} {x : α} {c : List Value}
def N{α:Type}(d:Kd α)(e:Nat)(w:World)(base:Nat)(ok:Nat→Prop)(v:Value)(xs:List α):Prop:=
 (∀k,v.ownBlock=some k→ok k)∧∃rows:List (List Value),rows.length=xs.length∧(raw d.sz).R e w base (fun k=>some k=v.ownBlock) v rows∧∀(j:Nat) (x:α) (c:List Value),xs[j]?=some x→rows[j]?=some c→FK d w (fun k=>ok k∧some k≠v.ownBlock) x c
theorem R_N(h:d.R e w base ok v xs):N d e w base ok v xs:=by
 obtain⟨h0,inner,ho,hr⟩:=h;refine⟨h0,chunks d.sz xs.length inner,nU _ _ _,⟨fun k hk=>hk.symm,inner,by rw[nU];exact ho,reps_raw hr (fun x c hp=>⟨d.kQ (d.iq hp),d.kF (d.iq hp)⟩)⟩,fun j x c hx hc=>?_⟩;rw[Gi hc];exact FK_of_M (hr.2 j x hx)
theorem N_nil(d:Kd α)(e:Nat)(w:World)(base:Nat)(ok:Nat→Prop):N d e w base ok (.slice none 0 0) []:=R_N (nI _ _ _ _ _)
end
end Kd
namespace Kd
section
variable {α : Type} {d : Kd α} {W : World} {g n : Nat} {S ok : Nat → Prop} {A : Option Addr} {ad : Addr} {xs : List α}
end
end Kd
section
variable {w w' u : World} {m B g : Nat} {o : Obj} {row : Option Nat} {S : Nat → Prop} {a : Addr} {v : Value}
end
namespace Kd
section
variable {α : Type} {d : Kd α} {e base n m : Nat} {ok : Nat → Prop} {w w' : World} {v : Value} {A : Option Addr} {xs : List α}
end
end Kd
section
variable {P : Program} {d : Nat} {xs ys : Array Value} {f : Field} {fs : List Field} {a b : Value} {r s : Bool} {w : World}
theorem eqf_last(hn:(f.name== "_")=false)(ha:(part f.type xs f.offset).run P w=.ok a w)(hb:(part f.type ys f.offset).run P w=.ok b w)(he:(Op.equalIn d f.type a b).run P w=.ok r w):(Op.eqFields d xs ys [f]).run P w=.ok r w:=by
 have hn':f.name≠ "_" :=by simpa using hn
 simp only[Op.eqFields,if_pos hn',Sem.run_bind,ha,hb,he,Result.andThen_ok];cases r<;>simp
theorem eqf_cons(hn:(f.name== "_")=false)(ha:(part f.type xs f.offset).run P w=.ok a w)(hb:(part f.type ys f.offset).run P w=.ok b w)(he:(Op.equalIn d f.type a b).run P w=.ok r w)(hr:(Op.eqFields d xs ys fs).run P w=.ok s w):(Op.eqFields d xs ys (f::fs)).run P w=.ok (r&&s) w:=by
 have hn':f.name≠ "_" :=by simpa using hn
 rw[Op.eqFields];simp only[if_pos hn',Sem.run_bind,ha,hb,he,Result.andThen_ok];cases r
 ·simp
 ·simpa using hr
theorem eqA_of{t:TypeId}{fs:Array Field}(hu:P.underlying t=some (.struct fs))(hp:P.stoodInHeld t=false)(h:(Op.eqFields d xs ys fs.toList).run P w=.ok r w):(Op.equalIn (d+1) t (.agg xs) (.agg ys)).run P w=.ok r w:=by
 have hf:P.fieldsOf t=fs:=by simp[Program.fieldsOf,hu]
 rw[run_equalIn_struct (P:=P) w d t xs ys (by rw[hf];exact hu) hp,hf];exact h
end
end Go.Proofs.ah.aD
namespace Go.Proofs.ah.aD
theorem bJ.one{α:Type}{R:α→List Value→Prop}{ps:List α}{cs:List Value}{p:α}{v:Value}(hp:R p [v])(h:bJ R 1 ps cs):bJ R 1 (p::ps) (v::cs):=by
 refine⟨by simp[h.1],fun j q hq=>?_⟩;cases j with
 |zero=>
  simp only[List.getElem?_cons_zero,Option.some.injEq]at hq;subst hq;simpa using hp
 |succ j=>
  simp only[List.getElem?_cons_succ]at hq;have h1:=h.2 j q hq;simpa [Nat.mul_one]using h1
theorem bJ.front{α:Type}{R:α→List Value→Prop}{size:Nat}{ps:List α}{cs c all:List Value}{p:α}(hp:R p c)(hc:c.length=size)(h:bJ R size ps cs)(ha:c++cs=all):bJ R size (p::ps) all:=by
 subst ha;refine⟨by rw[List.length_append,hc,h.1,List.length_cons,Nat.succ_mul,Nat.add_comm],fun j q hq=>?_⟩;cases j with
 |zero=>
  simp only[List.getElem?_cons_zero,Option.some.injEq]at hq;subst hq;rw[Nat.zero_mul,List.drop_zero,List.take_append_of_le_length (by omega),List.take_of_length_le (by omega)];exact hp
 |succ j=>
  simp only[List.getElem?_cons_succ]at hq;have h1:=h.2 j q hq;rw[Nat.succ_mul,List.drop_append,List.drop_of_length_le (by rw[hc];exact Nat.le_add_left _ _),List.nil_append,hc,Nat.add_sub_cancel];exact h1
theorem bJ.c2{α:Type}{R:α→List Value→Prop}{ps:List α}{cs:List Value}{p:α}{va vb:Value}(hp:R p [va,vb])(h:bJ R 2 ps cs):bJ R 2 (p::ps) (va::vb::cs):=bJ.front hp rfl h rfl
theorem bJ.c3{α:Type}{R:α→List Value→Prop}{ps:List α}{cs:List Value}{p:α}{va vb vc:Value}(hp:R p [va,vb,vc])(h:bJ R 3 ps cs):bJ R 3 (p::ps) (va::vb::vc::cs):=bJ.front hp rfl h rfl
theorem bJ.c4{α:Type}{R:α→List Value→Prop}{ps:List α}{cs:List Value}{p:α}{va vb vc vd:Value}(hp:R p [va,vb,vc,vd])(h:bJ R 4 ps cs):bJ R 4 (p::ps) (va::vb::vc::vd::cs):=bJ.front hp rfl h rfl
theorem bJ.c5{α:Type}{R:α→List Value→Prop}{ps:List α}{cs:List Value}{p:α}{va vb vc vd ve:Value}(hp:R p [va,vb,vc,vd,ve])(h:bJ R 5 ps cs):bJ R 5 (p::ps) (va::vb::vc::vd::ve::cs):=bJ.front hp rfl h rfl
theorem bJ.c6{α:Type}{R:α→List Value→Prop}{ps:List α}{cs:List Value}{p:α}{va vb vc vd ve vf:Value}(hp:R p [va,vb,vc,vd,ve,vf])(h:bJ R 6 ps cs):bJ R 6 (p::ps) (va::vb::vc::vd::ve::vf::cs):=bJ.front hp rfl h rfl
theorem bJ.c7{α:Type}{R:α→List Value→Prop}{ps:List α}{cs:List Value}{p:α}{va vb vc vd ve vf vg:Value}(hp:R p [va,vb,vc,vd,ve,vf,vg])(h:bJ R 7 ps cs):bJ R 7 (p::ps) (va::vb::vc::vd::ve::vf::vg::cs):=bJ.front hp rfl h rfl
theorem bJ.c8{α:Type}{R:α→List Value→Prop}{ps:List α}{cs:List Value}{p:α}{va vb vc vd ve vf vg vh:Value}(hp:R p [va,vb,vc,vd,ve,vf,vg,vh])(h:bJ R 8 ps cs):bJ R 8 (p::ps) (va::vb::vc::vd::ve::vf::vg::vh::cs):=bJ.front hp rfl h rfl
theorem bJ.c9{α:Type}{R:α→List Value→Prop}{ps:List α}{cs:List Value}{p:α}{va vb vc vd ve vf vg vh vi:Value}(hp:R p [va,vb,vc,vd,ve,vf,vg,vh,vi])(h:bJ R 9 ps cs):bJ R 9 (p::ps) (va::vb::vc::vd::ve::vf::vg::vh::vi::cs):=bJ.front hp rfl h rfl
theorem bJ.c10{α:Type}{R:α→List Value→Prop}{ps:List α}{cs:List Value}{p:α}{va vb vc vd ve vf vg vh vi vj:Value}(hp:R p [va,vb,vc,vd,ve,vf,vg,vh,vi,vj])(h:bJ R 10 ps cs):bJ R 10 (p::ps) (va::vb::vc::vd::ve::vf::vg::vh::vi::vj::cs):=bJ.front hp rfl h rfl
end Go.Proofs.ah.aD
namespace Go.Proofs.ah.bG
def up(b:Nat→Bool)(i:Nat):Nat→Bool:=fun j=>if j=i then true else b j
def lof(n:Nat)(O:List Nat)(b:Nat→Bool):List Bool:=(List.range n).map fun j=>if O.contains j then b j else true
def putSel(a:Act)(b:Nat→Bool):List (Nat×Tmp×Value)→Act
 | []=>a
 |e::r=>putSel (if b e.1=true then a.put (some e.2.1) e.2.2 else a) b r
section
variable {P : Program} {ops : Array Oper} {Q : Exit → Act → World → Prop} {md : Region.Mode} {T : Bool × List (List Nat × List Nat)} {B O : List Nat} {b : Nat → Bool} {i j n : Nat}
def StepAt(P:Program)(ops:Array Oper)(Q:Exit→Act→World→Prop)(B O:List Nat)(I:(Nat→Bool)→Act→World→Prop)(i:Nat):Prop:=
 ∀b a w,I b a w→b i=false→(∀j,(O.contains j&&(B.getD i 0).testBit j)=true→b j=true)→(∀d,(O.contains d&&(B.getD d 0).testBit i)=true→b d=false)→
  ∃oi,ops[i]?=some oi∧∀K:Act→World→Prop,Shut (∀a' w',I (up b i) a' w'→K a' w')→if Region.wanted oi (yielded ops a.tmps)=true then Oper.wp P oi a w K Q else K (a.put oi.dst undef) w
def baseOk(T:List (List Nat×List Nat))(O:List Nat):Bool:=
 (List.range T.length).all (fun d=>match T[d]? with
   |some r=>(O.contains d||r.1.all fun n=>!O.contains n)&&r.1.all fun n=>decide (n<d)
   |none=>false)&&O.all (fun i=>decide (i<T.length))&&decide O.Nodup
def Closed(T:List (List Nat×List Nat))(O:List Nat)(b:Nat→Bool):Prop:=∀d r,T[d]?=some r→O.contains d=true→b d=true→∀n∈r.1,O.contains n=true→b n=true
end
end Go.Proofs.ah.bG
namespace Go.Proofs.ah.aD
open Go.RowKit
theorem uD{v1 v2:Value}{n:Nat}(hlt:∀k,v1.ownBlock=some k→k<n)(hge:∀k,v2.ownBlock=some k→n≤k):v1.ownBlock=none∨v1.ownBlock≠v2.ownBlock:=by
 cases h:v1.ownBlock with
 |none=>exact .inl rfl
 |some k=>exact .inr (fun e=>by have:=hlt k h;have:=hge k e.symm;omega)
end Go.Proofs.ah.aD
namespace Go.Proofs.ah.bG
section
variable {ops : Array Oper} {a : Act} {o og : Oper} {g : Nat} {t : Tmp} {u : Bool}
end
end Go.Proofs.ah.bG
namespace Go.Proofs.ah.aD
open Go.RowKit
section
variable {P : Program} {ops : Array Oper} {rest : List Oper} {o : Oper} {a : Act} {Q : Exit → Act → World → Prop} {W : World}
theorem pJ(hw:Region.wanted o (yielded ops a.tmps)=true)(h:wpList P ops Q ({o with guard:=none } ::rest) a W):wpList P ops Q (o::rest) a W:=by
 have h1:Region.wanted {o with guard:=none } (yielded ops a.tmps)=true:=rfl
 unfold wpList at h⊢;rw[if_pos h1]at h;rw[if_pos hw];exact h
end
namespace Kd
section
variable {α : Type} {d : Kd α} {e base n cap g : Nat} {ok ok' okp : Nat → Prop} {w w1 W : World} {v v1 : Value} {xs ys : List α}
end
section
variable {P : Program} {ops : Array Oper} {rest : List Oper} {o : Oper} {a : Act} {Q : Exit → Act → World → Prop} {Kc : Act → World → Prop} {α : Type}
end
end Kd
end Go.Proofs.ah.aD
namespace Go.Proofs.ah.bR
open Go.RowKit Go.Proofs.ah.aD
namespace Kd
open Go.Proofs.ah.aD.Kd
end Kd
namespace Kd
open Go.Proofs.ah.aD.Kd
section
variable {α : Type} {d : Kd α} {e base g N : Nat} {ok : Nat → Prop} {W w1 : World} {u v : Value} {xs : List α}
end
end Kd
theorem dD(k k':IntKind)(x y:Int):Builtin.max2 (.int k x) (.int k' y)=pure (.int k (if x<y then y else x)):=by simp only[Builtin.max2,gt_iff_lt]
theorem dF(k k':IntKind)(x y:Int):Builtin.min2 (.int k x) (.int k' y)=pure (.int k (if y<x then y else x)):=by simp only[Builtin.min2]
theorem dV(ats:Array TypeId)(ty:TypeId)(a b:Value):Builtin.max_ ats ty #[a,b]=(Builtin.max2 a b >>= fun s=>pure s):=by simp only[Builtin.max_,List.foldlM_cons,List.foldlM_nil]
theorem dW(ats:Array TypeId)(ty:TypeId)(a b:Value):Builtin.min_ ats ty #[a,b]=(Builtin.min2 a b >>= fun s=>pure s):=by simp only[Builtin.min_,List.foldlM_cons,List.foldlM_nil]
theorem bU(ats:Array TypeId)(ty:TypeId)(a b c:Value):Builtin.max_ ats ty #[a,b,c]=(Builtin.max2 a b >>= fun s=>Builtin.max2 s c >>= fun s=>pure s):=by simp only[Builtin.max_,List.foldlM_cons,List.foldlM_nil]
theorem bV(ats:Array TypeId)(ty:TypeId)(a b c:Value):Builtin.min_ ats ty #[a,b,c]=(Builtin.min2 a b >>= fun s=>Builtin.min2 s c >>= fun s=>pure s):=by simp only[Builtin.min_,List.foldlM_cons,List.foldlM_nil]
theorem dG(ats:Array TypeId)(ty:TypeId)(a b c d:Value):Builtin.max_ ats ty #[a,b,c,d]=(Builtin.max2 a b >>= fun s=>Builtin.max2 s c >>= fun s=>Builtin.max2 s d >>= fun s=>pure s):=by simp only[Builtin.max_,List.foldlM_cons,List.foldlM_nil]
theorem dH(ats:Array TypeId)(ty:TypeId)(a b c d:Value):Builtin.min_ ats ty #[a,b,c,d]=(Builtin.min2 a b >>= fun s=>Builtin.min2 s c >>= fun s=>Builtin.min2 s d >>= fun s=>pure s):=by simp only[Builtin.min_,List.foldlM_cons,List.foldlM_nil]
end Go.Proofs.ah.bR
namespace Go.Proofs.ah.aD
open Go.RowKit
section
variable {P : Program} {ops : Array Oper} {rest : List Oper} {o : Oper} {a : Act} {Q : Exit → Act → World → Prop} {W : World}
theorem aZ{f:FuncId}{as_:Array Operand}{ts:Array TypeId}(_ho:o.op=.call {callee:=.value (.func f),args:=as_,argTypes:=ts })(h:wpList P ops Q (o::rest) a W):wpList P ops Q (o::rest) a W:=h
theorem uX{b:Builtin}{xs:Array Operand}{ts:Array TypeId}(_ho:o.op=.call {callee:=.builtin b,args:=xs,argTypes:=ts })(h:wpList P ops Q (o::rest) a W):wpList P ops Q (o::rest) a W:=h
end
def mx(a b:Int):Int:=if a<b then b else a
def mn(a b:Int):Int:=if b<a then b else a
def shl(k:IntKind)(x y:Int):Int:=k.wrap (x * 2^min y.toNat k.bits)
def shr(k:IntKind)(x y:Int):Int:=x / 2^min y.toNat k.bits
namespace Kd
section
variable {α : Type} {d : Kd α} {e base : Nat} {ok : Nat → Prop} {W w1 : World} {v : Value} {xs : List α}
end
section
variable {α : Type} {d : Kd α} {e base g n cap : Nat} {ok oki okp : Nat → Prop} {W : World} {xs : List α} {i : Int} {c : List Value}
end
section
variable {α : Type} {d : Kd α} {e base b b' g N : Nat} {ok ok1 : Nat → Prop} {W W2 w1 : World} {u v : Value} {xs ys : List α} {S : Nat → Prop}
end
end Kd
namespace Kd
def V{α:Type}(d:Kd α)(_e:Nat)(W:World)(_base:Nat)(ok:Nat→Prop)(v:Value)(xs:List α):Prop:=∃A c,v=.slice A xs.length c∧xs.length≤c∧F d W ok A xs.length xs
section
variable {α β : Type} {d : Kd α} {e base base' n m c g N' lo hi : Nat} {ok ok' S : Nat → Prop} {w W w1 : World} {A : Option Addr} {ad : Addr} {u v v1 : Value} {xs : List α}
theorem V_nil(d:Kd α)(e:Nat)(W:World)(base:Nat)(ok:Nat→Prop):V d e W base ok (.slice none 0 0) []:=⟨none,0,rfl,Nat.le_refl _,F_nil d W ok⟩
end
end Kd
end Go.Proofs.ah.aD
