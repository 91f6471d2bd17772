/- Lemmas and walks, part 3. -/
import Derived.Test.YtkcmghlhpbepcaaGreatDoorNB2
import Derived.Test.YtkcmghlhpbepcaaGreatDoorProg
set_option linter.unusedVariables false
set_option linter.unusedSimpArgs false
namespace Go.Proofs.ah.aD
open Go.RowKit
def ql(P:World→Prop)(W:World)(ok:Nat→Prop):Prop:=∀W':World,(∀k,ok k→k<W.heap.size→W'.heap[k]?=W.heap[k]?)→P W'
theorem kC{W W1:World}{k:Nat}(h:W1.heap[k]?=W.heap[k]?)(hlt:k<W.heap.size):k<W1.heap.size:=by
 rw[Array.getElem?_eq_getElem hlt]at h;exact(Array.getElem?_eq_some_iff.1 h).1
namespace ql
variable {P Q : World → Prop} {W W1 : World} {ok ok' : Nat → Prop}
theorem now(h:ql P W ok):P W:=h W (fun _ _ _=>rfl)
theorem mono(h:ql P W ok)(hok:∀k,ok k→ok' k):ql P W ok':=fun W' hW=>h W' (fun k hk hlt=>hW k (hok k hk) hlt)
theorem bound(h:ql P W ok):ql P W (fun k=>ok k∧k<W.heap.size):=fun W' hW=>h W' (fun k hk hlt=>hW k ⟨hk,hlt⟩ hlt)
theorem step(h:ql P W ok)(hm:∀k,ok k→k<W.heap.size→W1.heap[k]?=W.heap[k]?):ql P W1 ok:=fun W' hW=>h W' (fun k hk hlt=>(hW k hk (kC (hm k hk hlt) hlt)).trans (hm k hk hlt))
theorem imp(h:ql P W ok)(hi:∀W',P W'→Q W'):ql Q W ok:=fun W' hW=>hi W' (h W' hW)
theorem old(h:ql P W ok)(hb:Below W.heap.size W W1):ql P W1 (fun k=>ok k∧k<W.heap.size):=(h.bound).step (fun k _ hlt=>hb.block k hlt)
end ql
namespace Kd
def F{α:Type}(d:Kd α)(W:World)(ok:Nat→Prop)(A:Option Addr)(n:Nat)(xs:List α):Prop:=ql (fun W=>d.C W A n xs) W ok
def FK{α:Type}(d:Kd α)(W:World)(ok:Nat→Prop)(x:α)(c:List Value):Prop:=ql (fun W=>d.K W x c) W ok
section
variable {α β : Type} {d : Kd α} {e base n n' cc g N : Nat} {ok ok' okp S : Nat → Prop} {w w0 w1 W W1 : World} {A A' : Option Addr} {u v v1 : Value} {xs : List α} {xs' : List β} {d' : Kd β} {x : α} {c : List Value}
theorem F_now(h:F d W ok A n xs):d.C W A n xs:=ql.now h
theorem Jq(h:F d W ok A n xs)(hok:∀k,ok k→ok' k):F d W ok' A n xs:=ql.mono h hok
theorem PY(h:F d W ok A n xs):F d W (fun k=>ok k∧k<W.heap.size) A n xs:=ql.bound h
theorem F_step(h:F d W ok A n xs)(hm:∀k,ok k→k<W.heap.size→W1.heap[k]?=W.heap[k]?):F d W1 ok A n xs:=ql.step h hm
theorem F_imp(h:F d W ok A n xs)(hi:∀W',d.C W' A n xs→d'.C W' A' n' xs'):F d' W ok A' n' xs':=ql.imp h hi
theorem qF(h:F d W ok A n xs)(hb:Below W.heap.size W W1):F d W1 ok A n xs:=F_step h (fun k _ hlt=>hb.block k hlt)
theorem F_alloc(h:F d W ok A n xs)(o:Obj):F d (W.alloc o) ok A n xs:=qF h (bX (Below.refl _ _) o)
theorem F_drew(h:F d W ok A n xs):F d W.drew ok A n xs:=qF h (bW (Below.refl _ _))
theorem F_drewN(h:F d W ok A n xs)(m:Nat):F d (W.drewN m) ok A n xs:=qF h (bE (Below.refl _ _) m)
theorem F_far(h:F d W ok A n xs){p:Addr}(hok:∀k,ok k→k≠p.block)(u:Value):F d (W.setCell p u) ok A n xs:=F_step h (fun k hk _=>Below.heap_setCell W p u k (hok k hk))
theorem F_nil(d:Kd α)(W:World)(ok:Nat→Prop):F d W ok none ([] :List α).length []:=fun W' _=>C_nil d W'
theorem F_elder'(h:F d W ok A n xs)(hbase:∀k,v.ownBlock=some k→W.heap.size≤k)(hb:Below W.heap.size W W1):F d W1 (fun k=>ok k∧some k≠v.ownBlock) A n xs:=
 Jq (ql.old h hb) (fun k hk=>⟨hk.1,fun he=>by have:=hbase k he.symm;have:=hk.2;omega⟩)
theorem F_elderB(h:F d W ok A n xs)(a:Nat)(ha:W.heap.size≤a):F d W (fun k=>ok k∧k≠a) A n xs:=Jq (PY h) (fun k hk=>⟨hk.1,by have:=hk.2;omega⟩)
theorem F_after(h:F d W (fun k=>ok k∧some k≠v.ownBlock) A n xs)(hg:W.grownBy W1 v.ownBlock)(hat:v1.ownBlock=v.ownBlock∨∃b,v1.ownBlock=some b∧W.heap.size≤b):F d W1 (fun k=>ok k∧some k≠v1.ownBlock) A n xs:=by
 refine Jq (ql.step (PY h) (fun k hk hlt=>hg.block k hlt hk.1.2)) (fun k hk=>⟨hk.1.1,?_⟩)
 rcases hat with hat|⟨b,hb,hle⟩
 ·rw[hat];exact hk.1.2
 ·rw[hb]
  intro he;injection he with he
  have:=hk.2;omega
theorem C_F(hd:Heap d)(h:d.C w A n xs):F d w (fun k=>k<w.heap.size) A n xs:=fun _ hW=>hd.C (fun k hlt=>hW k hlt hlt) h
theorem Br(h:FK d W ok x c):d.K W x c:=ql.now h
theorem Dv(h:FK d W ok x c)(hok:∀k,ok k→ok' k):FK d W ok' x c:=ql.mono h hok
theorem Fj(h:FK d W ok x c):FK d W (fun k=>ok k∧k<W.heap.size) x c:=ql.bound h
theorem Jr(h:FK d W ok x c)(hm:∀k,ok k→k<W.heap.size→W1.heap[k]?=W.heap[k]?):FK d W1 ok x c:=ql.step h hm
theorem FK_of_M(h:d.M W base ok x c):FK d W ok x c:=fun _ hW=>d.gY (M_step h hW)
theorem emptied(W:World)(g:Nat):∃W':World,(∀k,k≠g→W'.heap[k]?=W.heap[k]?)∧∀a:Addr,a.block=g→W'.cell? a=none:=by
 refine⟨{W with heap:=W.heap.setIfInBounds g (.cells #[] 0) },fun k hk=>by simp[Ne.symm hk],fun a ha=>?_⟩;subst ha
 by_cases hlt:a.block<W.heap.size
 ·simp[World.cell?,hlt]
 ·simp[World.cell?,hlt]
end
end Kd
namespace Kd
def chunks(sz n:Nat)(inner:List Value):List (List Value):=(List.range n).map fun j=>(inner.drop (j * sz)).take sz
theorem jQ(sz n:Nat)(inner:List Value):(chunks sz n inner).length=n:=by simp[chunks]
theorem QT{sz n:Nat}{inner:List Value}{j:Nat}(hj:j<n):(chunks sz n inner)[j]?=some ((inner.drop (j * sz)).take sz):=by simp[chunks,hj]
theorem zH{sz n:Nat}{inner:List Value}{j:Nat}{c:List Value}(h:(chunks sz n inner)[j]?=some c):c=(inner.drop (j * sz)).take sz:=by
 have hj:j<n:=by have:=(List.getElem?_eq_some_iff.1 h).1;rwa [jQ]at this
 rw[QT hj]at h;injection h with h
 exact h.symm
theorem LA{α:Type}{Rr:α→List Value→Prop}{sz:Nat}{xs:List α}{inner:List Value}(h:bK Rr sz xs inner)(hR:∀x c,Rr x c→c.length=sz∧∀u∈c,u.oneCell'=true):bK (fun x cs=>cs=x∧cs.length=sz∧∀u∈cs,u.oneCell'=true) sz (chunks sz xs.length inner) inner:=by
 refine⟨by rw[jQ];exact h.1,fun j p hj=>?_⟩;have hjl:j<xs.length:=by have:=(List.getElem?_eq_some_iff.1 hj).1;rwa [jQ]at this
 have hp:=zH hj;exact⟨hp.symm,hR _ _ (h.2 j _ (List.getElem?_eq_getElem hjl))⟩
section
variable {α : Type} {d : Kd α} {e base n cc g : Nat} {ok ok' okp S : Nat → Prop} {w w1 W W1 : World} {A : Option Addr} {u v v1 : Value} {xs : List α} {x : α} {c : List Value}
theorem F_get(h:F d W ok A n xs)(z:α)(i:Int)(h0:0≤i)(h1:i<n):
 ∃ad c,A=some ad∧c.length=d.sz∧FK d W ok (xs.getD i.toNat z) c∧(∀j u,c[j]?=some u→W.cell? (ad.add (i.toNat * d.sz+j))=some u)∧(0<d.sz→ok ad.block):=by
 obtain⟨ad,c,rfl,hcl,hK,hcc⟩:=FR (F_now h) z i h0 h1
 have hin:0<d.sz→ok ad.block:=by
  intro hs
  by_cases hk:ok ad.block
  ·exact hk
  ·obtain⟨W',h2,h3⟩:=emptied W ad.block
   obtain⟨ad',c',he,hcl',_,hcc'⟩:=FR (h W' (fun k hk' _=>h2 k (fun e=>hk (e▸hk')))) z i h0 h1;injection he with he
   subst he;have h4:=hcc' 0 _ (List.getElem?_eq_getElem (by omega));rw[h3 _ (add_block _ _)]at h4;cases h4
 refine⟨ad,c,rfl,hcl,fun W' hW=>?_,hcc,hin⟩;obtain⟨ad',c',he,hcl',hK',hcc'⟩:=FR (h W' hW) z i h0 h1;injection he with he
 subst he
 have hc:c=c':=by
  apply List.ext_getElem?;intro j
  by_cases hj:j<d.sz
  ·have hb:W'.heap[ad.block]?=W.heap[ad.block]?:=by
    have h5:=hcc j _ (List.getElem?_eq_getElem (by omega));have h6:=World.block_lt_of_cell? W _ h5;rw[add_block]at h6;exact hW _ (hin (by omega)) h6
   have h5:=hcc j _ (List.getElem?_eq_getElem (by omega));have h6:=hcc' j _ (List.getElem?_eq_getElem (by omega));have h7:W'.cell? (ad.add (i.toNat * d.sz+j))=W.cell? (ad.add (i.toNat * d.sz+j)):=by simp[World.cell?,add_block,hb]
   rw[h7,h5]at h6;rw[List.getElem?_eq_getElem (by omega),List.getElem?_eq_getElem (by omega)];exact h6
  ·rw[List.getElem?_eq_none (by omega),List.getElem?_eq_none (by omega)]
 rw[hc];exact hK'
def N{α:Type}(d:Kd α)(e:Nat)(w:World)(base:Nat)(ok:Nat→Prop)(v:Value)(xs:List α):Prop:=
 (∀k,v.ownBlock=some k→ok k)∧∃rows:List (List Value),rows.length=xs.length∧(raw d.sz).R e w base (fun k=>some k=v.ownBlock) v rows∧∀(j:Nat) (x:α) (c:List Value),xs[j]?=some x→rows[j]?=some c→FK d w (fun k=>ok k∧some k≠v.ownBlock) x c
theorem Gn{sz:Nat}{rows:List (List Value)}(h:(raw sz).R e w base ok v rows):(raw sz).R e w base (fun k=>some k=v.ownBlock) v rows:=R_tight rfl h
theorem raw_any{sz:Nat}{rows:List (List Value)}(h:(raw sz).R e w base ok v rows):(raw sz).R e w base (fun _=>True) v rows:=iG h (fun _ _=>trivial)
theorem R_N(h:d.R e w base ok v xs):N d e w base ok v xs:=by
 obtain⟨h0,inner,ho,hr⟩:=h;refine⟨h0,chunks d.sz xs.length inner,jQ _ _ _,⟨fun k hk=>hk.symm,inner,by rw[jQ];exact ho,LA hr (fun x c hp=>⟨d.j3 (d.gY hp),d.jP (d.gY hp)⟩)⟩,fun j x c hx hc=>?_⟩;rw[zH hc];exact FK_of_M (hr.2 j x hx)
theorem N_nil(d:Kd α)(e:Nat)(w:World)(base:Nat)(ok:Nat→Prop):N d e w base ok (.slice none 0 0) []:=R_N (ni _ _ _ _ _)
theorem nU(h:N d e w base ok v xs)(hok:∀k,ok k→ok' k):N d e w base ok' v xs:=by
 obtain⟨h0,rows,hl,hR,hf⟩:=h;exact⟨fun k hk=>hok k (h0 k hk),rows,hl,hR,fun j x c hx hc=>Dv (hf j x c hx hc) (fun k hk=>⟨hok k hk.1,hk.2⟩)⟩
theorem N_lt(h:N d e w base ok v xs):∀k,v.ownBlock=some k→k<w.heap.size:=by
 obtain⟨_,rows,_,hR,_⟩:=h;exact uW hR
theorem IG(h:N d e w base ok v xs):∀k,v.ownBlock=some k→base≤k:=by
 obtain⟨_,rows,_,hR,_⟩:=h;exact jH hR
theorem N_away(h:N d e w base ok v xs)(hok:∀k,ok k→k≠g):some g≠v.ownBlock:=fun he=>hok g (h.1 g he.symm) rfl
theorem PX(h:N d e w base ok v xs):N d e w base (fun k=>ok k∧k<w.heap.size) v xs:=by
 have hlt:=N_lt h;obtain⟨h0,rows,hl,hR,hf⟩:=h;exact⟨fun k hk=>⟨h0 k hk,hlt k hk⟩,rows,hl,hR,fun j x c hx hc=>Dv (Fj (hf j x c hx hc)) (fun k hk=>⟨⟨hk.1.1,hk.2⟩,hk.1.2⟩)⟩
theorem qE{base':Nat}(h:N d e w base ok v xs)(hb:base'≤base):N d e w base' ok v xs:=by
 obtain⟨h0,rows,hl,hR,hf⟩:=h;exact⟨h0,rows,hl,d9 hR hb,hf⟩
theorem N_step(h:N d e w base ok v xs)(hm:∀k,ok k→k<w.heap.size→w1.heap[k]?=w.heap[k]?):N d e w1 base ok v xs:=by
 obtain⟨h0,rows,hl,hR,hf⟩:=h;exact⟨h0,rows,hl,GH hR (fun k hk hlt=>hm k (h0 k hk.symm) hlt),fun j x c hx hc=>Jr (hf j x c hx hc) (fun k hk hlt=>hm k hk.1 hlt)⟩
theorem ji(h:N d e w base ok v xs)(hb:Below w.heap.size w w1):N d e w1 base ok v xs:=N_step h (fun k _ hk=>hb.block k hk)
theorem wu(h:N d e w base ok v xs)(o:Obj):N d e (w.alloc o) base ok v xs:=ji h (bX (Below.refl _ _) o)
theorem zq(h:N d e w base ok v xs):N d e w.drew base ok v xs:=ji h (bW (Below.refl _ _))
theorem wz(h:N d e w base ok v xs)(m:Nat):N d e (w.drewN m) base ok v xs:=ji h (bE (Below.refl _ _) m)
theorem F5(h:N d e w base ok v xs){p:Addr}(hok:∀k,ok k→k≠p.block)(u:Value):N d e (w.setCell p u) base ok v xs:=N_step h (fun k ho _=>Below.heap_setCell w p u k (hok k ho))
theorem Es(h:N d e W base ok v xs)(hbase:∀k,u.ownBlock=some k→W.heap.size≤k)(hb:Below W.heap.size W w1):N d e w1 base (fun k=>ok k∧some k≠u.ownBlock) v xs:=
 nU (ji (PX h) hb) (fun k hk=>⟨hk.1,fun he=>by have:=hbase k he.symm;have:=hk.2;omega⟩)
theorem N_elderB(h:N d e w base ok v xs)(a:Nat)(ha:w.heap.size≤a):N d e w base (fun k=>ok k∧k≠a) v xs:=nU (PX h) (fun k hk=>⟨hk.1,by have:=hk.2;omega⟩)
theorem wB(h:N d e w base ok v xs):∃A c,v=.slice A xs.length c:=by
 obtain⟨_,rows,hl,hR,_⟩:=h;obtain⟨A,c,he⟩:=dH hR;exact⟨A,c,by rw[he,hl]⟩
theorem gF{n c:Nat}(h:N d e w base ok (.slice A n c) xs):n=xs.length∧n≤c∧d.C w A xs.length xs:=by
 obtain⟨_,rows,hl,hR,hf⟩:=h;obtain⟨hn,hc,hC⟩:=bJ hR;refine⟨by omega,hc,?_⟩;rw[hl]at hC;refine⟨rfl,hC.2.1,fun hp=>?_⟩;obtain⟨ad,he,hcell⟩:=hC.2.2 hp;refine⟨ad,he,fun j p hj=>?_⟩;have hjl:j<rows.length:=by have:=(List.getElem?_eq_some_iff.1 hj).1;omega
 obtain⟨c',hcl,hK,hcc⟩:=hcell j _ (List.getElem?_eq_getElem hjl);have hk:=Br (hf j p _ hj (List.getElem?_eq_getElem hjl));refine⟨c',hcl,?_,hcc⟩;rw[show c'=rows[j]from hK.1];exact hk
end
end Kd
namespace Kd
section
variable {α : Type} {d : Kd α} {W : World} {g n : Nat} {S ok : Nat → Prop} {A : Option Addr} {ad : Addr} {xs : List α}
end
end Kd
section
variable {w w' u : World} {m B g : Nat} {o : Obj} {row : Option Nat} {S : Nat → Prop} {a : Addr} {v : Value}
end
namespace Kd
section
variable {α : Type} {d : Kd α} {e base n m : Nat} {ok : Nat → Prop} {w w' : World} {v : Value} {A : Option Addr} {xs : List α}
end
end Kd
section
variable {P : Program} {d : Nat} {xs ys : Array Value} {f : Field} {fs : List Field} {a b : Value} {r s : Bool} {w : World}
theorem eqf_last(hn:(f.name== "_")=false)(ha:(part f.type xs f.offset).run P w=.ok a w)(hb:(part f.type ys f.offset).run P w=.ok b w)(he:(Op.equalIn d f.type a b).run P w=.ok r w):(Op.eqFields d xs ys [f]).run P w=.ok r w:=by
 have hn':f.name≠ "_" :=by simpa using hn
 simp only[Op.eqFields,if_pos hn',Sem.run_bind,ha,hb,he,Result.andThen_ok];cases r<;>simp
theorem eqf_cons(hn:(f.name== "_")=false)(ha:(part f.type xs f.offset).run P w=.ok a w)(hb:(part f.type ys f.offset).run P w=.ok b w)(he:(Op.equalIn d f.type a b).run P w=.ok r w)(hr:(Op.eqFields d xs ys fs).run P w=.ok s w):(Op.eqFields d xs ys (f::fs)).run P w=.ok (r&&s) w:=by
 have hn':f.name≠ "_" :=by simpa using hn
 rw[Op.eqFields];simp only[if_pos hn',Sem.run_bind,ha,hb,he,Result.andThen_ok];cases r
 ·simp
 ·simpa using hr
theorem eqA_of{t:TypeId}{fs:Array Field}(hu:P.underlying t=some (.struct fs))(hp:P.stoodInHeld t=false)(h:(Op.eqFields d xs ys fs.toList).run P w=.ok r w):(Op.equalIn (d+1) t (.agg xs) (.agg ys)).run P w=.ok r w:=by
 have hf:P.fieldsOf t=fs:=by simp[Program.fieldsOf,hu]
 rw[run_equalIn_struct (P:=P) w d t xs ys (by rw[hf];exact hu) hp,hf];exact h
end
end Go.Proofs.ah.aD
namespace Go.Proofs.ah.aD
theorem bK.one{α:Type}{R:α→List Value→Prop}{ps:List α}{cs:List Value}{p:α}{v:Value}(hp:R p [v])(h:bK R 1 ps cs):bK R 1 (p::ps) (v::cs):=by
 refine⟨by simp[h.1],fun j q hq=>?_⟩;cases j with
 |zero=>
  simp only[List.getElem?_cons_zero,Option.some.injEq]at hq;subst hq;simpa using hp
 |succ j=>
  simp only[List.getElem?_cons_succ]at hq;have h1:=h.2 j q hq;simpa [Nat.mul_one]using h1
theorem bK.front{α:Type}{R:α→List Value→Prop}{size:Nat}{ps:List α}{cs c all:List Value}{p:α}(hp:R p c)(hc:c.length=size)(h:bK R size ps cs)(ha:c++cs=all):bK R size (p::ps) all:=by
 subst ha;refine⟨by rw[List.length_append,hc,h.1,List.length_cons,Nat.succ_mul,Nat.add_comm],fun j q hq=>?_⟩;cases j with
 |zero=>
  simp only[List.getElem?_cons_zero,Option.some.injEq]at hq;subst hq;rw[Nat.zero_mul,List.drop_zero,List.take_append_of_le_length (by omega),List.take_of_length_le (by omega)];exact hp
 |succ j=>
  simp only[List.getElem?_cons_succ]at hq;have h1:=h.2 j q hq;rw[Nat.succ_mul,List.drop_append,List.drop_of_length_le (by rw[hc];exact Nat.le_add_left _ _),List.nil_append,hc,Nat.add_sub_cancel];exact h1
theorem bK.c2{α:Type}{R:α→List Value→Prop}{ps:List α}{cs:List Value}{p:α}{va vb:Value}(hp:R p [va,vb])(h:bK R 2 ps cs):bK R 2 (p::ps) (va::vb::cs):=bK.front hp rfl h rfl
theorem bK.c3{α:Type}{R:α→List Value→Prop}{ps:List α}{cs:List Value}{p:α}{va vb vc:Value}(hp:R p [va,vb,vc])(h:bK R 3 ps cs):bK R 3 (p::ps) (va::vb::vc::cs):=bK.front hp rfl h rfl
theorem bK.c4{α:Type}{R:α→List Value→Prop}{ps:List α}{cs:List Value}{p:α}{va vb vc vd:Value}(hp:R p [va,vb,vc,vd])(h:bK R 4 ps cs):bK R 4 (p::ps) (va::vb::vc::vd::cs):=bK.front hp rfl h rfl
theorem bK.c5{α:Type}{R:α→List Value→Prop}{ps:List α}{cs:List Value}{p:α}{va vb vc vd ve:Value}(hp:R p [va,vb,vc,vd,ve])(h:bK R 5 ps cs):bK R 5 (p::ps) (va::vb::vc::vd::ve::cs):=bK.front hp rfl h rfl
theorem bK.c6{α:Type}{R:α→List Value→Prop}{ps:List α}{cs:List Value}{p:α}{va vb vc vd ve vf:Value}(hp:R p [va,vb,vc,vd,ve,vf])(h:bK R 6 ps cs):bK R 6 (p::ps) (va::vb::vc::vd::ve::vf::cs):=bK.front hp rfl h rfl
theorem bK.c7{α:Type}{R:α→List Value→Prop}{ps:List α}{cs:List Value}{p:α}{va vb vc vd ve vf vg:Value}(hp:R p [va,vb,vc,vd,ve,vf,vg])(h:bK R 7 ps cs):bK R 7 (p::ps) (va::vb::vc::vd::ve::vf::vg::cs):=bK.front hp rfl h rfl
theorem bK.c8{α:Type}{R:α→List Value→Prop}{ps:List α}{cs:List Value}{p:α}{va vb vc vd ve vf vg vh:Value}(hp:R p [va,vb,vc,vd,ve,vf,vg,vh])(h:bK R 8 ps cs):bK R 8 (p::ps) (va::vb::vc::vd::ve::vf::vg::vh::cs):=bK.front hp rfl h rfl
theorem bK.c9{α:Type}{R:α→List Value→Prop}{ps:List α}{cs:List Value}{p:α}{va vb vc vd ve vf vg vh vi:Value}(hp:R p [va,vb,vc,vd,ve,vf,vg,vh,vi])(h:bK R 9 ps cs):bK R 9 (p::ps) (va::vb::vc::vd::ve::vf::vg::vh::vi::cs):=bK.front hp rfl h rfl
theorem bK.c10{α:Type}{R:α→List Value→Prop}{ps:List α}{cs:List Value}{p:α}{va vb vc vd ve vf vg vh vi vj:Value}(hp:R p [va,vb,vc,vd,ve,vf,vg,vh,vi,vj])(h:bK R 10 ps cs):bK R 10 (p::ps) (va::vb::vc::vd::ve::vf::vg::vh::vi::vj::cs):=bK.front hp rfl h rfl
end Go.Proofs.ah.aD
namespace Go.Proofs.ah.bH
def up(b:Nat→Bool)(i:Nat):Nat→Bool:=fun j=>if j=i then true else b j
def lof(n:Nat)(O:List Nat)(b:Nat→Bool):List Bool:=(List.range n).map fun j=>if O.contains j then b j else true
def putSel(a:Act)(b:Nat→Bool):List (Nat×Tmp×Value)→Act
 | []=>a
 |e::r=>putSel (if b e.1=true then a.put (some e.2.1) e.2.2 else a) b r
section
variable {P : Program} {ops : Array Oper} {Q : Exit → Act → World → Prop} {md : Region.Mode} {T : Bool × List (List Nat × List Nat)} {B O : List Nat} {b : Nat → Bool} {i j n : Nat}
def StepAt(P:Program)(ops:Array Oper)(Q:Exit→Act→World→Prop)(B O:List Nat)(I:(Nat→Bool)→Act→World→Prop)(i:Nat):Prop:=
 ∀b a w,I b a w→b i=false→(∀j,(O.contains j&&(B.getD i 0).testBit j)=true→b j=true)→(∀d,(O.contains d&&(B.getD d 0).testBit i)=true→b d=false)→
  ∃oi,ops[i]?=some oi∧∀K:Act→World→Prop,Shut (∀a' w',I (up b i) a' w'→K a' w')→if Region.wanted oi (yielded ops a.tmps)=true then Oper.wp P oi a w K Q else K (a.put oi.dst undef) w
def baseOk(T:List (List Nat×List Nat))(O:List Nat):Bool:=
 (List.range T.length).all (fun d=>match T[d]? with
   |some r=>(O.contains d||r.1.all fun n=>!O.contains n)&&r.1.all fun n=>decide (n<d)
   |none=>false)&&O.all (fun i=>decide (i<T.length))&&decide O.Nodup
def Closed(T:List (List Nat×List Nat))(O:List Nat)(b:Nat→Bool):Prop:=∀d r,T[d]?=some r→O.contains d=true→b d=true→∀n∈r.1,O.contains n=true→b n=true
end
end Go.Proofs.ah.bH
namespace Go.Proofs.ah.aD
open Go.RowKit
theorem uz{v1 v2:Value}{n:Nat}(hlt:∀k,v1.ownBlock=some k→k<n)(hge:∀k,v2.ownBlock=some k→n≤k):v1.ownBlock=none∨v1.ownBlock≠v2.ownBlock:=by
 cases h:v1.ownBlock with
 |none=>exact .inl rfl
 |some k=>exact .inr (fun e=>by have:=hlt k h;have:=hge k e.symm;omega)
end Go.Proofs.ah.aD
namespace Go.Proofs.ah.bH
section
variable {ops : Array Oper} {a : Act} {o og : Oper} {g : Nat} {t : Tmp} {u : Bool}
end
end Go.Proofs.ah.bH
namespace Go.Proofs.ah.aD
open Go.RowKit
section
variable {P : Program} {ops : Array Oper} {rest : List Oper} {o : Oper} {a : Act} {Q : Exit → Act → World → Prop} {W : World}
theorem oW(hw:Region.wanted o (yielded ops a.tmps)=true)(h:wpList P ops Q ({o with guard:=none } ::rest) a W):wpList P ops Q (o::rest) a W:=by
 have h1:Region.wanted {o with guard:=none } (yielded ops a.tmps)=true:=rfl
 unfold wpList at h⊢;rw[if_pos h1]at h;rw[if_pos hw];exact h
end
namespace Kd
section
variable {α : Type} {d : Kd α} {e base n cap g : Nat} {ok ok' okp : Nat → Prop} {w w1 W : World} {v v1 : Value} {xs ys : List α}
theorem MR{rows news:List (List Value)}(h0:∀k,v.ownBlock=some k→ok k)(hl:rows.length=xs.length)(hf:∀(j:Nat) (x:α) (c:List Value),xs[j]?=some x→rows[j]?=some c→FK d W (fun k=>ok k∧some k≠v.ownBlock) x c)
 (hl2:news.length=ys.length) (hf2:∀(j:Nat) (x:α) (c:List Value),ys[j]?=some x→news[j]?=some c→FK d W okp x c) (zI:∀k,okp k→ok k∧some k≠v.ownBlock) (hfresh:∀k,W.heap.size≤k→ok k)
 (hR:(raw d.sz).R e w1 base (fun _=>True) v1 (rows++news)) (hg:W.grownBy w1 v.ownBlock) (hat:v1.ownBlock=v.ownBlock∨∃b,v1.ownBlock=some b∧W.heap.size≤b):N d e w1 base ok v1 (xs++ys):=by
 have hne:∀k,some k≠v.ownBlock→k<W.heap.size→some k≠v1.ownBlock:=by
  intro k hk hlt
  rcases hat with hat|⟨b,hb,hle⟩
  ·rw[hat];exact hk
  ·rw[hb]
   intro he;injection he with he
   omega
 have step:∀ {x:α} {c:List Value} {o:Nat→Prop},FK d W o x c→(∀k,o k→ok k∧some k≠v.ownBlock)→FK d w1 (fun k=>ok k∧some k≠v1.ownBlock) x c:=by
  intro x c o hq ho;exact Dv (Jr (Fj hq) (fun k hk hlt=>hg.block k hlt (ho k hk.1).2)) (fun k hk=>⟨(ho k hk.1).1,hne k (ho k hk.1).2 hk.2⟩)
 refine⟨fun k hk=>?_,rows++news,by rw[List.length_append,List.length_append,hl,hl2],Gn hR,fun j x c hx hc=>?_⟩
 ·rcases hat with hat|⟨b,hb,hle⟩
  ·exact h0 k (hat▸hk)
  ·rw[hb]at hk
   injection hk with hk
   exact hfresh k (by omega)
 ·rcases Nat.lt_or_ge j xs.length with hlt|hge
  ·rw[List.getElem?_append_left hlt]at hx
   rw[List.getElem?_append_left (by omega)]at hc;exact step (hf j x c hx hc) (fun _ hk=>hk)
  ·rw[List.getElem?_append_right hge]at hx
   rw[List.getElem?_append_right (by omega),hl]at hc;exact step (hf2 _ x c hx hc) zI
theorem FK_raw{x:α}{c:List Value}(h:FK d W ok x c):c=c∧c.length=d.sz∧∀u∈c,u.oneCell'=true:=⟨rfl,d.j3 (Br h),d.jP (Br h)⟩
theorem N_made{rows:List (List Value)}(hR:(raw d.sz).R e w1 base (fun k=>k=W.heap.size) v1 rows)(hg:W.grownBy w1 none)(hat:∃b,v1.ownBlock=some b∧W.heap.size≤b)(hl:rows.length=xs.length)(hf:∀(j:Nat) (x:α) (c:List Value),xs[j]?=some x→rows[j]?=some c→FK d W okp x c)
 (hok:∀k,okp k→ok k) (hfresh:ok W.heap.size):N d e w1 base ok v1 xs:=by
 obtain⟨b,hb,hle⟩:=hat;refine⟨fun k hk=>by rw[hR.1 k hk];exact hfresh,rows,hl,Gn hR,fun j x c hx hc=>?_⟩;refine Dv (Jr (Fj (hf j x c hx hc)) (fun k hk hlt=>hg.block k hlt (by simp))) (fun k hk=>⟨hok k hk.1,fun he=>?_⟩);rw[hb]at he;injection he with he
 have:=hk.2;omega
end
section
variable {P : Program} {ops : Array Oper} {rest : List Oper} {o : Oper} {a : Act} {Q : Exit → Act → World → Prop} {Kc : Act → World → Prop} {α : Type}
theorem N_append(d:Kd α){w0 W:World}(base:Nat)(hgd:o.guard=none)(s x:Operand)(t e:TypeId)(z:Value)(bytes:Nat)
 (ho:o.op=.call {callee:=.builtin .append,args:=#[s,x],argTypes:=#[t,t] })
 (ht:P.underlying t=some (.slice e)) (hinfo:(P.info? e).map (fun i=>(i.zero,i.size,i.bytes))=some (some z,d.sz,bytes)) (hz:z.cells.size=d.sz) (hs0:0<d.sz) (hb0:0<bytes)
 (v:Value) (xs:List α) (p:α) (cs:List Value) (ok okp:Nat→Prop) (hs:a.eval s=v) (hx:a.eval x=.slice (some ⟨W.heap.size,0,none⟩) 1 1) (hp:FK d W okp p cs) (zI:∀k,okp k→ok k∧some k≠v.ownBlock) (hfresh:∀k,W.heap.size≤k→ok k)
 (HO:N d e W base ok v xs) (HB:Below base w0 W) (hbase:base≤W.heap.size) (hl:(xs.length+1) * bytes≤140737488355328)
 (h:∀v1 w1,N d e w1 base ok v1 (xs++[p])→Below base w0 w1→W.grownBy w1 v.ownBlock→(v1.ownBlock=v.ownBlock∨∃b,v1.ownBlock=some b∧W.heap.size≤b)→wpList P ops Q rest (a.put o.dst v1) w1):
 wpList P ops Q (o::rest) a (W.alloc (.cells cs.toArray e)):=by
 obtain⟨h0,rows,hlr,hR,hf⟩:=HO;refine lu (raw d.sz) base hgd s x t e z bytes ho ht hinfo hz hs0 hb0 v rows cs cs (fun _=>True) (fun _=>False) hs hx (FK_raw hp) (fun _ hk=>hk.elim) (fun _ _=>trivial) (raw_any hR) HB hbase (by rw[hlr];exact hl) ?_;intro v1 w1 hr hb hg hat
 exact h v1 w1 (MR h0 hlr hf (ys:=[p]) (news:=[cs]) rfl (fun j y c hy hc=>by
  rcases j with _|j
  ·simp only[List.getElem?_cons_zero,Option.some.injEq]at hy hc
   rw[←hy,←hc];exact hp
  ·simp at hy) zI hfresh hr hg hat) hb hg hat
theorem N_lit(d:Kd α){w0 W:World}(base e:Nat)(hgd:o.guard=none){N':Tmp}(_hd:o.dst=some N'){xs:List α}{inner:List Value}{ok okp:Nat→Prop}
 (hrun:(execOp a.eval o).run P W=.ok (.value (.slice (some ⟨W.heap.size,0,none⟩) xs.length xs.length)) (W.alloc (.cells inner.toArray e)))
 (hrep:bK (FK d W okp) d.sz xs inner) (hok:∀k,okp k→ok k) (hfresh:ok W.heap.size) (HB:Below base w0 W) (hbase:base≤W.heap.size) (hm:xs.length≤9223372036854775807)
 (h:∀v1 w1,N d e w1 base ok v1 xs→Below base w0 w1→W.grownBy w1 none→(∃b,v1.ownBlock=some b∧W.heap.size≤b)→wpList P ops Q rest (a.put o.dst v1) w1):
 wpList P ops Q (o::rest) a W:=by
 refine jN (raw d.sz) base e hgd _hd (xs:=chunks d.sz xs.length inner) (inner:=inner) (ok:=fun k=>k=W.heap.size) (okp:=fun _=>False) (by rw[jQ];exact hrun) (LA hrep (fun y c hk=>⟨d.j3 (Br hk),d.jP (Br hk)⟩)) (fun _ hk=>hk.elim) rfl HB hbase (by rw[jQ];exact hm) ?_;intro v1 w1 hr hb hg hat;exact h v1 w1 (N_made hr hg hat (jQ _ _ _) (fun j y c hy hc=>by rw[zH hc];exact hrep.2 j y hy) hok hfresh) hb hg hat
end
end Kd
end Go.Proofs.ah.aD
namespace Go.Proofs.ah.bV
open Go.RowKit Go.Proofs.ah.aD
namespace Kd
open Go.Proofs.ah.aD.Kd
end Kd
namespace Kd
open Go.Proofs.ah.aD.Kd
section
variable {α : Type} {d : Kd α} {e base g N : Nat} {ok : Nat → Prop} {W w1 : World} {u v : Value} {xs : List α}
end
end Kd
theorem dA(k k':IntKind)(x y:Int):Builtin.max2 (.int k x) (.int k' y)=pure (.int k (if x<y then y else x)):=by simp only[Builtin.max2,gt_iff_lt]
theorem dB(k k':IntKind)(x y:Int):Builtin.min2 (.int k x) (.int k' y)=pure (.int k (if y<x then y else x)):=by simp only[Builtin.min2]
theorem dP(ats:Array TypeId)(ty:TypeId)(a b:Value):Builtin.max_ ats ty #[a,b]=(Builtin.max2 a b >>= fun s=>pure s):=by simp only[Builtin.max_,List.foldlM_cons,List.foldlM_nil]
theorem dQ(ats:Array TypeId)(ty:TypeId)(a b:Value):Builtin.min_ ats ty #[a,b]=(Builtin.min2 a b >>= fun s=>pure s):=by simp only[Builtin.min_,List.foldlM_cons,List.foldlM_nil]
theorem bY(ats:Array TypeId)(ty:TypeId)(a b c:Value):Builtin.max_ ats ty #[a,b,c]=(Builtin.max2 a b >>= fun s=>Builtin.max2 s c >>= fun s=>pure s):=by simp only[Builtin.max_,List.foldlM_cons,List.foldlM_nil]
theorem bZ(ats:Array TypeId)(ty:TypeId)(a b c:Value):Builtin.min_ ats ty #[a,b,c]=(Builtin.min2 a b >>= fun s=>Builtin.min2 s c >>= fun s=>pure s):=by simp only[Builtin.min_,List.foldlM_cons,List.foldlM_nil]
theorem dD(ats:Array TypeId)(ty:TypeId)(a b c d:Value):Builtin.max_ ats ty #[a,b,c,d]=(Builtin.max2 a b >>= fun s=>Builtin.max2 s c >>= fun s=>Builtin.max2 s d >>= fun s=>pure s):=by simp only[Builtin.max_,List.foldlM_cons,List.foldlM_nil]
theorem dF(ats:Array TypeId)(ty:TypeId)(a b c d:Value):Builtin.min_ ats ty #[a,b,c,d]=(Builtin.min2 a b >>= fun s=>Builtin.min2 s c >>= fun s=>Builtin.min2 s d >>= fun s=>pure s):=by simp only[Builtin.min_,List.foldlM_cons,List.foldlM_nil]
end Go.Proofs.ah.bV
namespace Go.Proofs.ah.aD
open Go.RowKit
section
variable {P : Program} {ops : Array Oper} {rest : List Oper} {o : Oper} {a : Act} {Q : Exit → Act → World → Prop} {W : World}
theorem aZ{f:FuncId}{as_:Array Operand}{ts:Array TypeId}(_ho:o.op=.call {callee:=.value (.func f),args:=as_,argTypes:=ts })(h:wpList P ops Q (o::rest) a W):wpList P ops Q (o::rest) a W:=h
theorem qz{b:Builtin}{xs:Array Operand}{ts:Array TypeId}(_ho:o.op=.call {callee:=.builtin b,args:=xs,argTypes:=ts })(h:wpList P ops Q (o::rest) a W):wpList P ops Q (o::rest) a W:=h
end
def mx(a b:Int):Int:=if a<b then b else a
def mn(a b:Int):Int:=if b<a then b else a
def shl(k:IntKind)(x y:Int):Int:=k.wrap (x * 2^min y.toNat k.bits)
def shr(k:IntKind)(x y:Int):Int:=x / 2^min y.toNat k.bits
namespace Kd
section
variable {α : Type} {d : Kd α} {e base : Nat} {ok : Nat → Prop} {W w1 : World} {v : Value} {xs : List α}
end
section
variable {α : Type} {d : Kd α} {e base g n cap : Nat} {ok oki okp : Nat → Prop} {W : World} {xs : List α} {i : Int} {c : List Value}
end
section
variable {α : Type} {d : Kd α} {e base b b' g N : Nat} {ok ok1 : Nat → Prop} {W W2 w1 : World} {u v : Value} {xs ys : List α} {S : Nat → Prop}
end
end Kd
namespace Kd
def V{α:Type}(d:Kd α)(_e:Nat)(W:World)(_base:Nat)(ok:Nat→Prop)(v:Value)(xs:List α):Prop:=∃A c,v=.slice A xs.length c∧xs.length≤c∧F d W ok A xs.length xs
section
variable {α β : Type} {d : Kd α} {e base base' n m c g N' lo hi : Nat} {ok ok' S : Nat → Prop} {w W w1 : World} {A : Option Addr} {ad : Addr} {u v v1 : Value} {xs : List α}
theorem Bb(h:V d e W base ok v xs)(hF:∀A,F d W ok A xs.length xs→F d w1 ok' A xs.length xs):V d e w1 base' ok' v xs:=by
 obtain⟨A,c,hv,hl,hf⟩:=h;exact⟨A,c,hv,hl,hF A hf⟩
theorem V_mk(hl:xs.length≤c)(hf:F d W ok A xs.length xs):V d e W base ok (.slice A xs.length c) xs:=⟨A,c,rfl,hl,hf⟩
theorem V_at(h:V d e W base ok (.slice A n c) xs):n=xs.length∧n≤c∧F d W ok A xs.length xs:=by
 obtain⟨A',c',hv,hl,hf⟩:=h;injection hv with ha hn hc
 subst ha;subst hc
 exact⟨hn,by rw[hn];exact hl,hf⟩
theorem Ep(h:V d e W base ok (.slice A n c) xs):n=xs.length∧n≤c∧d.C W A xs.length xs:=⟨(V_at h).1,(V_at h).2.1,F_now (V_at h).2.2⟩
theorem V_F(h:V d e W base ok (.slice A n c) xs):F d W ok A n xs:=by
 obtain⟨hn,_,hf⟩:=V_at h;rw[hn];exact hf
theorem V_nil(d:Kd α)(e:Nat)(W:World)(base:Nat)(ok:Nat→Prop):V d e W base ok (.slice none 0 0) []:=⟨none,0,rfl,Nat.le_refl _,F_nil d W ok⟩
theorem mF(h:V d e W base ok v xs)(hok:∀k,ok k→ok' k):V d e W base ok' v xs:=Bb h (fun _ hf=>Jq hf hok)
theorem O6(h:V d e W base ok v xs)(hb:Below W.heap.size W w1):V d e w1 base ok v xs:=Bb h (fun _ hf=>qF hf hb)
theorem mV(h:V d e W base ok v xs)(o:Obj):V d e (W.alloc o) base ok v xs:=Bb h (fun _ hf=>F_alloc hf o)
theorem pE(h:V d e W base ok v xs):V d e W.drew base ok v xs:=Bb h (fun _ hf=>F_drew hf)
theorem mW(h:V d e W base ok v xs)(m:Nat):V d e (W.drewN m) base ok v xs:=Bb h (fun _ hf=>F_drewN hf m)
theorem uw(h:V d e W base ok v xs){p:Addr}(hok:∀k,ok k→k≠p.block)(u:Value):V d e (W.setCell p u) base ok v xs:=Bb h (fun _ hf=>F_far hf hok u)
theorem V_after(h:V d e W base (fun k=>ok k∧some k≠u.ownBlock) v xs)(hg:W.grownBy w1 u.ownBlock)(hat:v1.ownBlock=u.ownBlock∨∃b,v1.ownBlock=some b∧W.heap.size≤b):V d e w1 base (fun k=>ok k∧some k≠v1.ownBlock) v xs:=Bb h (fun _ hf=>F_after hf hg hat)
theorem Er(h:V d e W base (fun k=>ok k∧some k≠v.ownBlock) u xs)(hg:W.grownBy w1 v.ownBlock)(hat:v1.ownBlock=v.ownBlock∨∃b,v1.ownBlock=some b∧W.heap.size≤b):V d e w1 base (fun k=>ok k∧some k≠v1.ownBlock) u xs:=V_after h hg hat
theorem V_elder'(h:V d e W base ok v xs)(hbase:∀k,u.ownBlock=some k→W.heap.size≤k)(hb:Below W.heap.size W w1):V d e w1 base (fun k=>ok k∧some k≠u.ownBlock) v xs:=Bb h (fun _ hf=>F_elder' hf hbase hb)
theorem KJ(h:V d e W base ok v xs)(a:Nat)(ha:W.heap.size≤a):V d e W base (fun k=>ok k∧k≠a) v xs:=Bb h (fun _ hf=>F_elderB hf a ha)
theorem V_get(h:V d e W base ok (.slice (some ad) n c) xs)(z:α)(i:Int)(h0:0≤i)(h1:i<n):
 ∃cs,cs.length=d.sz∧FK d W ok (xs.getD i.toNat z) cs∧∀j u,cs[j]?=some u→W.cell? (ad.add (i.toNat * d.sz+j))=some u:=by
 obtain⟨ad',cs,he,hcl,hK,hcc,_⟩:=F_get (V_F h) z i h0 h1;injection he with he
 subst he;exact⟨cs,hcl,hK,hcc⟩
theorem F_take(h:F d W ok A xs.length xs)(hm:m≤xs.length):F d W ok A (xs.take m).length (xs.take m):=F_imp h (fun _ hC=>C_take hC hm)
end
end Kd
end Go.Proofs.ah.aD
namespace Go.Proofs.aj.W7
open Go.RowKit Go.Proofs.ah.aD Go.Proofs.ah.bH Go.Proofs.ah.bV
attribute [local go_sem] dA dB dP dQ bY bZ dD dF
def errW:Option Int→Value
 |none=>.nilIface
 |some c=>.iface 0 (.int .i64 c)
theorem aJ:errW none=.nilIface:=rfl
theorem aM(c:Int):errW (some c)=.iface 0 (.int .i64 c):=rfl
theorem zR:(Tryz.prog.info? 9).map (fun i=>(i.zero,i.size,i.bytes))=some (some (.string ⟨#[]⟩),1,16):=by kernel_rfl
theorem qR:(Tryz.prog.info? 34).map (fun i=>(i.zero,i.size,i.bytes))=some (some (.agg #[(.int .i64 0),(.int .i64 0),(.string ⟨#[]⟩),(.string ⟨#[]⟩),(.slice none 0 0)]),5,72):=by kernel_rfl
theorem Gz:(Tryz.prog.info? 36).map (fun i=>(i.zero,i.size,i.bytes))=some (some (.agg #[(.string ⟨#[]⟩),(.string ⟨#[]⟩)]),2,32):=by kernel_rfl
structure S36 where
 f0:ByteArray
 f1:ByteArray
def z36:S36:=⟨(⟨#[]⟩:ByteArray),(⟨#[]⟩:ByteArray)⟩
def k36:Kd S36:=Kd.iso (Kd.pair Kd.string Kd.string) (fun x:S36=>(x.f0,x.f1))
theorem k36_heap:Kd.Heap k36:=Kd.J2 _ (Kd.tX Kd.rO Kd.rO)
theorem k36_open{w:World}{x:S36}{cs:List Value}(h:k36.K w x cs):cs=[.string x.f0,.string x.f1]:=by
 obtain⟨_,_,rfl,rfl,rfl⟩:=h;exact rfl
theorem k36_mk(w:World)(x:S36):k36.K w x [.string x.f0,.string x.f1]:=⟨[.string x.f0],[.string x.f1],rfl,rfl,rfl⟩
theorem M7(w:World)(base:Nat)(ok:Nat→Prop)(x:S36):k36.M w base ok x [.string x.f0,.string x.f1]:=⟨[.string x.f0],[.string x.f1],rfl,rfl,rfl⟩
def bg(xs:List S36)(i:Int):S36:=xs.getD i.toNat z36
theorem lI{w:World}{A:Option Addr}{n:Nat}{xs:List S36}(h:Kd.C k36 w A n xs)(i:Int)(h0:0≤i)(h1:i<n):∃ad,A=some ad∧w.cell? (ad.add (i.toNat * 2))=some (.string (bg xs i).f0)∧w.cell? ⟨(ad.add (i.toNat * 2)).block,(ad.add (i.toNat * 2)).off+1,none⟩=some (.string (bg xs i).f1):=by
 obtain⟨ad,c,e,_,hK,hc0⟩:=Kd.FR h z36 i h0 h1;have hc:∀j u,c[j]?=some u→w.cell? (ad.add (i.toNat * 2+j))=some u:=hc0
 obtain rfl:=k36_open hK;exact⟨ad,e,hc 0 _ rfl,by rw[←lH _ _ 1 (by omega)];exact hc 1 _ rfl⟩
def rd_L3(xs:List (List S36))(i:Int):(List S36):=xs.getD i.toNat ([] :List S36)
structure S34 where
 f0:Int
 f1:Int
 f2:ByteArray
 f3:ByteArray
 f4:(List S36)
def z34:S34:=⟨(0:Int),(0:Int),(⟨#[]⟩:ByteArray),(⟨#[]⟩:ByteArray),([] :List S36)⟩
def k34:Kd S34:=Kd.iso (Kd.pair (Kd.int .i64) (Kd.pair (Kd.int .i64) (Kd.pair Kd.string (Kd.pair Kd.string (Kd.slice 36 k36))))) (fun x:S34=>(x.f0,x.f1,x.f2,x.f3,x.f4))
theorem xA:Kd.Heap k34:=Kd.J2 _ (Kd.tX (Kd.J3 .i64) (Kd.tX (Kd.J3 .i64) (Kd.tX Kd.rO (Kd.tX Kd.rO (Kd.Mg 36 k36_heap)))))
theorem Ea{w:World}{x:S34}{cs:List Value}(h:k34.K w x cs):∃A4 c4,cs=[.int .i64 x.f0,.int .i64 x.f1,.string x.f2,.string x.f3,.slice A4 x.f4.length c4]∧x.f4.length≤c4∧k36.C w A4 x.f4.length x.f4:=by
 obtain⟨_,_,rfl,rfl,⟨_,_,rfl,rfl,⟨_,_,rfl,rfl,⟨_,_,rfl,rfl,⟨A4,c4,rfl,l4,g4⟩⟩⟩⟩⟩:=h;exact⟨A4,c4,rfl,l4,g4⟩
theorem Bn{w:World}{base:Nat}{ok:Nat→Prop}{x:S34}{cs:List Value}(h:k34.M w base ok x cs):∃v4,cs=[.int .i64 x.f0,.int .i64 x.f1,.string x.f2,.string x.f3,v4]∧k36.R 36 w base ok v4 x.f4:=by
 obtain⟨_,_,rfl,rfl,⟨_,_,rfl,rfl,⟨_,_,rfl,rfl,⟨_,_,rfl,rfl,⟨v4,rfl,g4⟩⟩⟩⟩⟩:=h;exact⟨v4,rfl,g4⟩
theorem D5(w:World)(x:S34){A4:Option Addr}{c4:Nat}(l4:x.f4.length≤c4)(g4:k36.C w A4 x.f4.length x.f4):k34.K w x [.int .i64 x.f0,.int .i64 x.f1,.string x.f2,.string x.f3,.slice A4 x.f4.length c4]:=⟨[.int .i64 x.f0],[.int .i64 x.f1,.string x.f2,.string x.f3,.slice A4 x.f4.length c4],rfl,rfl,⟨[.int .i64 x.f1],[.string x.f2,.string x.f3,.slice A4 x.f4.length c4],rfl,rfl,⟨[.string x.f2],[.string x.f3,.slice A4 x.f4.length c4],rfl,rfl,⟨[.string x.f3],[.slice A4 x.f4.length c4],rfl,rfl,⟨A4,c4,rfl,l4,g4⟩⟩⟩⟩⟩
theorem xU(w:World)(base:Nat)(ok:Nat→Prop)(x:S34){v4:Value}(g4:k36.R 36 w base ok v4 x.f4):k34.M w base ok x [.int .i64 x.f0,.int .i64 x.f1,.string x.f2,.string x.f3,v4]:=⟨[.int .i64 x.f0],[.int .i64 x.f1,.string x.f2,.string x.f3,v4],rfl,rfl,⟨[.int .i64 x.f1],[.string x.f2,.string x.f3,v4],rfl,rfl,⟨[.string x.f2],[.string x.f3,v4],rfl,rfl,⟨[.string x.f3],[v4],rfl,rfl,⟨v4,rfl,g4⟩⟩⟩⟩⟩
theorem Qn{W:World}{ok:Nat→Prop}{x:S34}{cs:List Value}(h:Kd.FK k34 W ok x cs):∃A4 c4,cs=[.int .i64 x.f0,.int .i64 x.f1,.string x.f2,.string x.f3,.slice A4 x.f4.length c4]∧x.f4.length≤c4∧Kd.F k36 W ok A4 x.f4.length x.f4:=by
 obtain⟨A4,c4,rfl,l4,_⟩:=Ea (Kd.Br h);exact⟨A4,c4,rfl,l4,(fun W' hW=>by obtain⟨A4_,c4_,he,l4_,g4_⟩:=Ea (h W' hW);injection (Option.some.inj (show some (Value.slice A4 x.f4.length c4)=some (Value.slice A4_ x.f4.length c4_)from congrArg (fun l=>l[4]?) he))with ha_ _ _;rw[ha_];exact g4_)⟩
theorem k34_mkF(W:World)(ok:Nat→Prop)(x:S34){A4:Option Addr}{c4:Nat}(l4:x.f4.length≤c4)(g4:Kd.F k36 W ok A4 x.f4.length x.f4):Kd.FK k34 W ok x [.int .i64 x.f0,.int .i64 x.f1,.string x.f2,.string x.f3,.slice A4 x.f4.length c4]:=fun W2 hW=>D5 W2 x l4 (g4 W2 hW)
def au(xs:List S34)(i:Int):S34:=xs.getD i.toNat z34
theorem kH{w:World}{A:Option Addr}{n:Nat}{xs:List S34}(h:Kd.C k34 w A n xs)(i:Int)(h0:0≤i)(h1:i<n):∃ad A4 c4,A=some ad∧w.cell? (ad.add (i.toNat * 5))=some (.int .i64 (au xs i).f0)∧w.cell? ⟨(ad.add (i.toNat * 5)).block,(ad.add (i.toNat * 5)).off+1,none⟩=some (.int .i64 (au xs i).f1)∧w.cell? ⟨(ad.add (i.toNat * 5)).block,(ad.add (i.toNat * 5)).off+2,none⟩=some (.string (au xs i).f2)∧w.cell? ⟨(ad.add (i.toNat * 5)).block,(ad.add (i.toNat * 5)).off+3,none⟩=some (.string (au xs i).f3)∧w.cell? ⟨(ad.add (i.toNat * 5)).block,(ad.add (i.toNat * 5)).off+4,none⟩=some (.slice A4 (au xs i).f4.length c4)∧(au xs i).f4.length≤c4∧k36.C w A4 (au xs i).f4.length (au xs i).f4:=by
 obtain⟨ad,c,e,_,hK,hc0⟩:=Kd.FR h z34 i h0 h1;have hc:∀j u,c[j]?=some u→w.cell? (ad.add (i.toNat * 5+j))=some u:=hc0
 obtain⟨A4,c4,rfl,l4,g4⟩:=Ea hK;exact⟨ad,A4,c4,e,hc 0 _ rfl,by rw[←lH _ _ 1 (by omega)];exact hc 1 _ rfl,by rw[←lH _ _ 2 (by omega)];exact hc 2 _ rfl,by rw[←lH _ _ 3 (by omega)];exact hc 3 _ rfl,by rw[←lH _ _ 4 (by omega)];exact hc 4 _ rfl,l4,g4⟩
structure S65 where
 f0:Int
 f1:ByteArray
 f2:ByteArray
 f3:(List S36)
 f4:Bool
def z65:S65:=⟨(0:Int),(⟨#[]⟩:ByteArray),(⟨#[]⟩:ByteArray),([] :List S36),false⟩
def k65:Kd S65:=Kd.iso (Kd.pair (Kd.int .i64) (Kd.pair Kd.string (Kd.pair Kd.string (Kd.pair (Kd.slice 36 k36) Kd.bool)))) (fun x:S65=>(x.f0,x.f1,x.f2,x.f3,x.f4))
theorem k65_open{w:World}{x:S65}{cs:List Value}(h:k65.K w x cs):∃A3 c3,cs=[.int .i64 x.f0,.string x.f1,.string x.f2,.slice A3 x.f3.length c3,.bool x.f4]∧x.f3.length≤c3∧k36.C w A3 x.f3.length x.f3:=by
 obtain⟨_,_,rfl,rfl,⟨_,_,rfl,rfl,⟨_,_,rfl,rfl,⟨_,_,rfl,⟨A3,c3,rfl,l3,g3⟩,rfl⟩⟩⟩⟩:=h;exact⟨A3,c3,rfl,l3,g3⟩
theorem k65_mkM(w:World)(base:Nat)(ok:Nat→Prop)(x:S65){v3:Value}(g3:k36.R 36 w base ok v3 x.f3):k65.M w base ok x [.int .i64 x.f0,.string x.f1,.string x.f2,v3,.bool x.f4]:=⟨[.int .i64 x.f0],[.string x.f1,.string x.f2,v3,.bool x.f4],rfl,rfl,⟨[.string x.f1],[.string x.f2,v3,.bool x.f4],rfl,rfl,⟨[.string x.f2],[v3,.bool x.f4],rfl,rfl,⟨[v3],[.bool x.f4],rfl,⟨v3,rfl,g3⟩,rfl⟩⟩⟩⟩
def sK(xs:List S65)(i:Int):S65:=xs.getD i.toNat z65
theorem at_T65{w:World}{A:Option Addr}{n:Nat}{xs:List S65}(h:Kd.C k65 w A n xs)(i:Int)(h0:0≤i)(h1:i<n):∃ad A3 c3,A=some ad∧w.cell? (ad.add (i.toNat * 5))=some (.int .i64 (sK xs i).f0)∧w.cell? ⟨(ad.add (i.toNat * 5)).block,(ad.add (i.toNat * 5)).off+1,none⟩=some (.string (sK xs i).f1)∧w.cell? ⟨(ad.add (i.toNat * 5)).block,(ad.add (i.toNat * 5)).off+2,none⟩=some (.string (sK xs i).f2)∧w.cell? ⟨(ad.add (i.toNat * 5)).block,(ad.add (i.toNat * 5)).off+3,none⟩=some (.slice A3 (sK xs i).f3.length c3)∧w.cell? ⟨(ad.add (i.toNat * 5)).block,(ad.add (i.toNat * 5)).off+4,none⟩=some (.bool (sK xs i).f4)∧(sK xs i).f3.length≤c3∧k36.C w A3 (sK xs i).f3.length (sK xs i).f3:=by
 obtain⟨ad,c,e,_,hK,hc0⟩:=Kd.FR h z65 i h0 h1;have hc:∀j u,c[j]?=some u→w.cell? (ad.add (i.toNat * 5+j))=some u:=hc0
 obtain⟨A3,c3,rfl,l3,g3⟩:=k65_open hK;exact⟨ad,A3,c3,e,hc 0 _ rfl,by rw[←lH _ _ 1 (by omega)];exact hc 1 _ rfl,by rw[←lH _ _ 2 (by omega)];exact hc 2 _ rfl,by rw[←lH _ _ 3 (by omega)];exact hc 3 _ rfl,by rw[←lH _ _ 4 (by omega)];exact hc 4 _ rfl,l3,g3⟩
end Go.Proofs.aj.W7
