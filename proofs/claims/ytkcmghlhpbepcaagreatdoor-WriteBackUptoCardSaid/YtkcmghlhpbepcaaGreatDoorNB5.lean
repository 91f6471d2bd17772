/- Lemmas and walks, part 5. -/
import Derived.Test.YtkcmghlhpbepcaaGreatDoorNB4
import Derived.Test.YtkcmghlhpbepcaaGreatDoorProg
import Derived.Lib.Strings
import Derived.Lib.OthersKept
import Derived.Lib.Hide
import Derived.BigGuardPart
set_option linter.unusedVariables false
set_option linter.unusedSimpArgs false
set_option maxHeartbeats 8000000
set_option maxRecDepth 100000
namespace Go.Proofs.ah.aD
open Go.RowKit
namespace Kd
section
variable {α : Type} {d : Kd α} {e base n cap g : Nat} {ok ok' okp : Nat → Prop} {w w1 W : World} {v v1 : Value} {xs ys : List α}
theorem NK{rows news:List (List Value)}(h0:∀k,v.ownBlock=some k→ok k)(hl:rows.length=xs.length)(hf:∀(j:Nat) (x:α) (c:List Value),xs[j]?=some x→rows[j]?=some c→FK d W (fun k=>ok k∧some k≠v.ownBlock) x c)
 (hl2:news.length=ys.length) (hf2:∀(j:Nat) (x:α) (c:List Value),ys[j]?=some x→news[j]?=some c→FK d W okp x c) (Ab:∀k,okp k→ok k∧some k≠v.ownBlock) (hfresh:∀k,W.heap.size≤k→ok k)
 (hR:(raw d.sz).R e w1 base (fun _=>True) v1 (rows++news)) (hg:W.grownBy w1 v.ownBlock) (hat:v1.ownBlock=v.ownBlock∨∃b,v1.ownBlock=some b∧W.heap.size≤b):N d e w1 base ok v1 (xs++ys):=by
 have hne:∀k,some k≠v.ownBlock→k<W.heap.size→some k≠v1.ownBlock:=by
  intro k hk hlt
  rcases hat with hat|⟨b,hb,hle⟩
  ·rw[hat];exact hk
  ·rw[hb]
   intro he;injection he with he
   omega
 have step:∀ {x:α} {c:List Value} {o:Nat→Prop},FK d W o x c→(∀k,o k→ok k∧some k≠v.ownBlock)→FK d w1 (fun k=>ok k∧some k≠v1.ownBlock) x c:=by
  intro x c o hq ho;exact D5 (J6 (FZ hq) (fun k hk hlt=>hg.block k hlt (ho k hk.1).2)) (fun k hk=>⟨(ho k hk.1).1,hne k (ho k hk.1).2 hk.2⟩)
 refine⟨fun k hk=>?_,rows++news,by rw[List.length_append,List.length_append,hl,hl2],Hf hR,fun j x c hx hc=>?_⟩
 ·rcases hat with hat|⟨b,hb,hle⟩
  ·exact h0 k (hat▸hk)
  ·rw[hb]at hk
   injection hk with hk
   exact hfresh k (by omega)
 ·rcases Nat.lt_or_ge j xs.length with hlt|hge
  ·rw[List.getElem?_append_left hlt]at hx
   rw[List.getElem?_append_left (by omega)]at hc;exact step (hf j x c hx hc) (fun _ hk=>hk)
  ·rw[List.getElem?_append_right hge]at hx
   rw[List.getElem?_append_right (by omega),hl]at hc;exact step (hf2 _ x c hx hc) Ab
theorem FK_raw{x:α}{c:List Value}(h:FK d W ok x c):c=c∧c.length=d.sz∧∀u∈c,u.oneCell'=true:=⟨rfl,d.ku (BQ h),d.jW (BQ h)⟩
theorem N_made{rows:List (List Value)}(hR:(raw d.sz).R e w1 base (fun k=>k=W.heap.size) v1 rows)(hg:W.grownBy w1 none)(hat:∃b,v1.ownBlock=some b∧W.heap.size≤b)(hl:rows.length=xs.length)(hf:∀(j:Nat) (x:α) (c:List Value),xs[j]?=some x→rows[j]?=some c→FK d W okp x c)
 (hok:∀k,okp k→ok k) (hfresh:ok W.heap.size):N d e w1 base ok v1 xs:=by
 obtain⟨b,hb,hle⟩:=hat;refine⟨fun k hk=>by rw[hR.1 k hk];exact hfresh,rows,hl,Hf hR,fun j x c hx hc=>?_⟩;refine D5 (J6 (FZ (hf j x c hx hc)) (fun k hk hlt=>hg.block k hlt (by simp))) (fun k hk=>⟨hok k hk.1,fun he=>?_⟩);rw[hb]at he;injection he with he
 have:=hk.2;omega
end
section
variable {P : Program} {ops : Array Oper} {rest : List Oper} {o : Oper} {a : Act} {Q : Exit → Act → World → Prop} {Kc : Act → World → Prop} {α : Type}
theorem N_append(d:Kd α){w0 W:World}(base:Nat)(hgd:o.guard=none)(s x:Operand)(t e:TypeId)(z:Value)(bytes:Nat)
 (ho:o.op=.call {callee:=.builtin .append,args:=#[s,x],argTypes:=#[t,t] })
 (ht:P.underlying t=some (.slice e)) (hinfo:(P.info? e).map (fun i=>(i.zero,i.size,i.bytes))=some (some z,d.sz,bytes)) (hz:z.cells.size=d.sz) (hs0:0<d.sz) (hb0:0<bytes)
 (v:Value) (xs:List α) (p:α) (cs:List Value) (ok okp:Nat→Prop) (hs:a.eval s=v) (hx:a.eval x=.slice (some ⟨W.heap.size,0,none⟩) 1 1) (hp:FK d W okp p cs) (Ab:∀k,okp k→ok k∧some k≠v.ownBlock) (hfresh:∀k,W.heap.size≤k→ok k)
 (HO:N d e W base ok v xs) (HB:Below base w0 W) (hbase:base≤W.heap.size) (hl:(xs.length+1) * bytes≤140737488355328)
 (h:∀v1 w1,N d e w1 base ok v1 (xs++[p])→Below base w0 w1→W.grownBy w1 v.ownBlock→(v1.ownBlock=v.ownBlock∨∃b,v1.ownBlock=some b∧W.heap.size≤b)→wpList P ops Q rest (a.put o.dst v1) w1):
 wpList P ops Q (o::rest) a (W.alloc (.cells cs.toArray e)):=by
 obtain⟨h0,rows,hlr,hR,hf⟩:=HO;refine lQ (raw d.sz) base hgd s x t e z bytes ho ht hinfo hz hs0 hb0 v rows cs cs (fun _=>True) (fun _=>False) hs hx (FK_raw hp) (fun _ hk=>hk.elim) (fun _ _=>trivial) (raw_any hR) HB hbase (by rw[hlr];exact hl) ?_;intro v1 w1 hr hb hg hat
 exact h v1 w1 (NK h0 hlr hf (ys:=[p]) (news:=[cs]) rfl (fun j y c hy hc=>by
  rcases j with _|j
  ·simp only[List.getElem?_cons_zero,Option.some.injEq]at hy hc
   rw[←hy,←hc];exact hp
  ·simp at hy) Ab hfresh hr hg hat) hb hg hat
theorem N_lit(d:Kd α){w0 W:World}(base e:Nat)(hgd:o.guard=none){N':Tmp}(_hd:o.dst=some N'){xs:List α}{inner:List Value}{ok okp:Nat→Prop}
 (hrun:(execOp a.eval o).run P W=.ok (.value (.slice (some ⟨W.heap.size,0,none⟩) xs.length xs.length)) (W.alloc (.cells inner.toArray e)))
 (hrep:bM (FK d W okp) d.sz xs inner) (hok:∀k,okp k→ok k) (hfresh:ok W.heap.size) (HB:Below base w0 W) (hbase:base≤W.heap.size) (hm:xs.length≤9223372036854775807)
 (h:∀v1 w1,N d e w1 base ok v1 xs→Below base w0 w1→W.grownBy w1 none→(∃b,v1.ownBlock=some b∧W.heap.size≤b)→wpList P ops Q rest (a.put o.dst v1) w1):
 wpList P ops Q (o::rest) a W:=by
 refine jR (raw d.sz) base e hgd _hd (xs:=chunks d.sz xs.length inner) (inner:=inner) (ok:=fun k=>k=W.heap.size) (okp:=fun _=>False) (by rw[jX];exact hrun) (ME hrep (fun y c hk=>⟨d.ku (BQ hk),d.jW (BQ hk)⟩)) (fun _ hk=>hk.elim) rfl HB hbase (by rw[jX];exact hm) ?_;intro v1 w1 hr hb hg hat;exact h v1 w1 (N_made hr hg hat (jX _ _ _) (fun j y c hy hc=>by rw[z8 hc];exact hrep.2 j y hy) hok hfresh) hb hg hat
end
end Kd
end Go.Proofs.ah.aD
namespace Go.Proofs.ah.bW
open Go.RowKit Go.Proofs.ah.aD
namespace Kd
open Go.Proofs.ah.aD.Kd
end Kd
namespace Kd
open Go.Proofs.ah.aD.Kd
section
variable {α : Type} {d : Kd α} {e base g N : Nat} {ok : Nat → Prop} {W w1 : World} {u v : Value} {xs : List α}
end
end Kd
theorem dB(k k':IntKind)(x y:Int):Builtin.max2 (.int k x) (.int k' y)=pure (.int k (if x<y then y else x)):=by simp only[Builtin.max2,gt_iff_lt]
theorem dD(k k':IntKind)(x y:Int):Builtin.min2 (.int k x) (.int k' y)=pure (.int k (if y<x then y else x)):=by simp only[Builtin.min2]
theorem dR(ats:Array TypeId)(ty:TypeId)(a b:Value):Builtin.max_ ats ty #[a,b]=(Builtin.max2 a b >>= fun s=>pure s):=by simp only[Builtin.max_,List.foldlM_cons,List.foldlM_nil]
theorem dS(ats:Array TypeId)(ty:TypeId)(a b:Value):Builtin.min_ ats ty #[a,b]=(Builtin.min2 a b >>= fun s=>pure s):=by simp only[Builtin.min_,List.foldlM_cons,List.foldlM_nil]
theorem bZ(ats:Array TypeId)(ty:TypeId)(a b c:Value):Builtin.max_ ats ty #[a,b,c]=(Builtin.max2 a b >>= fun s=>Builtin.max2 s c >>= fun s=>pure s):=by simp only[Builtin.max_,List.foldlM_cons,List.foldlM_nil]
theorem cu(ats:Array TypeId)(ty:TypeId)(a b c:Value):Builtin.min_ ats ty #[a,b,c]=(Builtin.min2 a b >>= fun s=>Builtin.min2 s c >>= fun s=>pure s):=by simp only[Builtin.min_,List.foldlM_cons,List.foldlM_nil]
theorem dF(ats:Array TypeId)(ty:TypeId)(a b c d:Value):Builtin.max_ ats ty #[a,b,c,d]=(Builtin.max2 a b >>= fun s=>Builtin.max2 s c >>= fun s=>Builtin.max2 s d >>= fun s=>pure s):=by simp only[Builtin.max_,List.foldlM_cons,List.foldlM_nil]
theorem dG(ats:Array TypeId)(ty:TypeId)(a b c d:Value):Builtin.min_ ats ty #[a,b,c,d]=(Builtin.min2 a b >>= fun s=>Builtin.min2 s c >>= fun s=>Builtin.min2 s d >>= fun s=>pure s):=by simp only[Builtin.min_,List.foldlM_cons,List.foldlM_nil]
end Go.Proofs.ah.bW
namespace Go.Proofs.ah.aD
open Go.RowKit
section
variable {P : Program} {ops : Array Oper} {rest : List Oper} {o : Oper} {a : Act} {Q : Exit → Act → World → Prop} {W : World}
theorem aZ{f:FuncId}{as_:Array Operand}{ts:Array TypeId}(_ho:o.op=.call {callee:=.value (.func f),args:=as_,argTypes:=ts })(h:wpList P ops Q (o::rest) a W):wpList P ops Q (o::rest) a W:=h
theorem qJ{b:Builtin}{xs:Array Operand}{ts:Array TypeId}(_ho:o.op=.call {callee:=.builtin b,args:=xs,argTypes:=ts })(h:wpList P ops Q (o::rest) a W):wpList P ops Q (o::rest) a W:=h
end
def mx(a b:Int):Int:=if a<b then b else a
def mn(a b:Int):Int:=if b<a then b else a
def shl(k:IntKind)(x y:Int):Int:=k.wrap (x * 2^min y.toNat k.bits)
def shr(k:IntKind)(x y:Int):Int:=x / 2^min y.toNat k.bits
namespace Kd
section
variable {α : Type} {d : Kd α} {e base : Nat} {ok : Nat → Prop} {W w1 : World} {v : Value} {xs : List α}
end
section
variable {α : Type} {d : Kd α} {e base g n cap : Nat} {ok oki okp : Nat → Prop} {W : World} {xs : List α} {i : Int} {c : List Value}
end
section
variable {α : Type} {d : Kd α} {e base b b' g N : Nat} {ok ok1 : Nat → Prop} {W W2 w1 : World} {u v : Value} {xs ys : List α} {S : Nat → Prop}
end
end Kd
namespace Kd
def V{α:Type}(d:Kd α)(_e:Nat)(W:World)(_base:Nat)(ok:Nat→Prop)(v:Value)(xs:List α):Prop:=∃A c,v=.slice A xs.length c∧xs.length≤c∧F d W ok A xs.length xs
section
variable {α β : Type} {d : Kd α} {e base base' n m c g N' lo hi : Nat} {ok ok' S : Nat → Prop} {w W w1 : World} {A : Option Addr} {ad : Addr} {u v v1 : Value} {xs : List α}
theorem BF(h:V d e W base ok v xs)(hF:∀A,F d W ok A xs.length xs→F d w1 ok' A xs.length xs):V d e w1 base' ok' v xs:=by
 obtain⟨A,c,hv,hl,hf⟩:=h;exact⟨A,c,hv,hl,hF A hf⟩
theorem V_mk(hl:xs.length≤c)(hf:F d W ok A xs.length xs):V d e W base ok (.slice A xs.length c) xs:=⟨A,c,rfl,hl,hf⟩
theorem V_at(h:V d e W base ok (.slice A n c) xs):n=xs.length∧n≤c∧F d W ok A xs.length xs:=by
 obtain⟨A',c',hv,hl,hf⟩:=h;injection hv with ha hn hc
 subst ha;subst hc
 exact⟨hn,by rw[hn];exact hl,hf⟩
theorem EM(h:V d e W base ok (.slice A n c) xs):n=xs.length∧n≤c∧d.C W A xs.length xs:=⟨(V_at h).1,(V_at h).2.1,F_now (V_at h).2.2⟩
theorem V_F(h:V d e W base ok (.slice A n c) xs):F d W ok A n xs:=by
 obtain⟨hn,_,hf⟩:=V_at h;rw[hn];exact hf
theorem V_nil(d:Kd α)(e:Nat)(W:World)(base:Nat)(ok:Nat→Prop):V d e W base ok (.slice none 0 0) []:=⟨none,0,rfl,Nat.le_refl _,F_nil d W ok⟩
theorem mR(h:V d e W base ok v xs)(hok:∀k,ok k→ok' k):V d e W base ok' v xs:=BF h (fun _ hf=>J5 hf hok)
theorem Qb(h:V d e W base ok v xs)(hb:Below W.heap.size W w1):V d e w1 base ok v xs:=BF h (fun _ hf=>qQ hf hb)
theorem ny(h:V d e W base ok v xs)(o:Obj):V d e (W.alloc o) base ok v xs:=BF h (fun _ hf=>F_alloc hf o)
theorem pR(h:V d e W base ok v xs):V d e W.drew base ok v xs:=BF h (fun _ hf=>F_drew hf)
theorem nA(h:V d e W base ok v xs)(m:Nat):V d e (W.drewN m) base ok v xs:=BF h (fun _ hf=>F_drewN hf m)
theorem uQ(h:V d e W base ok v xs){p:Addr}(hok:∀k,ok k→k≠p.block)(u:Value):V d e (W.setCell p u) base ok v xs:=BF h (fun _ hf=>F_far hf hok u)
theorem V_after(h:V d e W base (fun k=>ok k∧some k≠u.ownBlock) v xs)(hg:W.grownBy w1 u.ownBlock)(hat:v1.ownBlock=u.ownBlock∨∃b,v1.ownBlock=some b∧W.heap.size≤b):V d e w1 base (fun k=>ok k∧some k≠v1.ownBlock) v xs:=BF h (fun _ hf=>F_after hf hg hat)
theorem EN(h:V d e W base (fun k=>ok k∧some k≠v.ownBlock) u xs)(hg:W.grownBy w1 v.ownBlock)(hat:v1.ownBlock=v.ownBlock∨∃b,v1.ownBlock=some b∧W.heap.size≤b):V d e w1 base (fun k=>ok k∧some k≠v1.ownBlock) u xs:=V_after h hg hat
theorem V_elder'(h:V d e W base ok v xs)(hbase:∀k,u.ownBlock=some k→W.heap.size≤k)(hb:Below W.heap.size W w1):V d e w1 base (fun k=>ok k∧some k≠u.ownBlock) v xs:=BF h (fun _ hf=>F_elder' hf hbase hb)
theorem Lr(h:V d e W base ok v xs)(a:Nat)(ha:W.heap.size≤a):V d e W base (fun k=>ok k∧k≠a) v xs:=BF h (fun _ hf=>F_elderB hf a ha)
theorem V_get(h:V d e W base ok (.slice (some ad) n c) xs)(z:α)(i:Int)(h0:0≤i)(h1:i<n):
 ∃cs,cs.length=d.sz∧FK d W ok (xs.getD i.toNat z) cs∧∀j u,cs[j]?=some u→W.cell? (ad.add (i.toNat * d.sz+j))=some u:=by
 obtain⟨ad',cs,he,hcl,hK,hcc,_⟩:=F_get (V_F h) z i h0 h1;injection he with he
 subst he;exact⟨cs,hcl,hK,hcc⟩
theorem F_take(h:F d W ok A xs.length xs)(hm:m≤xs.length):F d W ok A (xs.take m).length (xs.take m):=F_imp h (fun _ hC=>C_take hC hm)
end
end Kd
end Go.Proofs.ah.aD
namespace Go.Proofs.aj.W7
open Go.RowKit Go.Proofs.ah.aD Go.Proofs.ah.bJ Go.Proofs.ah.bW
attribute [local go_sem] dB dD dR dS bZ cu dF dG
def errW:Option Int→Value
 |none=>.nilIface
 |some c=>.iface 0 (.int .i64 c)
theorem aJ:errW none=.nilIface:=rfl
theorem aM(c:Int):errW (some c)=.iface 0 (.int .i64 c):=rfl
theorem Al:(Tryz.prog.info? 9).map (fun i=>(i.zero,i.size,i.bytes))=some (some (.string ⟨#[]⟩),1,16):=by kernel_rfl
theorem ru:(Tryz.prog.info? 34).map (fun i=>(i.zero,i.size,i.bytes))=some (some (.agg #[(.int .i64 0),(.int .i64 0),(.string ⟨#[]⟩),(.string ⟨#[]⟩),(.slice none 0 0)]),5,72):=by kernel_rfl
theorem HV:(Tryz.prog.info? 36).map (fun i=>(i.zero,i.size,i.bytes))=some (some (.agg #[(.string ⟨#[]⟩),(.string ⟨#[]⟩)]),2,32):=by kernel_rfl
structure S36 where
 f0:Bt
 f1:Bt
def z36:S36:=⟨(⟨#[]⟩:Bt),(⟨#[]⟩:Bt)⟩
def k36:Kd S36:=Kd.iso (Kd.pair Kd.string Kd.string) (fun x:S36=>(x.f0,x.f1))
theorem k36_heap:Kd.Heap k36:=Kd.KL _ (Kd.uG Kd.sD Kd.sD)
theorem k36_open{w:World}{x:S36}{cs:List Value}(h:k36.K w x cs):cs=[.string x.f0,.string x.f1]:=by
 obtain⟨_,_,rfl,rfl,rfl⟩:=h;exact rfl
theorem k36_mk(w:World)(x:S36):k36.K w x [.string x.f0,.string x.f1]:=⟨[.string x.f0],[.string x.f1],rfl,rfl,rfl⟩
theorem NZ(w:World)(base:Nat)(ok:Nat→Prop)(x:S36):k36.M w base ok x [.string x.f0,.string x.f1]:=⟨[.string x.f0],[.string x.f1],rfl,rfl,rfl⟩
def bq(xs:List S36)(i:Int):S36:=xs.getD i.toNat z36
theorem lY{w:World}{A:Option Addr}{n:Nat}{xs:List S36}(h:Kd.C k36 w A n xs)(i:Int)(h0:0≤i)(h1:i<n):∃ad,A=some ad∧w.cell? (ad.add (i.toNat * 2))=some (.string (bq xs i).f0)∧w.cell? ⟨(ad.add (i.toNat * 2)).block,(ad.add (i.toNat * 2)).off+1,none⟩=some (.string (bq xs i).f1):=by
 obtain⟨ad,c,e,_,hK,hc0⟩:=Kd.Gq h z36 i h0 h1;have hc:∀j u,c[j]?=some u→w.cell? (ad.add (i.toNat * 2+j))=some u:=hc0
 obtain rfl:=k36_open hK;exact⟨ad,e,hc 0 _ rfl,by rw[←lX _ _ 1 (by omega)];exact hc 1 _ rfl⟩
def rd_L3(xs:List (List S36))(i:Int):(List S36):=xs.getD i.toNat ([] :List S36)
structure S34 where
 f0:Int
 f1:Int
 f2:Bt
 f3:Bt
 f4:(List S36)
def z34:S34:=⟨(0:Int),(0:Int),(⟨#[]⟩:Bt),(⟨#[]⟩:Bt),([] :List S36)⟩
def k34:Kd S34:=Kd.iso (Kd.pair (Kd.int .i64) (Kd.pair (Kd.int .i64) (Kd.pair Kd.string (Kd.pair Kd.string (Kd.slice 36 k36))))) (fun x:S34=>(x.f0,x.f1,x.f2,x.f3,x.f4))
theorem xR:Kd.Heap k34:=Kd.KL _ (Kd.uG (Kd.KM .i64) (Kd.uG (Kd.KM .i64) (Kd.uG Kd.sD (Kd.uG Kd.sD (Kd.M8 36 k36_heap)))))
theorem Ez{w:World}{x:S34}{cs:List Value}(h:k34.K w x cs):∃A4 c4,cs=[.int .i64 x.f0,.int .i64 x.f1,.string x.f2,.string x.f3,.slice A4 x.f4.length c4]∧x.f4.length≤c4∧k36.C w A4 x.f4.length x.f4:=by
 obtain⟨_,_,rfl,rfl,⟨_,_,rfl,rfl,⟨_,_,rfl,rfl,⟨_,_,rfl,rfl,⟨A4,c4,rfl,l4,g4⟩⟩⟩⟩⟩:=h;exact⟨A4,c4,rfl,l4,g4⟩
theorem BM{w:World}{base:Nat}{ok:Nat→Prop}{x:S34}{cs:List Value}(h:k34.M w base ok x cs):∃v4,cs=[.int .i64 x.f0,.int .i64 x.f1,.string x.f2,.string x.f3,v4]∧k36.R 36 w base ok v4 x.f4:=by
 obtain⟨_,_,rfl,rfl,⟨_,_,rfl,rfl,⟨_,_,rfl,rfl,⟨_,_,rfl,rfl,⟨v4,rfl,g4⟩⟩⟩⟩⟩:=h;exact⟨v4,rfl,g4⟩
theorem Es(w:World)(x:S34){A4:Option Addr}{c4:Nat}(l4:x.f4.length≤c4)(g4:k36.C w A4 x.f4.length x.f4):k34.K w x [.int .i64 x.f0,.int .i64 x.f1,.string x.f2,.string x.f3,.slice A4 x.f4.length c4]:=⟨[.int .i64 x.f0],[.int .i64 x.f1,.string x.f2,.string x.f3,.slice A4 x.f4.length c4],rfl,rfl,⟨[.int .i64 x.f1],[.string x.f2,.string x.f3,.slice A4 x.f4.length c4],rfl,rfl,⟨[.string x.f2],[.string x.f3,.slice A4 x.f4.length c4],rfl,rfl,⟨[.string x.f3],[.slice A4 x.f4.length c4],rfl,rfl,⟨A4,c4,rfl,l4,g4⟩⟩⟩⟩⟩
theorem yE(w:World)(base:Nat)(ok:Nat→Prop)(x:S34){v4:Value}(g4:k36.R 36 w base ok v4 x.f4):k34.M w base ok x [.int .i64 x.f0,.int .i64 x.f1,.string x.f2,.string x.f3,v4]:=⟨[.int .i64 x.f0],[.int .i64 x.f1,.string x.f2,.string x.f3,v4],rfl,rfl,⟨[.int .i64 x.f1],[.string x.f2,.string x.f3,v4],rfl,rfl,⟨[.string x.f2],[.string x.f3,v4],rfl,rfl,⟨[.string x.f3],[v4],rfl,rfl,⟨v4,rfl,g4⟩⟩⟩⟩⟩
theorem Ra{W:World}{ok:Nat→Prop}{x:S34}{cs:List Value}(h:Kd.FK k34 W ok x cs):∃A4 c4,cs=[.int .i64 x.f0,.int .i64 x.f1,.string x.f2,.string x.f3,.slice A4 x.f4.length c4]∧x.f4.length≤c4∧Kd.F k36 W ok A4 x.f4.length x.f4:=by
 obtain⟨A4,c4,rfl,l4,_⟩:=Ez (Kd.BQ h);exact⟨A4,c4,rfl,l4,(fun W' hW=>by obtain⟨A4_,c4_,he,l4_,g4_⟩:=Ez (h W' hW);injection (Option.some.inj (show some (Value.slice A4 x.f4.length c4)=some (Value.slice A4_ x.f4.length c4_)from congrArg (fun l=>l[4]?) he))with ha_ _ _;rw[ha_];exact g4_)⟩
theorem k34_mkF(W:World)(ok:Nat→Prop)(x:S34){A4:Option Addr}{c4:Nat}(l4:x.f4.length≤c4)(g4:Kd.F k36 W ok A4 x.f4.length x.f4):Kd.FK k34 W ok x [.int .i64 x.f0,.int .i64 x.f1,.string x.f2,.string x.f3,.slice A4 x.f4.length c4]:=fun W2 hW=>Es W2 x l4 (g4 W2 hW)
def au(xs:List S34)(i:Int):S34:=xs.getD i.toNat z34
theorem kQ{w:World}{A:Option Addr}{n:Nat}{xs:List S34}(h:Kd.C k34 w A n xs)(i:Int)(h0:0≤i)(h1:i<n):∃ad A4 c4,A=some ad∧w.cell? (ad.add (i.toNat * 5))=some (.int .i64 (au xs i).f0)∧w.cell? ⟨(ad.add (i.toNat * 5)).block,(ad.add (i.toNat * 5)).off+1,none⟩=some (.int .i64 (au xs i).f1)∧w.cell? ⟨(ad.add (i.toNat * 5)).block,(ad.add (i.toNat * 5)).off+2,none⟩=some (.string (au xs i).f2)∧w.cell? ⟨(ad.add (i.toNat * 5)).block,(ad.add (i.toNat * 5)).off+3,none⟩=some (.string (au xs i).f3)∧w.cell? ⟨(ad.add (i.toNat * 5)).block,(ad.add (i.toNat * 5)).off+4,none⟩=some (.slice A4 (au xs i).f4.length c4)∧(au xs i).f4.length≤c4∧k36.C w A4 (au xs i).f4.length (au xs i).f4:=by
 obtain⟨ad,c,e,_,hK,hc0⟩:=Kd.Gq h z34 i h0 h1;have hc:∀j u,c[j]?=some u→w.cell? (ad.add (i.toNat * 5+j))=some u:=hc0
 obtain⟨A4,c4,rfl,l4,g4⟩:=Ez hK;exact⟨ad,A4,c4,e,hc 0 _ rfl,by rw[←lX _ _ 1 (by omega)];exact hc 1 _ rfl,by rw[←lX _ _ 2 (by omega)];exact hc 2 _ rfl,by rw[←lX _ _ 3 (by omega)];exact hc 3 _ rfl,by rw[←lX _ _ 4 (by omega)];exact hc 4 _ rfl,l4,g4⟩
structure S65 where
 f0:Int
 f1:Bt
 f2:Bt
 f3:(List S36)
 f4:Bool
def z65:S65:=⟨(0:Int),(⟨#[]⟩:Bt),(⟨#[]⟩:Bt),([] :List S36),false⟩
def k65:Kd S65:=Kd.iso (Kd.pair (Kd.int .i64) (Kd.pair Kd.string (Kd.pair Kd.string (Kd.pair (Kd.slice 36 k36) Kd.bool)))) (fun x:S65=>(x.f0,x.f1,x.f2,x.f3,x.f4))
theorem k65_open{w:World}{x:S65}{cs:List Value}(h:k65.K w x cs):∃A3 c3,cs=[.int .i64 x.f0,.string x.f1,.string x.f2,.slice A3 x.f3.length c3,.bool x.f4]∧x.f3.length≤c3∧k36.C w A3 x.f3.length x.f3:=by
 obtain⟨_,_,rfl,rfl,⟨_,_,rfl,rfl,⟨_,_,rfl,rfl,⟨_,_,rfl,⟨A3,c3,rfl,l3,g3⟩,rfl⟩⟩⟩⟩:=h;exact⟨A3,c3,rfl,l3,g3⟩
theorem k65_mkM(w:World)(base:Nat)(ok:Nat→Prop)(x:S65){v3:Value}(g3:k36.R 36 w base ok v3 x.f3):k65.M w base ok x [.int .i64 x.f0,.string x.f1,.string x.f2,v3,.bool x.f4]:=⟨[.int .i64 x.f0],[.string x.f1,.string x.f2,v3,.bool x.f4],rfl,rfl,⟨[.string x.f1],[.string x.f2,v3,.bool x.f4],rfl,rfl,⟨[.string x.f2],[v3,.bool x.f4],rfl,rfl,⟨[v3],[.bool x.f4],rfl,⟨v3,rfl,g3⟩,rfl⟩⟩⟩⟩
def tH(xs:List S65)(i:Int):S65:=xs.getD i.toNat z65
theorem at_T65{w:World}{A:Option Addr}{n:Nat}{xs:List S65}(h:Kd.C k65 w A n xs)(i:Int)(h0:0≤i)(h1:i<n):∃ad A3 c3,A=some ad∧w.cell? (ad.add (i.toNat * 5))=some (.int .i64 (tH xs i).f0)∧w.cell? ⟨(ad.add (i.toNat * 5)).block,(ad.add (i.toNat * 5)).off+1,none⟩=some (.string (tH xs i).f1)∧w.cell? ⟨(ad.add (i.toNat * 5)).block,(ad.add (i.toNat * 5)).off+2,none⟩=some (.string (tH xs i).f2)∧w.cell? ⟨(ad.add (i.toNat * 5)).block,(ad.add (i.toNat * 5)).off+3,none⟩=some (.slice A3 (tH xs i).f3.length c3)∧w.cell? ⟨(ad.add (i.toNat * 5)).block,(ad.add (i.toNat * 5)).off+4,none⟩=some (.bool (tH xs i).f4)∧(tH xs i).f3.length≤c3∧k36.C w A3 (tH xs i).f3.length (tH xs i).f3:=by
 obtain⟨ad,c,e,_,hK,hc0⟩:=Kd.Gq h z65 i h0 h1;have hc:∀j u,c[j]?=some u→w.cell? (ad.add (i.toNat * 5+j))=some u:=hc0
 obtain⟨A3,c3,rfl,l3,g3⟩:=k65_open hK;exact⟨ad,A3,c3,e,hc 0 _ rfl,by rw[←lX _ _ 1 (by omega)];exact hc 1 _ rfl,by rw[←lX _ _ 2 (by omega)];exact hc 2 _ rfl,by rw[←lX _ _ 3 (by omega)];exact hc 3 _ rfl,by rw[←lX _ _ 4 (by omega)];exact hc 4 _ rfl,l3,g3⟩
end Go.Proofs.aj.W7
namespace Go.Proofs.YtkcmghlhpbepcaaGreatDoor
open Go.RowKit Go.Proofs
theorem zD{a b:Bt}(h:a.data.toList=b.data.toList):a=b:=by
 cases a;cases b;congr;exact Array.toList_inj.mp h
theorem ret_i32{a b:Int}(h:a=b):Ending.returned (.int .i32 a)=.returned (.int .i32 b):=by rw[h]
theorem ret_i64{a b:Int}(h:a=b):Ending.returned (.int .i64 a)=.returned (.int .i64 b):=by rw[h]
theorem xG{a b:Bool}(h:a=b):Ending.returned (.bool a)=.returned (.bool b):=by rw[h]
theorem ret_s{a b:Bt}(h:a.data.toList=b.data.toList):Ending.returned (.string a)=.returned (.string b):=by rw[zD h]
theorem ret_sb{a b:Bt}{x y:Bool}(h:a.data.toList=b.data.toList)(k:x=y):Ending.returned (.tuple #[.string a,.bool x])=.returned (.tuple #[.string b,.bool y]):=by rw[zD h,k]
theorem below_drewN{B:Nat}{w W:World}(h:Below B w W)(n:Nat):Below B w (W.drewN n):=⟨h.os,h.tape,h.output,h.size,h.block⟩
theorem bD{B:Nat}{w w1 w2:World}(h:Below B w w1)(hB:B≤w1.heap.size)(k:Below w1.heap.size w1 w2):Below B w w2:=
 h.trans ⟨k.os,k.tape,k.output,k.size,fun i hi=>k.block i (Nat.lt_of_lt_of_le hi hB)⟩
theorem pz{w w1 w2:World}(h:Below w.heap.size w w1)(k:Below w1.heap.size w1 w2):Below w.heap.size w w2:=bD h h.size k
theorem gW(l:List UInt8):(⟨l.toArray⟩:Bt).data.toList=l:=by simp
theorem qI(l:List UInt8):(⟨l.toArray⟩:Bt).size=l.length:=by rw[Lib.size_eq,gW]
@[go_sem] theorem ext_end (l : List UInt8) (a : Nat) : (⟨l.toArray⟩ : Bt).extract a l.length = ⟨(l.drop a).toArray⟩ := by
 rw[Lib.extract_eq,gW,List.take_of_length_le (by simp)]
@[go_sem] theorem ext_take (l : List UInt8) (n : Nat) : (⟨l.toArray⟩ : Bt).extract 0 n = ⟨(l.take n).toArray⟩ := by
 rw[Lib.extract_eq,gW];simp
@[go_sem] theorem get_mk (l : List UInt8) (k : Nat) (h : k < (⟨l.toArray⟩ : Bt).size) : (⟨l.toArray⟩ : Bt)[k]'h = l[k]'(by rwa [qI] at h) := by
 rw[ByteArray.getElem_eq_getElem_data];simp
def ES(base c:Nat):Bool:=decide ((48≤c∧c≤57)∨(base=16∧((97≤c∧c≤102)∨(65≤c∧c≤70))))
theorem Qf{base c:Nat}(h:¬((48≤c∧c≤57)∨(base=16∧((97≤c∧c≤102)∨(65≤c∧c≤70))))):ES base c=false:=decide_eq_false h
theorem digN_yes{base c:Nat}(h:(48≤c∧c≤57)∨(base=16∧((97≤c∧c≤102)∨(65≤c∧c≤70)))):ES base c=true:=decide_eq_true h
def kC(base:Nat)(l:List UInt8):Bool:=l.all (fun c=>ES base c.toNat)&& !l.isEmpty
theorem Na{s:ByteArray}{p:UInt8→Bool}(h:∀j (hj:j<s.size),p (s[j]'hj)=true):s.toList.all p=true:=by
 rw[Lib.toList_data,List.all_eq_true];intro x hx;obtain⟨j,hj,e⟩:=List.getElem_of_mem hx;have hj':j<s.size:=by simpa using hj
 have:=h j hj';rw[←e];simpa [ByteArray.getElem_eq_getElem_data]using this
theorem ET{s:ByteArray}{p:UInt8→Bool}{j:Nat}(hj:j<s.size)(h:p (s[j]'hj)=false):s.toList.all p=false:=by
 rw[Lib.toList_data,List.all_eq_false];exact⟨s[j],by simp[ByteArray.getElem_eq_getElem_data],by simp[h]⟩
theorem GI{base:Nat}{s:ByteArray}{j:Nat}(hj:j<s.size)(h:ES base (s[j]'hj).toNat=false):kC base s.toList=false:=by
 unfold kC;rw[ET hj h];rfl
theorem Nb{base:Nat}{s:ByteArray}(h:∀j (hj:j<s.size),ES base (s[j]'hj).toNat=true):kC base s.toList=!s.toList.isEmpty:=by
 unfold kC;rw[Na h];rfl
theorem LA{base pos:Nat}{s:ByteArray}(h:∀j (hj:j<s.size),j<pos→ES base (s[j]'hj).toNat=true)(hp:pos<s.size)(hd:ES base (s[pos]'hp).toNat=true):
 ∀j (hj:j<s.size),j<pos+1→ES base (s[j]'hj).toNat=true:=by
 intro j hj hlt
 by_cases e:j=pos
 ·subst e;exact hd
 ·exact h j hj (by omega)
theorem Kr(base:Nat)(hb:base=10∨base=16)(s:ByteArray)(w:World)(hs:s.size≤9223372036854775807):
 Calls Tryz.prog 225 #[.string s,.int .i64 base] w fun e w'=>e=.returned (.bool (kC base s.toList))∧Below w.heap.size w w':=by
 go_enter Tryz.func225,Tryz.ntmps225;go_wp2
 go_loopw [] (fun wr=>∃(pos:Nat),pos≤s.size∧wr.heap[w.heap.size]?=some (.stringIter s pos)∧Below w.heap.size w wr∧Hid (∀j (hj:j<s.size),j<pos→ES base (s[j]'hj).toNat=true)) (fun wr=>s.size - wr.iterPos w.heap.size)
 case atStart=>
  refine⟨0,by omega,by simpa using World.iter_heap w s 0,(Below.refl _ w).alloc (Nat.le_refl _) _,fun j _ h=>by omega⟩
 case round=>
  obtain⟨pos,hp,hit,hbw,hall⟩:=hrel
  by_cases hlt:pos<s.size
  ·by_cases ha:(s[pos]'hlt).toNat<128
   ·have hnx:∀ty,(Instr.next (.pointer (some ⟨w.heap.size,0,none⟩)) true ty).run Tryz.prog wr=_:=fun ty=>Lib.run_next_ascii_at wr w.heap.size s pos ty hit hlt ha
    generalize hc:(s[pos]'hlt).toNat=c at *;have hc':=Lib.hid hc;clear hc
    rcases hb with rfl|rfl
    all_goals
     go_wp2
     all_goals(try simp only[Bool.not_eq_true',Bool.not_eq_false',Bool.not_true,Bool.not_false,decide_eq_true_eq,decide_eq_false_iff_not]at *)
     all_goals first
      |(go_ret;refine⟨xG (GI hlt ?_).symm,Lib.below_iterAt hbw (Nat.le_refl _) _ _⟩;rw[hc'.out];refine Qf ?_;omega)
      |(refine⟨⟨pos+1,?_,Lib.iterAt_heap _ _ _ _ _ hit,Lib.below_iterAt hbw (Nat.le_refl _) _ _,LA hall.out hlt ?_⟩,?_⟩;omega;rw[hc'.out];refine digN_yes ?_;omega;simp only[World.iterPos,Lib.iterAt_heap _ _ _ _ _ hit,hit];omega)
      |skip
   ·have hh:=decode_high s pos hlt (by omega)
    obtain⟨hh1,hh2⟩:=hh;have hnx:∀ty,(Instr.next (.pointer (some ⟨w.heap.size,0,none⟩)) true ty).run Tryz.prog wr=_:=fun ty=>Lib.run_next_any_at wr w.heap.size s pos ty hit hlt
    have h64:(128:Int)≤(Utf8.decode s pos).1:=by omega
    have hle:=decode_le s pos;generalize (Utf8.decode s pos).1=c at *;generalize (Utf8.decode s pos).2=d at *
    have hno:ES base (s[pos]'hlt).toNat=false:=by
     refine Qf ?_;omega
    have hno:=Lib.hid hno;rename_i hno0;clear hno0
    rcases hb with rfl|rfl
    all_goals
     go_wp2
     all_goals(try simp only[Bool.not_eq_true',Bool.not_eq_false',Bool.not_true,Bool.not_false,decide_eq_true_eq,decide_eq_false_iff_not]at *)
     all_goals first
      |(go_ret;refine⟨xG (GI hlt hno.out).symm,Lib.below_iterAt hbw (Nat.le_refl _) _ _⟩)
      |(exfalso;omega)
  ·have hnx:∀ty,(Instr.next (.pointer (some ⟨w.heap.size,0,none⟩)) true ty).run Tryz.prog wr=_:=fun ty=>Lib.run_next_end_at wr w.heap.size s pos ty hit hlt
   have hy:=Lib.hid (Nb fun j hj=>hall.out j hj (by omega));go_wp2;go_ret;refine⟨xG ?_,hbw⟩;rw[hy.out]
end Go.Proofs.YtkcmghlhpbepcaaGreatDoor
