/- Lemmas and walks, part 5. -/
import Derived.Test.YtkcmghlhpbepcaaGreatDoorT74
import Derived.Test.YtkcmghlhpbepcaaGreatDoorProg
import Derived.Lib.Strings
import Derived.Lib.OthersKept
import Derived.Lib.Hide
import Derived.BigGuardPart
set_option linter.unusedVariables false
set_option linter.unusedSimpArgs false
set_option maxHeartbeats 8000000
set_option maxRecDepth 100000
namespace Go.Proofs.ah.aG
open Go.RowKit
namespace Kd
section
variable {α : Type} {d : Kd α} {e base n cap g : Nat} {ok ok' okp : Nat → Prop} {w w1 W : World} {v v1 : Value} {xs ys : List α}
theorem H9{rows news:List (List Value)}(h0:∀k,v.ownBlock=some k→ok k)(hl:rows.length=xs.length)(hf:∀(j:Nat) (x:α) (c:List Value),xs[j]?=some x→rows[j]?=some c→FK d W (fun k=>ok k∧some k≠v.ownBlock) x c)
 (hl2:news.length=ys.length) (hf2:∀(j:Nat) (x:α) (c:List Value),ys[j]?=some x→news[j]?=some c→FK d W okp x c) (sJ:∀k,okp k→ok k∧some k≠v.ownBlock) (hfresh:∀k,W.heap.size≤k→ok k)
 (hR:(raw d.sz).R e w1 base (fun _=>True) v1 (rows++news)) (hg:W.grownBy w1 v.ownBlock) (hat:v1.ownBlock=v.ownBlock∨∃b,v1.ownBlock=some b∧W.heap.size≤b):N d e w1 base ok v1 (xs++ys):=by
 have hne:∀k,some k≠v.ownBlock→k<W.heap.size→some k≠v1.ownBlock:=by
  intro k hk hlt
  rcases hat with hat|⟨b,hb,hle⟩
  ·rw[hat];exact hk
  ·rw[hb]
   intro he;injection he with he
   omega
 have step:∀ {x:α} {c:List Value} {o:Nat→Prop},FK d W o x c→(∀k,o k→ok k∧some k≠v.ownBlock)→FK d w1 (fun k=>ok k∧some k≠v1.ownBlock) x c:=by
  intro x c o hq ho;exact zq (Ej (Bf hq) (fun k hk hlt=>hg.block k hlt (ho k hk.1).2)) (fun k hk=>⟨(ho k hk.1).1,hne k (ho k hk.1).2 hk.2⟩)
 refine⟨fun k hk=>?_,rows++news,by rw[List.length_append,List.length_append,hl,hl2],Cm hR,fun j x c hx hc=>?_⟩
 ·rcases hat with hat|⟨b,hb,hle⟩
  ·exact h0 k (hat▸hk)
  ·rw[hb]at hk
   injection hk with hk
   exact hfresh k (by omega)
 ·rcases Nat.lt_or_ge j xs.length with hlt|hge
  ·rw[List.getElem?_append_left hlt]at hx
   rw[List.getElem?_append_left (by omega)]at hc;exact step (hf j x c hx hc) (fun _ hk=>hk)
  ·rw[List.getElem?_append_right hge]at hx
   rw[List.getElem?_append_right (by omega),hl]at hc;exact step (hf2 _ x c hx hc) sJ
theorem FK_raw{x:α}{c:List Value}(h:FK d W ok x c):c=c∧c.length=d.sz∧∀u∈c,u.oneCell'=true:=⟨rfl,d.iT (wQ h),d.iM (wQ h)⟩
theorem N_made{rows:List (List Value)}(hR:(raw d.sz).R e w1 base (fun k=>k=W.heap.size) v1 rows)(hg:W.grownBy w1 none)(hat:∃b,v1.ownBlock=some b∧W.heap.size≤b)(hl:rows.length=xs.length)(hf:∀(j:Nat) (x:α) (c:List Value),xs[j]?=some x→rows[j]?=some c→FK d W okp x c)
 (hok:∀k,okp k→ok k) (hfresh:ok W.heap.size):N d e w1 base ok v1 xs:=by
 obtain⟨b,hb,hle⟩:=hat;refine⟨fun k hk=>by rw[hR.1 k hk];exact hfresh,rows,hl,Cm hR,fun j x c hx hc=>?_⟩;refine zq (Ej (Bf (hf j x c hx hc)) (fun k hk hlt=>hg.block k hlt (by simp))) (fun k hk=>⟨hok k hk.1,fun he=>?_⟩);rw[hb]at he;injection he with he
 have:=hk.2;omega
end
section
variable {P : Program} {ops : Array Oper} {rest : List Oper} {o : Oper} {a : Act} {Q : Exit → Act → World → Prop} {Kc : Act → World → Prop} {α : Type}
theorem N_append(d:Kd α){w0 W:World}(base:Nat)(hgd:o.guard=none)(s x:Operand)(t e:TypeId)(z:Value)(bytes:Nat)
 (ho:o.op=.call {callee:=.builtin .append,args:=#[s,x],argTypes:=#[t,t] })
 (ht:P.underlying t=some (.slice e)) (hinfo:(P.info? e).map (fun i=>(i.zero,i.size,i.bytes))=some (some z,d.sz,bytes)) (hz:z.cells.size=d.sz) (hs0:0<d.sz) (hb0:0<bytes)
 (v:Value) (xs:List α) (p:α) (cs:List Value) (ok okp:Nat→Prop) (hs:a.eval s=v) (hx:a.eval x=.slice (some ⟨W.heap.size,0,none⟩) 1 1) (hp:FK d W okp p cs) (sJ:∀k,okp k→ok k∧some k≠v.ownBlock) (hfresh:∀k,W.heap.size≤k→ok k)
 (HO:N d e W base ok v xs) (HB:Below base w0 W) (hbase:base≤W.heap.size) (hl:(xs.length+1) * bytes≤140737488355328)
 (h:∀v1 w1,N d e w1 base ok v1 (xs++[p])→Below base w0 w1→W.grownBy w1 v.ownBlock→(v1.ownBlock=v.ownBlock∨∃b,v1.ownBlock=some b∧W.heap.size≤b)→wpList P ops Q rest (a.put o.dst v1) w1):
 wpList P ops Q (o::rest) a (W.alloc (.cells cs.toArray e)):=by
 obtain⟨h0,rows,hlr,hR,hf⟩:=HO;refine fZ (raw d.sz) base hgd s x t e z bytes ho ht hinfo hz hs0 hb0 v rows cs cs (fun _=>True) (fun _=>False) hs hx (FK_raw hp) (fun _ hk=>hk.elim) (fun _ _=>trivial) (raw_any hR) HB hbase (by rw[hlr];exact hl) ?_;intro v1 w1 hr hb hg hat
 exact h v1 w1 (H9 h0 hlr hf (ys:=[p]) (news:=[cs]) rfl (fun j y c hy hc=>by
  rcases j with _|j
  ·simp only[List.getElem?_cons_zero,Option.some.injEq]at hy hc
   rw[←hy,←hc];exact hp
  ·simp at hy) sJ hfresh hr hg hat) hb hg hat
theorem N_lit(d:Kd α){w0 W:World}(base e:Nat)(hgd:o.guard=none){N':Tmp}(_hd:o.dst=some N'){xs:List α}{inner:List Value}{ok okp:Nat→Prop}
 (hrun:(execOp a.eval o).run P W=.ok (.value (.slice (some ⟨W.heap.size,0,none⟩) xs.length xs.length)) (W.alloc (.cells inner.toArray e)))
 (hrep:aY (FK d W okp) d.sz xs inner) (hok:∀k,okp k→ok k) (hfresh:ok W.heap.size) (HB:Below base w0 W) (hbase:base≤W.heap.size) (hm:xs.length≤9223372036854775807)
 (h:∀v1 w1,N d e w1 base ok v1 xs→Below base w0 w1→W.grownBy w1 none→(∃b,v1.ownBlock=some b∧W.heap.size≤b)→wpList P ops Q rest (a.put o.dst v1) w1):
 wpList P ops Q (o::rest) a W:=by
 refine eZ (raw d.sz) base e hgd _hd (xs:=chunks d.sz xs.length inner) (inner:=inner) (ok:=fun k=>k=W.heap.size) (okp:=fun _=>False) (by rw[iN];exact hrun) (Gx hrep (fun y c hk=>⟨d.iT (wQ hk),d.iM (wQ hk)⟩)) (fun _ hk=>hk.elim) rfl HB hbase (by rw[iN];exact hm) ?_;intro v1 w1 hr hb hg hat;exact h v1 w1 (N_made hr hg hat (iN _ _ _) (fun j y c hy hc=>by rw[uG hc];exact hrep.2 j y hy) hok hfresh) hb hg hat
end
end Kd
end Go.Proofs.ah.aG
namespace Go.Proofs.ah.dN
open Go.RowKit Go.Proofs.ah.aG
namespace Kd
open Go.Proofs.ah.aG.Kd
theorem BU{α:Type}{d:Kd α}{e base n cap:Nat}{ok:Nat→Prop}{W:World}{ad:Addr}{xs:List α}(h:d.R e W base ok (.slice (some ad) n cap) xs)(z:α)(i:Int)(h0:0≤i)(h1:i<n):
 ∃c,c.length=d.sz∧d.M W base (fun k=>ok k∧some k≠(Value.slice (some ad) n cap).ownBlock) (xs.getD i.toNat z) c∧∀j u,c[j]?=some u→W.cell? (ad.add (i.toNat * d.sz+j))=some u:=by
 obtain⟨g,hg⟩:∃g,ad=⟨g,0,none⟩:=by
  obtain⟨_,inner,ho,_⟩:=h
  rcases ho.2 with⟨hv,_⟩|⟨g,cap',cur,hv,_⟩
  ·cases hv
  ·injection hv with ha _ _
   injection ha with ha
   exact⟨g,ha⟩
 subst hg;obtain⟨c,hcl,hM,hcc,_⟩:=ug h z i h0 h1;refine⟨c,hcl,d.fq (fun k hk=>⟨hk.1,fun he=>hk.2 ?_⟩) hM,fun j u hu=>?_⟩
 ·rw[add_at,Nat.zero_add]
  exact hcc j u hu
 ·simpa [Value.ownBlock]using he
end Kd
namespace Kd
open Go.Proofs.ah.aG.Kd
section
variable {α : Type} {d : Kd α} {e base g N : Nat} {ok : Nat → Prop} {W w1 : World} {u v : Value} {xs : List α}
end
end Kd
theorem dZ(k k':IntKind)(x y:Int):Builtin.max2 (.int k x) (.int k' y)=pure (.int k (if x<y then y else x)):=by simp only[Builtin.max2,gt_iff_lt]
theorem d9(k k':IntKind)(x y:Int):Builtin.min2 (.int k x) (.int k' y)=pure (.int k (if y<x then y else x)):=by simp only[Builtin.min2]
theorem eU(ats:Array TypeId)(ty:TypeId)(a b:Value):Builtin.max_ ats ty #[a,b]=(Builtin.max2 a b >>= fun s=>pure s):=by simp only[Builtin.max_,List.foldlM_cons,List.foldlM_nil]
theorem eX(ats:Array TypeId)(ty:TypeId)(a b:Value):Builtin.min_ ats ty #[a,b]=(Builtin.min2 a b >>= fun s=>pure s):=by simp only[Builtin.min_,List.foldlM_cons,List.foldlM_nil]
theorem dS(ats:Array TypeId)(ty:TypeId)(a b c:Value):Builtin.max_ ats ty #[a,b,c]=(Builtin.max2 a b >>= fun s=>Builtin.max2 s c >>= fun s=>pure s):=by simp only[Builtin.max_,List.foldlM_cons,List.foldlM_nil]
theorem dU(ats:Array TypeId)(ty:TypeId)(a b c:Value):Builtin.min_ ats ty #[a,b,c]=(Builtin.min2 a b >>= fun s=>Builtin.min2 s c >>= fun s=>pure s):=by simp only[Builtin.min_,List.foldlM_cons,List.foldlM_nil]
theorem eu(ats:Array TypeId)(ty:TypeId)(a b c d:Value):Builtin.max_ ats ty #[a,b,c,d]=(Builtin.max2 a b >>= fun s=>Builtin.max2 s c >>= fun s=>Builtin.max2 s d >>= fun s=>pure s):=by simp only[Builtin.max_,List.foldlM_cons,List.foldlM_nil]
theorem eB(ats:Array TypeId)(ty:TypeId)(a b c d:Value):Builtin.min_ ats ty #[a,b,c,d]=(Builtin.min2 a b >>= fun s=>Builtin.min2 s c >>= fun s=>Builtin.min2 s d >>= fun s=>pure s):=by simp only[Builtin.min_,List.foldlM_cons,List.foldlM_nil]
end Go.Proofs.ah.dN
namespace Go.Proofs.ah.aG
open Go.RowKit
section
variable {P : Program} {ops : Array Oper} {rest : List Oper} {o : Oper} {a : Act} {Q : Exit → Act → World → Prop} {W : World}
theorem bC{f:FuncId}{as_:Array Operand}{ts:Array TypeId}(_ho:o.op=.call {callee:=.value (.func f),args:=as_,argTypes:=ts })(h:wpList P ops Q (o::rest) a W):wpList P ops Q (o::rest) a W:=h
theorem fG{b:Builtin}{xs:Array Operand}{ts:Array TypeId}(_ho:o.op=.call {callee:=.builtin b,args:=xs,argTypes:=ts })(h:wpList P ops Q (o::rest) a W):wpList P ops Q (o::rest) a W:=h
end
def mx(a b:Int):Int:=if a<b then b else a
def mn(a b:Int):Int:=if b<a then b else a
def shl(k:IntKind)(x y:Int):Int:=k.wrap (x * 2^min y.toNat k.bits)
def shr(k:IntKind)(x y:Int):Int:=x / 2^min y.toNat k.bits
namespace Kd
section
variable {α : Type} {d : Kd α} {e base : Nat} {ok : Nat → Prop} {W w1 : World} {v : Value} {xs : List α}
end
section
variable {α : Type} {d : Kd α} {e base g n cap : Nat} {ok oki okp : Nat → Prop} {W : World} {xs : List α} {i : Int} {c : List Value}
end
section
variable {α : Type} {d : Kd α} {e base b b' g N : Nat} {ok ok1 : Nat → Prop} {W W2 w1 : World} {u v : Value} {xs ys : List α} {S : Nat → Prop}
theorem IK(h:d.R e W base ok v xs)(hk:Kept W W2 S)(hne:∀k,ok k→¬S k):d.R e W2 base (fun k=>ok k∧(¬S k∧k<W.heap.size)) v xs:=
 R_kept (dz (kH h) (fun k hk=>⟨hk.1,hne k hk.1,hk.2.2.1⟩)) hk (fun _ hk=>hk.2.1)
end
end Kd
namespace Kd
def V{α:Type}(d:Kd α)(_e:Nat)(W:World)(_base:Nat)(ok:Nat→Prop)(v:Value)(xs:List α):Prop:=∃A c,v=.slice A xs.length c∧xs.length≤c∧F d W ok A xs.length xs
section
variable {α β : Type} {d : Kd α} {e base base' n m c g N' lo hi : Nat} {ok ok' S : Nat → Prop} {w W w1 : World} {A : Option Addr} {ad : Addr} {u v v1 : Value} {xs : List α}
theorem wB(h:V d e W base ok v xs)(hF:∀A,F d W ok A xs.length xs→F d w1 ok' A xs.length xs):V d e w1 base' ok' v xs:=by
 obtain⟨A,c,hv,hl,hf⟩:=h;exact⟨A,c,hv,hl,hF A hf⟩
theorem V_mk(hl:xs.length≤c)(hf:F d W ok A xs.length xs):V d e W base ok (.slice A xs.length c) xs:=⟨A,c,rfl,hl,hf⟩
theorem Ir(h:V d e W base ok v xs):∃A c,v=.slice A xs.length c:=by
 obtain⟨A,c,hv,_⟩:=h;exact⟨A,c,hv⟩
theorem V_at(h:V d e W base ok (.slice A n c) xs):n=xs.length∧n≤c∧F d W ok A xs.length xs:=by
 obtain⟨A',c',hv,hl,hf⟩:=h;injection hv with ha hn hc
 subst ha;subst hc
 exact⟨hn,by rw[hn];exact hl,hf⟩
theorem lX(h:V d e W base ok (.slice A n c) xs):n=xs.length∧n≤c∧d.C W A xs.length xs:=⟨(V_at h).1,(V_at h).2.1,F_now (V_at h).2.2⟩
theorem V_F(h:V d e W base ok (.slice A n c) xs):F d W ok A n xs:=by
 obtain⟨hn,_,hf⟩:=V_at h;rw[hn];exact hf
theorem uV(d:Kd α)(e:Nat)(W:World)(base:Nat)(ok:Nat→Prop):V d e W base ok (.slice none 0 0) []:=⟨none,0,rfl,Nat.le_refl _,F_nil d W ok⟩
theorem R_V(h:d.R e W base ok v xs):V d e W base' ok v xs:=by
 obtain⟨A,c,rfl⟩:=bF h;exact⟨A,c,rfl,(aI h).2.1,R_F h⟩
theorem jO(h:V d e W base ok v xs)(hok:∀k,ok k→ok' k):V d e W base ok' v xs:=wB h (fun _ hf=>Ei hf hok)
theorem IB(h:V d e W base ok v xs)(hb:Below W.heap.size W w1):V d e w1 base ok v xs:=wB h (fun _ hf=>sP hf hb)
theorem jf(h:V d e W base ok v xs)(o:Obj):V d e (W.alloc o) base ok v xs:=wB h (fun _ hf=>F_alloc hf o)
theorem jX(h:V d e W base ok v xs):V d e W.drew base ok v xs:=wB h (fun _ hf=>F_drew hf)
theorem jg(h:V d e W base ok v xs)(m:Nat):V d e (W.drewN m) base ok v xs:=wB h (fun _ hf=>F_drewN hf m)
theorem ql(h:V d e W base ok v xs){p:Addr}(hok:∀k,ok k→k≠p.block)(u:Value):V d e (W.setCell p u) base ok v xs:=wB h (fun _ hf=>F_far hf hok u)
theorem V_after(h:V d e W base (fun k=>ok k∧some k≠u.ownBlock) v xs)(hg:W.grownBy w1 u.ownBlock)(hat:v1.ownBlock=u.ownBlock∨∃b,v1.ownBlock=some b∧W.heap.size≤b):V d e w1 base (fun k=>ok k∧some k≠v1.ownBlock) v xs:=wB h (fun _ hf=>F_after hf hg hat)
theorem vv(h:V d e W base (fun k=>ok k∧some k≠v.ownBlock) u xs)(hg:W.grownBy w1 v.ownBlock)(hat:v1.ownBlock=v.ownBlock∨∃b,v1.ownBlock=some b∧W.heap.size≤b):V d e w1 base (fun k=>ok k∧some k≠v1.ownBlock) u xs:=V_after h hg hat
theorem Fh(h:V d e W base ok v xs)(hbase:∀k,u.ownBlock=some k→W.heap.size≤k)(hb:Below W.heap.size W w1):V d e w1 base (fun k=>ok k∧some k≠u.ownBlock) v xs:=wB h (fun _ hf=>F_elder' hf hbase hb)
theorem F5(h:V d e W base ok v xs)(a:Nat)(ha:W.heap.size≤a):V d e W base (fun k=>ok k∧k≠a) v xs:=wB h (fun _ hf=>F_elderB hf a ha)
theorem V_get(h:V d e W base ok (.slice (some ad) n c) xs)(z:α)(i:Int)(h0:0≤i)(h1:i<n):
 ∃cs,cs.length=d.sz∧FK d W ok (xs.getD i.toNat z) cs∧∀j u,cs[j]?=some u→W.cell? (ad.add (i.toNat * d.sz+j))=some u:=by
 obtain⟨ad',cs,he,hcl,hK,hcc,_⟩:=F_get (V_F h) z i h0 h1;injection he with he
 subst he;exact⟨cs,hcl,hK,hcc⟩
theorem F_take(h:F d W ok A xs.length xs)(hm:m≤xs.length):F d W ok A (xs.take m).length (xs.take m):=F_imp h (fun _ hC=>Ae hC hm)
theorem nR{M:Nat→Prop}(h:d.R e w1 W.heap.size ok v xs)(hle:w.heap.size≤W.heap.size)(hM:∀k,w.heap.size≤k→M k):d.R e w1 W.heap.size (fun k=>M k∧ok k) v xs:=dz (kH h) (fun k hk=>⟨hM k (Nat.le_trans hle hk.2.1),hk.1⟩)
end
end Kd
end Go.Proofs.ah.aG
namespace Go.Proofs.aj.W7
open Go.RowKit Go.Proofs.ah.aG Go.Proofs.ah.bX Go.Proofs.ah.dN
attribute [local go_sem] dZ d9 eU eX dS dU eu eB
def errW:Option Int→Value
 |none=>.nilIface
 |some c=>.iface 0 (.int .i64 c)
theorem aQ:errW none=.nilIface:=rfl
theorem aT(c:Int):errW (some c)=.iface 0 (.int .i64 c):=rfl
theorem xH:(Tryz.prog.info? 9).map (fun i=>(i.zero,i.size,i.bytes))=some (some (.string ⟨#[]⟩),1,16):=by kernel_rfl
theorem jy:(Tryz.prog.info? 34).map (fun i=>(i.zero,i.size,i.bytes))=some (some (.agg #[(.int .i64 0),(.int .i64 0),(.string ⟨#[]⟩),(.string ⟨#[]⟩),(.slice none 0 0)]),5,72):=by kernel_rfl
theorem wJ:(Tryz.prog.info? 36).map (fun i=>(i.zero,i.size,i.bytes))=some (some (.agg #[(.string ⟨#[]⟩),(.string ⟨#[]⟩)]),2,32):=by kernel_rfl
theorem info65:(Tryz.prog.info? 65).map (fun i=>(i.zero,i.size,i.bytes))=some (some (.agg #[(.int .i64 0),(.string ⟨#[]⟩),(.string ⟨#[]⟩),(.slice none 0 0),(.bool false)]),5,72):=by kernel_rfl
structure S36 where
 f0:Bt
 f1:Bt
def z36:S36:=⟨(⟨#[]⟩:Bt),(⟨#[]⟩:Bt)⟩
def k36:Kd S36:=Kd.iso (Kd.pair Kd.string Kd.string) (fun x:S36=>(x.f0,x.f1))
theorem k36_heap:Kd.Heap k36:=Kd.EI _ (Kd.qb Kd.lF Kd.lF)
theorem k36_open{w:World}{x:S36}{cs:List Value}(h:k36.K w x cs):cs=[.string x.f0,.string x.f1]:=by
 obtain⟨_,_,rfl,rfl,rfl⟩:=h;exact rfl
theorem uM(w:World)(base:Nat)(ok:Nat→Prop)(x:S36):k36.M w base ok x [.string x.f0,.string x.f1]:=⟨[.string x.f0],[.string x.f1],rfl,rfl,rfl⟩
def dV(xs:List S36)(i:Int):S36:=xs.getD i.toNat z36
theorem o8{w:World}{A:Option Addr}{n:Nat}{xs:List S36}(h:Kd.C k36 w A n xs)(i:Int)(h0:0≤i)(h1:i<n):∃ad,A=some ad∧w.cell? (ad.add (i.toNat * 2))=some (.string (dV xs i).f0)∧w.cell? ⟨(ad.add (i.toNat * 2)).block,(ad.add (i.toNat * 2)).off+1,none⟩=some (.string (dV xs i).f1):=by
 obtain⟨ad,c,e,_,hK,hc0⟩:=Kd.BH h z36 i h0 h1;have hc:∀j u,c[j]?=some u→w.cell? (ad.add (i.toNat * 2+j))=some u:=hc0
 obtain rfl:=k36_open hK;exact⟨ad,e,hc 0 _ rfl,by rw[←gW _ _ 1 (by omega)];exact hc 1 _ rfl⟩
def rd_L3(xs:List (List S36))(i:Int):(List S36):=xs.getD i.toNat ([] :List S36)
structure S34 where
 f0:Int
 f1:Int
 f2:Bt
 f3:Bt
 f4:(List S36)
def z34:S34:=⟨(0:Int),(0:Int),(⟨#[]⟩:Bt),(⟨#[]⟩:Bt),([] :List S36)⟩
def k34:Kd S34:=Kd.iso (Kd.pair (Kd.int .i64) (Kd.pair (Kd.int .i64) (Kd.pair Kd.string (Kd.pair Kd.string (Kd.slice 36 k36))))) (fun x:S34=>(x.f0,x.f1,x.f2,x.f3,x.f4))
theorem k34_open{w:World}{x:S34}{cs:List Value}(h:k34.K w x cs):∃A4 c4,cs=[.int .i64 x.f0,.int .i64 x.f1,.string x.f2,.string x.f3,.slice A4 x.f4.length c4]∧x.f4.length≤c4∧k36.C w A4 x.f4.length x.f4:=by
 obtain⟨_,_,rfl,rfl,⟨_,_,rfl,rfl,⟨_,_,rfl,rfl,⟨_,_,rfl,rfl,⟨A4,c4,rfl,l4,g4⟩⟩⟩⟩⟩:=h;exact⟨A4,c4,rfl,l4,g4⟩
theorem jA{w:World}{base:Nat}{ok:Nat→Prop}{x:S34}{cs:List Value}(h:k34.M w base ok x cs):∃v4,cs=[.int .i64 x.f0,.int .i64 x.f1,.string x.f2,.string x.f3,v4]∧k36.R 36 w base ok v4 x.f4:=by
 obtain⟨_,_,rfl,rfl,⟨_,_,rfl,rfl,⟨_,_,rfl,rfl,⟨_,_,rfl,rfl,⟨v4,rfl,g4⟩⟩⟩⟩⟩:=h;exact⟨v4,rfl,g4⟩
theorem k34_mk(w:World)(x:S34){A4:Option Addr}{c4:Nat}(l4:x.f4.length≤c4)(g4:k36.C w A4 x.f4.length x.f4):k34.K w x [.int .i64 x.f0,.int .i64 x.f1,.string x.f2,.string x.f3,.slice A4 x.f4.length c4]:=⟨[.int .i64 x.f0],[.int .i64 x.f1,.string x.f2,.string x.f3,.slice A4 x.f4.length c4],rfl,rfl,⟨[.int .i64 x.f1],[.string x.f2,.string x.f3,.slice A4 x.f4.length c4],rfl,rfl,⟨[.string x.f2],[.string x.f3,.slice A4 x.f4.length c4],rfl,rfl,⟨[.string x.f3],[.slice A4 x.f4.length c4],rfl,rfl,⟨A4,c4,rfl,l4,g4⟩⟩⟩⟩⟩
theorem jE(w:World)(base:Nat)(ok:Nat→Prop)(x:S34){v4:Value}(g4:k36.R 36 w base ok v4 x.f4):k34.M w base ok x [.int .i64 x.f0,.int .i64 x.f1,.string x.f2,.string x.f3,v4]:=⟨[.int .i64 x.f0],[.int .i64 x.f1,.string x.f2,.string x.f3,v4],rfl,rfl,⟨[.int .i64 x.f1],[.string x.f2,.string x.f3,v4],rfl,rfl,⟨[.string x.f2],[.string x.f3,v4],rfl,rfl,⟨[.string x.f3],[v4],rfl,rfl,⟨v4,rfl,g4⟩⟩⟩⟩⟩
def bJ(xs:List S34)(i:Int):S34:=xs.getD i.toNat z34
theorem qH{w:World}{A:Option Addr}{n:Nat}{xs:List S34}(h:Kd.C k34 w A n xs)(i:Int)(h0:0≤i)(h1:i<n):∃ad A4 c4,A=some ad∧w.cell? (ad.add (i.toNat * 5))=some (.int .i64 (bJ xs i).f0)∧w.cell? ⟨(ad.add (i.toNat * 5)).block,(ad.add (i.toNat * 5)).off+1,none⟩=some (.int .i64 (bJ xs i).f1)∧w.cell? ⟨(ad.add (i.toNat * 5)).block,(ad.add (i.toNat * 5)).off+2,none⟩=some (.string (bJ xs i).f2)∧w.cell? ⟨(ad.add (i.toNat * 5)).block,(ad.add (i.toNat * 5)).off+3,none⟩=some (.string (bJ xs i).f3)∧w.cell? ⟨(ad.add (i.toNat * 5)).block,(ad.add (i.toNat * 5)).off+4,none⟩=some (.slice A4 (bJ xs i).f4.length c4)∧(bJ xs i).f4.length≤c4∧k36.C w A4 (bJ xs i).f4.length (bJ xs i).f4:=by
 obtain⟨ad,c,e,_,hK,hc0⟩:=Kd.BH h z34 i h0 h1;have hc:∀j u,c[j]?=some u→w.cell? (ad.add (i.toNat * 5+j))=some u:=hc0
 obtain⟨A4,c4,rfl,l4,g4⟩:=k34_open hK;exact⟨ad,A4,c4,e,hc 0 _ rfl,by rw[←gW _ _ 1 (by omega)];exact hc 1 _ rfl,by rw[←gW _ _ 2 (by omega)];exact hc 2 _ rfl,by rw[←gW _ _ 3 (by omega)];exact hc 3 _ rfl,by rw[←gW _ _ 4 (by omega)];exact hc 4 _ rfl,l4,g4⟩
structure S65 where
 f0:Int
 f1:Bt
 f2:Bt
 f3:(List S36)
 f4:Bool
def z65:S65:=⟨(0:Int),(⟨#[]⟩:Bt),(⟨#[]⟩:Bt),([] :List S36),false⟩
def k65:Kd S65:=Kd.iso (Kd.pair (Kd.int .i64) (Kd.pair Kd.string (Kd.pair Kd.string (Kd.pair (Kd.slice 36 k36) Kd.bool)))) (fun x:S65=>(x.f0,x.f1,x.f2,x.f3,x.f4))
theorem k65_heap:Kd.Heap k65:=Kd.EI _ (Kd.qb (Kd.heap_int .i64) (Kd.qb Kd.lF (Kd.qb Kd.lF (Kd.qb (Kd.G7 36 k36_heap) Kd.J2))))
theorem zO{w:World}{x:S65}{cs:List Value}(h:k65.K w x cs):∃A3 c3,cs=[.int .i64 x.f0,.string x.f1,.string x.f2,.slice A3 x.f3.length c3,.bool x.f4]∧x.f3.length≤c3∧k36.C w A3 x.f3.length x.f3:=by
 obtain⟨_,_,rfl,rfl,⟨_,_,rfl,rfl,⟨_,_,rfl,rfl,⟨_,_,rfl,⟨A3,c3,rfl,l3,g3⟩,rfl⟩⟩⟩⟩:=h;exact⟨A3,c3,rfl,l3,g3⟩
theorem k65_mk(w:World)(x:S65){A3:Option Addr}{c3:Nat}(l3:x.f3.length≤c3)(g3:k36.C w A3 x.f3.length x.f3):k65.K w x [.int .i64 x.f0,.string x.f1,.string x.f2,.slice A3 x.f3.length c3,.bool x.f4]:=⟨[.int .i64 x.f0],[.string x.f1,.string x.f2,.slice A3 x.f3.length c3,.bool x.f4],rfl,rfl,⟨[.string x.f1],[.string x.f2,.slice A3 x.f3.length c3,.bool x.f4],rfl,rfl,⟨[.string x.f2],[.slice A3 x.f3.length c3,.bool x.f4],rfl,rfl,⟨[.slice A3 x.f3.length c3],[.bool x.f4],rfl,⟨A3,c3,rfl,l3,g3⟩,rfl⟩⟩⟩⟩
theorem k65_mkM(w:World)(base:Nat)(ok:Nat→Prop)(x:S65){v3:Value}(g3:k36.R 36 w base ok v3 x.f3):k65.M w base ok x [.int .i64 x.f0,.string x.f1,.string x.f2,v3,.bool x.f4]:=⟨[.int .i64 x.f0],[.string x.f1,.string x.f2,v3,.bool x.f4],rfl,rfl,⟨[.string x.f1],[.string x.f2,v3,.bool x.f4],rfl,rfl,⟨[.string x.f2],[v3,.bool x.f4],rfl,rfl,⟨[v3],[.bool x.f4],rfl,⟨v3,rfl,g3⟩,rfl⟩⟩⟩⟩
theorem J3{W:World}{ok:Nat→Prop}{x:S65}{cs:List Value}(h:Kd.FK k65 W ok x cs):∃A3 c3,cs=[.int .i64 x.f0,.string x.f1,.string x.f2,.slice A3 x.f3.length c3,.bool x.f4]∧x.f3.length≤c3∧Kd.F k36 W ok A3 x.f3.length x.f3:=by
 obtain⟨A3,c3,rfl,l3,_⟩:=zO (Kd.wQ h);exact⟨A3,c3,rfl,l3,(fun W' hW=>by obtain⟨A3_,c3_,he,l3_,g3_⟩:=zO (h W' hW);injection (Option.some.inj (show some (Value.slice A3 x.f3.length c3)=some (Value.slice A3_ x.f3.length c3_)from congrArg (fun l=>l[3]?) he))with ha_ _ _;rw[ha_];exact g3_)⟩
theorem k65_mkF(W:World)(ok:Nat→Prop)(x:S65){A3:Option Addr}{c3:Nat}(l3:x.f3.length≤c3)(g3:Kd.F k36 W ok A3 x.f3.length x.f3):Kd.FK k65 W ok x [.int .i64 x.f0,.string x.f1,.string x.f2,.slice A3 x.f3.length c3,.bool x.f4]:=fun W2 hW=>k65_mk W2 x l3 (g3 W2 hW)
def au(xs:List S65)(i:Int):S65:=xs.getD i.toNat z65
theorem Cv{w:World}{A:Option Addr}{n:Nat}{xs:List S65}(h:Kd.C k65 w A n xs)(i:Int)(h0:0≤i)(h1:i<n):∃ad A3 c3,A=some ad∧w.cell? (ad.add (i.toNat * 5))=some (.int .i64 (au xs i).f0)∧w.cell? ⟨(ad.add (i.toNat * 5)).block,(ad.add (i.toNat * 5)).off+1,none⟩=some (.string (au xs i).f1)∧w.cell? ⟨(ad.add (i.toNat * 5)).block,(ad.add (i.toNat * 5)).off+2,none⟩=some (.string (au xs i).f2)∧w.cell? ⟨(ad.add (i.toNat * 5)).block,(ad.add (i.toNat * 5)).off+3,none⟩=some (.slice A3 (au xs i).f3.length c3)∧w.cell? ⟨(ad.add (i.toNat * 5)).block,(ad.add (i.toNat * 5)).off+4,none⟩=some (.bool (au xs i).f4)∧(au xs i).f3.length≤c3∧k36.C w A3 (au xs i).f3.length (au xs i).f3:=by
 obtain⟨ad,c,e,_,hK,hc0⟩:=Kd.BH h z65 i h0 h1;have hc:∀j u,c[j]?=some u→w.cell? (ad.add (i.toNat * 5+j))=some u:=hc0
 obtain⟨A3,c3,rfl,l3,g3⟩:=zO hK;exact⟨ad,A3,c3,e,hc 0 _ rfl,by rw[←gW _ _ 1 (by omega)];exact hc 1 _ rfl,by rw[←gW _ _ 2 (by omega)];exact hc 2 _ rfl,by rw[←gW _ _ 3 (by omega)];exact hc 3 _ rfl,by rw[←gW _ _ 4 (by omega)];exact hc 4 _ rfl,l3,g3⟩
end Go.Proofs.aj.W7
namespace Go.Proofs.YtkcmghlhpbepcaaGreatDoor
open Go.RowKit Go.Proofs
theorem tZ{a b:Bt}(h:a.data.toList=b.data.toList):a=b:=by
 cases a;cases b;congr;exact Array.toList_inj.mp h
theorem ret_i32{a b:Int}(h:a=b):Ending.returned (.int .i32 a)=.returned (.int .i32 b):=by rw[h]
theorem ret_i64{a b:Int}(h:a=b):Ending.returned (.int .i64 a)=.returned (.int .i64 b):=by rw[h]
theorem rJ{a b:Bool}(h:a=b):Ending.returned (.bool a)=.returned (.bool b):=by rw[h]
theorem ret_s{a b:Bt}(h:a.data.toList=b.data.toList):Ending.returned (.string a)=.returned (.string b):=by rw[tZ h]
theorem ret_sb{a b:Bt}{x y:Bool}(h:a.data.toList=b.data.toList)(k:x=y):Ending.returned (.tuple #[.string a,.bool x])=.returned (.tuple #[.string b,.bool y]):=by rw[tZ h,k]
theorem below_drewN{B:Nat}{w W:World}(h:Below B w W)(n:Nat):Below B w (W.drewN n):=⟨h.os,h.tape,h.output,h.size,h.block⟩
theorem bO{B:Nat}{w w1 w2:World}(h:Below B w w1)(hB:B≤w1.heap.size)(k:Below w1.heap.size w1 w2):Below B w w2:=
 h.trans ⟨k.os,k.tape,k.output,k.size,fun i hi=>k.block i (Nat.lt_of_lt_of_le hi hB)⟩
theorem mh{w w1 w2:World}(h:Below w.heap.size w w1)(k:Below w1.heap.size w1 w2):Below w.heap.size w w2:=bO h h.size k
theorem fQ(l:List UInt8):(⟨l.toArray⟩:Bt).data.toList=l:=by simp
theorem oD(l:List UInt8):(⟨l.toArray⟩:Bt).size=l.length:=by rw[Lib.size_eq,fQ]
@[go_sem] theorem ext_end (l : List UInt8) (a : Nat) : (⟨l.toArray⟩ : Bt).extract a l.length = ⟨(l.drop a).toArray⟩ := by
 rw[Lib.extract_eq,fQ,List.take_of_length_le (by simp)]
@[go_sem] theorem ext_take (l : List UInt8) (n : Nat) : (⟨l.toArray⟩ : Bt).extract 0 n = ⟨(l.take n).toArray⟩ := by
 rw[Lib.extract_eq,fQ];simp
@[go_sem] theorem get_mk (l : List UInt8) (k : Nat) (h : k < (⟨l.toArray⟩ : Bt).size) : (⟨l.toArray⟩ : Bt)[k]'h = l[k]'(by rwa [oD] at h) := by
 rw[ByteArray.getElem_eq_getElem_data];simp
def Av(base c:Nat):Bool:=decide ((48≤c∧c≤57)∨(base=16∧((97≤c∧c≤102)∨(65≤c∧c≤70))))
theorem Ji{base c:Nat}(h:¬((48≤c∧c≤57)∨(base=16∧((97≤c∧c≤102)∨(65≤c∧c≤70))))):Av base c=false:=decide_eq_false h
theorem digN_yes{base c:Nat}(h:(48≤c∧c≤57)∨(base=16∧((97≤c∧c≤102)∨(65≤c∧c≤70)))):Av base c=true:=decide_eq_true h
def iU(base:Nat)(l:List UInt8):Bool:=l.all (fun c=>Av base c.toNat)&& !l.isEmpty
theorem Hq{s:ByteArray}{p:UInt8→Bool}(h:∀j (hj:j<s.size),p (s[j]'hj)=true):s.toList.all p=true:=by
 rw[Lib.toList_data,List.all_eq_true];intro x hx;obtain⟨j,hj,e⟩:=List.getElem_of_mem hx;have hj':j<s.size:=by simpa using hj
 have:=h j hj';rw[←e];simpa [ByteArray.getElem_eq_getElem_data]using this
theorem Aw{s:ByteArray}{p:UInt8→Bool}{j:Nat}(hj:j<s.size)(h:p (s[j]'hj)=false):s.toList.all p=false:=by
 rw[Lib.toList_data,List.all_eq_false];exact⟨s[j],by simp[ByteArray.getElem_eq_getElem_data],by simp[h]⟩
theorem BZ{base:Nat}{s:ByteArray}{j:Nat}(hj:j<s.size)(h:Av base (s[j]'hj).toNat=false):iU base s.toList=false:=by
 unfold iU;rw[Aw hj h];rfl
theorem Hr{base:Nat}{s:ByteArray}(h:∀j (hj:j<s.size),Av base (s[j]'hj).toNat=true):iU base s.toList=!s.toList.isEmpty:=by
 unfold iU;rw[Hq h];rfl
theorem Gh{base pos:Nat}{s:ByteArray}(h:∀j (hj:j<s.size),j<pos→Av base (s[j]'hj).toNat=true)(hp:pos<s.size)(hd:Av base (s[pos]'hp).toNat=true):
 ∀j (hj:j<s.size),j<pos+1→Av base (s[j]'hj).toNat=true:=by
 intro j hj hlt
 by_cases e:j=pos
 ·subst e;exact hd
 ·exact h j hj (by omega)
theorem Ey(base:Nat)(hb:base=10∨base=16)(s:ByteArray)(w:World)(hs:s.size≤9223372036854775807):
 Calls Tryz.prog 225 #[.string s,.int .i64 base] w fun e w'=>e=.returned (.bool (iU base s.toList))∧Below w.heap.size w w':=by
 go_enter Tryz.func225,Tryz.ntmps225;go_wp2
 go_loopw [] (fun wr=>∃(pos:Nat),pos≤s.size∧wr.heap[w.heap.size]?=some (.stringIter s pos)∧Below w.heap.size w wr∧Hid (∀j (hj:j<s.size),j<pos→Av base (s[j]'hj).toNat=true)) (fun wr=>s.size - wr.iterPos w.heap.size)
 case atStart=>
  refine⟨0,by omega,by simpa using World.iter_heap w s 0,(Below.refl _ w).alloc (Nat.le_refl _) _,fun j _ h=>by omega⟩
 case round=>
  obtain⟨pos,hp,hit,hbw,hall⟩:=hrel
  by_cases hlt:pos<s.size
  ·by_cases ha:(s[pos]'hlt).toNat<128
   ·have hnx:∀ty,(Instr.next (.pointer (some ⟨w.heap.size,0,none⟩)) true ty).run Tryz.prog wr=_:=fun ty=>Lib.run_next_ascii_at wr w.heap.size s pos ty hit hlt ha
    generalize hc:(s[pos]'hlt).toNat=c at *;have hc':=Lib.hid hc;clear hc
    rcases hb with rfl|rfl
    all_goals
     go_wp2
     all_goals(try simp only[Bool.not_eq_true',Bool.not_eq_false',Bool.not_true,Bool.not_false,decide_eq_true_eq,decide_eq_false_iff_not]at *)
     all_goals first
      |(go_ret;refine⟨rJ (BZ hlt ?_).symm,Lib.below_iterAt hbw (Nat.le_refl _) _ _⟩;rw[hc'.out];refine Ji ?_;omega)
      |(refine⟨⟨pos+1,?_,Lib.iterAt_heap _ _ _ _ _ hit,Lib.below_iterAt hbw (Nat.le_refl _) _ _,Gh hall.out hlt ?_⟩,?_⟩;omega;rw[hc'.out];refine digN_yes ?_;omega;simp only[World.iterPos,Lib.iterAt_heap _ _ _ _ _ hit,hit];omega)
      |skip
   ·have hh:=decode_high s pos hlt (by omega)
    obtain⟨hh1,hh2⟩:=hh;have hnx:∀ty,(Instr.next (.pointer (some ⟨w.heap.size,0,none⟩)) true ty).run Tryz.prog wr=_:=fun ty=>Lib.run_next_any_at wr w.heap.size s pos ty hit hlt
    have h64:(128:Int)≤(Utf8.decode s pos).1:=by omega
    have hle:=decode_le s pos;generalize (Utf8.decode s pos).1=c at *;generalize (Utf8.decode s pos).2=d at *
    have hno:Av base (s[pos]'hlt).toNat=false:=by
     refine Ji ?_;omega
    have hno:=Lib.hid hno;rename_i hno0;clear hno0
    rcases hb with rfl|rfl
    all_goals
     go_wp2
     all_goals(try simp only[Bool.not_eq_true',Bool.not_eq_false',Bool.not_true,Bool.not_false,decide_eq_true_eq,decide_eq_false_iff_not]at *)
     all_goals first
      |(go_ret;refine⟨rJ (BZ hlt hno.out).symm,Lib.below_iterAt hbw (Nat.le_refl _) _ _⟩)
      |(exfalso;omega)
  ·have hnx:∀ty,(Instr.next (.pointer (some ⟨w.heap.size,0,none⟩)) true ty).run Tryz.prog wr=_:=fun ty=>Lib.run_next_end_at wr w.heap.size s pos ty hit hlt
   have hy:=Lib.hid (Hr fun j hj=>hall.out j hj (by omega));go_wp2;go_ret;refine⟨rJ ?_,hbw⟩;rw[hy.out]
end Go.Proofs.YtkcmghlhpbepcaaGreatDoor
