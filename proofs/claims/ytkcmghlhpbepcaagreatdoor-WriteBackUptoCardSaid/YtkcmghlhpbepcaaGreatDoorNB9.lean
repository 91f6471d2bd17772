/- Lemmas and walks, part 9. -/
import Derived.Test.YtkcmghlhpbepcaaGreatDoorNB8
set_option linter.unusedVariables false
set_option linter.unusedSimpArgs false
set_option maxHeartbeats 8000000
set_option maxRecDepth 100000
namespace Go.Proofs.aj.W7
open Go.RowKit Go.Shelf Go.Proofs Go.Proofs.YtkcmghlhpbepcaaGreatDoor
attribute [local go_sem] Oper.semAt_some
theorem has_c(A:Option Addr)(c:Nat)(xs:List ByteArray)(x:ByteArray)(w:World)(h:Strs w A xs):
 Calls Tryz.prog 114 #[.slice A xs.length c,.string x] w fun e w'=>e=.returned (.bool (Lib.containsS xs x))∧w'=w:=by
 rcases str_at h with rfl|⟨g,o,rfl,hc⟩
 ·exact Tryz.slices_Contains_string_empty A c x w
 ·have:=Tryz.slices_Contains_string g o xs.length c xs x w (Nat.le_refl _) h.2.1 hc
  rwa [List.take_length]at this
theorem back_in(n:Nat)(A:Option Addr)(len c:Nat)(w:World):
 CallsIn Fence.wide n Tryz.prog 127 #[.slice A len c] w fun e w'=>e=.returned (.func (.func 172) #[] #[.pointer (some ⟨w.heap.size,0,none⟩)])∧w'=w.alloc (.cells #[.slice A len c] 41):=by
 refine callsIn_of_wp Tryz.func127 rfl trivial ?_ rfl;simp only[Tryz.ntmps127,List.size_toArray,List.length_cons,List.length_nil,Nat.reduceAdd,Nat.reduceSub,Array.replicate_succ,Array.replicate_zero,List.push_toArray,List.append_toArray,List.nil_append,List.cons_append]
 gi_wp2
 go_ret;exact⟨rfl,rfl⟩
theorem MS(n:Nat)(hn:1≤n)(B1:Nat)(A:Option Addr)(c:Nat)(xs:List ByteArray)(w0 w:World)(hr:Strs w0 A xs)(hB:Below w0.heap.size w0 w)(b1:Boxed w B1 41 (.slice A xs.length c)):
 SeqStopsK Fence.wide n Tryz.prog 172 #[.pointer (some ⟨B1,0,none⟩)] (fun x:IxS=>#[Value.int .i64 (x.1:Nat),.string x.2]) (KpB 41 w0.heap.size B1 (.slice A xs.length c)) (fun ys=>ys=uy xs xs.length) (fun pre=>∃k,k≤xs.length∧pre=uy xs k) xs.length w:=fun l J Jx W hW _ _ hY h0=>
 back1_in n hn l B1 A c xs w0 hr J Jx hY W (hB.trans (hW.mono hB.size)) ((hW.block B1 b1.lt).trans b1) h0
def fT(xs some_ walls:List ByteArray):Nat→Int
 |0=> -1
 |k+1=>if Lib.containsS some_ (xs.getD k ⟨#[]⟩)then(k:Int)else if Lib.containsS walls (xs.getD k ⟨#[]⟩)then -1 else fT xs some_ walls k
def freeB(some_ walls:List ByteArray)(pre:List IxS):Prop:=∀p∈pre,Lib.containsS some_ p.2=false∧Lib.containsS walls p.2=false
theorem zG(xs some_ walls:List ByteArray):∀k,k≤xs.length→freeB some_ walls (uy xs k)→fT xs some_ walls xs.length=fT xs some_ walls (xs.length - k)
 |0,_,_=>by rw[Nat.sub_zero]
 |k+1,hk,h=>by
  rw[zH]at h;have h1:=h (xs.length - 1 - k,xs.getD (xs.length - 1 - k) ⟨#[]⟩) (by simp);have ih:=zG xs some_ walls k (by omega) (fun p hp=>h p (List.mem_append_left _ hp));obtain⟨m,hm⟩:∃m,xs.length - k=m+1:=⟨xs.length - k - 1,by omega⟩
  have hm2:xs.length - (k+1)=m:=by omega
  have hm3:xs.length - 1 - k=m:=by omega
  rw[hm3]at h1;rw[ih,hm,hm2];simp only[fT,h1.1,h1.2];rfl
theorem MU(xs some_ walls:List ByteArray)(k:Nat)(hk:k≤xs.length)(pre':List IxS)(x:IxS)(res:Int)(h:uy xs k=pre'++[x])(hf:freeB some_ walls pre')
 (hc:(Lib.containsS some_ x.2=true∧res=x.1)∨(Lib.containsS some_ x.2=false∧Lib.containsS walls x.2=true∧res= -1)):fT xs some_ walls xs.length=res:=by
 cases k with
 |zero=>simp[uy]at h
 |succ m=>
  rw[zH]at h;obtain⟨h1,h2⟩:=List.append_inj' h rfl;have h3:=(List.cons.inj h2).1;subst h1;subst h3;rw[zG xs some_ walls m (by omega) hf];obtain⟨q,hq⟩:∃q,xs.length - m=q+1:=⟨xs.length - m - 1,by omega⟩
  have hq2:xs.length - 1 - m=q:=by omega
  rw[hq2]at hc;rw[hq]
  rcases hc with⟨c1,rfl⟩|⟨c1,c2,rfl⟩
  ·simp only[fT,c1]
   rfl
  ·simp only[fT,c1,c2]
   rfl
theorem Ap{X:World}{B q:Nat}{t:TypeId}{v:Value}{row:Option Nat}(h:Boxed X B t v)(hr:∀r,row=some r→q≤r∧∃o:Obj,X.heap[r]?=some o∧o.isCells=false):some B≠row:=fun e=>by
 obtain⟨_,o,ho,hc⟩:=hr B e.symm;rw[show X.heap[B]?=_ from h]at ho;cases ho;cases hc
def fI(w:World)(V1 V2:Value)(ys zs:List ByteArray)(pre:List IxS)(W:World):Prop:=
 (Boxed W w.heap.size 41 V1∧Boxed W (w.heap.size+1) 41 V2∧Boxed W (w.heap.size+1+1) 3 (.int .i64 0)∧freeB ys zs pre)∧Below w.heap.size w W
def fX(w:World)(ys zs:List ByteArray)(c:Code)(pre:List IxS)(W:World):Prop:=
 (c=.ret∧∃(res:Int) (pre':List IxS) (x:IxS),Boxed W (w.heap.size+1+1) 3 (.int .i64 res)∧pre=pre'++[x]∧freeB ys zs pre'∧((Lib.containsS ys x.2=true∧res=x.1)∨(Lib.containsS ys x.2=false∧Lib.containsS zs x.2=true∧res= -1)))∧Below w.heap.size w W
theorem fI_own(w:World)(B:Nat)(hB:w.heap.size≤B)(V1 V2:Value)(ys zs:List ByteArray):OwnFrom B (fI w V1 V2 ys zs):=
 OwnFrom.and (fun s X Y row h hg hr=>⟨h.1.kept hg (Ap h.1 hr),h.2.1.kept hg (Ap h.2.1 hr),h.2.2.1.kept hg (Ap h.2.2.1 hr),h.2.2.2⟩) (ownFrom_below (Nat.le_refl _) hB)
theorem fX_own(w:World)(B:Nat)(hB:w.heap.size≤B)(ys zs:List ByteArray)(c:Code):OwnFrom B (fX w ys zs c):=
 OwnFrom.and (fun s X Y row h hg hr=>by
  obtain⟨hc,res,pre',x,hb,r⟩:=h;exact⟨hc,res,pre',x,hb.kept hg (Ap hb hr),r⟩) (ownFrom_below (Nat.le_refl _) hB)
theorem found_in(n:Nat)(hn:3≤n)(A0 A1 A2:Option Addr)(c0 c1 c2:Nat)(xs ys zs:List ByteArray)(w:World)(h0:Strs w A0 xs)(h1s:Strs w A1 ys)(h2s:Strs w A2 zs):
 CallsIn Fence.wide n Tryz.prog 77 #[.slice A0 xs.length c0,.slice A1 ys.length c1,.slice A2 zs.length c2] w fun e w'=>e=.returned (.int .i64 (fT xs ys zs xs.length))∧Below w.heap.size w w':=by
 have h1:1≤n:=by omega
 have hfn:Fence.wide.fn 127:=trivial;have hfn2:Fence.wide.fn 114:=trivial;refine callsIn_of_wp_marks Tryz.func77 rfl trivial ?_ rfl;simp only[Tryz.ntmps77,List.size_toArray,List.length_cons,List.length_nil,Nat.reduceAdd,Nat.reduceSub,Array.replicate_succ,Array.replicate_zero,List.push_toArray,List.append_toArray,List.nil_append,List.cons_append]
 gi_wp2_with (gi_at_call 127;refine(back_in _ _ _ _ _).mono ?_;rintro e w' ⟨rfl,rfl⟩)
 have HB0:Below w.heap.size w ((((w.alloc (.cells #[.slice A1 ys.length c1] 41)).alloc (.cells #[.slice A2 zs.length c2] 41)).alloc (.cells #[.int .i64 0] 3)).alloc (.cells #[.slice A0 xs.length c0] 41)):=((((Below.refl _ w).alloc (Nat.le_refl _) _).alloc (by simp) _).alloc (by simp;omega) _).alloc (by simp;omega) _;have b1:=Boxed.new w 41 (.slice A1 ys.length c1)
 have b2:Boxed ((w.alloc (.cells #[.slice A1 ys.length c1] 41)).alloc (.cells #[.slice A2 zs.length c2] 41)) (w.heap.size+1) 41 (.slice A2 zs.length c2):=by
  have h:=Boxed.new (w.alloc (.cells #[.slice A1 ys.length c1] 41)) 41 (.slice A2 zs.length c2);rw[World.size_alloc]at h;exact h
 have b3:Boxed (((w.alloc (.cells #[.slice A1 ys.length c1] 41)).alloc (.cells #[.slice A2 zs.length c2] 41)).alloc (.cells #[.int .i64 0] 3)) (w.heap.size+1+1) 3 (.int .i64 0):=by
  have h:=Boxed.new ((w.alloc (.cells #[.slice A1 ys.length c1] 41)).alloc (.cells #[.slice A2 zs.length c2] 41)) 3 (.int .i64 0);rw[World.size_alloc,World.size_alloc]at h;exact h
 have b4:Boxed ((((w.alloc (.cells #[.slice A1 ys.length c1] 41)).alloc (.cells #[.slice A2 zs.length c2] 41)).alloc (.cells #[.int .i64 0] 3)).alloc (.cells #[.slice A0 xs.length c0] 41)) (w.heap.size+1+1+1) 41 (.slice A0 xs.length c0):=by
  have h:=Boxed.new (((w.alloc (.cells #[.slice A1 ys.length c1] 41)).alloc (.cells #[.slice A2 zs.length c2] 41)).alloc (.cells #[.int .i64 0] 3)) 41 (.slice A0 xs.length c0);rw[World.size_alloc,World.size_alloc,World.size_alloc]at h;exact h
 refine wpIn_rangeFunc_ownG rfl h1 (gf:=172) (lb:=#[.pointer (some ⟨w.heap.size+1+1+1,0,none⟩)]) rfl trivial (enters_of Tryz.func172 (by kernel_rfl) rfl)
  (MS (n - 1) (by omega) (w.heap.size+1+1+1) A0 c0 xs w _ h0 HB0 b4) (fun h k=>kpB_t h k) (kpB_b HB0.size b4.lt) (Below.refl _ _) (fun _=>rfl)
  (fI w (.slice A1 ys.length c1) (.slice A2 zs.length c2) ys zs) (fX w ys zs) (fI_own w _ HB0.size _ _ ys zs) (fX_own w _ HB0.size ys zs)
  ⟨⟨((b1.alloc _).alloc _).alloc _,(b2.alloc _).alloc _,b3.alloc _,fun p hp=>by cases hp⟩,HB0⟩
  ?a1 ?assign ?body ?done ?stop
 case assign=>
  intro l x W K hK
  gi_wp2
  exact hK
 case body=>
  rintro l pre x W ⟨⟨hb1,hb2,hb3,hfree⟩,hB⟩ hlt;have k1:=hb1.cell;have k2:=hb2.cell;have k3:=hb3.cell;have f3:=hb3.frozen;have MV:=Lib.hid hfree;clear hfree;have hc1:=Lib.hid (callsIn_wide (n:=n - 1 - 1 - 1).2 (has_c A1 c1 ys x.2 W (Go.Proofs.ah.aD.Kd.eF h1s hB)));have hc2:=Lib.hid (callsIn_wide (n:=n - 1 - 1 - 1).2 (has_c A2 c2 zs x.2 W (Go.Proofs.ah.aD.Kd.eF h2s hB)));obtain⟨xi,xs'⟩:=x;dsimp only at hc1 hc2;have hd:1≤n - 1 - 1:=by omega
  have hfd:(Fence.wide.inRound l).fn 114:=trivial;cases e1:Lib.containsS ys xs'
  ·rw[e1]at hc1
   cases e2:Lib.containsS zs xs'
   ·rw[e2]at hc2
    gi_wp2_with (first|(gi_at_call 114;refine(CallsIn.inRound l hc1.out).mono ?_;rintro e w1 ⟨rfl,hw1⟩;rw[hw1];clear hc1)|(gi_at_call 114;refine(CallsIn.inRound l hc2.out).mono ?_;rintro e w2 ⟨rfl,hw2⟩;rw[hw2];clear hc2))
    exact⟨KeepsFrom.refl _ _,⟨Below.refl _ _,fun h=>h⟩,⟨hb1,hb2,hb3,fun p hp=>by
     rcases List.mem_append.1 hp with h|h
     ·exact MV.out p h
     ·obtain rfl:=List.mem_singleton.1 h
      exact⟨e1,e2⟩⟩,hB⟩
   ·rw[e2]at hc2
    gi_wp2_with (first|(gi_at_call 114;refine(CallsIn.inRound l hc1.out).mono ?_;rintro e w1 ⟨rfl,hw1⟩;rw[hw1];clear hc1)|(gi_at_call 114;refine(CallsIn.inRound l hc2.out).mono ?_;rintro e w2 ⟨rfl,hw2⟩;rw[hw2];clear hc2))
    exact⟨(KeepsOthers.setCell _ _ _).from _,⟨rfl,-1,pre,(xi,xs'),hb3.set _,rfl,MV.out,.inr ⟨e1,e2,rfl⟩⟩,hB.setCell (p:=⟨w.heap.size+1+1,0,none⟩) (by show w.heap.size≤w.heap.size+1+1;omega) _⟩
  ·rw[e1]at hc1
   gi_wp2_with (first|(gi_at_call 114;refine(CallsIn.inRound l hc1.out).mono ?_;rintro e w1 ⟨rfl,hw1⟩;rw[hw1];clear hc1)|(gi_at_call 114;refine(CallsIn.inRound l hc2.out).mono ?_;rintro e w2 ⟨rfl,hw2⟩;rw[hw2];clear hc2))
   exact⟨(KeepsOthers.setCell _ _ _).from _,⟨rfl,xi,pre,(xi,xs'),hb3.set _,rfl,MV.out,.inl ⟨e1,rfl⟩⟩,hB.setCell (p:=⟨w.heap.size+1+1,0,none⟩) (by show w.heap.size≤w.heap.size+1+1;omega) _⟩
 case done=>
  rintro D ps W hD rfl ⟨⟨hb1,hb2,hb3,hfree⟩,hB⟩ hK;have k3:=hb3.cell;have f3:=hb3.frozen
  have hres:fT xs ys zs xs.length= -1:=by
   rw[zG xs ys zs xs.length (Nat.le_refl _) hfree,Nat.sub_self];rfl
  have hres2:=Lib.hid hres
  gi_wp2
  have hK2:=(KeepsOthers.setCell W ⟨w.heap.size+1+1,0,none⟩ (.int .i64 (-1))).same D _ hK rfl;refine⟨by simp,.inl ⟨_,_,rfl,run_takeDeferred hK2,?_⟩⟩
  have hb4:=(hb3.set (.int .i64 (-1))).kept (grownBy_putObj' _ D (.deferred none)) (fun e=>by
   have h:=hb3;rw[show w.heap.size+1+1=D from by simpa using e]at h;rw[show W.heap[D]?=_ from h]at hK;cases hK)
  have hc4:=hb4.cell;have hui:=Tryz.underlying3;rw[hres2.out];refine⟨.int .i64 (-1),?_,rfl,(hB.setCell (p:=⟨w.heap.size+1+1,0,none⟩) (by show w.heap.size≤w.heap.size+1+1;omega) _).trans (belowK_b (w:=w) (Nat.le_refl _) _ D _ _ (Nat.le_trans HB0.size hD) hK2 rfl rfl)⟩;simp[results,asAddr,loadVar,hc4,hui,Sem.run_bind,Result.andThen,go_sem]
 case stop=>
  rintro D c pre W hD ⟨k,hk,rfl⟩ ⟨⟨rfl,res,pre',x,hb3,hpre,hfree,hcase⟩,hB⟩ hK;have hres:fT xs ys zs xs.length=res:=MU xs ys zs k hk pre' x res hpre hfree hcase;have hres2:=Lib.hid hres;clear hres hcase hfree hpre
  gi_wp2
  refine⟨by simp,.inl ⟨_,_,rfl,run_takeDeferred hK,?_⟩⟩
  have hb4:=hb3.kept (grownBy_putObj' _ D (.deferred none)) (fun e=>by
   have h:=hb3;rw[show w.heap.size+1+1=D from by simpa using e]at h;rw[show W.heap[D]?=_ from h]at hK;cases hK)
  have hc4:=hb4.cell;have hui:=Tryz.underlying3;rw[hres2.out];refine⟨.int .i64 res,?_,rfl,hB.trans (belowK_b (w:=w) (Nat.le_refl _) _ D _ _ (Nat.le_trans HB0.size hD) hK rfl rfl)⟩;simp[results,asAddr,loadVar,hc4,hui,Sem.run_bind,Result.andThen,go_sem]
def dP.f(l0 l1 l2:List ByteArray):Option Int:=some (fT l0 l1 l2 l0.length)
theorem dP.calls(A0:Option Addr)(c0:Nat)(l0:List ByteArray)(A1:Option Addr)(c1:Nat)(l1:List ByteArray)(A2:Option Addr)(c2:Nat)(l2:List ByteArray)(r:Int)(w:World)(hr0:Go.Proofs.ah.aD.Kd.string.C w A0 l0.length l0)(hc0:l0.length≤c0)(hr1:Go.Proofs.ah.aD.Kd.string.C w A1 l1.length l1)(hc1:l1.length≤c1)(hr2:Go.Proofs.ah.aD.Kd.string.C w A2 l2.length l2)(hc2:l2.length≤c2)(h:dP.f l0 l1 l2=some r):
 Calls Tryz.prog 77 #[.slice A0 l0.length c0,.slice A1 l1.length c1,.slice A2 l2.length c2] w fun e w'=>e=.returned (.int .i64 r)∧Below w.heap.size w w':=by
 obtain rfl:=Option.some.inj h;exact(callsIn_wide (n:=3)).1 (found_in 3 (Nat.le_refl _) A0 A1 A2 c0 c1 c2 l0 l1 l2 w hr0 hr1 hr2)
end Go.Proofs.aj.W7
namespace Go.Proofs
theorem q'a{p:Prop}(h:p:=by(try simp only[List.map_toArray,List.map_cons,List.map_nil]);first|done|rfl|(simp only[List.length_drop,List.length_take];rfl)):p:=h
theorem q'b{p:Prop}(h:p:=by first|exact of_decide_eq_true (by first|(with_reducible assumption)|assumption)|assumption|omega):p:=h
theorem q'c{p:Prop}(h:p:=by first|rfl|(simp;done)|(simp[*];done)|(simp;generalize ByteArray.toList _=l_;cases l_<;>rfl)):p:=h
theorem q'd{p:Prop}(h:p:=by first|(with_reducible assumption)|assumption):p:=h
end Go.Proofs
namespace Go.Proofs.aj.W7
open Go.RowKit Go.Proofs.ah.aD Go.Proofs.ah.bJ Go.Proofs.ah.bW
attribute [local go_sem] dB dD dR dS bZ cu dF dG
def bB.l0:Nat→ByteArray→List ByteArray→Int→Int→Option (Bool)
 |0,_,_,_,_=>none
 |k+1,x0,x7,x8,x9=>if x9<x8 then(if 0≤x9 then(if x9<(x7.length:Int)then(if(xq ByteArray.empty x7 x9).toList=x0.toList then(some true)else(bB.l0 k x0 x7 x8 (wrap64 (x9+1))))else(none))else(none))else(some false)
def bB.f(k:Nat)(a0:ByteArray)(l1:List ByteArray):Option (Bool):=bB.l0 k a0 l1 (l1.length:Int) 0
theorem bB.xS:∀k,(∀y0 y1 y2 y3,LeO (bB.l0 k y0 y1 y2 y3) (bB.l0 (k+1) y0 y1 y2 y3))
 |0=>fun _ _ _ _ r h=>by simp[bB.l0]at h
 |k+1=>by
  have ih0:=bB.xS k
  ·intro y0 y1 y2 y3
   unfold bB.l0
   repeat' first
   |(with_reducible exact ih0 _ _ _ _)
   |(with_reducible exact LeO.refl _)
   |(with_reducible exact LeO.none _)
   |(with_reducible refine LeO.ite ?_ ?_)
   |(with_reducible refine LeO.bind ?_ (fun _=>?_))
   |exact ih0 _ _ _ _
   |exact LeO.none _
   |refine LeO.ite ?_ ?_
   |refine LeO.bind ?_ (fun _=>?_)
theorem bB.mono:∀a0 a1 k,LeO (bB.f k a0 a1) (bB.f (k+1) a0 a1):=by
 intro a0 a1 k;have ih0:=bB.xS k;unfold bB.f
 repeat' first
  |(with_reducible exact ih0 _ _ _ _)
  |(with_reducible exact LeO.refl _)
  |(with_reducible exact LeO.none _)
  |(with_reducible refine LeO.ite ?_ ?_)
  |(with_reducible refine LeO.bind ?_ (fun _=>?_))
  |exact ih0 _ _ _ _
  |exact LeO.none _
  |refine LeO.ite ?_ ?_
  |refine LeO.bind ?_ (fun _=>?_)
theorem bB.calls(k:Nat)(a0:ByteArray)(A1:Option Addr)(c1:Nat)(l1:List ByteArray)(r:Bool)(w:World)(hr1:Kd.C Kd.string w A1 l1.length l1)(hc1:l1.length≤c1)(h:bB.f k a0 l1=some r):
 Calls Tryz.prog 81 #[.string a0,.slice A1 l1.length c1] w fun e w'=>e=.returned (.bool r)∧bP w w':=by
 have HR1:=ak.mk hr1;have HC1:=ak.mk hc1;clear hr1 hc1;have H:(bB.l0 k a0 l1 (l1.length:Int) 0)=some r:=h;clear h;have H':=ak.mk H;clear H;go_enter Tryz.func81,Tryz.ntmps81;go_wp2
 go_loopg [9] k (fun kq v9 w'=>∃(dw:Int),v9=.int .i64 dw∧ak (bB.l0 kq a0 l1 (l1.length:Int) dw=some r)∧ak (kq≤k)∧bP w w')
 case atStart=>exact⟨(0),q'c,H',⟨Nat.le_refl _⟩,by repeat(first|exact bP.refl _|apply bP.step)⟩
 case round=>
  clear H'
  try clear c1
  try clear p2
  obtain⟨dw,rfl,HA,HK1,⟨m1,rfl⟩⟩:=hrel;cases gk with
  |zero=>exact absurd HA.out (by simp[bB.l0])
  |succ k1=>
   have H:=HA.out;clear HA;simp only[bB.l0]at H
   by_cases c3:dw<(l1.length:Int)
   ·rw[if_pos c3]at H
    have nM:decide (dw<(l1.length:Int))=true:=decide_eq_true c3;clear c3
    by_cases c4:0≤dw
    ·rw[if_pos c4]at H
     have mZ:decide (0≤dw)=true:=decide_eq_true c4;clear c4
     by_cases c5:dw<(l1.length:Int)
     ·rw[if_pos c5]at H
      have uJ:decide (dw<(l1.length:Int))=true:=decide_eq_true c5;clear c5
      by_cases c6:(xq ByteArray.empty l1 dw).toList=a0.toList
      ·rw[if_pos c6]at H
       have zL:((xq ByteArray.empty l1 dw).toList==a0.toList)=true:=beq_iff_eq.mpr c6;have c6b1:((xq ByteArray.empty l1 dw).toList !=a0.toList)=false:=bne_eq_false_iff_eq.mpr c6;clear c6;obtain rfl:=Option.some.inj H;have p121:0≤(dw:Int):=q'b;have q121:dw<(l1.length:Int):=q'b;obtain⟨ad121,e121,hx121_0⟩:=Kd.GA HR1.out dw p121 q121;cases e121;replace p121:=eq_true p121;replace q121:=eq_true q121;go_wp2;go_ret;exact⟨q'c,by repeat(first|exact bP.refl _|apply bP.step)⟩
      ·rw[if_neg c6]at H
       have zL:((xq ByteArray.empty l1 dw).toList==a0.toList)=false:=beq_eq_false_iff_ne.mpr c6;have c6b1:((xq ByteArray.empty l1 dw).toList !=a0.toList)=true:=bne_iff_ne.mpr c6;have H':=ak.mk H;clear H;have p121:0≤(dw:Int):=q'b;have q121:dw<(l1.length:Int):=q'b;obtain⟨ad121,e121,hx121_0⟩:=Kd.GA HR1.out dw p121 q121;cases e121;replace p121:=eq_true p121;replace q121:=eq_true q121;go_wp2
       go_roundg k1
       case measure=>have:=HK1.out;omega
       case rel=>exact⟨(wrap64 (dw+1)),q'c,H',⟨by have:=HK1.out;omega⟩,by repeat(first|exact bP.refl _|apply bP.step)⟩
     ·rw[if_neg c5]at H
      exact absurd H (by simp)
    ·rw[if_neg c4]at H
     exact absurd H (by simp)
   ·rw[if_neg c3]at H
    have nM:decide (dw<(l1.length:Int))=false:=decide_eq_false c3;clear c3;obtain rfl:=Option.some.inj H;go_wp2;go_ret;exact⟨q'c,by repeat(first|exact bP.refl _|apply bP.step)⟩
def iB.l0:Nat→List ByteArray→ByteArray→Int→Option (Bool)
 |0,_,_,_=>none
 |k+1,x0,x1,x5=>if x5<(x0.length:Int)then(if 0≤x5 then(if(xq ByteArray.empty x0 x5).toList=x1.toList then(some true)else(iB.l0 k x0 x1 (wrap64 (x5+1))))else(none))else(some false)
def iB.f(k:Nat)(l0:List ByteArray)(a1:ByteArray):Option (Bool):=iB.l0 k l0 a1 0
end Go.Proofs.aj.W7
namespace Go.Proofs.aj.W7
open Go.RowKit Go.Proofs Go.Proofs.aj Go.Proofs.YtkcmghlhpbepcaaGreatDoor Go.Proofs.ah.aD
theorem wN{i:Nat}(h:i<1000000000):wrap64 ((i:Int)+1)=((i+1:Nat):Int):=by unfold wrap64;omega
theorem bIff(a b:ByteArray):a.toList=b.toList↔a.data.toList=b.data.toList:=by rw[Lib.toList_data,Lib.toList_data]
def nO(l:List ByteArray)(s:ByteArray):Bool:=l.any fun x=>x.data.toList==s.data.toList
theorem rdOf_at(l:List ByteArray)(i:Nat)(h:i<l.length):xq ByteArray.empty l (i:Int)=l[i]:=by simp[xq,h]
theorem among_l0(s:ByteArray)(l:List ByteArray)(hl:l.length<100000):∀(d i k:Nat),l.length - i≤d→i≤l.length→d<k→bB.l0 k s l (l.length:Int) i=some (nO (l.drop i) s):=by
 intro d
 induction d with
 |zero=>
  intro i k hd hi hk;obtain⟨k,rfl⟩:∃m,k=m+1:=⟨k - 1,by omega⟩
  simp only[bB.l0];rw[if_neg (by omega),List.drop_of_length_le (by omega)];rfl
 |succ d ih=>
  intro i k hd hi hk;obtain⟨k,rfl⟩:∃m,k=m+1:=⟨k - 1,by omega⟩
  by_cases h:i<l.length
  ·simp only[bB.l0]
   rw[if_pos (by omega),if_pos (by omega),if_pos (by omega),rdOf_at l i h,wN (by omega),ih (i+1) k (by omega) (by omega) (by omega),List.drop_eq_getElem_cons h];simp only[nO,List.any_cons]
   by_cases e:l[i].data.toList=s.data.toList
   ·rw[if_pos ((bIff _ _).2 e),e];simp
   ·rw[if_neg (fun h=>e ((bIff _ _).1 h)),beq_eq_false_iff_ne.2 e,Bool.false_or]
  ·simp only[bB.l0]
   rw[if_neg (by omega),List.drop_of_length_le (by omega)];rfl
theorem oV(s:ByteArray)(l:List ByteArray)(k:Nat)(hl:l.length<100000)(hk:l.length<k):bB.f k s l=some (nO l s):=among_l0 s l hl l.length 0 k (by omega) (by omega) hk
end Go.Proofs.aj.W7
namespace Go.Proofs.aj.W7
open Go.RowKit Go.Proofs.ah.aD Go.Proofs.ah.bJ Go.Proofs.ah.bW
attribute [local go_sem] dB dD dR dS bZ cu dF dG
def iq.f(a0:Int):Option (Bool):=if a0=32 then(some true)else(if a0=9 then(some true)else(if a0=10 then(some true)else(if a0=12 then(some true)else(some (a0==13)))))
theorem iq.calls(a0:Int)(r:Bool)(w:World)(h:iq.f a0=some r):
 Calls Tryz.prog 128 #[.int .u8 a0] w fun e w'=>e=.returned (.bool r)∧bP w w':=by
 have H:(if a0=32 then(some true)else(if a0=9 then(some true)else(if a0=10 then(some true)else(if a0=12 then(some true)else(some (a0==13))))))=some r:=h;clear h
 by_cases c2:a0=32
 ·rw[if_pos c2]at H
  have Dh:(a0==32)=true:=beq_iff_eq.mpr c2;have c2b1:(a0 !=32)=false:=bne_eq_false_iff_eq.mpr c2;clear c2;obtain rfl:=Option.some.inj H;go_enter Tryz.func128,Tryz.ntmps128;go_wp2;go_ret;exact⟨q'c,by repeat(first|exact bP.refl _|apply bP.step)⟩
 ·rw[if_neg c2]at H
  have Dh:(a0==32)=false:=beq_eq_false_iff_ne.mpr c2;have c2b1:(a0 !=32)=true:=bne_iff_ne.mpr c2
  by_cases c3:a0=9
  ·rw[if_pos c3]at H
   have nM:(a0==9)=true:=beq_iff_eq.mpr c3;have zJ:(a0 !=9)=false:=bne_eq_false_iff_eq.mpr c3;clear c3;obtain rfl:=Option.some.inj H;go_enter Tryz.func128,Tryz.ntmps128;go_wp2;go_ret;exact⟨q'c,by repeat(first|exact bP.refl _|apply bP.step)⟩
  ·rw[if_neg c3]at H
   have nM:(a0==9)=false:=beq_eq_false_iff_ne.mpr c3;have zJ:(a0 !=9)=true:=bne_iff_ne.mpr c3
   by_cases c4:a0=10
   ·rw[if_pos c4]at H
    have mZ:(a0==10)=true:=beq_iff_eq.mpr c4;have AA:(a0 !=10)=false:=bne_eq_false_iff_eq.mpr c4;clear c4;obtain rfl:=Option.some.inj H;go_enter Tryz.func128,Tryz.ntmps128;go_wp2;go_ret;exact⟨q'c,by repeat(first|exact bP.refl _|apply bP.step)⟩
   ·rw[if_neg c4]at H
    have mZ:(a0==10)=false:=beq_eq_false_iff_ne.mpr c4;have AA:(a0 !=10)=true:=bne_iff_ne.mpr c4
    by_cases c5:a0=12
    ·rw[if_pos c5]at H
     have uJ:(a0==12)=true:=beq_iff_eq.mpr c5;have c5b1:(a0 !=12)=false:=bne_eq_false_iff_eq.mpr c5;clear c5;obtain rfl:=Option.some.inj H;go_enter Tryz.func128,Tryz.ntmps128;go_wp2;go_ret;exact⟨q'c,by repeat(first|exact bP.refl _|apply bP.step)⟩
    ·rw[if_neg c5]at H
     have uJ:(a0==12)=false:=beq_eq_false_iff_ne.mpr c5;have c5b1:(a0 !=12)=true:=bne_iff_ne.mpr c5;obtain rfl:=Option.some.inj H;go_enter Tryz.func128,Tryz.ntmps128;go_wp2;go_ret;exact⟨q'c,by repeat(first|exact bP.refl _|apply bP.step)⟩
mutual
def bN.l0:Nat→ByteArray→ByteArray→Int→Int→Option (Bool)
 |0,_,_,_,_=>none
 |k+1,x0,x1,x8,x9=>if x9<x8 then(if 0≤x9 then(if x9<(x0.size:Int)then((iq.f (bt x0 x9)).bind fun t366=>(if t366=true then(bN.j1 k x0 x1 x9 x8 x9 true)else(if(bt x0 x9)≥65 then(if(bt x0 x9)≤90 then(bN.j1 k x0 x1 x9 x8 x9 true)else(bN.j1 k x0 x1 x9 x8 x9 ((bt x0 x9)==0)))else(bN.j1 k x0 x1 x9 x8 x9 ((bt x0 x9)==0)))))else(none))else(none))else(some (x0.toList !=([] :List UInt8)))
def bN.j1:Nat→ByteArray→ByteArray→Int→Int→Int→Bool→Option (Bool)
 |0,_,_,_,_,_,_=>none
 |k+1,x0,x1,x5,x8,x9,x33=>if x33=true then(some false)else(bN.l1 k x0 x1 x5 x8 x9 (x1.size:Int) 0)
def bN.l1:Nat→ByteArray→ByteArray→Int→Int→Int→Int→Int→Option (Bool)
 |0,_,_,_,_,_,_,_=>none
 |k+1,x0,x1,x5,x8,x9,x35,x36=>if x36<x35 then(if 0≤x5 then(if x5<(x0.size:Int)then(if 0≤x36 then(if x36<(x1.size:Int)then(if(bt x0 x5)=(bt x1 x36)then(some false)else(bN.l1 k x0 x1 x5 x8 x9 x35 (wrap64 (x36+1))))else(none))else(none))else(none))else(none))else(bN.l0 k x0 x1 x8 (wrap64 (x9+1)))
end
def bN.f(k:Nat)(a0 a1:ByteArray):Option (Bool):=bN.l0 k a0 a1 (a0.size:Int) 0
theorem bN.calls(k:Nat)(a0 a1:ByteArray)(r:Bool)(w:World)(h:bN.f k a0 a1=some r):
 Calls Tryz.prog 79 #[.string a0,.string a1] w fun e w'=>e=.returned (.bool r)∧bP w w':=by
 have H:(bN.l0 k a0 a1 (a0.size:Int) 0)=some r:=h;clear h;have H':=ak.mk H;clear H;go_enter Tryz.func79,Tryz.ntmps79;go_wp2
 repeat(go_quiet (fail);try go_wp2)
 go_loopg [9] k (fun kq v9 w'=>∃(dw:Int),v9=.int .i64 dw∧ak (bN.l0 kq a0 a1 (a0.size:Int) dw=some r)∧ak (kq≤k)∧bP w w')
 case atStart=>exact⟨(0),q'c,H',⟨Nat.le_refl _⟩,by repeat(first|exact bP.refl _|apply bP.step)⟩
 case round=>
  clear H'
  try clear p2
  obtain⟨dw,rfl,HA,HK1,⟨m1,rfl⟩⟩:=hrel;cases gk with
  |zero=>exact absurd HA.out (by simp[bN.l0])
  |succ k1=>
   have H:=HA.out;clear HA;simp only[bN.l0]at H
   by_cases c3:dw<(a0.size:Int)
   ·rw[if_pos c3]at H
    have nM:decide (dw<(a0.size:Int))=true:=decide_eq_true c3;clear c3;have HC4:=ak.mk H;clear H
    go_upto_region 4 with(fail)
    repeat(go_quiet (fail);go_upto_region 4 with(fail))
    go_cut [33] (fun v33 wc=>∃(kq:Nat) (x33_3:Bool),v33=.bool x33_3∧ak (bN.j1 kq a0 a1 dw (a0.size:Int) dw x33_3=some r)∧ak (kq≤k1)∧bP w wc)
    case first=>
     have H:=HC4.out;clear HC4
     by_cases c5:0≤dw
     ·rw[if_pos c5]at H
      have uJ:decide (0≤dw)=true:=decide_eq_true c5;clear c5
      (first|rw[uJ] |(simp only[oO,oP];rw[uJ])|skip)
      by_cases c6:dw<(a0.size:Int)
      ·rw[if_pos c6]at H
       have zL:decide (dw<(a0.size:Int))=true:=decide_eq_true c6;clear c6;replace H:=Option.bind_eq_some_iff.mp H;obtain⟨t366,A80,H⟩:=H;replace H:(if t366=true then(bN.j1 k1 a0 a1 dw (a0.size:Int) dw true)else(if(bt a0 dw)≥65 then(if(bt a0 dw)≤90 then(bN.j1 k1 a0 a1 dw (a0.size:Int) dw true)else(bN.j1 k1 a0 a1 dw (a0.size:Int) dw ((bt a0 dw)==0)))else(bN.j1 k1 a0 a1 dw (a0.size:Int) dw ((bt a0 dw)==0))))=some r:=H;have A8:=ak.mk A80;clear A80
       by_cases c9:t366=true
       ·subst c9
        have H1:(bN.j1 k1 a0 a1 dw (a0.size:Int) dw true)=some r:=by rw[if_pos rfl]at H;exact H
        clear H;have H:=H1;clear H1;have H':=ak.mk H;clear H;have p7:0≤(dw:Int):=q'b;have q7:dw<(a0.size:Int):=q'b;have hx7:=jT a0 dw;replace p7:=eq_true p7;replace q7:=eq_true q7
        go_wp2_with(first|(go_at_call 128;(with_reducible refine(iq.calls (bt a0 dw) true _ A8.out).mono ?_);rintro e w' ⟨rfl,⟨nd,rfl⟩⟩;(try first|exact⟨rfl,_,World.drewN_drewN _ _ _⟩|exact⟨rfl,_,Eq.trans (World.drewN_drewN _ _ _) (congrArg (World.drewN _) (Nat.add_assoc _ _ _))⟩)))
        repeat(go_quiet (first|(go_at_call 128;(with_reducible refine(iq.calls (bt a0 dw) true _ A8.out).mono ?_);rintro e w' ⟨rfl,⟨nd,rfl⟩⟩;(try first|exact⟨rfl,_,World.drewN_drewN _ _ _⟩|exact⟨rfl,_,Eq.trans (World.drewN_drewN _ _ _) (congrArg (World.drewN _) (Nat.add_assoc _ _ _))⟩)));try go_wp2_with(first|(go_at_call 128;(with_reducible refine(iq.calls (bt a0 dw) true _ A8.out).mono ?_);rintro e w' ⟨rfl,⟨nd,rfl⟩⟩;(try first|exact⟨rfl,_,World.drewN_drewN _ _ _⟩|exact⟨rfl,_,Eq.trans (World.drewN_drewN _ _ _) (congrArg (World.drewN _) (Nat.add_assoc _ _ _))⟩))))
        go_meet
        case rel=>exact⟨_,(true),q'c,H',⟨by have:=HK1.out;first|omega|exact Nat.le_refl _⟩,by repeat(first|exact bP.refl _|apply bP.step)⟩
       ·replace c9:=Bool.eq_false_iff.mpr c9
        subst c9;have H1:(if(bt a0 dw)≥65 then(if(bt a0 dw)≤90 then(bN.j1 k1 a0 a1 dw (a0.size:Int) dw true)else(bN.j1 k1 a0 a1 dw (a0.size:Int) dw ((bt a0 dw)==0)))else(bN.j1 k1 a0 a1 dw (a0.size:Int) dw ((bt a0 dw)==0)))=some r:=by rw[if_neg (show¬(false=true) by decide)]at H;first|exact H|(simp only[eq_self]at H⊢;exact H)|(simp only[eq_self,if_true]at H⊢;exact H)
        clear H;have H:=H1;clear H1
        by_cases c11:(bt a0 dw)≥65
        ·rw[if_pos c11]at H
         have c11b0:decide (65≤(bt a0 dw))=true:=decide_eq_true c11;clear c11
         by_cases c13:(bt a0 dw)≤90
         ·rw[if_pos c13]at H
          have uH:decide ((bt a0 dw)≤90)=true:=decide_eq_true c13;clear c13;have H':=ak.mk H;clear H;have p7:0≤(dw:Int):=q'b;have q7:dw<(a0.size:Int):=q'b;have hx7:=jT a0 dw;replace p7:=eq_true p7;replace q7:=eq_true q7
          go_wp2_with(first|(go_at_call 128;(with_reducible refine(iq.calls (bt a0 dw) false _ A8.out).mono ?_);rintro e w' ⟨rfl,⟨nd,rfl⟩⟩;(try first|exact⟨rfl,_,World.drewN_drewN _ _ _⟩|exact⟨rfl,_,Eq.trans (World.drewN_drewN _ _ _) (congrArg (World.drewN _) (Nat.add_assoc _ _ _))⟩);have p10:0≤(dw:Int):=q'b;have q10:dw<(a0.size:Int):=q'b;have hx10:=jT a0 dw;replace p10:=eq_true p10;replace q10:=eq_true q10;have p12:0≤(dw:Int):=q'b;have q12:dw<(a0.size:Int):=q'b;have hx12:=jT a0 dw;replace p12:=eq_true p12;replace q12:=eq_true q12))
          repeat(go_quiet (first|(go_at_call 128;(with_reducible refine(iq.calls (bt a0 dw) false _ A8.out).mono ?_);rintro e w' ⟨rfl,⟨nd,rfl⟩⟩;(try first|exact⟨rfl,_,World.drewN_drewN _ _ _⟩|exact⟨rfl,_,Eq.trans (World.drewN_drewN _ _ _) (congrArg (World.drewN _) (Nat.add_assoc _ _ _))⟩);have p10:0≤(dw:Int):=q'b;have q10:dw<(a0.size:Int):=q'b;have hx10:=jT a0 dw;replace p10:=eq_true p10;replace q10:=eq_true q10;have p12:0≤(dw:Int):=q'b;have q12:dw<(a0.size:Int):=q'b;have hx12:=jT a0 dw;replace p12:=eq_true p12;replace q12:=eq_true q12));try go_wp2_with(first|(go_at_call 128;(with_reducible refine(iq.calls (bt a0 dw) false _ A8.out).mono ?_);rintro e w' ⟨rfl,⟨nd,rfl⟩⟩;(try first|exact⟨rfl,_,World.drewN_drewN _ _ _⟩|exact⟨rfl,_,Eq.trans (World.drewN_drewN _ _ _) (congrArg (World.drewN _) (Nat.add_assoc _ _ _))⟩);have p10:0≤(dw:Int):=q'b;have q10:dw<(a0.size:Int):=q'b;have hx10:=jT a0 dw;replace p10:=eq_true p10;replace q10:=eq_true q10;have p12:0≤(dw:Int):=q'b;have q12:dw<(a0.size:Int):=q'b;have hx12:=jT a0 dw;replace p12:=eq_true p12;replace q12:=eq_true q12)))
          go_meet
          case rel=>exact⟨_,(true),q'c,H',⟨by have:=HK1.out;first|omega|exact Nat.le_refl _⟩,by repeat(first|exact bP.refl _|apply bP.step)⟩
         ·rw[if_neg c13]at H
          have uH:decide ((bt a0 dw)≤90)=false:=decide_eq_false c13;clear c13;have H':=ak.mk H;clear H;have p7:0≤(dw:Int):=q'b;have q7:dw<(a0.size:Int):=q'b;have hx7:=jT a0 dw;replace p7:=eq_true p7;replace q7:=eq_true q7
          go_wp2_with(first|(go_at_call 128;(with_reducible refine(iq.calls (bt a0 dw) false _ A8.out).mono ?_);rintro e w' ⟨rfl,⟨nd,rfl⟩⟩;(try first|exact⟨rfl,_,World.drewN_drewN _ _ _⟩|exact⟨rfl,_,Eq.trans (World.drewN_drewN _ _ _) (congrArg (World.drewN _) (Nat.add_assoc _ _ _))⟩);have p10:0≤(dw:Int):=q'b;have q10:dw<(a0.size:Int):=q'b;have hx10:=jT a0 dw;replace p10:=eq_true p10;replace q10:=eq_true q10;have p12:0≤(dw:Int):=q'b;have q12:dw<(a0.size:Int):=q'b;have hx12:=jT a0 dw;replace p12:=eq_true p12;replace q12:=eq_true q12;have p14:0≤(dw:Int):=q'b;have q14:dw<(a0.size:Int):=q'b;have hx14:=jT a0 dw;replace p14:=eq_true p14;replace q14:=eq_true q14))
          repeat(go_quiet (first|(go_at_call 128;(with_reducible refine(iq.calls (bt a0 dw) false _ A8.out).mono ?_);rintro e w' ⟨rfl,⟨nd,rfl⟩⟩;(try first|exact⟨rfl,_,World.drewN_drewN _ _ _⟩|exact⟨rfl,_,Eq.trans (World.drewN_drewN _ _ _) (congrArg (World.drewN _) (Nat.add_assoc _ _ _))⟩);have p10:0≤(dw:Int):=q'b;have q10:dw<(a0.size:Int):=q'b;have hx10:=jT a0 dw;replace p10:=eq_true p10;replace q10:=eq_true q10;have p12:0≤(dw:Int):=q'b;have q12:dw<(a0.size:Int):=q'b;have hx12:=jT a0 dw;replace p12:=eq_true p12;replace q12:=eq_true q12;have p14:0≤(dw:Int):=q'b;have q14:dw<(a0.size:Int):=q'b;have hx14:=jT a0 dw;replace p14:=eq_true p14;replace q14:=eq_true q14));try go_wp2_with(first|(go_at_call 128;(with_reducible refine(iq.calls (bt a0 dw) false _ A8.out).mono ?_);rintro e w' ⟨rfl,⟨nd,rfl⟩⟩;(try first|exact⟨rfl,_,World.drewN_drewN _ _ _⟩|exact⟨rfl,_,Eq.trans (World.drewN_drewN _ _ _) (congrArg (World.drewN _) (Nat.add_assoc _ _ _))⟩);have p10:0≤(dw:Int):=q'b;have q10:dw<(a0.size:Int):=q'b;have hx10:=jT a0 dw;replace p10:=eq_true p10;replace q10:=eq_true q10;have p12:0≤(dw:Int):=q'b;have q12:dw<(a0.size:Int):=q'b;have hx12:=jT a0 dw;replace p12:=eq_true p12;replace q12:=eq_true q12;have p14:0≤(dw:Int):=q'b;have q14:dw<(a0.size:Int):=q'b;have hx14:=jT a0 dw;replace p14:=eq_true p14;replace q14:=eq_true q14)))
          go_meet
          case rel=>exact⟨_,(((bt a0 dw)==0)),q'c,H',⟨by have:=HK1.out;first|omega|exact Nat.le_refl _⟩,by repeat(first|exact bP.refl _|apply bP.step)⟩
        ·rw[if_neg c11]at H
         have c11b0:decide (65≤(bt a0 dw))=false:=decide_eq_false c11;clear c11;have H':=ak.mk H;clear H;have p7:0≤(dw:Int):=q'b;have q7:dw<(a0.size:Int):=q'b;have hx7:=jT a0 dw;replace p7:=eq_true p7;replace q7:=eq_true q7
         go_wp2_with(first|(go_at_call 128;(with_reducible refine(iq.calls (bt a0 dw) false _ A8.out).mono ?_);rintro e w' ⟨rfl,⟨nd,rfl⟩⟩;(try first|exact⟨rfl,_,World.drewN_drewN _ _ _⟩|exact⟨rfl,_,Eq.trans (World.drewN_drewN _ _ _) (congrArg (World.drewN _) (Nat.add_assoc _ _ _))⟩);have p10:0≤(dw:Int):=q'b;have q10:dw<(a0.size:Int):=q'b;have hx10:=jT a0 dw;replace p10:=eq_true p10;replace q10:=eq_true q10;have p15:0≤(dw:Int):=q'b;have q15:dw<(a0.size:Int):=q'b;have hx15:=jT a0 dw;replace p15:=eq_true p15;replace q15:=eq_true q15))
         repeat(go_quiet (first|(go_at_call 128;(with_reducible refine(iq.calls (bt a0 dw) false _ A8.out).mono ?_);rintro e w' ⟨rfl,⟨nd,rfl⟩⟩;(try first|exact⟨rfl,_,World.drewN_drewN _ _ _⟩|exact⟨rfl,_,Eq.trans (World.drewN_drewN _ _ _) (congrArg (World.drewN _) (Nat.add_assoc _ _ _))⟩);have p10:0≤(dw:Int):=q'b;have q10:dw<(a0.size:Int):=q'b;have hx10:=jT a0 dw;replace p10:=eq_true p10;replace q10:=eq_true q10;have p15:0≤(dw:Int):=q'b;have q15:dw<(a0.size:Int):=q'b;have hx15:=jT a0 dw;replace p15:=eq_true p15;replace q15:=eq_true q15));try go_wp2_with(first|(go_at_call 128;(with_reducible refine(iq.calls (bt a0 dw) false _ A8.out).mono ?_);rintro e w' ⟨rfl,⟨nd,rfl⟩⟩;(try first|exact⟨rfl,_,World.drewN_drewN _ _ _⟩|exact⟨rfl,_,Eq.trans (World.drewN_drewN _ _ _) (congrArg (World.drewN _) (Nat.add_assoc _ _ _))⟩);have p10:0≤(dw:Int):=q'b;have q10:dw<(a0.size:Int):=q'b;have hx10:=jT a0 dw;replace p10:=eq_true p10;replace q10:=eq_true q10;have p15:0≤(dw:Int):=q'b;have q15:dw<(a0.size:Int):=q'b;have hx15:=jT a0 dw;replace p15:=eq_true p15;replace q15:=eq_true q15)))
         go_meet
         case rel=>exact⟨_,(((bt a0 dw)==0)),q'c,H',⟨by have:=HK1.out;first|omega|exact Nat.le_refl _⟩,by repeat(first|exact bP.refl _|apply bP.step)⟩
      ·rw[if_neg c6]at H
       exact absurd H (by simp)
     ·rw[if_neg c5]at H
      exact absurd H (by simp)
    case rest=>
     clear HC4
     try clear c1
     try clear p1
     try clear q1
     try clear hx1
     try clear p2
     try clear c3
     try clear nM
     try clear c5
     try clear uJ
     try clear c6
     try clear zL
     try clear c7
     try clear p7
     try clear q7
     try clear hx7
     try clear c9
     try clear p10
     try clear q10
     try clear hx10
     try clear c11
     try clear c11b0
     try clear p12
     try clear q12
     try clear hx12
     try clear c13
     try clear uH
     try clear p14
     try clear q14
     try clear hx14
     try clear p15
     try clear q15
     try clear hx15
     try clear p10
     try clear p12
     try clear p14
     try clear p15
     try clear p2
     try clear p7
     try clear q10
     try clear q12
     try clear q14
     try clear q15
     try clear q7
     obtain⟨kq,x33_3,rfl,HA,HJ3,⟨mc3,rfl⟩⟩:=hcut;cases kq with
     |zero=>exact absurd HA.out (by simp[bN.j1])
     |succ kj3=>
      have H:=HA.out;clear HA;simp only[bN.j1]at H
      by_cases c16:x33_3=true
      ·subst c16
       have H1:(some false)=some r:=by rw[if_pos rfl]at H;exact H
       clear H;have H:=H1;clear H1;obtain rfl:=Option.some.inj H;go_wp2
       repeat(go_quiet (fail);try go_wp2)
       go_ret;exact⟨q'c,by repeat(first|exact bP.refl _|apply bP.step)⟩
      ·replace c16:=Bool.eq_false_iff.mpr c16
       subst c16;have H1:(bN.l1 kj3 a0 a1 dw (a0.size:Int) dw (a1.size:Int) 0)=some r:=by rw[if_neg (show¬(false=true) by decide)]at H;first|exact H|(simp only[eq_self]at H⊢;exact H)|(simp only[eq_self,if_true]at H⊢;exact H)
       clear H;have H:=H1;clear H1;have H':=ak.mk H;clear H;go_wp2
       repeat(go_quiet (fail);try go_wp2)
       go_loopg [36] kj3 (fun kq v36 w'=>∃(nJ:Int),v36=.int .i64 nJ∧ak (bN.l1 kq a0 a1 dw (a0.size:Int) dw (a1.size:Int) nJ=some r)∧ak (kq≤kj3)∧bP w w')
       case atStart=>exact⟨(0),q'c,H',⟨Nat.le_refl _⟩,by repeat(first|exact bP.refl _|apply bP.step)⟩
       case round=>
        clear H'
        try clear c1
        try clear p1
        try clear q1
        try clear hx1
        try clear p2
        try clear c3
        try clear nM
        try clear c5
        try clear uJ
        try clear c6
        try clear zL
        try clear c7
        try clear p7
        try clear q7
        try clear hx7
        try clear c9
        try clear p10
        try clear q10
        try clear hx10
        try clear c11
        try clear c11b0
        try clear p12
        try clear q12
        try clear hx12
        try clear c13
        try clear uH
        try clear p14
        try clear q14
        try clear hx14
        try clear p15
        try clear q15
        try clear hx15
        try clear c16
        try clear p1
        try clear p10
        try clear p12
        try clear p14
        try clear p15
        try clear p2
        try clear p7
        try clear q1
        try clear q10
        try clear q12
        try clear q14
        try clear q15
        try clear q7
        obtain⟨nJ,rfl,HA,HK3,⟨m3,rfl⟩⟩:=hrel;cases gk with
        |zero=>exact absurd HA.out (by simp[bN.l1])
        |succ k3=>
         have H:=HA.out;clear HA;simp only[bN.l1]at H
         by_cases c17:nJ<(a1.size:Int)
         ·rw[if_pos c17]at H
          have c17b0:decide (nJ<(a1.size:Int))=true:=decide_eq_true c17;clear c17
          by_cases c18:0≤dw
          ·rw[if_pos c18]at H
           have c18b0:decide (0≤dw)=true:=decide_eq_true c18;clear c18
           by_cases c19:dw<(a0.size:Int)
           ·rw[if_pos c19]at H
            have EB:decide (dw<(a0.size:Int))=true:=decide_eq_true c19;clear c19
            by_cases c21:0≤nJ
            ·rw[if_pos c21]at H
             have c21b0:decide (0≤nJ)=true:=decide_eq_true c21;clear c21
             by_cases c22:nJ<(a1.size:Int)
             ·rw[if_pos c22]at H
              have c22b0:decide (nJ<(a1.size:Int))=true:=decide_eq_true c22;clear c22
              by_cases c24:(bt a0 dw)=(bt a1 nJ)
              ·rw[if_pos c24]at H
               have c24b0:((bt a0 dw)==(bt a1 nJ))=true:=beq_iff_eq.mpr c24;have c24b1:((bt a0 dw) !=(bt a1 nJ))=false:=bne_eq_false_iff_eq.mpr c24;clear c24;obtain rfl:=Option.some.inj H;have p20:0≤(dw:Int):=q'b;have q20:dw<(a0.size:Int):=q'b;have hx20:=jT a0 dw;replace p20:=eq_true p20;replace q20:=eq_true q20;have p23:0≤(nJ:Int):=q'b;have q23:nJ<(a1.size:Int):=q'b;have hx23:=jT a1 nJ;replace p23:=eq_true p23;replace q23:=eq_true q23;go_wp2
               repeat(go_quiet (fail);try go_wp2)
               go_ret;exact⟨q'c,by repeat(first|exact bP.refl _|apply bP.step)⟩
              ·rw[if_neg c24]at H
               have c24b0:((bt a0 dw)==(bt a1 nJ))=false:=beq_eq_false_iff_ne.mpr c24;have c24b1:((bt a0 dw) !=(bt a1 nJ))=true:=bne_iff_ne.mpr c24;have H':=ak.mk H;clear H;have p20:0≤(dw:Int):=q'b;have q20:dw<(a0.size:Int):=q'b;have hx20:=jT a0 dw;replace p20:=eq_true p20;replace q20:=eq_true q20;have p23:0≤(nJ:Int):=q'b;have q23:nJ<(a1.size:Int):=q'b;have hx23:=jT a1 nJ;replace p23:=eq_true p23;replace q23:=eq_true q23;go_wp2
               repeat(go_quiet (fail);try go_wp2)
               go_roundg k3
               case measure=>have:=HK1.out;have:=HJ3.out;have:=HK3.out;omega
               case rel=>exact⟨(wrap64 (nJ+1)),q'c,H',⟨by have:=HK1.out;have:=HJ3.out;have:=HK3.out;omega⟩,by repeat(first|exact bP.refl _|apply bP.step)⟩
             ·rw[if_neg c22]at H
              exact absurd H (by simp)
            ·rw[if_neg c21]at H
             exact absurd H (by simp)
           ·rw[if_neg c19]at H
            exact absurd H (by simp)
          ·rw[if_neg c18]at H
           exact absurd H (by simp)
         ·rw[if_neg c17]at H
          have c17b0:decide (nJ<(a1.size:Int))=false:=decide_eq_false c17;clear c17;have H':=ak.mk H;clear H;go_wp2
          repeat(go_quiet (fail);try go_wp2)
          go_roundg k3
          case measure=>have:=HK1.out;have:=HJ3.out;have:=HK3.out;omega
          case rel=>exact⟨(wrap64 (dw+1)),q'c,H',⟨by have:=HK1.out;have:=HJ3.out;have:=HK3.out;omega⟩,by repeat(first|exact bP.refl _|apply bP.step)⟩
   ·rw[if_neg c3]at H
    have nM:decide (dw<(a0.size:Int))=false:=decide_eq_false c3;clear c3;obtain rfl:=Option.some.inj H;go_wp2
    repeat(go_quiet (fail);try go_wp2)
    go_ret;exact⟨q'c,by repeat(first|exact bP.refl _|apply bP.step)⟩
def jU.f(a0:Int):Option (Bool):=if a0≥97 then(if a0≤122 then(some true)else(if a0≥65 then(some (decide (a0≤90)))else(some false)))else(if a0≥65 then(some (decide (a0≤90)))else(some false))
theorem jU.calls(a0:Int)(r:Bool)(w:World)(h:jU.f a0=some r):
 Calls Tryz.prog 80 #[.int .u8 a0] w fun e w'=>e=.returned (.bool r)∧bP w w':=by
 have H:(if a0≥97 then(if a0≤122 then(some true)else(if a0≥65 then(some (decide (a0≤90)))else(some false)))else(if a0≥65 then(some (decide (a0≤90)))else(some false)))=some r:=h;clear h
 by_cases c2:a0≥97
 ·rw[if_pos c2]at H
  have Dh:decide (97≤a0)=true:=decide_eq_true c2;clear c2
  by_cases c3:a0≤122
  ·rw[if_pos c3]at H
   have nM:decide (a0≤122)=true:=decide_eq_true c3;clear c3;obtain rfl:=Option.some.inj H;go_enter Tryz.func80,Tryz.ntmps80;go_wp2;go_ret;exact⟨q'c,by repeat(first|exact bP.refl _|apply bP.step)⟩
  ·rw[if_neg c3]at H
   have nM:decide (a0≤122)=false:=decide_eq_false c3;clear c3
   by_cases c4:a0≥65
   ·rw[if_pos c4]at H
    have mZ:decide (65≤a0)=true:=decide_eq_true c4;clear c4;obtain rfl:=Option.some.inj H;go_enter Tryz.func80,Tryz.ntmps80;go_wp2;go_ret;exact⟨q'c,by repeat(first|exact bP.refl _|apply bP.step)⟩
   ·rw[if_neg c4]at H
    have mZ:decide (65≤a0)=false:=decide_eq_false c4;clear c4;obtain rfl:=Option.some.inj H;go_enter Tryz.func80,Tryz.ntmps80;go_wp2;go_ret;exact⟨q'c,by repeat(first|exact bP.refl _|apply bP.step)⟩
 ·rw[if_neg c2]at H
  have Dh:decide (97≤a0)=false:=decide_eq_false c2;clear c2
  by_cases c5:a0≥65
  ·rw[if_pos c5]at H
   have uJ:decide (65≤a0)=true:=decide_eq_true c5;clear c5;obtain rfl:=Option.some.inj H;go_enter Tryz.func80,Tryz.ntmps80;go_wp2;go_ret;exact⟨q'c,by repeat(first|exact bP.refl _|apply bP.step)⟩
  ·rw[if_neg c5]at H
   have uJ:decide (65≤a0)=false:=decide_eq_false c5;clear c5;obtain rfl:=Option.some.inj H;go_enter Tryz.func80,Tryz.ntmps80;go_wp2;go_ret;exact⟨q'c,by repeat(first|exact bP.refl _|apply bP.step)⟩
end Go.Proofs.aj.W7
