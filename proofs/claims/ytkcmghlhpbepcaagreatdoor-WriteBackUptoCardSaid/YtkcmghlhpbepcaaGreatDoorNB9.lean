/- Lemmas and walks, part 9. -/
import Derived.Test.YtkcmghlhpbepcaaGreatDoorNB8
set_option linter.unusedVariables false
set_option linter.unusedSimpArgs false
set_option maxHeartbeats 8000000
set_option maxRecDepth 100000
namespace Go.Proofs.aj.W7
open Go.RowKit Go.Shelf Go.Proofs Go.Proofs.YtkcmghlhpbepcaaGreatDoor
attribute [local go_sem] Oper.semAt_some
theorem has_c(A:Option Addr)(c:Nat)(xs:List ByteArray)(x:ByteArray)(w:World)(h:Strs w A xs):
 Calls Tryz.prog 114 #[.slice A xs.length c,.string x] w fun e w'=>e=.returned (.bool (Lib.containsS xs x))∧w'=w:=by
 rcases str_at h with rfl|⟨g,o,rfl,hc⟩
 ·exact Tryz.slices_Contains_string_empty A c x w
 ·have:=Tryz.slices_Contains_string g o xs.length c xs x w (Nat.le_refl _) h.2.1 hc
  rwa [List.take_length]at this
theorem back_in(n:Nat)(A:Option Addr)(len c:Nat)(w:World):
 CallsIn Fence.wide n Tryz.prog 127 #[.slice A len c] w fun e w'=>e=.returned (.func (.func 172) #[] #[.pointer (some ⟨w.heap.size,0,none⟩)])∧w'=w.alloc (.cells #[.slice A len c] 41):=by
 refine callsIn_of_wp Tryz.func127 rfl trivial ?_ rfl;simp only[Tryz.ntmps127,List.size_toArray,List.length_cons,List.length_nil,Nat.reduceAdd,Nat.reduceSub,Array.replicate_succ,Array.replicate_zero,List.push_toArray,List.append_toArray,List.nil_append,List.cons_append]
 gi_wp2
 go_ret;exact⟨rfl,rfl⟩
theorem LX(n:Nat)(hn:1≤n)(B1:Nat)(A:Option Addr)(c:Nat)(xs:List ByteArray)(w0 w:World)(hr:Strs w0 A xs)(hB:Below w0.heap.size w0 w)(b1:Boxed w B1 41 (.slice A xs.length c)):
 SeqStopsK Fence.wide n Tryz.prog 172 #[.pointer (some ⟨B1,0,none⟩)] (fun x:IxS=>#[Value.int .i64 (x.1:Nat),.string x.2]) (KpB 41 w0.heap.size B1 (.slice A xs.length c)) (fun ys=>ys=tO xs xs.length) (fun pre=>∃k,k≤xs.length∧pre=tO xs k) xs.length w:=fun l J Jx W hW _ _ hY h0=>
 back1_in n hn l B1 A c xs w0 hr J Jx hY W (hB.trans (hW.mono hB.size)) ((hW.block B1 b1.lt).trans b1) h0
def fP(xs some_ walls:List ByteArray):Nat→Int
 |0=> -1
 |k+1=>if Lib.containsS some_ (xs.getD k ⟨#[]⟩)then(k:Int)else if Lib.containsS walls (xs.getD k ⟨#[]⟩)then -1 else fP xs some_ walls k
def freeB(some_ walls:List ByteArray)(pre:List IxS):Prop:=∀p∈pre,Lib.containsS some_ p.2=false∧Lib.containsS walls p.2=false
theorem za(xs some_ walls:List ByteArray):∀k,k≤xs.length→freeB some_ walls (tO xs k)→fP xs some_ walls xs.length=fP xs some_ walls (xs.length - k)
 |0,_,_=>by rw[Nat.sub_zero]
 |k+1,hk,h=>by
  rw[ze]at h;have h1:=h (xs.length - 1 - k,xs.getD (xs.length - 1 - k) ⟨#[]⟩) (by simp);have ih:=za xs some_ walls k (by omega) (fun p hp=>h p (List.mem_append_left _ hp));obtain⟨m,hm⟩:∃m,xs.length - k=m+1:=⟨xs.length - k - 1,by omega⟩
  have hm2:xs.length - (k+1)=m:=by omega
  have hm3:xs.length - 1 - k=m:=by omega
  rw[hm3]at h1;rw[ih,hm,hm2];simp only[fP,h1.1,h1.2];rfl
theorem LY(xs some_ walls:List ByteArray)(k:Nat)(hk:k≤xs.length)(pre':List IxS)(x:IxS)(res:Int)(h:tO xs k=pre'++[x])(hf:freeB some_ walls pre')
 (hc:(Lib.containsS some_ x.2=true∧res=x.1)∨(Lib.containsS some_ x.2=false∧Lib.containsS walls x.2=true∧res= -1)):fP xs some_ walls xs.length=res:=by
 cases k with
 |zero=>simp[tO]at h
 |succ m=>
  rw[ze]at h;obtain⟨h1,h2⟩:=List.append_inj' h rfl;have h3:=(List.cons.inj h2).1;subst h1;subst h3;rw[za xs some_ walls m (by omega) hf];obtain⟨q,hq⟩:∃q,xs.length - m=q+1:=⟨xs.length - m - 1,by omega⟩
  have hq2:xs.length - 1 - m=q:=by omega
  rw[hq2]at hc;rw[hq]
  rcases hc with⟨c1,rfl⟩|⟨c1,c2,rfl⟩
  ·simp only[fP,c1]
   rfl
  ·simp only[fP,c1,c2]
   rfl
theorem zT{X:World}{B q:Nat}{t:TypeId}{v:Value}{row:Option Nat}(h:Boxed X B t v)(hr:∀r,row=some r→q≤r∧∃o:Obj,X.heap[r]?=some o∧o.isCells=false):some B≠row:=fun e=>by
 obtain⟨_,o,ho,hc⟩:=hr B e.symm;rw[show X.heap[B]?=_ from h]at ho;cases ho;cases hc
def fI(w:World)(V1 V2:Value)(ys zs:List ByteArray)(pre:List IxS)(W:World):Prop:=
 (Boxed W w.heap.size 41 V1∧Boxed W (w.heap.size+1) 41 V2∧Boxed W (w.heap.size+1+1) 3 (.int .i64 0)∧freeB ys zs pre)∧Below w.heap.size w W
def fX(w:World)(ys zs:List ByteArray)(c:Code)(pre:List IxS)(W:World):Prop:=
 (c=.ret∧∃(res:Int) (pre':List IxS) (x:IxS),Boxed W (w.heap.size+1+1) 3 (.int .i64 res)∧pre=pre'++[x]∧freeB ys zs pre'∧((Lib.containsS ys x.2=true∧res=x.1)∨(Lib.containsS ys x.2=false∧Lib.containsS zs x.2=true∧res= -1)))∧Below w.heap.size w W
theorem fI_own(w:World)(B:Nat)(hB:w.heap.size≤B)(V1 V2:Value)(ys zs:List ByteArray):OwnFrom B (fI w V1 V2 ys zs):=
 OwnFrom.and (fun s X Y row h hg hr=>⟨h.1.kept hg (zT h.1 hr),h.2.1.kept hg (zT h.2.1 hr),h.2.2.1.kept hg (zT h.2.2.1 hr),h.2.2.2⟩) (ownFrom_below (Nat.le_refl _) hB)
theorem fX_own(w:World)(B:Nat)(hB:w.heap.size≤B)(ys zs:List ByteArray)(c:Code):OwnFrom B (fX w ys zs c):=
 OwnFrom.and (fun s X Y row h hg hr=>by
  obtain⟨hc,res,pre',x,hb,r⟩:=h;exact⟨hc,res,pre',x,hb.kept hg (zT hb hr),r⟩) (ownFrom_below (Nat.le_refl _) hB)
theorem found_in(n:Nat)(hn:3≤n)(A0 A1 A2:Option Addr)(c0 c1 c2:Nat)(xs ys zs:List ByteArray)(w:World)(h0:Strs w A0 xs)(h1s:Strs w A1 ys)(h2s:Strs w A2 zs):
 CallsIn Fence.wide n Tryz.prog 77 #[.slice A0 xs.length c0,.slice A1 ys.length c1,.slice A2 zs.length c2] w fun e w'=>e=.returned (.int .i64 (fP xs ys zs xs.length))∧Below w.heap.size w w':=by
 have h1:1≤n:=by omega
 have hfn:Fence.wide.fn 127:=trivial;have hfn2:Fence.wide.fn 114:=trivial;refine callsIn_of_wp_marks Tryz.func77 rfl trivial ?_ rfl;simp only[Tryz.ntmps77,List.size_toArray,List.length_cons,List.length_nil,Nat.reduceAdd,Nat.reduceSub,Array.replicate_succ,Array.replicate_zero,List.push_toArray,List.append_toArray,List.nil_append,List.cons_append]
 gi_wp2_with (gi_at_call 127;refine(back_in _ _ _ _ _).mono ?_;rintro e w' ⟨rfl,rfl⟩)
 have HB0:Below w.heap.size w ((((w.alloc (.cells #[.slice A1 ys.length c1] 41)).alloc (.cells #[.slice A2 zs.length c2] 41)).alloc (.cells #[.int .i64 0] 3)).alloc (.cells #[.slice A0 xs.length c0] 41)):=((((Below.refl _ w).alloc (Nat.le_refl _) _).alloc (by simp) _).alloc (by simp;omega) _).alloc (by simp;omega) _;have b1:=Boxed.new w 41 (.slice A1 ys.length c1)
 have b2:Boxed ((w.alloc (.cells #[.slice A1 ys.length c1] 41)).alloc (.cells #[.slice A2 zs.length c2] 41)) (w.heap.size+1) 41 (.slice A2 zs.length c2):=by
  have h:=Boxed.new (w.alloc (.cells #[.slice A1 ys.length c1] 41)) 41 (.slice A2 zs.length c2);rw[World.size_alloc]at h;exact h
 have b3:Boxed (((w.alloc (.cells #[.slice A1 ys.length c1] 41)).alloc (.cells #[.slice A2 zs.length c2] 41)).alloc (.cells #[.int .i64 0] 3)) (w.heap.size+1+1) 3 (.int .i64 0):=by
  have h:=Boxed.new ((w.alloc (.cells #[.slice A1 ys.length c1] 41)).alloc (.cells #[.slice A2 zs.length c2] 41)) 3 (.int .i64 0);rw[World.size_alloc,World.size_alloc]at h;exact h
 have b4:Boxed ((((w.alloc (.cells #[.slice A1 ys.length c1] 41)).alloc (.cells #[.slice A2 zs.length c2] 41)).alloc (.cells #[.int .i64 0] 3)).alloc (.cells #[.slice A0 xs.length c0] 41)) (w.heap.size+1+1+1) 41 (.slice A0 xs.length c0):=by
  have h:=Boxed.new (((w.alloc (.cells #[.slice A1 ys.length c1] 41)).alloc (.cells #[.slice A2 zs.length c2] 41)).alloc (.cells #[.int .i64 0] 3)) 41 (.slice A0 xs.length c0);rw[World.size_alloc,World.size_alloc,World.size_alloc]at h;exact h
 refine wpIn_rangeFunc_ownG rfl h1 (gf:=172) (lb:=#[.pointer (some ⟨w.heap.size+1+1+1,0,none⟩)]) rfl trivial (enters_of Tryz.func172 (by kernel_rfl) rfl)
  (LX (n - 1) (by omega) (w.heap.size+1+1+1) A0 c0 xs w _ h0 HB0 b4) (fun h k=>kpB_t h k) (kpB_b HB0.size b4.lt) (Below.refl _ _) (fun _=>rfl)
  (fI w (.slice A1 ys.length c1) (.slice A2 zs.length c2) ys zs) (fX w ys zs) (fI_own w _ HB0.size _ _ ys zs) (fX_own w _ HB0.size ys zs)
  ⟨⟨((b1.alloc _).alloc _).alloc _,(b2.alloc _).alloc _,b3.alloc _,fun p hp=>by cases hp⟩,HB0⟩
  ?a1 ?assign ?body ?done ?stop
 case assign=>
  intro l x W K hK
  gi_wp2
  exact hK
 case body=>
  rintro l pre x W ⟨⟨hb1,hb2,hb3,hfree⟩,hB⟩ hlt;have k1:=hb1.cell;have k2:=hb2.cell;have k3:=hb3.cell;have f3:=hb3.frozen;have LZ:=Lib.hid hfree;clear hfree;have hc1:=Lib.hid (callsIn_wide (n:=n - 1 - 1 - 1).2 (has_c A1 c1 ys x.2 W (Go.Proofs.ah.aD.Kd.eD h1s hB)));have hc2:=Lib.hid (callsIn_wide (n:=n - 1 - 1 - 1).2 (has_c A2 c2 zs x.2 W (Go.Proofs.ah.aD.Kd.eD h2s hB)));obtain⟨xi,xs'⟩:=x;dsimp only at hc1 hc2;have hd:1≤n - 1 - 1:=by omega
  have hfd:(Fence.wide.inRound l).fn 114:=trivial;cases e1:Lib.containsS ys xs'
  ·rw[e1]at hc1
   cases e2:Lib.containsS zs xs'
   ·rw[e2]at hc2
    gi_wp2_with (first|(gi_at_call 114;refine(CallsIn.inRound l hc1.out).mono ?_;rintro e w1 ⟨rfl,hw1⟩;rw[hw1];clear hc1)|(gi_at_call 114;refine(CallsIn.inRound l hc2.out).mono ?_;rintro e w2 ⟨rfl,hw2⟩;rw[hw2];clear hc2))
    exact⟨KeepsFrom.refl _ _,⟨Below.refl _ _,fun h=>h⟩,⟨hb1,hb2,hb3,fun p hp=>by
     rcases List.mem_append.1 hp with h|h
     ·exact LZ.out p h
     ·obtain rfl:=List.mem_singleton.1 h
      exact⟨e1,e2⟩⟩,hB⟩
   ·rw[e2]at hc2
    gi_wp2_with (first|(gi_at_call 114;refine(CallsIn.inRound l hc1.out).mono ?_;rintro e w1 ⟨rfl,hw1⟩;rw[hw1];clear hc1)|(gi_at_call 114;refine(CallsIn.inRound l hc2.out).mono ?_;rintro e w2 ⟨rfl,hw2⟩;rw[hw2];clear hc2))
    exact⟨(KeepsOthers.setCell _ _ _).from _,⟨rfl,-1,pre,(xi,xs'),hb3.set _,rfl,LZ.out,.inr ⟨e1,e2,rfl⟩⟩,hB.setCell (p:=⟨w.heap.size+1+1,0,none⟩) (by show w.heap.size≤w.heap.size+1+1;omega) _⟩
  ·rw[e1]at hc1
   gi_wp2_with (first|(gi_at_call 114;refine(CallsIn.inRound l hc1.out).mono ?_;rintro e w1 ⟨rfl,hw1⟩;rw[hw1];clear hc1)|(gi_at_call 114;refine(CallsIn.inRound l hc2.out).mono ?_;rintro e w2 ⟨rfl,hw2⟩;rw[hw2];clear hc2))
   exact⟨(KeepsOthers.setCell _ _ _).from _,⟨rfl,xi,pre,(xi,xs'),hb3.set _,rfl,LZ.out,.inl ⟨e1,rfl⟩⟩,hB.setCell (p:=⟨w.heap.size+1+1,0,none⟩) (by show w.heap.size≤w.heap.size+1+1;omega) _⟩
 case done=>
  rintro D ps W hD rfl ⟨⟨hb1,hb2,hb3,hfree⟩,hB⟩ hK;have k3:=hb3.cell;have f3:=hb3.frozen
  have hres:fP xs ys zs xs.length= -1:=by
   rw[za xs ys zs xs.length (Nat.le_refl _) hfree,Nat.sub_self];rfl
  have hres2:=Lib.hid hres
  gi_wp2
  have hK2:=(KeepsOthers.setCell W ⟨w.heap.size+1+1,0,none⟩ (.int .i64 (-1))).same D _ hK rfl;refine⟨by simp,.inl ⟨_,_,rfl,run_takeDeferred hK2,?_⟩⟩
  have hb4:=(hb3.set (.int .i64 (-1))).kept (grownBy_putObj' _ D (.deferred none)) (fun e=>by
   have h:=hb3;rw[show w.heap.size+1+1=D from by simpa using e]at h;rw[show W.heap[D]?=_ from h]at hK;cases hK)
  have hc4:=hb4.cell;have hui:=Tryz.underlying3;rw[hres2.out];refine⟨.int .i64 (-1),?_,rfl,(hB.setCell (p:=⟨w.heap.size+1+1,0,none⟩) (by show w.heap.size≤w.heap.size+1+1;omega) _).trans (belowK_b (w:=w) (Nat.le_refl _) _ D _ _ (Nat.le_trans HB0.size hD) hK2 rfl rfl)⟩;simp[results,asAddr,loadVar,hc4,hui,Sem.run_bind,Result.andThen,go_sem]
 case stop=>
  rintro D c pre W hD ⟨k,hk,rfl⟩ ⟨⟨rfl,res,pre',x,hb3,hpre,hfree,hcase⟩,hB⟩ hK;have hres:fP xs ys zs xs.length=res:=LY xs ys zs k hk pre' x res hpre hfree hcase;have hres2:=Lib.hid hres;clear hres hcase hfree hpre
  gi_wp2
  refine⟨by simp,.inl ⟨_,_,rfl,run_takeDeferred hK,?_⟩⟩
  have hb4:=hb3.kept (grownBy_putObj' _ D (.deferred none)) (fun e=>by
   have h:=hb3;rw[show w.heap.size+1+1=D from by simpa using e]at h;rw[show W.heap[D]?=_ from h]at hK;cases hK)
  have hc4:=hb4.cell;have hui:=Tryz.underlying3;rw[hres2.out];refine⟨.int .i64 res,?_,rfl,hB.trans (belowK_b (w:=w) (Nat.le_refl _) _ D _ _ (Nat.le_trans HB0.size hD) hK rfl rfl)⟩;simp[results,asAddr,loadVar,hc4,hui,Sem.run_bind,Result.andThen,go_sem]
def dR.f(l0 l1 l2:List ByteArray):Option Int:=some (fP l0 l1 l2 l0.length)
theorem dR.calls(A0:Option Addr)(c0:Nat)(l0:List ByteArray)(A1:Option Addr)(c1:Nat)(l1:List ByteArray)(A2:Option Addr)(c2:Nat)(l2:List ByteArray)(r:Int)(w:World)(hr0:Go.Proofs.ah.aD.Kd.string.C w A0 l0.length l0)(hc0:l0.length≤c0)(hr1:Go.Proofs.ah.aD.Kd.string.C w A1 l1.length l1)(hc1:l1.length≤c1)(hr2:Go.Proofs.ah.aD.Kd.string.C w A2 l2.length l2)(hc2:l2.length≤c2)(h:dR.f l0 l1 l2=some r):
 Calls Tryz.prog 77 #[.slice A0 l0.length c0,.slice A1 l1.length c1,.slice A2 l2.length c2] w fun e w'=>e=.returned (.int .i64 r)∧Below w.heap.size w w':=by
 obtain rfl:=Option.some.inj h;exact(callsIn_wide (n:=3)).1 (found_in 3 (Nat.le_refl _) A0 A1 A2 c0 c1 c2 l0 l1 l2 w hr0 hr1 hr2)
end Go.Proofs.aj.W7
namespace Go.Proofs
theorem q'a{p:Prop}(h:p:=by(try simp only[List.map_toArray,List.map_cons,List.map_nil]);first|done|rfl|(simp only[List.length_drop,List.length_take];rfl)):p:=h
theorem q'b{p:Prop}(h:p:=by first|exact of_decide_eq_true (by first|(with_reducible assumption)|assumption)|assumption|omega):p:=h
theorem q'c{p:Prop}(h:p:=by first|rfl|(simp;done)|(simp[*];done)|(simp;generalize ByteArray.toList _=l_;cases l_<;>rfl)):p:=h
theorem q'd{p:Prop}(h:p:=by first|(with_reducible assumption)|assumption):p:=h
end Go.Proofs
namespace Go.Proofs.aj.W7
open Go.RowKit Go.Proofs.ah.aD Go.Proofs.ah.bH Go.Proofs.ah.bV
attribute [local go_sem] dA dB dP dQ bY bZ dD dF
def bA.l0:Nat→ByteArray→List ByteArray→Int→Int→Option (Bool)
 |0,_,_,_,_=>none
 |k+1,x0,x7,x8,x9=>if x9<x8 then(if 0≤x9 then(if x9<(x7.length:Int)then(if(wJ ByteArray.empty x7 x9).toList=x0.toList then(some true)else(bA.l0 k x0 x7 x8 (wrap64 (x9+1))))else(none))else(none))else(some false)
def bA.f(k:Nat)(a0:ByteArray)(l1:List ByteArray):Option (Bool):=bA.l0 k a0 l1 (l1.length:Int) 0
theorem bA.Eb:∀k,(∀y0 y1 y2 y3,LeO (bA.l0 k y0 y1 y2 y3) (bA.l0 (k+1) y0 y1 y2 y3))
 |0=>fun _ _ _ _ r h=>by simp[bA.l0]at h
 |k+1=>by
  have ih0:=bA.Eb k
  ·intro y0 y1 y2 y3
   unfold bA.l0
   repeat' first
   |(with_reducible exact ih0 _ _ _ _)
   |(with_reducible exact LeO.refl _)
   |(with_reducible exact LeO.none _)
   |(with_reducible refine LeO.ite ?_ ?_)
   |(with_reducible refine LeO.bind ?_ (fun _=>?_))
   |exact ih0 _ _ _ _
   |exact LeO.none _
   |refine LeO.ite ?_ ?_
   |refine LeO.bind ?_ (fun _=>?_)
theorem bA.mono:∀a0 a1 k,LeO (bA.f k a0 a1) (bA.f (k+1) a0 a1):=by
 intro a0 a1 k;have ih0:=bA.Eb k;unfold bA.f
 repeat' first
  |(with_reducible exact ih0 _ _ _ _)
  |(with_reducible exact LeO.refl _)
  |(with_reducible exact LeO.none _)
  |(with_reducible refine LeO.ite ?_ ?_)
  |(with_reducible refine LeO.bind ?_ (fun _=>?_))
  |exact ih0 _ _ _ _
  |exact LeO.none _
  |refine LeO.ite ?_ ?_
  |refine LeO.bind ?_ (fun _=>?_)
theorem bA.calls(k:Nat)(a0:ByteArray)(A1:Option Addr)(c1:Nat)(l1:List ByteArray)(r:Bool)(w:World)(hr1:Kd.C Kd.string w A1 l1.length l1)(hc1:l1.length≤c1)(h:bA.f k a0 l1=some r):
 Calls Tryz.prog 81 #[.string a0,.slice A1 l1.length c1] w fun e w'=>e=.returned (.bool r)∧bN w w':=by
 have HR1:=ak.mk hr1;have HC1:=ak.mk hc1;clear hr1 hc1;have H:(bA.l0 k a0 l1 (l1.length:Int) 0)=some r:=h;clear h;have H':=ak.mk H;clear H;go_enter Tryz.func81,Tryz.ntmps81;go_wp2
 go_loopg [9] k (fun kq v9 w'=>∃(dw:Int),v9=.int .i64 dw∧ak (bA.l0 kq a0 l1 (l1.length:Int) dw=some r)∧ak (kq≤k)∧bN w w')
 case atStart=>exact⟨(0),q'c,H',⟨Nat.le_refl _⟩,by repeat(first|exact bN.refl _|apply bN.step)⟩
 case round=>
  clear H'
  try clear c1
  try clear p2
  obtain⟨dw,rfl,HA,HK1,⟨m1,rfl⟩⟩:=hrel;cases gk with
  |zero=>exact absurd HA.out (by simp[bA.l0])
  |succ k1=>
   have H:=HA.out;clear HA;simp only[bA.l0]at H
   by_cases c3:dw<(l1.length:Int)
   ·rw[if_pos c3]at H
    have nC:decide (dw<(l1.length:Int))=true:=decide_eq_true c3;clear c3
    by_cases c4:0≤dw
    ·rw[if_pos c4]at H
     have mP:decide (0≤dw)=true:=decide_eq_true c4;clear c4
     by_cases c5:dw<(l1.length:Int)
     ·rw[if_pos c5]at H
      have uf:decide (dw<(l1.length:Int))=true:=decide_eq_true c5;clear c5
      by_cases c6:(wJ ByteArray.empty l1 dw).toList=a0.toList
      ·rw[if_pos c6]at H
       have zm:((wJ ByteArray.empty l1 dw).toList==a0.toList)=true:=beq_iff_eq.mpr c6;have c6b1:((wJ ByteArray.empty l1 dw).toList !=a0.toList)=false:=bne_eq_false_iff_eq.mpr c6;clear c6;obtain rfl:=Option.some.inj H;have p121:0≤(dw:Int):=q'b;have q121:dw<(l1.length:Int):=q'b;obtain⟨ad121,e121,hx121_0⟩:=Kd.F7 HR1.out dw p121 q121;cases e121;replace p121:=eq_true p121;replace q121:=eq_true q121;go_wp2;go_ret;exact⟨q'c,by repeat(first|exact bN.refl _|apply bN.step)⟩
      ·rw[if_neg c6]at H
       have zm:((wJ ByteArray.empty l1 dw).toList==a0.toList)=false:=beq_eq_false_iff_ne.mpr c6;have c6b1:((wJ ByteArray.empty l1 dw).toList !=a0.toList)=true:=bne_iff_ne.mpr c6;have H':=ak.mk H;clear H;have p121:0≤(dw:Int):=q'b;have q121:dw<(l1.length:Int):=q'b;obtain⟨ad121,e121,hx121_0⟩:=Kd.F7 HR1.out dw p121 q121;cases e121;replace p121:=eq_true p121;replace q121:=eq_true q121;go_wp2
       go_roundg k1
       case measure=>have:=HK1.out;omega
       case rel=>exact⟨(wrap64 (dw+1)),q'c,H',⟨by have:=HK1.out;omega⟩,by repeat(first|exact bN.refl _|apply bN.step)⟩
     ·rw[if_neg c5]at H
      exact absurd H (by simp)
    ·rw[if_neg c4]at H
     exact absurd H (by simp)
   ·rw[if_neg c3]at H
    have nC:decide (dw<(l1.length:Int))=false:=decide_eq_false c3;clear c3;obtain rfl:=Option.some.inj H;go_wp2;go_ret;exact⟨q'c,by repeat(first|exact bN.refl _|apply bN.step)⟩
def iq.l0:Nat→List ByteArray→ByteArray→Int→Option (Bool)
 |0,_,_,_=>none
 |k+1,x0,x1,x5=>if x5<(x0.length:Int)then(if 0≤x5 then(if(wJ ByteArray.empty x0 x5).toList=x1.toList then(some true)else(iq.l0 k x0 x1 (wrap64 (x5+1))))else(none))else(some false)
def iq.f(k:Nat)(l0:List ByteArray)(a1:ByteArray):Option (Bool):=iq.l0 k l0 a1 0
end Go.Proofs.aj.W7
namespace Go.Proofs.aj.W7
open Go.RowKit Go.Proofs Go.Proofs.aj Go.Proofs.YtkcmghlhpbepcaaGreatDoor Go.Proofs.ah.aD
theorem wN{i:Nat}(h:i<1000000000):wrap64 ((i:Int)+1)=((i+1:Nat):Int):=by unfold wrap64;omega
theorem bIff(a b:ByteArray):a.toList=b.toList↔a.data.toList=b.data.toList:=by rw[Lib.toList_data,Lib.toList_data]
def nM(l:List ByteArray)(s:ByteArray):Bool:=l.any fun x=>x.data.toList==s.data.toList
theorem rdOf_at(l:List ByteArray)(i:Nat)(h:i<l.length):wJ ByteArray.empty l (i:Int)=l[i]:=by simp[wJ,h]
theorem among_l0(s:ByteArray)(l:List ByteArray)(hl:l.length<100000):∀(d i k:Nat),l.length - i≤d→i≤l.length→d<k→bA.l0 k s l (l.length:Int) i=some (nM (l.drop i) s):=by
 intro d
 induction d with
 |zero=>
  intro i k hd hi hk;obtain⟨k,rfl⟩:∃m,k=m+1:=⟨k - 1,by omega⟩
  simp only[bA.l0];rw[if_neg (by omega),List.drop_of_length_le (by omega)];rfl
 |succ d ih=>
  intro i k hd hi hk;obtain⟨k,rfl⟩:∃m,k=m+1:=⟨k - 1,by omega⟩
  by_cases h:i<l.length
  ·simp only[bA.l0]
   rw[if_pos (by omega),if_pos (by omega),if_pos (by omega),rdOf_at l i h,wN (by omega),ih (i+1) k (by omega) (by omega) (by omega),List.drop_eq_getElem_cons h];simp only[nM,List.any_cons]
   by_cases e:l[i].data.toList=s.data.toList
   ·rw[if_pos ((bIff _ _).2 e),e];simp
   ·rw[if_neg (fun h=>e ((bIff _ _).1 h)),beq_eq_false_iff_ne.2 e,Bool.false_or]
  ·simp only[bA.l0]
   rw[if_neg (by omega),List.drop_of_length_le (by omega)];rfl
theorem qG(s:ByteArray)(l:List ByteArray)(k:Nat)(hl:l.length<100000)(hk:l.length<k):bA.f k s l=some (nM l s):=among_l0 s l hl l.length 0 k (by omega) (by omega) hk
end Go.Proofs.aj.W7
namespace Go.Proofs.aj.W7
open Go.RowKit Go.Proofs.ah.aD Go.Proofs.ah.bH Go.Proofs.ah.bV
attribute [local go_sem] dA dB dP dQ bY bZ dD dF
def fM.f(a0:ByteArray):Option (Bool):=if a0.toList=([108,105] :List UInt8)then(some true)else(if a0.toList=([100,100] :List UInt8)then(some true)else(some (a0.toList==([100,116] :List UInt8))))
theorem fM.calls(a0:ByteArray)(r:Bool)(w:World)(h:fM.f a0=some r):
 Calls Tryz.prog 76 #[.string a0] w fun e w'=>e=.returned (.bool r)∧bN w w':=by
 have H:(if a0.toList=([108,105] :List UInt8)then(some true)else(if a0.toList=([100,100] :List UInt8)then(some true)else(some (a0.toList==([100,116] :List UInt8)))))=some r:=h;clear h
 by_cases c2:a0.toList=([108,105] :List UInt8)
 ·rw[if_pos c2]at H
  have CJ:(a0.toList==([108,105] :List UInt8))=true:=beq_iff_eq.mpr c2;have c2b1:(a0.toList !=([108,105] :List UInt8))=false:=bne_eq_false_iff_eq.mpr c2;clear c2;obtain rfl:=Option.some.inj H;go_enter Tryz.func76,Tryz.ntmps76;go_wp2;go_ret;exact⟨q'c,by repeat(first|exact bN.refl _|apply bN.step)⟩
 ·rw[if_neg c2]at H
  have CJ:(a0.toList==([108,105] :List UInt8))=false:=beq_eq_false_iff_ne.mpr c2;have c2b1:(a0.toList !=([108,105] :List UInt8))=true:=bne_iff_ne.mpr c2
  by_cases c3:a0.toList=([100,100] :List UInt8)
  ·rw[if_pos c3]at H
   have nC:(a0.toList==([100,100] :List UInt8))=true:=beq_iff_eq.mpr c3;have zi:(a0.toList !=([100,100] :List UInt8))=false:=bne_eq_false_iff_eq.mpr c3;clear c3;obtain rfl:=Option.some.inj H;go_enter Tryz.func76,Tryz.ntmps76;go_wp2;go_ret;exact⟨q'c,by repeat(first|exact bN.refl _|apply bN.step)⟩
  ·rw[if_neg c3]at H
   have nC:(a0.toList==([100,100] :List UInt8))=false:=beq_eq_false_iff_ne.mpr c3;have zi:(a0.toList !=([100,100] :List UInt8))=true:=bne_iff_ne.mpr c3;obtain rfl:=Option.some.inj H;go_enter Tryz.func76,Tryz.ntmps76;go_wp2;go_ret;exact⟨q'c,by repeat(first|exact bN.refl _|apply bN.step)⟩
def dX.f(k:Nat)(a0:ByteArray):Option (Bool):=(bA.f k a0 (([(⟨#[116,114]⟩:ByteArray),(⟨#[116,100]⟩:ByteArray),(⟨#[116,104]⟩:ByteArray),(⟨#[116,98,111,100,121]⟩:ByteArray),(⟨#[116,102,111,111,116]⟩:ByteArray),(⟨#[116,104,101,97,100]⟩:ByteArray)] :List ByteArray))).bind fun t129=>(some t129)
theorem dX.mono:∀a0 k,LeO (dX.f k a0) (dX.f (k+1) a0):=by
 intro a0 k;unfold dX.f
 repeat' first
  |(with_reducible exact bA.mono _ _ _)
  |(with_reducible exact LeO.refl _)
  |(with_reducible exact LeO.none _)
  |(with_reducible refine LeO.ite ?_ ?_)
  |(with_reducible refine LeO.bind ?_ (fun _=>?_))
  |exact bA.mono _ _ _
  |exact LeO.none _
  |refine LeO.ite ?_ ?_
  |refine LeO.bind ?_ (fun _=>?_)
theorem dX.calls(k:Nat)(a0:ByteArray)(r:Bool)(w:World)(h:dX.f k a0=some r):
 Calls Tryz.prog 82 #[.string a0] w fun e w'=>e=.returned (.bool r)∧Below w.heap.size w w':=by
 have HB:=ak.mk (Below.refl w.heap.size w);have H:((bA.f k a0 (([(⟨#[116,114]⟩:ByteArray),(⟨#[116,100]⟩:ByteArray),(⟨#[116,104]⟩:ByteArray),(⟨#[116,98,111,100,121]⟩:ByteArray),(⟨#[116,102,111,111,116]⟩:ByteArray),(⟨#[116,104,101,97,100]⟩:ByteArray)] :List ByteArray))).bind fun t129=>(some t129))=some r:=h;clear h;obtain⟨y126,J5⟩:∃y_:List ByteArray,y_=(([(⟨#[116,114]⟩:ByteArray),(⟨#[116,100]⟩:ByteArray),(⟨#[116,104]⟩:ByteArray),(⟨#[116,98,111,100,121]⟩:ByteArray),(⟨#[116,102,111,111,116]⟩:ByteArray),(⟨#[116,104,101,97,100]⟩:ByteArray)] :List ByteArray)):=⟨_,rfl⟩
 replace H:((bA.f k a0 y126).bind fun t129=>(some t129))=some r:=by first|(rw[J5];with_reducible exact H)|(have H2_:=(Option.bind_some _ _).symm.trans H;rw[J5];with_reducible exact H2_)|(have H2_:=(Option.bind_some _ _).symm.trans H;with_reducible exact H2_)|with_reducible exact H|(rw[J5];exact H)|exact H
 have Ny126:=ak.mk J5;clear J5;replace H:=Option.bind_eq_some_iff.mp H;obtain⟨t129,A20,H⟩:=H;replace H:(some t129)=some r:=H;have A2:=ak.mk A20;clear A20;obtain rfl:=Option.some.inj H;go_enter Tryz.func82,Tryz.ntmps82
 go_wp2_with(first|((with_reducible refine cB (N:=4) rfl ?_);refine Kd.jN Kd.string _ 9 ?hg (N:=4) ?hd (xs:=([(⟨#[116,114]⟩:ByteArray),(⟨#[116,100]⟩:ByteArray),(⟨#[116,104]⟩:ByteArray),(⟨#[116,98,111,100,121]⟩:ByteArray),(⟨#[116,102,111,111,116]⟩:ByteArray),(⟨#[116,104,101,97,100]⟩:ByteArray)] :List ByteArray)) (inner:=[.string (⟨#[116,114]⟩:ByteArray),.string (⟨#[116,100]⟩:ByteArray),.string (⟨#[116,104]⟩:ByteArray),.string (⟨#[116,98,111,100,121]⟩:ByteArray),.string (⟨#[116,102,111,111,116]⟩:ByteArray),.string (⟨#[116,104,101,97,100]⟩:ByteArray)]) (ok:=fun _=>True) (okp:=fun _=>True) ?hr ?hp (fun _ hk=>hk) trivial (Below.refl _ _) (Nat.le_refl _) (by simp) ?_;(case hd=>rfl);(case hg=>rfl);(case hr=>first|(go_simp;done)|(go_simp;rfl));(case hp=>exact(bK.one (show Kd.M Kd.string _ _ _ (⟨#[116,114]⟩:ByteArray) [.string (⟨#[116,114]⟩:ByteArray)]from rfl) (bK.one (show Kd.M Kd.string _ _ _ (⟨#[116,100]⟩:ByteArray) [.string (⟨#[116,100]⟩:ByteArray)]from rfl) (bK.one (show Kd.M Kd.string _ _ _ (⟨#[116,104]⟩:ByteArray) [.string (⟨#[116,104]⟩:ByteArray)]from rfl) (bK.one (show Kd.M Kd.string _ _ _ (⟨#[116,98,111,100,121]⟩:ByteArray) [.string (⟨#[116,98,111,100,121]⟩:ByteArray)]from rfl) (bK.one (show Kd.M Kd.string _ _ _ (⟨#[116,102,111,111,116]⟩:ByteArray) [.string (⟨#[116,102,111,111,116]⟩:ByteArray)]from rfl) (bK.one (show Kd.M Kd.string _ _ _ (⟨#[116,104,101,97,100]⟩:ByteArray) [.string (⟨#[116,104,101,97,100]⟩:ByteArray)]from rfl) (bK.none _ _))))))));intro v127 w3 ho4 hb hg_ fH;clear hg_ fH;(first|rw[←Ny126.out]at ho4|(simp only[Int.reduceToNat]at ho4;rw[←Ny126.out]at ho4));have n0_:=ak.mk (Kd.d9 ho4 (aR bz));have n1_:=ak.mk (aG bz hb);clear HB;have HO128:=n0_;have HB:=n1_;clear n0_ n1_;clear hb ho4;obtain⟨Ao5,co5,eo5⟩:=Kd.dH HO128.out;subst eo5)|((with_reducible refine aZ (f:=81) rfl ?_);refine dI (some 5) rfl rfl Tryz.func81 (by kernel_rfl) rfl #[.string a0,.slice Ao5 y126.length co5] rfl q'a ?_;(with_reducible refine(bA.calls k a0 _ _ y126 t129 _ ?cO ?dG A2.out).mono ?_);(case cO=>exact cz (Kd.bJ HO128.out).2.2);(case dG=>exact(Kd.bJ HO128.out).2.1);rintro e w' ⟨rfl,⟨nd,rfl⟩⟩;refine⟨_,rfl,?_⟩))
 go_ret;exact⟨by first|rfl|(simp[aJ,aM]<;>rfl)|(simp[*,aJ,aM]<;>rfl),bz⟩
def gu.f(k:Nat)(a0:ByteArray):Option (Bool):=(bA.f k a0 (([(⟨#[97,100,100,114,101,115,115]⟩:ByteArray),(⟨#[97,114,116,105,99,108,101]⟩:ByteArray),(⟨#[97,115,105,100,101]⟩:ByteArray),(⟨#[98,108,111,99,107,113,117,111,116,101]⟩:ByteArray),(⟨#[99,101,110,116,101,114]⟩:ByteArray),(⟨#[100,100]⟩:ByteArray),(⟨#[100,101,116,97,105,108,115]⟩:ByteArray),(⟨#[100,105,97,108,111,103]⟩:ByteArray),(⟨#[100,105,114]⟩:ByteArray),(⟨#[100,105,118]⟩:ByteArray),(⟨#[100,108]⟩:ByteArray),(⟨#[100,116]⟩:ByteArray),(⟨#[102,105,101,108,100,115,101,116]⟩:ByteArray),(⟨#[102,105,103,99,97,112,116,105,111,110]⟩:ByteArray),(⟨#[102,105,103,117,114,101]⟩:ByteArray),(⟨#[102,111,111,116,101,114]⟩:ByteArray),(⟨#[102,111,114,109]⟩:ByteArray),(⟨#[104,49]⟩:ByteArray),(⟨#[104,50]⟩:ByteArray),(⟨#[104,51]⟩:ByteArray),(⟨#[104,52]⟩:ByteArray),(⟨#[104,53]⟩:ByteArray),(⟨#[104,54]⟩:ByteArray),(⟨#[104,101,97,100,101,114]⟩:ByteArray),(⟨#[104,103,114,111,117,112]⟩:ByteArray),(⟨#[104,114]⟩:ByteArray),(⟨#[108,105]⟩:ByteArray),(⟨#[109,97,105,110]⟩:ByteArray),(⟨#[109,101,110,117]⟩:ByteArray),(⟨#[110,97,118]⟩:ByteArray),(⟨#[111,108]⟩:ByteArray),(⟨#[112]⟩:ByteArray),(⟨#[112,114,101]⟩:ByteArray),(⟨#[115,101,99,116,105,111,110]⟩:ByteArray),(⟨#[115,117,109,109,97,114,121]⟩:ByteArray),(⟨#[116,97,98,108,101]⟩:ByteArray),(⟨#[117,108]⟩:ByteArray),(⟨#[120,109,112]⟩:ByteArray)] :List ByteArray))).bind fun t133=>(some t133)
theorem gu.mono:∀a0 k,LeO (gu.f k a0) (gu.f (k+1) a0):=by
 intro a0 k;unfold gu.f
 repeat' first
  |(with_reducible exact bA.mono _ _ _)
  |(with_reducible exact LeO.refl _)
  |(with_reducible exact LeO.none _)
  |(with_reducible refine LeO.ite ?_ ?_)
  |(with_reducible refine LeO.bind ?_ (fun _=>?_))
  |exact bA.mono _ _ _
  |exact LeO.none _
  |refine LeO.ite ?_ ?_
  |refine LeO.bind ?_ (fun _=>?_)
theorem gu.calls(k:Nat)(a0:ByteArray)(r:Bool)(w:World)(h:gu.f k a0=some r):
 Calls Tryz.prog 83 #[.string a0] w fun e w'=>e=.returned (.bool r)∧Below w.heap.size w w':=by
 have HB:=ak.mk (Below.refl w.heap.size w)
 have H:((bA.f k a0 (([(⟨#[97,100,100,114,101,115,115]⟩:ByteArray),(⟨#[97,114,116,105,99,108,101]⟩:ByteArray),(⟨#[97,115,105,100,101]⟩:ByteArray),(⟨#[98,108,111,99,107,113,117,111,116,101]⟩:ByteArray),(⟨#[99,101,110,116,101,114]⟩:ByteArray),(⟨#[100,100]⟩:ByteArray),(⟨#[100,101,116,97,105,108,115]⟩:ByteArray),(⟨#[100,105,97,108,111,103]⟩:ByteArray),(⟨#[100,105,114]⟩:ByteArray),(⟨#[100,105,118]⟩:ByteArray),(⟨#[100,108]⟩:ByteArray),(⟨#[100,116]⟩:ByteArray),(⟨#[102,105,101,108,100,115,101,116]⟩:ByteArray),(⟨#[102,105,103,99,97,112,116,105,111,110]⟩:ByteArray),(⟨#[102,105,103,117,114,101]⟩:ByteArray),(⟨#[102,111,111,116,101,114]⟩:ByteArray),(⟨#[102,111,114,109]⟩:ByteArray),(⟨#[104,49]⟩:ByteArray),(⟨#[104,50]⟩:ByteArray),(⟨#[104,51]⟩:ByteArray),(⟨#[104,52]⟩:ByteArray),(⟨#[104,53]⟩:ByteArray),(⟨#[104,54]⟩:ByteArray),(⟨#[104,101,97,100,101,114]⟩:ByteArray),(⟨#[104,103,114,111,117,112]⟩:ByteArray),(⟨#[104,114]⟩:ByteArray),(⟨#[108,105]⟩:ByteArray),(⟨#[109,97,105,110]⟩:ByteArray),(⟨#[109,101,110,117]⟩:ByteArray),(⟨#[110,97,118]⟩:ByteArray),(⟨#[111,108]⟩:ByteArray),(⟨#[112]⟩:ByteArray),(⟨#[112,114,101]⟩:ByteArray),(⟨#[115,101,99,116,105,111,110]⟩:ByteArray),(⟨#[115,117,109,109,97,114,121]⟩:ByteArray),(⟨#[116,97,98,108,101]⟩:ByteArray),(⟨#[117,108]⟩:ByteArray),(⟨#[120,109,112]⟩:ByteArray)] :List ByteArray))).bind fun t133=>(some t133))=some r:=h
 clear h
 obtain⟨y130,J6⟩:∃y_:List ByteArray,y_=(([(⟨#[97,100,100,114,101,115,115]⟩:ByteArray),(⟨#[97,114,116,105,99,108,101]⟩:ByteArray),(⟨#[97,115,105,100,101]⟩:ByteArray),(⟨#[98,108,111,99,107,113,117,111,116,101]⟩:ByteArray),(⟨#[99,101,110,116,101,114]⟩:ByteArray),(⟨#[100,100]⟩:ByteArray),(⟨#[100,101,116,97,105,108,115]⟩:ByteArray),(⟨#[100,105,97,108,111,103]⟩:ByteArray),(⟨#[100,105,114]⟩:ByteArray),(⟨#[100,105,118]⟩:ByteArray),(⟨#[100,108]⟩:ByteArray),(⟨#[100,116]⟩:ByteArray),(⟨#[102,105,101,108,100,115,101,116]⟩:ByteArray),(⟨#[102,105,103,99,97,112,116,105,111,110]⟩:ByteArray),(⟨#[102,105,103,117,114,101]⟩:ByteArray),(⟨#[102,111,111,116,101,114]⟩:ByteArray),(⟨#[102,111,114,109]⟩:ByteArray),(⟨#[104,49]⟩:ByteArray),(⟨#[104,50]⟩:ByteArray),(⟨#[104,51]⟩:ByteArray),(⟨#[104,52]⟩:ByteArray),(⟨#[104,53]⟩:ByteArray),(⟨#[104,54]⟩:ByteArray),(⟨#[104,101,97,100,101,114]⟩:ByteArray),(⟨#[104,103,114,111,117,112]⟩:ByteArray),(⟨#[104,114]⟩:ByteArray),(⟨#[108,105]⟩:ByteArray),(⟨#[109,97,105,110]⟩:ByteArray),(⟨#[109,101,110,117]⟩:ByteArray),(⟨#[110,97,118]⟩:ByteArray),(⟨#[111,108]⟩:ByteArray),(⟨#[112]⟩:ByteArray),(⟨#[112,114,101]⟩:ByteArray),(⟨#[115,101,99,116,105,111,110]⟩:ByteArray),(⟨#[115,117,109,109,97,114,121]⟩:ByteArray),(⟨#[116,97,98,108,101]⟩:ByteArray),(⟨#[117,108]⟩:ByteArray),(⟨#[120,109,112]⟩:ByteArray)] :List ByteArray)):=⟨_,rfl⟩
 replace H:((bA.f k a0 y130).bind fun t133=>(some t133))=some r:=by first|(rw[J6];with_reducible exact H)|(have H2_:=(Option.bind_some _ _).symm.trans H;rw[J6];with_reducible exact H2_)|(have H2_:=(Option.bind_some _ _).symm.trans H;with_reducible exact H2_)|with_reducible exact H|(rw[J6];exact H)|exact H
 have Ny130:=ak.mk J6;clear J6;replace H:=Option.bind_eq_some_iff.mp H;obtain⟨t133,A20,H⟩:=H;replace H:(some t133)=some r:=H;have A2:=ak.mk A20;clear A20;obtain rfl:=Option.some.inj H;go_enter Tryz.func83,Tryz.ntmps83
 go_wp2_with(first|((with_reducible refine cB (N:=4) rfl ?_);refine Kd.jN Kd.string _ 9 ?hg (N:=4) ?hd (xs:=([(⟨#[97,100,100,114,101,115,115]⟩:ByteArray),(⟨#[97,114,116,105,99,108,101]⟩:ByteArray),(⟨#[97,115,105,100,101]⟩:ByteArray),(⟨#[98,108,111,99,107,113,117,111,116,101]⟩:ByteArray),(⟨#[99,101,110,116,101,114]⟩:ByteArray),(⟨#[100,100]⟩:ByteArray),(⟨#[100,101,116,97,105,108,115]⟩:ByteArray),(⟨#[100,105,97,108,111,103]⟩:ByteArray),(⟨#[100,105,114]⟩:ByteArray),(⟨#[100,105,118]⟩:ByteArray),(⟨#[100,108]⟩:ByteArray),(⟨#[100,116]⟩:ByteArray),(⟨#[102,105,101,108,100,115,101,116]⟩:ByteArray),(⟨#[102,105,103,99,97,112,116,105,111,110]⟩:ByteArray),(⟨#[102,105,103,117,114,101]⟩:ByteArray),(⟨#[102,111,111,116,101,114]⟩:ByteArray),(⟨#[102,111,114,109]⟩:ByteArray),(⟨#[104,49]⟩:ByteArray),(⟨#[104,50]⟩:ByteArray),(⟨#[104,51]⟩:ByteArray),(⟨#[104,52]⟩:ByteArray),(⟨#[104,53]⟩:ByteArray),(⟨#[104,54]⟩:ByteArray),(⟨#[104,101,97,100,101,114]⟩:ByteArray),(⟨#[104,103,114,111,117,112]⟩:ByteArray),(⟨#[104,114]⟩:ByteArray),(⟨#[108,105]⟩:ByteArray),(⟨#[109,97,105,110]⟩:ByteArray),(⟨#[109,101,110,117]⟩:ByteArray),(⟨#[110,97,118]⟩:ByteArray),(⟨#[111,108]⟩:ByteArray),(⟨#[112]⟩:ByteArray),(⟨#[112,114,101]⟩:ByteArray),(⟨#[115,101,99,116,105,111,110]⟩:ByteArray),(⟨#[115,117,109,109,97,114,121]⟩:ByteArray),(⟨#[116,97,98,108,101]⟩:ByteArray),(⟨#[117,108]⟩:ByteArray),(⟨#[120,109,112]⟩:ByteArray)] :List ByteArray)) (inner:=[.string (⟨#[97,100,100,114,101,115,115]⟩:ByteArray),.string (⟨#[97,114,116,105,99,108,101]⟩:ByteArray),.string (⟨#[97,115,105,100,101]⟩:ByteArray),.string (⟨#[98,108,111,99,107,113,117,111,116,101]⟩:ByteArray),.string (⟨#[99,101,110,116,101,114]⟩:ByteArray),.string (⟨#[100,100]⟩:ByteArray),.string (⟨#[100,101,116,97,105,108,115]⟩:ByteArray),.string (⟨#[100,105,97,108,111,103]⟩:ByteArray),.string (⟨#[100,105,114]⟩:ByteArray),.string (⟨#[100,105,118]⟩:ByteArray),.string (⟨#[100,108]⟩:ByteArray),.string (⟨#[100,116]⟩:ByteArray),.string (⟨#[102,105,101,108,100,115,101,116]⟩:ByteArray),.string (⟨#[102,105,103,99,97,112,116,105,111,110]⟩:ByteArray),.string (⟨#[102,105,103,117,114,101]⟩:ByteArray),.string (⟨#[102,111,111,116,101,114]⟩:ByteArray),.string (⟨#[102,111,114,109]⟩:ByteArray),.string (⟨#[104,49]⟩:ByteArray),.string (⟨#[104,50]⟩:ByteArray),.string (⟨#[104,51]⟩:ByteArray),.string (⟨#[104,52]⟩:ByteArray),.string (⟨#[104,53]⟩:ByteArray),.string (⟨#[104,54]⟩:ByteArray),.string (⟨#[104,101,97,100,101,114]⟩:ByteArray),.string (⟨#[104,103,114,111,117,112]⟩:ByteArray),.string (⟨#[104,114]⟩:ByteArray),.string (⟨#[108,105]⟩:ByteArray),.string (⟨#[109,97,105,110]⟩:ByteArray),.string (⟨#[109,101,110,117]⟩:ByteArray),.string (⟨#[110,97,118]⟩:ByteArray),.string (⟨#[111,108]⟩:ByteArray),.string (⟨#[112]⟩:ByteArray),.string (⟨#[112,114,101]⟩:ByteArray),.string (⟨#[115,101,99,116,105,111,110]⟩:ByteArray),.string (⟨#[115,117,109,109,97,114,121]⟩:ByteArray),.string (⟨#[116,97,98,108,101]⟩:ByteArray),.string (⟨#[117,108]⟩:ByteArray),.string (⟨#[120,109,112]⟩:ByteArray)]) (ok:=fun _=>True) (okp:=fun _=>True) ?hr ?hp (fun _ hk=>hk) trivial (Below.refl _ _) (Nat.le_refl _) (by simp) ?_;(case hd=>rfl);(case hg=>rfl);(case hr=>first|(go_simp;done)|(go_simp;rfl));(case hp=>exact(bK.one (show Kd.M Kd.string _ _ _ (⟨#[97,100,100,114,101,115,115]⟩:ByteArray) [.string (⟨#[97,100,100,114,101,115,115]⟩:ByteArray)]from rfl) (bK.one (show Kd.M Kd.string _ _ _ (⟨#[97,114,116,105,99,108,101]⟩:ByteArray) [.string (⟨#[97,114,116,105,99,108,101]⟩:ByteArray)]from rfl) (bK.one (show Kd.M Kd.string _ _ _ (⟨#[97,115,105,100,101]⟩:ByteArray) [.string (⟨#[97,115,105,100,101]⟩:ByteArray)]from rfl) (bK.one (show Kd.M Kd.string _ _ _ (⟨#[98,108,111,99,107,113,117,111,116,101]⟩:ByteArray) [.string (⟨#[98,108,111,99,107,113,117,111,116,101]⟩:ByteArray)]from rfl) (bK.one (show Kd.M Kd.string _ _ _ (⟨#[99,101,110,116,101,114]⟩:ByteArray) [.string (⟨#[99,101,110,116,101,114]⟩:ByteArray)]from rfl) (bK.one (show Kd.M Kd.string _ _ _ (⟨#[100,100]⟩:ByteArray) [.string (⟨#[100,100]⟩:ByteArray)]from rfl) (bK.one (show Kd.M Kd.string _ _ _ (⟨#[100,101,116,97,105,108,115]⟩:ByteArray) [.string (⟨#[100,101,116,97,105,108,115]⟩:ByteArray)]from rfl) (bK.one (show Kd.M Kd.string _ _ _ (⟨#[100,105,97,108,111,103]⟩:ByteArray) [.string (⟨#[100,105,97,108,111,103]⟩:ByteArray)]from rfl) (bK.one (show Kd.M Kd.string _ _ _ (⟨#[100,105,114]⟩:ByteArray) [.string (⟨#[100,105,114]⟩:ByteArray)]from rfl) (bK.one (show Kd.M Kd.string _ _ _ (⟨#[100,105,118]⟩:ByteArray) [.string (⟨#[100,105,118]⟩:ByteArray)]from rfl) (bK.one (show Kd.M Kd.string _ _ _ (⟨#[100,108]⟩:ByteArray) [.string (⟨#[100,108]⟩:ByteArray)]from rfl) (bK.one (show Kd.M Kd.string _ _ _ (⟨#[100,116]⟩:ByteArray) [.string (⟨#[100,116]⟩:ByteArray)]from rfl) (bK.one (show Kd.M Kd.string _ _ _ (⟨#[102,105,101,108,100,115,101,116]⟩:ByteArray) [.string (⟨#[102,105,101,108,100,115,101,116]⟩:ByteArray)]from rfl) (bK.one (show Kd.M Kd.string _ _ _ (⟨#[102,105,103,99,97,112,116,105,111,110]⟩:ByteArray) [.string (⟨#[102,105,103,99,97,112,116,105,111,110]⟩:ByteArray)]from rfl) (bK.one (show Kd.M Kd.string _ _ _ (⟨#[102,105,103,117,114,101]⟩:ByteArray) [.string (⟨#[102,105,103,117,114,101]⟩:ByteArray)]from rfl) (bK.one (show Kd.M Kd.string _ _ _ (⟨#[102,111,111,116,101,114]⟩:ByteArray) [.string (⟨#[102,111,111,116,101,114]⟩:ByteArray)]from rfl) (bK.one (show Kd.M Kd.string _ _ _ (⟨#[102,111,114,109]⟩:ByteArray) [.string (⟨#[102,111,114,109]⟩:ByteArray)]from rfl) (bK.one (show Kd.M Kd.string _ _ _ (⟨#[104,49]⟩:ByteArray) [.string (⟨#[104,49]⟩:ByteArray)]from rfl) (bK.one (show Kd.M Kd.string _ _ _ (⟨#[104,50]⟩:ByteArray) [.string (⟨#[104,50]⟩:ByteArray)]from rfl) (bK.one (show Kd.M Kd.string _ _ _ (⟨#[104,51]⟩:ByteArray) [.string (⟨#[104,51]⟩:ByteArray)]from rfl) (bK.one (show Kd.M Kd.string _ _ _ (⟨#[104,52]⟩:ByteArray) [.string (⟨#[104,52]⟩:ByteArray)]from rfl) (bK.one (show Kd.M Kd.string _ _ _ (⟨#[104,53]⟩:ByteArray) [.string (⟨#[104,53]⟩:ByteArray)]from rfl) (bK.one (show Kd.M Kd.string _ _ _ (⟨#[104,54]⟩:ByteArray) [.string (⟨#[104,54]⟩:ByteArray)]from rfl) (bK.one (show Kd.M Kd.string _ _ _ (⟨#[104,101,97,100,101,114]⟩:ByteArray) [.string (⟨#[104,101,97,100,101,114]⟩:ByteArray)]from rfl) (bK.one (show Kd.M Kd.string _ _ _ (⟨#[104,103,114,111,117,112]⟩:ByteArray) [.string (⟨#[104,103,114,111,117,112]⟩:ByteArray)]from rfl) (bK.one (show Kd.M Kd.string _ _ _ (⟨#[104,114]⟩:ByteArray) [.string (⟨#[104,114]⟩:ByteArray)]from rfl) (bK.one (show Kd.M Kd.string _ _ _ (⟨#[108,105]⟩:ByteArray) [.string (⟨#[108,105]⟩:ByteArray)]from rfl) (bK.one (show Kd.M Kd.string _ _ _ (⟨#[109,97,105,110]⟩:ByteArray) [.string (⟨#[109,97,105,110]⟩:ByteArray)]from rfl) (bK.one (show Kd.M Kd.string _ _ _ (⟨#[109,101,110,117]⟩:ByteArray) [.string (⟨#[109,101,110,117]⟩:ByteArray)]from rfl) (bK.one (show Kd.M Kd.string _ _ _ (⟨#[110,97,118]⟩:ByteArray) [.string (⟨#[110,97,118]⟩:ByteArray)]from rfl) (bK.one (show Kd.M Kd.string _ _ _ (⟨#[111,108]⟩:ByteArray) [.string (⟨#[111,108]⟩:ByteArray)]from rfl) (bK.one (show Kd.M Kd.string _ _ _ (⟨#[112]⟩:ByteArray) [.string (⟨#[112]⟩:ByteArray)]from rfl) (bK.one (show Kd.M Kd.string _ _ _ (⟨#[112,114,101]⟩:ByteArray) [.string (⟨#[112,114,101]⟩:ByteArray)]from rfl) (bK.one (show Kd.M Kd.string _ _ _ (⟨#[115,101,99,116,105,111,110]⟩:ByteArray) [.string (⟨#[115,101,99,116,105,111,110]⟩:ByteArray)]from rfl) (bK.one (show Kd.M Kd.string _ _ _ (⟨#[115,117,109,109,97,114,121]⟩:ByteArray) [.string (⟨#[115,117,109,109,97,114,121]⟩:ByteArray)]from rfl) (bK.one (show Kd.M Kd.string _ _ _ (⟨#[116,97,98,108,101]⟩:ByteArray) [.string (⟨#[116,97,98,108,101]⟩:ByteArray)]from rfl) (bK.one (show Kd.M Kd.string _ _ _ (⟨#[117,108]⟩:ByteArray) [.string (⟨#[117,108]⟩:ByteArray)]from rfl) (bK.one (show Kd.M Kd.string _ _ _ (⟨#[120,109,112]⟩:ByteArray) [.string (⟨#[120,109,112]⟩:ByteArray)]from rfl) (bK.none _ _))))))))))))))))))))))))))))))))))))))));intro v131 w3 ho4 hb hg_ fH;clear hg_ fH;(first|rw[←Ny130.out]at ho4|(simp only[Int.reduceToNat]at ho4;rw[←Ny130.out]at ho4));have n0_:=ak.mk (Kd.d9 ho4 (aR bz));have n1_:=ak.mk (aG bz hb);clear HB;have HO132:=n0_;have HB:=n1_;clear n0_ n1_;clear hb ho4;obtain⟨Ao5,co5,eo5⟩:=Kd.dH HO132.out;subst eo5)|((with_reducible refine aZ (f:=81) rfl ?_);refine dI (some 5) rfl rfl Tryz.func81 (by kernel_rfl) rfl #[.string a0,.slice Ao5 y130.length co5] rfl q'a ?_;(with_reducible refine(bA.calls k a0 _ _ y130 t133 _ ?cO ?dG A2.out).mono ?_);(case cO=>exact cz (Kd.bJ HO132.out).2.2);(case dG=>exact(Kd.bJ HO132.out).2.1);rintro e w' ⟨rfl,⟨nd,rfl⟩⟩;refine⟨_,rfl,?_⟩))
 go_ret;exact⟨by first|rfl|(simp[aJ,aM]<;>rfl)|(simp[*,aJ,aM]<;>rfl),bz⟩
end Go.Proofs.aj.W7
