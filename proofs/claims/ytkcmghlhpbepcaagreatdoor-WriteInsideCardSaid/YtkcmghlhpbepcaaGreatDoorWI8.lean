/- Lemmas and walks, part 8. -/
import Derived.Test.YtkcmghlhpbepcaaGreatDoorWI7
set_option linter.unusedVariables false
set_option linter.unusedSimpArgs false
set_option maxHeartbeats 8000000
set_option maxRecDepth 100000
namespace Go.Proofs.aj.W7
open Go.RowKit Go.Shelf Go.Proofs YtkcmghlhpbepcaaGreatDoor
attribute [local go_sem] Oper.semAt_some
theorem has_c(A:Option Addr)(c:Nat)(xs:List Bt)(x:Bt)(w:World)(h:Strs w A xs):
 Calls Tryz.prog 114 #[.slice A xs.length c,.string x] w fun e w'=>e=.returned (.bool (Lib.containsS xs x))∧w'=w:=by
 rcases str_at h with rfl|⟨g,o,rfl,hc⟩
 ·exact Tryz.slices_Contains_string_empty A c x w
 ·have:=Tryz.slices_Contains_string g o xs.length c xs x w (Nat.le_refl _) h.2.1 hc
  rwa [List.take_length]at this
theorem back_in(n:Nat)(A:Option Addr)(len c:Nat)(w:World):
 CallsIn Fence.wide n Tryz.prog 127 #[.slice A len c] w fun e w'=>e=.returned (.func (.func 172) #[] #[.pointer (some ⟨w.heap.size,0,none⟩)])∧w'=w.alloc (.cells #[.slice A len c] 41):=by
 refine callsIn_of_wp Tryz.func127 rfl trivial ?_ rfl;simp only[Tryz.ntmps127,List.size_toArray,List.length_cons,List.length_nil,Nat.reduceAdd,Nat.reduceSub,Array.replicate_succ,Array.replicate_zero,List.push_toArray,List.append_toArray,List.nil_append,List.cons_append]
 gi_wp2
 go_ret;exact⟨rfl,rfl⟩
theorem PE(n:Nat)(hn:1≤n)(B1:Nat)(A:Option Addr)(c:Nat)(xs:List Bt)(w0 w:World)(hr:Strs w0 A xs)(hB:Below w0.heap.size w0 w)(b1:Boxed w B1 41 (.slice A xs.length c)):
 SeqStopsK Fence.wide n Tryz.prog 172 #[.pointer (some ⟨B1,0,none⟩)] (fun x:IxS=>#[Value.int .i64 (x.1:Nat),.string x.2]) (KpB 41 w0.heap.size B1 (.slice A xs.length c)) (fun ys=>ys=vT xs xs.length) (fun pre=>∃k,k≤xs.length∧pre=vT xs k) xs.length w:=fun l J Jx W hW _ _ hY h0=>
 back1_in n hn l B1 A c xs w0 hr J Jx hY W (hB.trans (hW.mono hB.size)) ((hW.block B1 b1.lt).trans b1) h0
def dS(xs some_ walls:List Bt):Nat→Int
 |0=> -1
 |k+1=>if Lib.containsS some_ (xs.getD k ⟨#[]⟩)then(k:Int)else if Lib.containsS walls (xs.getD k ⟨#[]⟩)then -1 else dS xs some_ walls k
def freeB(some_ walls:List Bt)(pre:List IxS):Prop:=∀p∈pre,Lib.containsS some_ p.2=false∧Lib.containsS walls p.2=false
theorem AA(xs some_ walls:List Bt):∀k,k≤xs.length→freeB some_ walls (vT xs k)→dS xs some_ walls xs.length=dS xs some_ walls (xs.length - k)
 |0,_,_=>by rw[Nat.sub_zero]
 |k+1,hk,h=>by
  rw[AB]at h;have h1:=h (xs.length - 1 - k,xs.getD (xs.length - 1 - k) ⟨#[]⟩) (by simp);have ih:=AA xs some_ walls k (by omega) (fun p hp=>h p (List.mem_append_left _ hp));obtain⟨m,hm⟩:∃m,xs.length - k=m+1:=⟨xs.length - k - 1,by omega⟩
  have hm2:xs.length - (k+1)=m:=by omega
  have hm3:xs.length - 1 - k=m:=by omega
  rw[hm3]at h1;rw[ih,hm,hm2];simp only[dS,h1.1,h1.2];rfl
theorem PG(xs some_ walls:List Bt)(k:Nat)(hk:k≤xs.length)(pre':List IxS)(x:IxS)(res:Int)(h:vT xs k=pre'++[x])(hf:freeB some_ walls pre')
 (hc:(Lib.containsS some_ x.2=true∧res=x.1)∨(Lib.containsS some_ x.2=false∧Lib.containsS walls x.2=true∧res= -1)):dS xs some_ walls xs.length=res:=by
 cases k with
 |zero=>simp[vT]at h
 |succ m=>
  rw[AB]at h;obtain⟨h1,h2⟩:=List.append_inj' h rfl;have h3:=(List.cons.inj h2).1;subst h1;subst h3;rw[AA xs some_ walls m (by omega) hf];obtain⟨q,hq⟩:∃q,xs.length - m=q+1:=⟨xs.length - m - 1,by omega⟩
  have hq2:xs.length - 1 - m=q:=by omega
  rw[hq2]at hc;rw[hq]
  rcases hc with⟨c1,rfl⟩|⟨c1,c2,rfl⟩
  ·simp only[dS,c1]
   rfl
  ·simp only[dS,c1,c2]
   rfl
theorem BM{X:World}{B q:Nat}{t:TypeId}{v:Value}{row:Option Nat}(h:Boxed X B t v)(hr:∀r,row=some r→q≤r∧∃o:Obj,X.heap[r]?=some o∧o.isCells=false):some B≠row:=fun e=>by
 obtain⟨_,o,ho,hc⟩:=hr B e.symm;rw[show X.heap[B]?=_ from h]at ho;cases ho;cases hc
def fI(w:World)(V1 V2:Value)(ys zs:List Bt)(pre:List IxS)(W:World):Prop:=
 (Boxed W w.heap.size 41 V1∧Boxed W (w.heap.size+1) 41 V2∧Boxed W (w.heap.size+1+1) 3 (.int .i64 0)∧freeB ys zs pre)∧Below w.heap.size w W
def fX(w:World)(ys zs:List Bt)(c:Code)(pre:List IxS)(W:World):Prop:=
 (c=.ret∧∃(res:Int) (pre':List IxS) (x:IxS),Boxed W (w.heap.size+1+1) 3 (.int .i64 res)∧pre=pre'++[x]∧freeB ys zs pre'∧((Lib.containsS ys x.2=true∧res=x.1)∨(Lib.containsS ys x.2=false∧Lib.containsS zs x.2=true∧res= -1)))∧Below w.heap.size w W
theorem fI_own(w:World)(B:Nat)(hB:w.heap.size≤B)(V1 V2:Value)(ys zs:List Bt):OwnFrom B (fI w V1 V2 ys zs):=
 OwnFrom.and (fun s X Y row h hg hr=>⟨h.1.kept hg (BM h.1 hr),h.2.1.kept hg (BM h.2.1 hr),h.2.2.1.kept hg (BM h.2.2.1 hr),h.2.2.2⟩) (ownFrom_below (Nat.le_refl _) hB)
theorem fX_own(w:World)(B:Nat)(hB:w.heap.size≤B)(ys zs:List Bt)(c:Code):OwnFrom B (fX w ys zs c):=
 OwnFrom.and (fun s X Y row h hg hr=>by
  obtain⟨hc,res,pre',x,hb,r⟩:=h;exact⟨hc,res,pre',x,hb.kept hg (BM hb hr),r⟩) (ownFrom_below (Nat.le_refl _) hB)
theorem found_in(n:Nat)(hn:3≤n)(A0 A1 A2:Option Addr)(c0 c1 c2:Nat)(xs ys zs:List Bt)(w:World)(h0:Strs w A0 xs)(h1s:Strs w A1 ys)(h2s:Strs w A2 zs):
 CallsIn Fence.wide n Tryz.prog 77 #[.slice A0 xs.length c0,.slice A1 ys.length c1,.slice A2 zs.length c2] w fun e w'=>e=.returned (.int .i64 (dS xs ys zs xs.length))∧Below w.heap.size w w':=by
 have h1:1≤n:=by omega
 have hfn:Fence.wide.fn 127:=trivial;have hfn2:Fence.wide.fn 114:=trivial;refine callsIn_of_wp_marks Tryz.func77 rfl trivial ?_ rfl;simp only[Tryz.ntmps77,List.size_toArray,List.length_cons,List.length_nil,Nat.reduceAdd,Nat.reduceSub,Array.replicate_succ,Array.replicate_zero,List.push_toArray,List.append_toArray,List.nil_append,List.cons_append]
 gi_wp2_with (gi_at_call 127;refine(back_in _ _ _ _ _).mono ?_;rintro e w' ⟨rfl,rfl⟩)
 have HB0:Below w.heap.size w ((((w.alloc (.cells #[.slice A1 ys.length c1] 41)).alloc (.cells #[.slice A2 zs.length c2] 41)).alloc (.cells #[.int .i64 0] 3)).alloc (.cells #[.slice A0 xs.length c0] 41)):=((((Below.refl _ w).alloc (Nat.le_refl _) _).alloc (by simp) _).alloc (by simp;omega) _).alloc (by simp;omega) _;have b1:=Boxed.new w 41 (.slice A1 ys.length c1)
 have b2:Boxed ((w.alloc (.cells #[.slice A1 ys.length c1] 41)).alloc (.cells #[.slice A2 zs.length c2] 41)) (w.heap.size+1) 41 (.slice A2 zs.length c2):=by
  have h:=Boxed.new (w.alloc (.cells #[.slice A1 ys.length c1] 41)) 41 (.slice A2 zs.length c2);rw[World.size_alloc]at h;exact h
 have b3:Boxed (((w.alloc (.cells #[.slice A1 ys.length c1] 41)).alloc (.cells #[.slice A2 zs.length c2] 41)).alloc (.cells #[.int .i64 0] 3)) (w.heap.size+1+1) 3 (.int .i64 0):=by
  have h:=Boxed.new ((w.alloc (.cells #[.slice A1 ys.length c1] 41)).alloc (.cells #[.slice A2 zs.length c2] 41)) 3 (.int .i64 0);rw[World.size_alloc,World.size_alloc]at h;exact h
 have b4:Boxed ((((w.alloc (.cells #[.slice A1 ys.length c1] 41)).alloc (.cells #[.slice A2 zs.length c2] 41)).alloc (.cells #[.int .i64 0] 3)).alloc (.cells #[.slice A0 xs.length c0] 41)) (w.heap.size+1+1+1) 41 (.slice A0 xs.length c0):=by
  have h:=Boxed.new (((w.alloc (.cells #[.slice A1 ys.length c1] 41)).alloc (.cells #[.slice A2 zs.length c2] 41)).alloc (.cells #[.int .i64 0] 3)) 41 (.slice A0 xs.length c0);rw[World.size_alloc,World.size_alloc,World.size_alloc]at h;exact h
 refine wpIn_rangeFunc_ownG rfl h1 (gf:=172) (lb:=#[.pointer (some ⟨w.heap.size+1+1+1,0,none⟩)]) rfl trivial (enters_of Tryz.func172 (by kernel_rfl) rfl)
  (PE (n - 1) (by omega) (w.heap.size+1+1+1) A0 c0 xs w _ h0 HB0 b4) (fun h k=>kpB_t h k) (kpB_b HB0.size b4.lt) (Below.refl _ _) (fun _=>rfl)
  (fI w (.slice A1 ys.length c1) (.slice A2 zs.length c2) ys zs) (fX w ys zs) (fI_own w _ HB0.size _ _ ys zs) (fX_own w _ HB0.size ys zs)
  ⟨⟨((b1.alloc _).alloc _).alloc _,(b2.alloc _).alloc _,b3.alloc _,fun p hp=>by cases hp⟩,HB0⟩
  ?a1 ?assign ?body ?done ?stop
 case assign=>
  intro l x W K hK
  gi_wp2
  exact hK
 case body=>
  rintro l pre x W ⟨⟨hb1,hb2,hb3,hfree⟩,hB⟩ hlt;have k1:=hb1.cell;have k2:=hb2.cell;have k3:=hb3.cell;have f3:=hb3.frozen;have PI:=Lib.hid hfree;clear hfree;have hc1:=Lib.hid (callsIn_wide (n:=n - 1 - 1 - 1).2 (has_c A1 c1 ys x.2 W (ah.aD.Kd.bT h1s hB)));have hc2:=Lib.hid (callsIn_wide (n:=n - 1 - 1 - 1).2 (has_c A2 c2 zs x.2 W (ah.aD.Kd.bT h2s hB)));obtain⟨xi,xs'⟩:=x;dsimp only at hc1 hc2;have hd:1≤n - 1 - 1:=by omega
  have hfd:(Fence.wide.inRound l).fn 114:=trivial;cases e1:Lib.containsS ys xs'
  ·rw[e1]at hc1
   cases e2:Lib.containsS zs xs'
   ·rw[e2]at hc2
    gi_wp2_with (first|(gi_at_call 114;refine(CallsIn.inRound l hc1.out).mono ?_;rintro e w1 ⟨rfl,hw1⟩;rw[hw1];clear hc1)|(gi_at_call 114;refine(CallsIn.inRound l hc2.out).mono ?_;rintro e w2 ⟨rfl,hw2⟩;rw[hw2];clear hc2))
    exact⟨KeepsFrom.refl _ _,⟨Below.refl _ _,fun h=>h⟩,⟨hb1,hb2,hb3,fun p hp=>by
     rcases List.mem_append.1 hp with h|h
     ·exact PI.out p h
     ·obtain rfl:=List.mem_singleton.1 h
      exact⟨e1,e2⟩⟩,hB⟩
   ·rw[e2]at hc2
    gi_wp2_with (first|(gi_at_call 114;refine(CallsIn.inRound l hc1.out).mono ?_;rintro e w1 ⟨rfl,hw1⟩;rw[hw1];clear hc1)|(gi_at_call 114;refine(CallsIn.inRound l hc2.out).mono ?_;rintro e w2 ⟨rfl,hw2⟩;rw[hw2];clear hc2))
    exact⟨(KeepsOthers.setCell _ _ _).from _,⟨rfl,-1,pre,(xi,xs'),hb3.set _,rfl,PI.out,.inr ⟨e1,e2,rfl⟩⟩,hB.setCell (p:=⟨w.heap.size+1+1,0,none⟩) (by show w.heap.size≤w.heap.size+1+1;omega) _⟩
  ·rw[e1]at hc1
   gi_wp2_with (first|(gi_at_call 114;refine(CallsIn.inRound l hc1.out).mono ?_;rintro e w1 ⟨rfl,hw1⟩;rw[hw1];clear hc1)|(gi_at_call 114;refine(CallsIn.inRound l hc2.out).mono ?_;rintro e w2 ⟨rfl,hw2⟩;rw[hw2];clear hc2))
   exact⟨(KeepsOthers.setCell _ _ _).from _,⟨rfl,xi,pre,(xi,xs'),hb3.set _,rfl,PI.out,.inl ⟨e1,rfl⟩⟩,hB.setCell (p:=⟨w.heap.size+1+1,0,none⟩) (by show w.heap.size≤w.heap.size+1+1;omega) _⟩
 case done=>
  rintro D ps W hD rfl ⟨⟨hb1,hb2,hb3,hfree⟩,hB⟩ hK;have k3:=hb3.cell;have f3:=hb3.frozen
  have hres:dS xs ys zs xs.length= -1:=by
   rw[AA xs ys zs xs.length (Nat.le_refl _) hfree,Nat.sub_self];rfl
  have hres2:=Lib.hid hres
  gi_wp2
  have hK2:=(KeepsOthers.setCell W ⟨w.heap.size+1+1,0,none⟩ (.int .i64 (-1))).same D _ hK rfl;refine⟨by simp,.inl ⟨_,_,rfl,run_takeDeferred hK2,?_⟩⟩
  have hb4:=(hb3.set (.int .i64 (-1))).kept (grownBy_putObj' _ D (.deferred none)) (fun e=>by
   have h:=hb3;rw[show w.heap.size+1+1=D from by simpa using e]at h;rw[show W.heap[D]?=_ from h]at hK;cases hK)
  have hc4:=hb4.cell;have hui:=Tryz.underlying3;rw[hres2.out];refine⟨.int .i64 (-1),?_,rfl,(hB.setCell (p:=⟨w.heap.size+1+1,0,none⟩) (by show w.heap.size≤w.heap.size+1+1;omega) _).trans (belowK_b (w:=w) (Nat.le_refl _) _ D _ _ (Nat.le_trans HB0.size hD) hK2 rfl rfl)⟩;simp[results,asAddr,loadVar,hc4,hui,Sem.run_bind,Result.andThen,go_sem]
 case stop=>
  rintro D c pre W hD ⟨k,hk,rfl⟩ ⟨⟨rfl,res,pre',x,hb3,hpre,hfree,hcase⟩,hB⟩ hK;have hres:dS xs ys zs xs.length=res:=PG xs ys zs k hk pre' x res hpre hfree hcase;have hres2:=Lib.hid hres;clear hres hcase hfree hpre
  gi_wp2
  refine⟨by simp,.inl ⟨_,_,rfl,run_takeDeferred hK,?_⟩⟩
  have hb4:=hb3.kept (grownBy_putObj' _ D (.deferred none)) (fun e=>by
   have h:=hb3;rw[show w.heap.size+1+1=D from by simpa using e]at h;rw[show W.heap[D]?=_ from h]at hK;cases hK)
  have hc4:=hb4.cell;have hui:=Tryz.underlying3;rw[hres2.out];refine⟨.int .i64 res,?_,rfl,hB.trans (belowK_b (w:=w) (Nat.le_refl _) _ D _ _ (Nat.le_trans HB0.size hD) hK rfl rfl)⟩;simp[results,asAddr,loadVar,hc4,hui,Sem.run_bind,Result.andThen,go_sem]
def gZ.f(l0 l1 l2:List Bt):Option Int:=some (dS l0 l1 l2 l0.length)
theorem gZ.calls(A0:Option Addr)(c0:Nat)(l0:List Bt)(A1:Option Addr)(c1:Nat)(l1:List Bt)(A2:Option Addr)(c2:Nat)(l2:List Bt)(r:Int)(w:World)(hr0:ah.aD.Kd.string.C w A0 l0.length l0)(hc0:l0.length≤c0)(hr1:ah.aD.Kd.string.C w A1 l1.length l1)(hc1:l1.length≤c1)(hr2:ah.aD.Kd.string.C w A2 l2.length l2)(hc2:l2.length≤c2)(h:gZ.f l0 l1 l2=some r):
 Calls Tryz.prog 77 #[.slice A0 l0.length c0,.slice A1 l1.length c1,.slice A2 l2.length c2] w fun e w'=>e=.returned (.int .i64 r)∧Below w.heap.size w w':=by
 obtain rfl:=Option.some.inj h;exact(callsIn_wide (n:=3)).1 (found_in 3 (Nat.le_refl _) A0 A1 A2 c0 c1 c2 l0 l1 l2 w hr0 hr1 hr2)
end Go.Proofs.aj.W7
namespace Go.Proofs.aj.W7
open Go.RowKit ah.aD ah.bH ah.bU
attribute [local go_sem] dB dD dW dX bZ cu dF dG
def bN.l0:Nat→Bt→List Bt→Int→Int→Option (Bool)
 |0,_,_,_,_=>none
 |k+1,x0,x7,x8,x9=>if x9<x8 then(if 0≤x9 then(if x9<(x7.length:Int)then(if(ET ByteArray.empty x7 x9).toList=x0.toList then(some true)else(bN.l0 k x0 x7 x8 (wrap64 (x9+1))))else(none))else(none))else(some false)
def bN.f(k:Nat)(a0:Bt)(l1:List Bt):Option (Bool):=bN.l0 k a0 l1 (l1.length:Int) 0
theorem bN.calls(k:Nat)(a0:Bt)(A1:Option Addr)(c1:Nat)(l1:List Bt)(r:Bool)(w:World)(hr1:Kd.C Kd.string w A1 l1.length l1)(hc1:l1.length≤c1)(h:bN.f k a0 l1=some r):
 Calls Tryz.prog 81 #[.string a0,.slice A1 l1.length c1] w fun e w'=>e=.returned (.bool r)∧bJ w w':=by
 have HR1:=ak.mk hr1;have HC1:=ak.mk hc1;clear hr1 hc1;have H:(bN.l0 k a0 l1 (l1.length:Int) 0)=some r:=h;clear h;have H':=ak.mk H;clear H;go_enter Tryz.func81,Tryz.ntmps81;go_wp2
 go_loopg [9] k (fun kq v9 w'=>∃(eB:Int),v9=.int .i64 eB∧ak (bN.l0 kq a0 l1 (l1.length:Int) eB=some r)∧ak (kq≤k)∧bJ w w')
 case atStart=>exact⟨(0),q'c,H',⟨Nat.le_refl _⟩,by repeat(first|exact bJ.refl _|apply bJ.step)⟩
 case round=>
  clear H'
  try clear c1
  try clear p2
  obtain⟨eB,rfl,HA,HK1,⟨m1,rfl⟩⟩:=hrel;cases gk with
  |zero=>exact absurd HA.out (by simp[bN.l0])
  |succ k1=>
   have H:=HA.out;clear HA;simp only[bN.l0]at H
   by_cases c3:eB<(l1.length:Int)
   ·rw[if_pos c3]at H
    have oD:=decide_eq_true c3;clear c3
    by_cases c4:0≤eB
    ·rw[if_pos c4]at H
     have lY:=decide_eq_true c4;clear c4
     by_cases c5:eB<(l1.length:Int)
     ·rw[if_pos c5]at H
      have tX:=decide_eq_true c5;clear c5
      by_cases c6:(ET ByteArray.empty l1 eB).toList=a0.toList
      ·rw[if_pos c6]at H
       have AO:=beq_iff_eq.mpr c6;have c6b1:=bne_eq_false_iff_eq.mpr c6;clear c6;obtain rfl:=Option.some.inj H;have p121:0≤(eB:Int):=q'b;have q121:eB<(l1.length:Int):=q'b;obtain⟨ad121,e121,hx121_0⟩:=Kd.JG HR1.out eB p121 q121;cases e121;replace p121:=eq_true p121;replace q121:=eq_true q121;go_wp2;go_ret;exact⟨q'c,by repeat(first|exact bJ.refl _|apply bJ.step)⟩
      ·rw[if_neg c6]at H
       have AO:=beq_eq_false_iff_ne.mpr c6;have c6b1:=bne_iff_ne.mpr c6;have H':=ak.mk H;clear H;have p121:0≤(eB:Int):=q'b;have q121:eB<(l1.length:Int):=q'b;obtain⟨ad121,e121,hx121_0⟩:=Kd.JG HR1.out eB p121 q121;cases e121;replace p121:=eq_true p121;replace q121:=eq_true q121;go_wp2
       go_roundg k1
       case measure=>have:=HK1.out;omega
       case rel=>exact⟨(wrap64 (eB+1)),q'c,H',⟨lz HK1.out⟩,by repeat(first|exact bJ.refl _|apply bJ.step)⟩
     ·rw[if_neg c5]at H
      exact absurd H (by simp)
    ·rw[if_neg c4]at H
     exact absurd H (by simp)
   ·rw[if_neg c3]at H
    have oD:=decide_eq_false c3;clear c3;obtain rfl:=Option.some.inj H;go_wp2;go_ret;exact⟨q'c,by repeat(first|exact bJ.refl _|apply bJ.step)⟩
def kJ.l0:Nat→List Bt→Bt→Int→Option (Bool)
 |0,_,_,_=>none
 |k+1,x0,x1,x5=>if x5<(x0.length:Int)then(if 0≤x5 then(if(ET ByteArray.empty x0 x5).toList=x1.toList then(some true)else(kJ.l0 k x0 x1 (wrap64 (x5+1))))else(none))else(some false)
def kJ.f(k:Nat)(l0:List Bt)(a1:Bt):Option (Bool):=kJ.l0 k l0 a1 0
end Go.Proofs.aj.W7
namespace Go.Proofs.aj.W7
open Go.RowKit Go.Proofs aj YtkcmghlhpbepcaaGreatDoor ah.aD
theorem wN{i:Nat}(h:i<1000000000):wrap64 ((i:Int)+1)=((i+1:Nat):Int):=by unfold wrap64;omega
theorem bIff(a b:Bt):a.toList=b.toList↔a.data.toList=b.data.toList:=by rw[Lib.toList_data,Lib.toList_data]
def pW(l:List Bt)(s:Bt):Bool:=l.any fun x=>x.data.toList==s.data.toList
theorem rdOf_at(l:List Bt)(i:Nat)(h:i<l.length):ET ByteArray.empty l (i:Int)=l[i]:=by simp[ET,h]
theorem among_l0(s:Bt)(l:List Bt)(hl:l.length<100000):∀(d i k:Nat),l.length - i≤d→i≤l.length→d<k→bN.l0 k s l (l.length:Int) i=some (pW (l.drop i) s):=by
 intro d
 induction d with
 |zero=>
  intro i k hd hi hk;obtain⟨k,rfl⟩:∃m,k=m+1:=⟨k - 1,by omega⟩
  simp only[bN.l0];rw[if_neg (by omega),List.drop_of_length_le (by omega)];rfl
 |succ d ih=>
  intro i k hd hi hk;obtain⟨k,rfl⟩:∃m,k=m+1:=⟨k - 1,by omega⟩
  by_cases h:i<l.length
  ·simp only[bN.l0]
   rw[if_pos (by omega),if_pos (by omega),if_pos (by omega),rdOf_at l i h,wN (by omega),ih (i+1) k (by omega) (by omega) (by omega),List.drop_eq_getElem_cons h];simp only[pW,List.any_cons]
   by_cases e:l[i].data.toList=s.data.toList
   ·rw[if_pos ((bIff _ _).2 e),e];simp
   ·rw[if_neg (fun h=>e ((bIff _ _).1 h)),beq_eq_false_iff_ne.2 e,Bool.false_or]
  ·simp only[bN.l0]
   rw[if_neg (by omega),List.drop_of_length_le (by omega)];rfl
theorem uX(s:Bt)(l:List Bt)(k:Nat)(hl:l.length<100000)(hk:l.length<k):bN.f k s l=some (pW l s):=among_l0 s l hl l.length 0 k (by omega) (by omega) hk
end Go.Proofs.aj.W7
namespace Go.Proofs.aj.W7
open Go.RowKit ah.aD ah.bH ah.bU
attribute [local go_sem] dB dD dW dX bZ cu dF dG
def gD.f(a0:Bt):Option (Bool):=if a0.toList=([108,105] :List UInt8)then(some true)else(if a0.toList=([100,100] :List UInt8)then(some true)else(some (a0.toList==([100,116] :List UInt8))))
theorem gD.calls(a0:Bt)(r:Bool)(w:World)(h:gD.f a0=some r):
 Calls Tryz.prog 76 #[.string a0] w fun e w'=>e=.returned (.bool r)∧bJ w w':=by
 have H:(if a0.toList=([108,105] :List UInt8)then(some true)else(if a0.toList=([100,100] :List UInt8)then(some true)else(some (a0.toList==([100,116] :List UInt8)))))=some r:=h;clear h
 by_cases c2:a0.toList=([108,105] :List UInt8)
 ·rw[if_pos c2]at H
  have EU:=beq_iff_eq.mpr c2;have c2b1:=bne_eq_false_iff_eq.mpr c2;clear c2;obtain rfl:=Option.some.inj H;go_enter Tryz.func76,Tryz.ntmps76;go_wp2;go_ret;exact⟨q'c,by repeat(first|exact bJ.refl _|apply bJ.step)⟩
 ·rw[if_neg c2]at H
  have EU:=beq_eq_false_iff_ne.mpr c2;have c2b1:=bne_iff_ne.mpr c2
  by_cases c3:a0.toList=([100,100] :List UInt8)
  ·rw[if_pos c3]at H
   have oD:=beq_iff_eq.mpr c3;have AL:=bne_eq_false_iff_eq.mpr c3;clear c3;obtain rfl:=Option.some.inj H;go_enter Tryz.func76,Tryz.ntmps76;go_wp2;go_ret;exact⟨q'c,by repeat(first|exact bJ.refl _|apply bJ.step)⟩
  ·rw[if_neg c3]at H
   have oD:=beq_eq_false_iff_ne.mpr c3;have AL:=bne_iff_ne.mpr c3;obtain rfl:=Option.some.inj H;go_enter Tryz.func76,Tryz.ntmps76;go_wp2;go_ret;exact⟨q'c,by repeat(first|exact bJ.refl _|apply bJ.step)⟩
def ig.f(k:Nat)(a0:Bt):Option (Bool):=(bN.f k a0 (([(⟨#[116,114]⟩:Bt),(⟨#[116,100]⟩:Bt),(⟨#[116,104]⟩:Bt),(⟨#[116,98,111,100,121]⟩:Bt),(⟨#[116,102,111,111,116]⟩:Bt),(⟨#[116,104,101,97,100]⟩:Bt)] :List Bt))).bind fun t129=>(some t129)
theorem ig.calls(k:Nat)(a0:Bt)(r:Bool)(w:World)(h:ig.f k a0=some r):
 Calls Tryz.prog 82 #[.string a0] w fun e w'=>e=.returned (.bool r)∧Below w.heap.size w w':=by
 have HB:=ak.mk (Below.refl w.heap.size w);have H:((bN.f k a0 (([(⟨#[116,114]⟩:Bt),(⟨#[116,100]⟩:Bt),(⟨#[116,104]⟩:Bt),(⟨#[116,98,111,100,121]⟩:Bt),(⟨#[116,102,111,111,116]⟩:Bt),(⟨#[116,104,101,97,100]⟩:Bt)] :List Bt))).bind fun t129=>(some t129))=some r:=h;clear h;obtain⟨y126,Ng⟩:∃y_:List Bt,y_=(([(⟨#[116,114]⟩:Bt),(⟨#[116,100]⟩:Bt),(⟨#[116,104]⟩:Bt),(⟨#[116,98,111,100,121]⟩:Bt),(⟨#[116,102,111,111,116]⟩:Bt),(⟨#[116,104,101,97,100]⟩:Bt)] :List Bt)):=⟨_,rfl⟩
 replace H:((bN.f k a0 y126).bind fun t129=>(some t129))=some r:=by first|(rw[Ng];with_reducible exact H)|(have H2_:=(Option.bind_some _ _).symm.trans H;rw[Ng];with_reducible exact H2_)|(have H2_:=(Option.bind_some _ _).symm.trans H;with_reducible exact H2_)|with_reducible exact H|(rw[Ng];exact H)|exact H
 have Ny126:=ak.mk Ng;clear Ng;replace H:=Option.bind_eq_some_iff.mp H;obtain⟨t129,A20,H⟩:=H
 try dsimp only at H
 have A2:=ak.mk A20;clear A20;obtain rfl:=Option.some.inj H;go_enter Tryz.func82,Tryz.ntmps82
 go_wp2_with(first|((with_reducible refine cB (N:=4) rfl ?_);refine Kd.kg Kd.string _ 9 ?hg (N:=4) ?hd (xs:=([(⟨#[116,114]⟩:Bt),(⟨#[116,100]⟩:Bt),(⟨#[116,104]⟩:Bt),(⟨#[116,98,111,100,121]⟩:Bt),(⟨#[116,102,111,111,116]⟩:Bt),(⟨#[116,104,101,97,100]⟩:Bt)] :List Bt)) (inner:=[.string (⟨#[116,114]⟩:Bt),.string (⟨#[116,100]⟩:Bt),.string (⟨#[116,104]⟩:Bt),.string (⟨#[116,98,111,100,121]⟩:Bt),.string (⟨#[116,102,111,111,116]⟩:Bt),.string (⟨#[116,104,101,97,100]⟩:Bt)]) (ok:=fun _=>True) (okp:=fun _=>True) ?hr ?hp (fun _ hk=>hk) trivial (Below.refl _ _) (Nat.le_refl _) (by simp) ?_;(case hd=>rfl);(case hg=>rfl);(case hr=>first|(go_simp;done)|(go_simp;rfl));(case hp=>exact(bM.one (show Kd.M Kd.string _ _ _ (⟨#[116,114]⟩:Bt) [.string (⟨#[116,114]⟩:Bt)]from rfl) (bM.one (show Kd.M Kd.string _ _ _ (⟨#[116,100]⟩:Bt) [.string (⟨#[116,100]⟩:Bt)]from rfl) (bM.one (show Kd.M Kd.string _ _ _ (⟨#[116,104]⟩:Bt) [.string (⟨#[116,104]⟩:Bt)]from rfl) (bM.one (show Kd.M Kd.string _ _ _ (⟨#[116,98,111,100,121]⟩:Bt) [.string (⟨#[116,98,111,100,121]⟩:Bt)]from rfl) (bM.one (show Kd.M Kd.string _ _ _ (⟨#[116,102,111,111,116]⟩:Bt) [.string (⟨#[116,102,111,111,116]⟩:Bt)]from rfl) (bM.one (show Kd.M Kd.string _ _ _ (⟨#[116,104,101,97,100]⟩:Bt) [.string (⟨#[116,104,101,97,100]⟩:Bt)]from rfl) (bM.none _ _))))))));intro v127 w3 ho4 hb hg_ gq;clear hg_ gq;(first|rw[←Ny126.out]at ho4|(simp only[Int.reduceToNat]at ho4;rw[←Ny126.out]at ho4));have HO128:=ak.mk (Kd.dU ho4 (aU bz));replace HB:=ak.mk (aG bz hb);clear hb ho4;obtain⟨Ao5,co5,eo5⟩:=Kd.cK HO128.out;subst eo5)|((with_reducible refine bC (f:=81) rfl ?_);refine eG (some 5) rfl rfl Tryz.func81 (by kernel_rfl) rfl #[.string a0,.slice Ao5 y126.length co5] rfl q'a ?_;(with_reducible refine(bN.calls k a0 _ _ y126 t129 _ ?dI ?dJ A2.out).mono ?_);(case dI=>exact cz (Kd.bg HO128.out).2.2);(case dJ=>exact(Kd.bg HO128.out).2.1);rintro e w' ⟨rfl,⟨nd,rfl⟩⟩;refine⟨_,rfl,?_⟩))
 go_ret;exact⟨by first|rfl|(simp[aI,aJ]<;>rfl)|(simp[*,aI,aJ]<;>rfl),bz⟩
def lD.f(k:Nat)(a0:Bt):Option (Bool):=(bN.f k a0 (([(⟨#[97,100,100,114,101,115,115]⟩:Bt),(⟨#[97,114,116,105,99,108,101]⟩:Bt),(⟨#[97,115,105,100,101]⟩:Bt),(⟨#[98,108,111,99,107,113,117,111,116,101]⟩:Bt),(⟨#[99,101,110,116,101,114]⟩:Bt),(⟨#[100,100]⟩:Bt),(⟨#[100,101,116,97,105,108,115]⟩:Bt),(⟨#[100,105,97,108,111,103]⟩:Bt),(⟨#[100,105,114]⟩:Bt),(⟨#[100,105,118]⟩:Bt),(⟨#[100,108]⟩:Bt),(⟨#[100,116]⟩:Bt),(⟨#[102,105,101,108,100,115,101,116]⟩:Bt),(⟨#[102,105,103,99,97,112,116,105,111,110]⟩:Bt),(⟨#[102,105,103,117,114,101]⟩:Bt),(⟨#[102,111,111,116,101,114]⟩:Bt),(⟨#[102,111,114,109]⟩:Bt),(⟨#[104,49]⟩:Bt),(⟨#[104,50]⟩:Bt),(⟨#[104,51]⟩:Bt),(⟨#[104,52]⟩:Bt),(⟨#[104,53]⟩:Bt),(⟨#[104,54]⟩:Bt),(⟨#[104,101,97,100,101,114]⟩:Bt),(⟨#[104,103,114,111,117,112]⟩:Bt),(⟨#[104,114]⟩:Bt),(⟨#[108,105]⟩:Bt),(⟨#[109,97,105,110]⟩:Bt),(⟨#[109,101,110,117]⟩:Bt),(⟨#[110,97,118]⟩:Bt),(⟨#[111,108]⟩:Bt),(⟨#[112]⟩:Bt),(⟨#[112,114,101]⟩:Bt),(⟨#[115,101,99,116,105,111,110]⟩:Bt),(⟨#[115,117,109,109,97,114,121]⟩:Bt),(⟨#[116,97,98,108,101]⟩:Bt),(⟨#[117,108]⟩:Bt),(⟨#[120,109,112]⟩:Bt)] :List Bt))).bind fun t133=>(some t133)
theorem lD.calls(k:Nat)(a0:Bt)(r:Bool)(w:World)(h:lD.f k a0=some r):
 Calls Tryz.prog 83 #[.string a0] w fun e w'=>e=.returned (.bool r)∧Below w.heap.size w w':=by
 have HB:=ak.mk (Below.refl w.heap.size w)
 have H:((bN.f k a0 (([(⟨#[97,100,100,114,101,115,115]⟩:Bt),(⟨#[97,114,116,105,99,108,101]⟩:Bt),(⟨#[97,115,105,100,101]⟩:Bt),(⟨#[98,108,111,99,107,113,117,111,116,101]⟩:Bt),(⟨#[99,101,110,116,101,114]⟩:Bt),(⟨#[100,100]⟩:Bt),(⟨#[100,101,116,97,105,108,115]⟩:Bt),(⟨#[100,105,97,108,111,103]⟩:Bt),(⟨#[100,105,114]⟩:Bt),(⟨#[100,105,118]⟩:Bt),(⟨#[100,108]⟩:Bt),(⟨#[100,116]⟩:Bt),(⟨#[102,105,101,108,100,115,101,116]⟩:Bt),(⟨#[102,105,103,99,97,112,116,105,111,110]⟩:Bt),(⟨#[102,105,103,117,114,101]⟩:Bt),(⟨#[102,111,111,116,101,114]⟩:Bt),(⟨#[102,111,114,109]⟩:Bt),(⟨#[104,49]⟩:Bt),(⟨#[104,50]⟩:Bt),(⟨#[104,51]⟩:Bt),(⟨#[104,52]⟩:Bt),(⟨#[104,53]⟩:Bt),(⟨#[104,54]⟩:Bt),(⟨#[104,101,97,100,101,114]⟩:Bt),(⟨#[104,103,114,111,117,112]⟩:Bt),(⟨#[104,114]⟩:Bt),(⟨#[108,105]⟩:Bt),(⟨#[109,97,105,110]⟩:Bt),(⟨#[109,101,110,117]⟩:Bt),(⟨#[110,97,118]⟩:Bt),(⟨#[111,108]⟩:Bt),(⟨#[112]⟩:Bt),(⟨#[112,114,101]⟩:Bt),(⟨#[115,101,99,116,105,111,110]⟩:Bt),(⟨#[115,117,109,109,97,114,121]⟩:Bt),(⟨#[116,97,98,108,101]⟩:Bt),(⟨#[117,108]⟩:Bt),(⟨#[120,109,112]⟩:Bt)] :List Bt))).bind fun t133=>(some t133))=some r:=h
 clear h
 obtain⟨y130,Nh⟩:∃y_:List Bt,y_=(([(⟨#[97,100,100,114,101,115,115]⟩:Bt),(⟨#[97,114,116,105,99,108,101]⟩:Bt),(⟨#[97,115,105,100,101]⟩:Bt),(⟨#[98,108,111,99,107,113,117,111,116,101]⟩:Bt),(⟨#[99,101,110,116,101,114]⟩:Bt),(⟨#[100,100]⟩:Bt),(⟨#[100,101,116,97,105,108,115]⟩:Bt),(⟨#[100,105,97,108,111,103]⟩:Bt),(⟨#[100,105,114]⟩:Bt),(⟨#[100,105,118]⟩:Bt),(⟨#[100,108]⟩:Bt),(⟨#[100,116]⟩:Bt),(⟨#[102,105,101,108,100,115,101,116]⟩:Bt),(⟨#[102,105,103,99,97,112,116,105,111,110]⟩:Bt),(⟨#[102,105,103,117,114,101]⟩:Bt),(⟨#[102,111,111,116,101,114]⟩:Bt),(⟨#[102,111,114,109]⟩:Bt),(⟨#[104,49]⟩:Bt),(⟨#[104,50]⟩:Bt),(⟨#[104,51]⟩:Bt),(⟨#[104,52]⟩:Bt),(⟨#[104,53]⟩:Bt),(⟨#[104,54]⟩:Bt),(⟨#[104,101,97,100,101,114]⟩:Bt),(⟨#[104,103,114,111,117,112]⟩:Bt),(⟨#[104,114]⟩:Bt),(⟨#[108,105]⟩:Bt),(⟨#[109,97,105,110]⟩:Bt),(⟨#[109,101,110,117]⟩:Bt),(⟨#[110,97,118]⟩:Bt),(⟨#[111,108]⟩:Bt),(⟨#[112]⟩:Bt),(⟨#[112,114,101]⟩:Bt),(⟨#[115,101,99,116,105,111,110]⟩:Bt),(⟨#[115,117,109,109,97,114,121]⟩:Bt),(⟨#[116,97,98,108,101]⟩:Bt),(⟨#[117,108]⟩:Bt),(⟨#[120,109,112]⟩:Bt)] :List Bt)):=⟨_,rfl⟩
 replace H:((bN.f k a0 y130).bind fun t133=>(some t133))=some r:=by first|(rw[Nh];with_reducible exact H)|(have H2_:=(Option.bind_some _ _).symm.trans H;rw[Nh];with_reducible exact H2_)|(have H2_:=(Option.bind_some _ _).symm.trans H;with_reducible exact H2_)|with_reducible exact H|(rw[Nh];exact H)|exact H
 have Ny130:=ak.mk Nh;clear Nh;replace H:=Option.bind_eq_some_iff.mp H;obtain⟨t133,A20,H⟩:=H
 try dsimp only at H
 have A2:=ak.mk A20;clear A20;obtain rfl:=Option.some.inj H;go_enter Tryz.func83,Tryz.ntmps83
 go_wp2_with(first|((with_reducible refine cB (N:=4) rfl ?_);refine Kd.kg Kd.string _ 9 ?hg (N:=4) ?hd (xs:=([(⟨#[97,100,100,114,101,115,115]⟩:Bt),(⟨#[97,114,116,105,99,108,101]⟩:Bt),(⟨#[97,115,105,100,101]⟩:Bt),(⟨#[98,108,111,99,107,113,117,111,116,101]⟩:Bt),(⟨#[99,101,110,116,101,114]⟩:Bt),(⟨#[100,100]⟩:Bt),(⟨#[100,101,116,97,105,108,115]⟩:Bt),(⟨#[100,105,97,108,111,103]⟩:Bt),(⟨#[100,105,114]⟩:Bt),(⟨#[100,105,118]⟩:Bt),(⟨#[100,108]⟩:Bt),(⟨#[100,116]⟩:Bt),(⟨#[102,105,101,108,100,115,101,116]⟩:Bt),(⟨#[102,105,103,99,97,112,116,105,111,110]⟩:Bt),(⟨#[102,105,103,117,114,101]⟩:Bt),(⟨#[102,111,111,116,101,114]⟩:Bt),(⟨#[102,111,114,109]⟩:Bt),(⟨#[104,49]⟩:Bt),(⟨#[104,50]⟩:Bt),(⟨#[104,51]⟩:Bt),(⟨#[104,52]⟩:Bt),(⟨#[104,53]⟩:Bt),(⟨#[104,54]⟩:Bt),(⟨#[104,101,97,100,101,114]⟩:Bt),(⟨#[104,103,114,111,117,112]⟩:Bt),(⟨#[104,114]⟩:Bt),(⟨#[108,105]⟩:Bt),(⟨#[109,97,105,110]⟩:Bt),(⟨#[109,101,110,117]⟩:Bt),(⟨#[110,97,118]⟩:Bt),(⟨#[111,108]⟩:Bt),(⟨#[112]⟩:Bt),(⟨#[112,114,101]⟩:Bt),(⟨#[115,101,99,116,105,111,110]⟩:Bt),(⟨#[115,117,109,109,97,114,121]⟩:Bt),(⟨#[116,97,98,108,101]⟩:Bt),(⟨#[117,108]⟩:Bt),(⟨#[120,109,112]⟩:Bt)] :List Bt)) (inner:=[.string (⟨#[97,100,100,114,101,115,115]⟩:Bt),.string (⟨#[97,114,116,105,99,108,101]⟩:Bt),.string (⟨#[97,115,105,100,101]⟩:Bt),.string (⟨#[98,108,111,99,107,113,117,111,116,101]⟩:Bt),.string (⟨#[99,101,110,116,101,114]⟩:Bt),.string (⟨#[100,100]⟩:Bt),.string (⟨#[100,101,116,97,105,108,115]⟩:Bt),.string (⟨#[100,105,97,108,111,103]⟩:Bt),.string (⟨#[100,105,114]⟩:Bt),.string (⟨#[100,105,118]⟩:Bt),.string (⟨#[100,108]⟩:Bt),.string (⟨#[100,116]⟩:Bt),.string (⟨#[102,105,101,108,100,115,101,116]⟩:Bt),.string (⟨#[102,105,103,99,97,112,116,105,111,110]⟩:Bt),.string (⟨#[102,105,103,117,114,101]⟩:Bt),.string (⟨#[102,111,111,116,101,114]⟩:Bt),.string (⟨#[102,111,114,109]⟩:Bt),.string (⟨#[104,49]⟩:Bt),.string (⟨#[104,50]⟩:Bt),.string (⟨#[104,51]⟩:Bt),.string (⟨#[104,52]⟩:Bt),.string (⟨#[104,53]⟩:Bt),.string (⟨#[104,54]⟩:Bt),.string (⟨#[104,101,97,100,101,114]⟩:Bt),.string (⟨#[104,103,114,111,117,112]⟩:Bt),.string (⟨#[104,114]⟩:Bt),.string (⟨#[108,105]⟩:Bt),.string (⟨#[109,97,105,110]⟩:Bt),.string (⟨#[109,101,110,117]⟩:Bt),.string (⟨#[110,97,118]⟩:Bt),.string (⟨#[111,108]⟩:Bt),.string (⟨#[112]⟩:Bt),.string (⟨#[112,114,101]⟩:Bt),.string (⟨#[115,101,99,116,105,111,110]⟩:Bt),.string (⟨#[115,117,109,109,97,114,121]⟩:Bt),.string (⟨#[116,97,98,108,101]⟩:Bt),.string (⟨#[117,108]⟩:Bt),.string (⟨#[120,109,112]⟩:Bt)]) (ok:=fun _=>True) (okp:=fun _=>True) ?hr ?hp (fun _ hk=>hk) trivial (Below.refl _ _) (Nat.le_refl _) (by simp) ?_;(case hd=>rfl);(case hg=>rfl);(case hr=>first|(go_simp;done)|(go_simp;rfl));(case hp=>exact(bM.one (show Kd.M Kd.string _ _ _ (⟨#[97,100,100,114,101,115,115]⟩:Bt) [.string (⟨#[97,100,100,114,101,115,115]⟩:Bt)]from rfl) (bM.one (show Kd.M Kd.string _ _ _ (⟨#[97,114,116,105,99,108,101]⟩:Bt) [.string (⟨#[97,114,116,105,99,108,101]⟩:Bt)]from rfl) (bM.one (show Kd.M Kd.string _ _ _ (⟨#[97,115,105,100,101]⟩:Bt) [.string (⟨#[97,115,105,100,101]⟩:Bt)]from rfl) (bM.one (show Kd.M Kd.string _ _ _ (⟨#[98,108,111,99,107,113,117,111,116,101]⟩:Bt) [.string (⟨#[98,108,111,99,107,113,117,111,116,101]⟩:Bt)]from rfl) (bM.one (show Kd.M Kd.string _ _ _ (⟨#[99,101,110,116,101,114]⟩:Bt) [.string (⟨#[99,101,110,116,101,114]⟩:Bt)]from rfl) (bM.one (show Kd.M Kd.string _ _ _ (⟨#[100,100]⟩:Bt) [.string (⟨#[100,100]⟩:Bt)]from rfl) (bM.one (show Kd.M Kd.string _ _ _ (⟨#[100,101,116,97,105,108,115]⟩:Bt) [.string (⟨#[100,101,116,97,105,108,115]⟩:Bt)]from rfl) (bM.one (show Kd.M Kd.string _ _ _ (⟨#[100,105,97,108,111,103]⟩:Bt) [.string (⟨#[100,105,97,108,111,103]⟩:Bt)]from rfl) (bM.one (show Kd.M Kd.string _ _ _ (⟨#[100,105,114]⟩:Bt) [.string (⟨#[100,105,114]⟩:Bt)]from rfl) (bM.one (show Kd.M Kd.string _ _ _ (⟨#[100,105,118]⟩:Bt) [.string (⟨#[100,105,118]⟩:Bt)]from rfl) (bM.one (show Kd.M Kd.string _ _ _ (⟨#[100,108]⟩:Bt) [.string (⟨#[100,108]⟩:Bt)]from rfl) (bM.one (show Kd.M Kd.string _ _ _ (⟨#[100,116]⟩:Bt) [.string (⟨#[100,116]⟩:Bt)]from rfl) (bM.one (show Kd.M Kd.string _ _ _ (⟨#[102,105,101,108,100,115,101,116]⟩:Bt) [.string (⟨#[102,105,101,108,100,115,101,116]⟩:Bt)]from rfl) (bM.one (show Kd.M Kd.string _ _ _ (⟨#[102,105,103,99,97,112,116,105,111,110]⟩:Bt) [.string (⟨#[102,105,103,99,97,112,116,105,111,110]⟩:Bt)]from rfl) (bM.one (show Kd.M Kd.string _ _ _ (⟨#[102,105,103,117,114,101]⟩:Bt) [.string (⟨#[102,105,103,117,114,101]⟩:Bt)]from rfl) (bM.one (show Kd.M Kd.string _ _ _ (⟨#[102,111,111,116,101,114]⟩:Bt) [.string (⟨#[102,111,111,116,101,114]⟩:Bt)]from rfl) (bM.one (show Kd.M Kd.string _ _ _ (⟨#[102,111,114,109]⟩:Bt) [.string (⟨#[102,111,114,109]⟩:Bt)]from rfl) (bM.one (show Kd.M Kd.string _ _ _ (⟨#[104,49]⟩:Bt) [.string (⟨#[104,49]⟩:Bt)]from rfl) (bM.one (show Kd.M Kd.string _ _ _ (⟨#[104,50]⟩:Bt) [.string (⟨#[104,50]⟩:Bt)]from rfl) (bM.one (show Kd.M Kd.string _ _ _ (⟨#[104,51]⟩:Bt) [.string (⟨#[104,51]⟩:Bt)]from rfl) (bM.one (show Kd.M Kd.string _ _ _ (⟨#[104,52]⟩:Bt) [.string (⟨#[104,52]⟩:Bt)]from rfl) (bM.one (show Kd.M Kd.string _ _ _ (⟨#[104,53]⟩:Bt) [.string (⟨#[104,53]⟩:Bt)]from rfl) (bM.one (show Kd.M Kd.string _ _ _ (⟨#[104,54]⟩:Bt) [.string (⟨#[104,54]⟩:Bt)]from rfl) (bM.one (show Kd.M Kd.string _ _ _ (⟨#[104,101,97,100,101,114]⟩:Bt) [.string (⟨#[104,101,97,100,101,114]⟩:Bt)]from rfl) (bM.one (show Kd.M Kd.string _ _ _ (⟨#[104,103,114,111,117,112]⟩:Bt) [.string (⟨#[104,103,114,111,117,112]⟩:Bt)]from rfl) (bM.one (show Kd.M Kd.string _ _ _ (⟨#[104,114]⟩:Bt) [.string (⟨#[104,114]⟩:Bt)]from rfl) (bM.one (show Kd.M Kd.string _ _ _ (⟨#[108,105]⟩:Bt) [.string (⟨#[108,105]⟩:Bt)]from rfl) (bM.one (show Kd.M Kd.string _ _ _ (⟨#[109,97,105,110]⟩:Bt) [.string (⟨#[109,97,105,110]⟩:Bt)]from rfl) (bM.one (show Kd.M Kd.string _ _ _ (⟨#[109,101,110,117]⟩:Bt) [.string (⟨#[109,101,110,117]⟩:Bt)]from rfl) (bM.one (show Kd.M Kd.string _ _ _ (⟨#[110,97,118]⟩:Bt) [.string (⟨#[110,97,118]⟩:Bt)]from rfl) (bM.one (show Kd.M Kd.string _ _ _ (⟨#[111,108]⟩:Bt) [.string (⟨#[111,108]⟩:Bt)]from rfl) (bM.one (show Kd.M Kd.string _ _ _ (⟨#[112]⟩:Bt) [.string (⟨#[112]⟩:Bt)]from rfl) (bM.one (show Kd.M Kd.string _ _ _ (⟨#[112,114,101]⟩:Bt) [.string (⟨#[112,114,101]⟩:Bt)]from rfl) (bM.one (show Kd.M Kd.string _ _ _ (⟨#[115,101,99,116,105,111,110]⟩:Bt) [.string (⟨#[115,101,99,116,105,111,110]⟩:Bt)]from rfl) (bM.one (show Kd.M Kd.string _ _ _ (⟨#[115,117,109,109,97,114,121]⟩:Bt) [.string (⟨#[115,117,109,109,97,114,121]⟩:Bt)]from rfl) (bM.one (show Kd.M Kd.string _ _ _ (⟨#[116,97,98,108,101]⟩:Bt) [.string (⟨#[116,97,98,108,101]⟩:Bt)]from rfl) (bM.one (show Kd.M Kd.string _ _ _ (⟨#[117,108]⟩:Bt) [.string (⟨#[117,108]⟩:Bt)]from rfl) (bM.one (show Kd.M Kd.string _ _ _ (⟨#[120,109,112]⟩:Bt) [.string (⟨#[120,109,112]⟩:Bt)]from rfl) (bM.none _ _))))))))))))))))))))))))))))))))))))))));intro v131 w3 ho4 hb hg_ gq;clear hg_ gq;(first|rw[←Ny130.out]at ho4|(simp only[Int.reduceToNat]at ho4;rw[←Ny130.out]at ho4));have HO132:=ak.mk (Kd.dU ho4 (aU bz));replace HB:=ak.mk (aG bz hb);clear hb ho4;obtain⟨Ao5,co5,eo5⟩:=Kd.cK HO132.out;subst eo5)|((with_reducible refine bC (f:=81) rfl ?_);refine eG (some 5) rfl rfl Tryz.func81 (by kernel_rfl) rfl #[.string a0,.slice Ao5 y130.length co5] rfl q'a ?_;(with_reducible refine(bN.calls k a0 _ _ y130 t133 _ ?dI ?dJ A2.out).mono ?_);(case dI=>exact cz (Kd.bg HO132.out).2.2);(case dJ=>exact(Kd.bg HO132.out).2.1);rintro e w' ⟨rfl,⟨nd,rfl⟩⟩;refine⟨_,rfl,?_⟩))
 go_ret;exact⟨by first|rfl|(simp[aI,aJ]<;>rfl)|(simp[*,aI,aJ]<;>rfl),bz⟩
end Go.Proofs.aj.W7
