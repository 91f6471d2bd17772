/- Lemmas and walks, part 13. -/
import Derived.Test.YtkcmghlhpbepcaaGreatDoorWS12
set_option linter.unusedVariables false
set_option linter.unusedSimpArgs false
set_option maxHeartbeats 8000000
set_option maxRecDepth 100000
namespace Go.Proofs.aj.W7
open Go.RowKit Go.Shelf Go.Proofs Go.Proofs.YtkcmghlhpbepcaaGreatDoor
attribute [local go_sem] Oper.semAt_some
theorem has_c(A:Option Addr)(c:Nat)(xs:List Bt)(x:Bt)(w:World)(h:Strs w A xs):
 Calls Tryz.prog 114 #[.slice A xs.length c,.string x] w fun e w'=>e=.returned (.bool (Lib.containsS xs x))∧w'=w:=by
 rcases str_at h with rfl|⟨g,o,rfl,hc⟩
 ·exact Tryz.slices_Contains_string_empty A c x w
 ·have:=Tryz.slices_Contains_string g o xs.length c xs x w (Nat.le_refl _) h.2.1 hc
  rwa [List.take_length]at this
theorem back_in(n:Nat)(A:Option Addr)(len c:Nat)(w:World):
 CallsIn Fence.wide n Tryz.prog 127 #[.slice A len c] w fun e w'=>e=.returned (.func (.func 172) #[] #[.pointer (some ⟨w.heap.size,0,none⟩)])∧w'=w.alloc (.cells #[.slice A len c] 41):=by
 refine callsIn_of_wp Tryz.func127 rfl trivial ?_ rfl;simp only[Tryz.ntmps127,List.size_toArray,List.length_cons,List.length_nil,Nat.reduceAdd,Nat.reduceSub,Array.replicate_succ,Array.replicate_zero,List.push_toArray,List.append_toArray,List.nil_append,List.cons_append]
 gi_wp2
 go_ret;exact⟨rfl,rfl⟩
theorem Nv(n:Nat)(hn:1≤n)(B1:Nat)(A:Option Addr)(c:Nat)(xs:List Bt)(w0 w:World)(hr:Strs w0 A xs)(hB:Below w0.heap.size w0 w)(b1:Boxed w B1 41 (.slice A xs.length c)):
 SeqStopsK Fence.wide n Tryz.prog 172 #[.pointer (some ⟨B1,0,none⟩)] (fun x:IxS=>#[Value.int .i64 (x.1:Nat),.string x.2]) (KpB 41 w0.heap.size B1 (.slice A xs.length c)) (fun ys=>ys=tZ xs xs.length) (fun pre=>∃k,k≤xs.length∧pre=tZ xs k) xs.length w:=fun l J Jx W hW _ _ hY h0=>
 back1_in n hn l B1 A c xs w0 hr J Jx hY W (hB.trans (hW.mono hB.size)) ((hW.block B1 b1.lt).trans b1) h0
def dU(xs some_ walls:List Bt):Nat→Int
 |0=> -1
 |k+1=>if Lib.containsS some_ (xs.getD k ⟨#[]⟩)then(k:Int)else if Lib.containsS walls (xs.getD k ⟨#[]⟩)then -1 else dU xs some_ walls k
def freeB(some_ walls:List Bt)(pre:List IxS):Prop:=∀p∈pre,Lib.containsS some_ p.2=false∧Lib.containsS walls p.2=false
theorem zF(xs some_ walls:List Bt):∀k,k≤xs.length→freeB some_ walls (tZ xs k)→dU xs some_ walls xs.length=dU xs some_ walls (xs.length - k)
 |0,_,_=>by rw[Nat.sub_zero]
 |k+1,hk,h=>by
  rw[zG]at h;have h1:=h (xs.length - 1 - k,xs.getD (xs.length - 1 - k) ⟨#[]⟩) (by simp);have ih:=zF xs some_ walls k (by omega) (fun p hp=>h p (List.mem_append_left _ hp));obtain⟨m,hm⟩:∃m,xs.length - k=m+1:=⟨xs.length - k - 1,by omega⟩
  have hm2:xs.length - (k+1)=m:=by omega
  have hm3:xs.length - 1 - k=m:=by omega
  rw[hm3]at h1;rw[ih,hm,hm2];simp only[dU,h1.1,h1.2];rfl
theorem Nw(xs some_ walls:List Bt)(k:Nat)(hk:k≤xs.length)(pre':List IxS)(x:IxS)(res:Int)(h:tZ xs k=pre'++[x])(hf:freeB some_ walls pre')
 (hc:(Lib.containsS some_ x.2=true∧res=x.1)∨(Lib.containsS some_ x.2=false∧Lib.containsS walls x.2=true∧res= -1)):dU xs some_ walls xs.length=res:=by
 cases k with
 |zero=>simp[tZ]at h
 |succ m=>
  rw[zG]at h;obtain⟨h1,h2⟩:=List.append_inj' h rfl;have h3:=(List.cons.inj h2).1;subst h1;subst h3;rw[zF xs some_ walls m (by omega) hf];obtain⟨q,hq⟩:∃q,xs.length - m=q+1:=⟨xs.length - m - 1,by omega⟩
  have hq2:xs.length - 1 - m=q:=by omega
  rw[hq2]at hc;rw[hq]
  rcases hc with⟨c1,rfl⟩|⟨c1,c2,rfl⟩
  ·simp only[dU,c1]
   rfl
  ·simp only[dU,c1,c2]
   rfl
theorem Aq{X:World}{B q:Nat}{t:TypeId}{v:Value}{row:Option Nat}(h:Boxed X B t v)(hr:∀r,row=some r→q≤r∧∃o:Obj,X.heap[r]?=some o∧o.isCells=false):some B≠row:=fun e=>by
 obtain⟨_,o,ho,hc⟩:=hr B e.symm;rw[show X.heap[B]?=_ from h]at ho;cases ho;cases hc
def fI(w:World)(V1 V2:Value)(ys zs:List Bt)(pre:List IxS)(W:World):Prop:=
 (Boxed W w.heap.size 41 V1∧Boxed W (w.heap.size+1) 41 V2∧Boxed W (w.heap.size+1+1) 3 (.int .i64 0)∧freeB ys zs pre)∧Below w.heap.size w W
def fX(w:World)(ys zs:List Bt)(c:Code)(pre:List IxS)(W:World):Prop:=
 (c=.ret∧∃(res:Int) (pre':List IxS) (x:IxS),Boxed W (w.heap.size+1+1) 3 (.int .i64 res)∧pre=pre'++[x]∧freeB ys zs pre'∧((Lib.containsS ys x.2=true∧res=x.1)∨(Lib.containsS ys x.2=false∧Lib.containsS zs x.2=true∧res= -1)))∧Below w.heap.size w W
theorem fI_own(w:World)(B:Nat)(hB:w.heap.size≤B)(V1 V2:Value)(ys zs:List Bt):OwnFrom B (fI w V1 V2 ys zs):=
 OwnFrom.and (fun s X Y row h hg hr=>⟨h.1.kept hg (Aq h.1 hr),h.2.1.kept hg (Aq h.2.1 hr),h.2.2.1.kept hg (Aq h.2.2.1 hr),h.2.2.2⟩) (ownFrom_below (Nat.le_refl _) hB)
theorem fX_own(w:World)(B:Nat)(hB:w.heap.size≤B)(ys zs:List Bt)(c:Code):OwnFrom B (fX w ys zs c):=
 OwnFrom.and (fun s X Y row h hg hr=>by
  obtain⟨hc,res,pre',x,hb,r⟩:=h;exact⟨hc,res,pre',x,hb.kept hg (Aq hb hr),r⟩) (ownFrom_below (Nat.le_refl _) hB)
theorem found_in(n:Nat)(hn:3≤n)(A0 A1 A2:Option Addr)(c0 c1 c2:Nat)(xs ys zs:List Bt)(w:World)(h0:Strs w A0 xs)(h1s:Strs w A1 ys)(h2s:Strs w A2 zs):
 CallsIn Fence.wide n Tryz.prog 77 #[.slice A0 xs.length c0,.slice A1 ys.length c1,.slice A2 zs.length c2] w fun e w'=>e=.returned (.int .i64 (dU xs ys zs xs.length))∧Below w.heap.size w w':=by
 have h1:1≤n:=by omega
 have hfn:Fence.wide.fn 127:=trivial;have hfn2:Fence.wide.fn 114:=trivial;refine callsIn_of_wp_marks Tryz.func77 rfl trivial ?_ rfl;simp only[Tryz.ntmps77,List.size_toArray,List.length_cons,List.length_nil,Nat.reduceAdd,Nat.reduceSub,Array.replicate_succ,Array.replicate_zero,List.push_toArray,List.append_toArray,List.nil_append,List.cons_append]
 gi_wp2_with (gi_at_call 127;refine(back_in _ _ _ _ _).mono ?_;rintro e w' ⟨rfl,rfl⟩)
 have HB0:Below w.heap.size w ((((w.alloc (.cells #[.slice A1 ys.length c1] 41)).alloc (.cells #[.slice A2 zs.length c2] 41)).alloc (.cells #[.int .i64 0] 3)).alloc (.cells #[.slice A0 xs.length c0] 41)):=((((Below.refl _ w).alloc (Nat.le_refl _) _).alloc (by simp) _).alloc (by simp;omega) _).alloc (by simp;omega) _;have b1:=Boxed.new w 41 (.slice A1 ys.length c1)
 have b2:Boxed ((w.alloc (.cells #[.slice A1 ys.length c1] 41)).alloc (.cells #[.slice A2 zs.length c2] 41)) (w.heap.size+1) 41 (.slice A2 zs.length c2):=by
  have h:=Boxed.new (w.alloc (.cells #[.slice A1 ys.length c1] 41)) 41 (.slice A2 zs.length c2);rw[World.size_alloc]at h;exact h
 have b3:Boxed (((w.alloc (.cells #[.slice A1 ys.length c1] 41)).alloc (.cells #[.slice A2 zs.length c2] 41)).alloc (.cells #[.int .i64 0] 3)) (w.heap.size+1+1) 3 (.int .i64 0):=by
  have h:=Boxed.new ((w.alloc (.cells #[.slice A1 ys.length c1] 41)).alloc (.cells #[.slice A2 zs.length c2] 41)) 3 (.int .i64 0);rw[World.size_alloc,World.size_alloc]at h;exact h
 have b4:Boxed ((((w.alloc (.cells #[.slice A1 ys.length c1] 41)).alloc (.cells #[.slice A2 zs.length c2] 41)).alloc (.cells #[.int .i64 0] 3)).alloc (.cells #[.slice A0 xs.length c0] 41)) (w.heap.size+1+1+1) 41 (.slice A0 xs.length c0):=by
  have h:=Boxed.new (((w.alloc (.cells #[.slice A1 ys.length c1] 41)).alloc (.cells #[.slice A2 zs.length c2] 41)).alloc (.cells #[.int .i64 0] 3)) 41 (.slice A0 xs.length c0);rw[World.size_alloc,World.size_alloc,World.size_alloc]at h;exact h
 refine wpIn_rangeFunc_ownG rfl h1 (gf:=172) (lb:=#[.pointer (some ⟨w.heap.size+1+1+1,0,none⟩)]) rfl trivial (enters_of Tryz.func172 (by kernel_rfl) rfl)
  (Nv (n - 1) (by omega) (w.heap.size+1+1+1) A0 c0 xs w _ h0 HB0 b4) (fun h k=>kpB_t h k) (kpB_b HB0.size b4.lt) (Below.refl _ _) (fun _=>rfl)
  (fI w (.slice A1 ys.length c1) (.slice A2 zs.length c2) ys zs) (fX w ys zs) (fI_own w _ HB0.size _ _ ys zs) (fX_own w _ HB0.size ys zs)
  ⟨⟨((b1.alloc _).alloc _).alloc _,(b2.alloc _).alloc _,b3.alloc _,fun p hp=>by cases hp⟩,HB0⟩
  ?a1 ?assign ?body ?done ?stop
 case assign=>
  intro l x W K hK
  gi_wp2
  exact hK
 case body=>
  rintro l pre x W ⟨⟨hb1,hb2,hb3,hfree⟩,hB⟩ hlt;have k1:=hb1.cell;have k2:=hb2.cell;have k3:=hb3.cell;have f3:=hb3.frozen;have Ny:=Lib.hid hfree;clear hfree;have hc1:=Lib.hid (callsIn_wide (n:=n - 1 - 1 - 1).2 (has_c A1 c1 ys x.2 W (Go.Proofs.ah.aD.Kd.eF h1s hB)));have hc2:=Lib.hid (callsIn_wide (n:=n - 1 - 1 - 1).2 (has_c A2 c2 zs x.2 W (Go.Proofs.ah.aD.Kd.eF h2s hB)));obtain⟨xi,xs'⟩:=x;dsimp only at hc1 hc2;have hd:1≤n - 1 - 1:=by omega
  have hfd:(Fence.wide.inRound l).fn 114:=trivial;cases e1:Lib.containsS ys xs'
  ·rw[e1]at hc1
   cases e2:Lib.containsS zs xs'
   ·rw[e2]at hc2
    gi_wp2_with (first|(gi_at_call 114;refine(CallsIn.inRound l hc1.out).mono ?_;rintro e w1 ⟨rfl,hw1⟩;rw[hw1];clear hc1)|(gi_at_call 114;refine(CallsIn.inRound l hc2.out).mono ?_;rintro e w2 ⟨rfl,hw2⟩;rw[hw2];clear hc2))
    exact⟨KeepsFrom.refl _ _,⟨Below.refl _ _,fun h=>h⟩,⟨hb1,hb2,hb3,fun p hp=>by
     rcases List.mem_append.1 hp with h|h
     ·exact Ny.out p h
     ·obtain rfl:=List.mem_singleton.1 h
      exact⟨e1,e2⟩⟩,hB⟩
   ·rw[e2]at hc2
    gi_wp2_with (first|(gi_at_call 114;refine(CallsIn.inRound l hc1.out).mono ?_;rintro e w1 ⟨rfl,hw1⟩;rw[hw1];clear hc1)|(gi_at_call 114;refine(CallsIn.inRound l hc2.out).mono ?_;rintro e w2 ⟨rfl,hw2⟩;rw[hw2];clear hc2))
    exact⟨(KeepsOthers.setCell _ _ _).from _,⟨rfl,-1,pre,(xi,xs'),hb3.set _,rfl,Ny.out,.inr ⟨e1,e2,rfl⟩⟩,hB.setCell (p:=⟨w.heap.size+1+1,0,none⟩) (by show w.heap.size≤w.heap.size+1+1;omega) _⟩
  ·rw[e1]at hc1
   gi_wp2_with (first|(gi_at_call 114;refine(CallsIn.inRound l hc1.out).mono ?_;rintro e w1 ⟨rfl,hw1⟩;rw[hw1];clear hc1)|(gi_at_call 114;refine(CallsIn.inRound l hc2.out).mono ?_;rintro e w2 ⟨rfl,hw2⟩;rw[hw2];clear hc2))
   exact⟨(KeepsOthers.setCell _ _ _).from _,⟨rfl,xi,pre,(xi,xs'),hb3.set _,rfl,Ny.out,.inl ⟨e1,rfl⟩⟩,hB.setCell (p:=⟨w.heap.size+1+1,0,none⟩) (by show w.heap.size≤w.heap.size+1+1;omega) _⟩
 case done=>
  rintro D ps W hD rfl ⟨⟨hb1,hb2,hb3,hfree⟩,hB⟩ hK;have k3:=hb3.cell;have f3:=hb3.frozen
  have hres:dU xs ys zs xs.length= -1:=by
   rw[zF xs ys zs xs.length (Nat.le_refl _) hfree,Nat.sub_self];rfl
  have hres2:=Lib.hid hres
  gi_wp2
  have hK2:=(KeepsOthers.setCell W ⟨w.heap.size+1+1,0,none⟩ (.int .i64 (-1))).same D _ hK rfl;refine⟨by simp,.inl ⟨_,_,rfl,run_takeDeferred hK2,?_⟩⟩
  have hb4:=(hb3.set (.int .i64 (-1))).kept (grownBy_putObj' _ D (.deferred none)) (fun e=>by
   have h:=hb3;rw[show w.heap.size+1+1=D from by simpa using e]at h;rw[show W.heap[D]?=_ from h]at hK;cases hK)
  have hc4:=hb4.cell;have hui:=Tryz.underlying3;rw[hres2.out];refine⟨.int .i64 (-1),?_,rfl,(hB.setCell (p:=⟨w.heap.size+1+1,0,none⟩) (by show w.heap.size≤w.heap.size+1+1;omega) _).trans (belowK_b (w:=w) (Nat.le_refl _) _ D _ _ (Nat.le_trans HB0.size hD) hK2 rfl rfl)⟩;simp[results,asAddr,loadVar,hc4,hui,Sem.run_bind,Result.andThen,go_sem]
 case stop=>
  rintro D c pre W hD ⟨k,hk,rfl⟩ ⟨⟨rfl,res,pre',x,hb3,hpre,hfree,hcase⟩,hB⟩ hK;have hres:dU xs ys zs xs.length=res:=Nw xs ys zs k hk pre' x res hpre hfree hcase;have hres2:=Lib.hid hres;clear hres hcase hfree hpre
  gi_wp2
  refine⟨by simp,.inl ⟨_,_,rfl,run_takeDeferred hK,?_⟩⟩
  have hb4:=hb3.kept (grownBy_putObj' _ D (.deferred none)) (fun e=>by
   have h:=hb3;rw[show w.heap.size+1+1=D from by simpa using e]at h;rw[show W.heap[D]?=_ from h]at hK;cases hK)
  have hc4:=hb4.cell;have hui:=Tryz.underlying3;rw[hres2.out];refine⟨.int .i64 res,?_,rfl,hB.trans (belowK_b (w:=w) (Nat.le_refl _) _ D _ _ (Nat.le_trans HB0.size hD) hK rfl rfl)⟩;simp[results,asAddr,loadVar,hc4,hui,Sem.run_bind,Result.andThen,go_sem]
def dZ.f(l0 l1 l2:List Bt):Option Int:=some (dU l0 l1 l2 l0.length)
theorem dZ.calls(A0:Option Addr)(c0:Nat)(l0:List Bt)(A1:Option Addr)(c1:Nat)(l1:List Bt)(A2:Option Addr)(c2:Nat)(l2:List Bt)(r:Int)(w:World)(hr0:Go.Proofs.ah.aD.Kd.string.C w A0 l0.length l0)(hc0:l0.length≤c0)(hr1:Go.Proofs.ah.aD.Kd.string.C w A1 l1.length l1)(hc1:l1.length≤c1)(hr2:Go.Proofs.ah.aD.Kd.string.C w A2 l2.length l2)(hc2:l2.length≤c2)(h:dZ.f l0 l1 l2=some r):
 Calls Tryz.prog 77 #[.slice A0 l0.length c0,.slice A1 l1.length c1,.slice A2 l2.length c2] w fun e w'=>e=.returned (.int .i64 r)∧Below w.heap.size w w':=by
 obtain rfl:=Option.some.inj h;exact(callsIn_wide (n:=3)).1 (found_in 3 (Nat.le_refl _) A0 A1 A2 c0 c1 c2 l0 l1 l2 w hr0 hr1 hr2)
end Go.Proofs.aj.W7
namespace Go.Proofs.aj.W7
open Go.RowKit Go.Proofs.ah.aD Go.Proofs.ah.bG Go.Proofs.ah.bR
attribute [local go_sem] dD dF dV dW bU bV dG dH
def bH.l0:Nat→Bt→List Bt→Int→Int→Option (Bool)
 |0,_,_,_,_=>none
 |k+1,x0,x7,x8,x9=>if x9<x8 then(if 0≤x9 then(if x9<(x7.length:Int)then(if(xw ByteArray.empty x7 x9).toList=x0.toList then(some true)else(bH.l0 k x0 x7 x8 (wrap64 (x9+1))))else(none))else(none))else(some false)
def bH.f(k:Nat)(a0:Bt)(l1:List Bt):Option (Bool):=bH.l0 k a0 l1 (l1.length:Int) 0
theorem bH.calls(k:Nat)(a0:Bt)(A1:Option Addr)(c1:Nat)(l1:List Bt)(r:Bool)(w:World)(hr1:Kd.C Kd.string w A1 l1.length l1)(hc1:l1.length≤c1)(h:bH.f k a0 l1=some r):
 Calls Tryz.prog 81 #[.string a0,.slice A1 l1.length c1] w fun e w'=>e=.returned (.bool r)∧bK w w':=by
 have HR1:=ak.mk hr1;have HC1:=ak.mk hc1;clear hr1 hc1;have H:(bH.l0 k a0 l1 (l1.length:Int) 0)=some r:=h;clear h;have H':=ak.mk H;clear H;go_enter Tryz.func81,Tryz.ntmps81;go_wp2
 go_loopg [9] k (fun kq v9 w'=>∃(dn:Int),v9=.int .i64 dn∧ak (bH.l0 kq a0 l1 (l1.length:Int) dn=some r)∧ak (kq≤k)∧bK w w')
 case atStart=>exact⟨(0),q'c,H',⟨Nat.le_refl _⟩,by repeat(first|exact bK.refl _|apply bK.step)⟩
 case round=>
  clear H'
  try clear c1
  try clear p2
  obtain⟨dn,rfl,HA,HK1,⟨m1,rfl⟩⟩:=hrel;cases gk with
  |zero=>exact absurd HA.out (by simp[bH.l0])
  |succ k1=>
   have H:=HA.out;clear HA;simp only[bH.l0]at H
   by_cases c3:dn<(l1.length:Int)
   ·rw[if_pos c3]at H
    have nD:decide (dn<(l1.length:Int))=true:=decide_eq_true c3;clear c3
    by_cases c4:0≤dn
    ·rw[if_pos c4]at H
     have nN:decide (0≤dn)=true:=decide_eq_true c4;clear c4
     by_cases c5:dn<(l1.length:Int)
     ·rw[if_pos c5]at H
      have xD:decide (dn<(l1.length:Int))=true:=decide_eq_true c5;clear c5
      by_cases c6:(xw ByteArray.empty l1 dn).toList=a0.toList
      ·rw[if_pos c6]at H
       have AA:((xw ByteArray.empty l1 dn).toList==a0.toList)=true:=beq_iff_eq.mpr c6;have c6b1:((xw ByteArray.empty l1 dn).toList !=a0.toList)=false:=bne_eq_false_iff_eq.mpr c6;clear c6;obtain rfl:=Option.some.inj H;have p121:0≤(dn:Int):=q'b;have q121:dn<(l1.length:Int):=q'b;obtain⟨ad121,e121,hx121_0⟩:=Kd.G5 HR1.out dn p121 q121;cases e121;replace p121:=eq_true p121;replace q121:=eq_true q121;go_wp2;go_ret;exact⟨q'c,by repeat(first|exact bK.refl _|apply bK.step)⟩
      ·rw[if_neg c6]at H
       have AA:((xw ByteArray.empty l1 dn).toList==a0.toList)=false:=beq_eq_false_iff_ne.mpr c6;have c6b1:((xw ByteArray.empty l1 dn).toList !=a0.toList)=true:=bne_iff_ne.mpr c6;have H':=ak.mk H;clear H;have p121:0≤(dn:Int):=q'b;have q121:dn<(l1.length:Int):=q'b;obtain⟨ad121,e121,hx121_0⟩:=Kd.G5 HR1.out dn p121 q121;cases e121;replace p121:=eq_true p121;replace q121:=eq_true q121;go_wp2
       go_roundg k1
       case measure=>have:=HK1.out;omega
       case rel=>exact⟨(wrap64 (dn+1)),q'c,H',⟨by have:=HK1.out;omega⟩,by repeat(first|exact bK.refl _|apply bK.step)⟩
     ·rw[if_neg c5]at H
      exact absurd H (by simp)
    ·rw[if_neg c4]at H
     exact absurd H (by simp)
   ·rw[if_neg c3]at H
    have nD:decide (dn<(l1.length:Int))=false:=decide_eq_false c3;clear c3;obtain rfl:=Option.some.inj H;go_wp2;go_ret;exact⟨q'c,by repeat(first|exact bK.refl _|apply bK.step)⟩
def iC.l0:Nat→List Bt→Bt→Int→Option (Bool)
 |0,_,_,_=>none
 |k+1,x0,x1,x5=>if x5<(x0.length:Int)then(if 0≤x5 then(if(xw ByteArray.empty x0 x5).toList=x1.toList then(some true)else(iC.l0 k x0 x1 (wrap64 (x5+1))))else(none))else(some false)
def iC.f(k:Nat)(l0:List Bt)(a1:Bt):Option (Bool):=iC.l0 k l0 a1 0
end Go.Proofs.aj.W7
namespace Go.Proofs.aj.W7
open Go.RowKit Go.Proofs Go.Proofs.aj Go.Proofs.YtkcmghlhpbepcaaGreatDoor Go.Proofs.ah.aD
theorem wN{i:Nat}(h:i<1000000000):wrap64 ((i:Int)+1)=((i+1:Nat):Int):=by unfold wrap64;omega
theorem bIff(a b:Bt):a.toList=b.toList↔a.data.toList=b.data.toList:=by rw[Lib.toList_data,Lib.toList_data]
def oZ(l:List Bt)(s:Bt):Bool:=l.any fun x=>x.data.toList==s.data.toList
theorem rdOf_at(l:List Bt)(i:Nat)(h:i<l.length):xw ByteArray.empty l (i:Int)=l[i]:=by simp[xw,h]
theorem among_l0(s:Bt)(l:List Bt)(hl:l.length<100000):∀(d i k:Nat),l.length - i≤d→i≤l.length→d<k→bH.l0 k s l (l.length:Int) i=some (oZ (l.drop i) s):=by
 intro d
 induction d with
 |zero=>
  intro i k hd hi hk;obtain⟨k,rfl⟩:∃m,k=m+1:=⟨k - 1,by omega⟩
  simp only[bH.l0];rw[if_neg (by omega),List.drop_of_length_le (by omega)];rfl
 |succ d ih=>
  intro i k hd hi hk;obtain⟨k,rfl⟩:∃m,k=m+1:=⟨k - 1,by omega⟩
  by_cases h:i<l.length
  ·simp only[bH.l0]
   rw[if_pos (by omega),if_pos (by omega),if_pos (by omega),rdOf_at l i h,wN (by omega),ih (i+1) k (by omega) (by omega) (by omega),List.drop_eq_getElem_cons h];simp only[oZ,List.any_cons]
   by_cases e:l[i].data.toList=s.data.toList
   ·rw[if_pos ((bIff _ _).2 e),e];simp
   ·rw[if_neg (fun h=>e ((bIff _ _).1 h)),beq_eq_false_iff_ne.2 e,Bool.false_or]
  ·simp only[bH.l0]
   rw[if_neg (by omega),List.drop_of_length_le (by omega)];rfl
theorem sJ(s:Bt)(l:List Bt)(k:Nat)(hl:l.length<100000)(hk:l.length<k):bH.f k s l=some (oZ l s):=among_l0 s l hl l.length 0 k (by omega) (by omega) hk
end Go.Proofs.aj.W7
namespace Go.Proofs.aj.W7
open Go.RowKit Go.Proofs.ah.aD Go.Proofs.ah.bG Go.Proofs.ah.bR
attribute [local go_sem] dD dF dV dW bU bV dG dH
def fG.f(a0:Bt):Option (Bool):=if a0.toList=([108,105] :List UInt8)then(some true)else(if a0.toList=([100,100] :List UInt8)then(some true)else(some (a0.toList==([100,116] :List UInt8))))
theorem fG.calls(a0:Bt)(r:Bool)(w:World)(h:fG.f a0=some r):
 Calls Tryz.prog 76 #[.string a0] w fun e w'=>e=.returned (.bool r)∧bK w w':=by
 have H:(if a0.toList=([108,105] :List UInt8)then(some true)else(if a0.toList=([100,100] :List UInt8)then(some true)else(some (a0.toList==([100,116] :List UInt8)))))=some r:=h;clear h
 by_cases c2:a0.toList=([108,105] :List UInt8)
 ·rw[if_pos c2]at H
  have Dz:(a0.toList==([108,105] :List UInt8))=true:=beq_iff_eq.mpr c2;have c2b1:(a0.toList !=([108,105] :List UInt8))=false:=bne_eq_false_iff_eq.mpr c2;clear c2;obtain rfl:=Option.some.inj H;go_enter Tryz.func76,Tryz.ntmps76;go_wp2;go_ret;exact⟨q'c,by repeat(first|exact bK.refl _|apply bK.step)⟩
 ·rw[if_neg c2]at H
  have Dz:(a0.toList==([108,105] :List UInt8))=false:=beq_eq_false_iff_ne.mpr c2;have c2b1:(a0.toList !=([108,105] :List UInt8))=true:=bne_iff_ne.mpr c2
  by_cases c3:a0.toList=([100,100] :List UInt8)
  ·rw[if_pos c3]at H
   have nD:(a0.toList==([100,100] :List UInt8))=true:=beq_iff_eq.mpr c3;have ze:(a0.toList !=([100,100] :List UInt8))=false:=bne_eq_false_iff_eq.mpr c3;clear c3;obtain rfl:=Option.some.inj H;go_enter Tryz.func76,Tryz.ntmps76;go_wp2;go_ret;exact⟨q'c,by repeat(first|exact bK.refl _|apply bK.step)⟩
  ·rw[if_neg c3]at H
   have nD:(a0.toList==([100,100] :List UInt8))=false:=beq_eq_false_iff_ne.mpr c3;have ze:(a0.toList !=([100,100] :List UInt8))=true:=bne_iff_ne.mpr c3;obtain rfl:=Option.some.inj H;go_enter Tryz.func76,Tryz.ntmps76;go_wp2;go_ret;exact⟨q'c,by repeat(first|exact bK.refl _|apply bK.step)⟩
def fT.f(k:Nat)(a0:Bt):Option (Bool):=(bH.f k a0 (([(⟨#[116,114]⟩:Bt),(⟨#[116,100]⟩:Bt),(⟨#[116,104]⟩:Bt),(⟨#[116,98,111,100,121]⟩:Bt),(⟨#[116,102,111,111,116]⟩:Bt),(⟨#[116,104,101,97,100]⟩:Bt)] :List Bt))).bind fun t129=>(some t129)
theorem fT.calls(k:Nat)(a0:Bt)(r:Bool)(w:World)(h:fT.f k a0=some r):
 Calls Tryz.prog 82 #[.string a0] w fun e w'=>e=.returned (.bool r)∧Below w.heap.size w w':=by
 have HB:=ak.mk (Below.refl w.heap.size w);have H:((bH.f k a0 (([(⟨#[116,114]⟩:Bt),(⟨#[116,100]⟩:Bt),(⟨#[116,104]⟩:Bt),(⟨#[116,98,111,100,121]⟩:Bt),(⟨#[116,102,111,111,116]⟩:Bt),(⟨#[116,104,101,97,100]⟩:Bt)] :List Bt))).bind fun t129=>(some t129))=some r:=h;clear h;obtain⟨y126,Le⟩:∃y_:List Bt,y_=(([(⟨#[116,114]⟩:Bt),(⟨#[116,100]⟩:Bt),(⟨#[116,104]⟩:Bt),(⟨#[116,98,111,100,121]⟩:Bt),(⟨#[116,102,111,111,116]⟩:Bt),(⟨#[116,104,101,97,100]⟩:Bt)] :List Bt)):=⟨_,rfl⟩
 replace H:((bH.f k a0 y126).bind fun t129=>(some t129))=some r:=by first|(rw[Le];with_reducible exact H)|(have H2_:=(Option.bind_some _ _).symm.trans H;rw[Le];with_reducible exact H2_)|(have H2_:=(Option.bind_some _ _).symm.trans H;with_reducible exact H2_)|with_reducible exact H|(rw[Le];exact H)|exact H
 have Ny126:=ak.mk Le;clear Le;replace H:=Option.bind_eq_some_iff.mp H;obtain⟨t129,A20,H⟩:=H;replace H:(some t129)=some r:=H;have A2:=ak.mk A20;clear A20;obtain rfl:=Option.some.inj H;go_enter Tryz.func82,Tryz.ntmps82
 go_wp2_with(first|((with_reducible refine cu (N:=4) rfl ?_);refine Kd.kr Kd.string _ 9 ?hg (N:=4) ?hd (xs:=([(⟨#[116,114]⟩:Bt),(⟨#[116,100]⟩:Bt),(⟨#[116,104]⟩:Bt),(⟨#[116,98,111,100,121]⟩:Bt),(⟨#[116,102,111,111,116]⟩:Bt),(⟨#[116,104,101,97,100]⟩:Bt)] :List Bt)) (inner:=[.string (⟨#[116,114]⟩:Bt),.string (⟨#[116,100]⟩:Bt),.string (⟨#[116,104]⟩:Bt),.string (⟨#[116,98,111,100,121]⟩:Bt),.string (⟨#[116,102,111,111,116]⟩:Bt),.string (⟨#[116,104,101,97,100]⟩:Bt)]) (ok:=fun _=>True) (okp:=fun _=>True) ?hr ?hp (fun _ hk=>hk) trivial (Below.refl _ _) (Nat.le_refl _) (by simp) ?_;(case hd=>rfl);(case hg=>rfl);(case hr=>first|(go_simp;done)|(go_simp;rfl));(case hp=>exact(bJ.one (show Kd.M Kd.string _ _ _ (⟨#[116,114]⟩:Bt) [.string (⟨#[116,114]⟩:Bt)]from rfl) (bJ.one (show Kd.M Kd.string _ _ _ (⟨#[116,100]⟩:Bt) [.string (⟨#[116,100]⟩:Bt)]from rfl) (bJ.one (show Kd.M Kd.string _ _ _ (⟨#[116,104]⟩:Bt) [.string (⟨#[116,104]⟩:Bt)]from rfl) (bJ.one (show Kd.M Kd.string _ _ _ (⟨#[116,98,111,100,121]⟩:Bt) [.string (⟨#[116,98,111,100,121]⟩:Bt)]from rfl) (bJ.one (show Kd.M Kd.string _ _ _ (⟨#[116,102,111,111,116]⟩:Bt) [.string (⟨#[116,102,111,111,116]⟩:Bt)]from rfl) (bJ.one (show Kd.M Kd.string _ _ _ (⟨#[116,104,101,97,100]⟩:Bt) [.string (⟨#[116,104,101,97,100]⟩:Bt)]from rfl) (bJ.none _ _))))))));intro v127 w3 ho4 hb hg_ fP;clear hg_ fP;(first|rw[←Ny126.out]at ho4|(simp only[Int.reduceToNat]at ho4;rw[←Ny126.out]at ho4));have HO128:=ak.mk (Kd.dR ho4 (aU bz));replace HB:=ak.mk (aG bz hb);clear hb ho4;obtain⟨Ao5,co5,eo5⟩:=Kd.cK HO128.out;subst eo5)|((with_reducible refine aZ (f:=81) rfl ?_);refine dO (some 5) rfl rfl Tryz.func81 (by kernel_rfl) rfl #[.string a0,.slice Ao5 y126.length co5] rfl q'a ?_;(with_reducible refine(bH.calls k a0 _ _ y126 t129 _ ?dz ?dA A2.out).mono ?_);(case dz=>exact cz (Kd.bq HO128.out).2.2);(case dA=>exact(Kd.bq HO128.out).2.1);rintro e w' ⟨rfl,⟨nd,rfl⟩⟩;refine⟨_,rfl,?_⟩))
 go_ret;exact⟨by first|rfl|(simp[aJ,aM]<;>rfl)|(simp[*,aJ,aM]<;>rfl),bz⟩
end Go.Proofs.aj.W7
