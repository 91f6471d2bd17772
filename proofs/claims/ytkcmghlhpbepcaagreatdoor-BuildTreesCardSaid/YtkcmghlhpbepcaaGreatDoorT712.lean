/- Lemmas and walks, part 12. -/
import Derived.RangeFuncNested
import Derived.RangeFuncBound
import Derived.Shelf.RegionOpen
import Derived.OwnWalkIn
import Derived.LoopNIn
import Derived.LoopIn
import Derived.Test.YtkcmghlhpbepcaaGreatDoorT711
set_option linter.unusedVariables false
set_option linter.unusedSimpArgs false
set_option maxHeartbeats 8000000
set_option maxRecDepth 100000
namespace Go.Proofs.aj.W7
open Go.RowKit Go.Shelf Go.Proofs Go.Proofs.YtkcmghlhpbepcaaGreatDoor
attribute [local go_sem] Oper.semAt_some
abbrev IxS:=Nat×ByteArray
def pY(xs:List ByteArray)(k:Nat):List IxS:=(List.range k).map (fun m=>(xs.length - 1 - m,xs.getD (xs.length - 1 - m) ⟨#[]⟩))
theorem uo(xs:List ByteArray)(k:Nat):pY xs (k+1)=pY xs k++[(xs.length - 1 - k,xs.getD (xs.length - 1 - k) ⟨#[]⟩)]:=by simp[pY,List.range_succ]
theorem D5(xs:List ByteArray)(k:Nat):(pY xs k).length=k:=by simp[pY]
def KpB(t:TypeId)(n₀ B:Nat)(v:Value)(W W':World):Prop:=Below n₀ W W'∧(Boxed W B t v→Boxed W' B t v)
theorem kpB_t{t:TypeId}{n₀ B:Nat}{v:Value}{X Y Z:World}(h:KpB t n₀ B v X Y)(k:KpB t n₀ B v Y Z):KpB t n₀ B v X Z:=⟨h.1.trans k.1,fun e=>k.2 (h.2 e)⟩
theorem kpB_b{t:TypeId}{n₀ B:Nat}{v:Value}{w:World}(hn:n₀≤w.heap.size)(hB:B<w.heap.size)(W:World)(l:Nat)(o o':Obj)(hl:w.heap.size≤l)(h:W.heap[l]?=some o)(h1:o.isCells=false)(h2:o.isWalk=false):KpB t n₀ B v W (W.putObj l o'):=
 ⟨belowK_b hn W l o o' hl h h1 h2,fun e=>e.kept (grownBy_putObj' W l o') (fun e'=>by cases e';omega)⟩
theorem spotF{w:World}{a:Addr}{v:Value}(h:w.cell? a=some v):a=⟨a.block,a.off,none⟩:=by
 obtain⟨b,o,s⟩:=a;cases s with
 |none=>rfl
 |some s=>
  unfold World.cell? at h
  split at h<;>simp at h
theorem addF(b o n:Nat):Addr.add ⟨b,o,none⟩ n=⟨b,o+n,none⟩:=by
 unfold Addr.add
 split<;>simp_all
abbrev Strs(w:World)(A:Option Addr)(xs:List ByteArray):Prop:=Go.Proofs.ah.aG.Kd.string.C w A xs.length xs
theorem str_at{w:World}{A:Option Addr}{xs:List ByteArray}(h:Strs w A xs):(xs=[]∨∃g o,A=some ⟨g,o,none⟩∧∀j,j<xs.length→w.cell? ⟨g,o+j,none⟩=some (.string (xs.getD j ⟨#[]⟩))):=by
 cases hx:xs with
 |nil=>exact .inl rfl
 |cons x t=>
  rw[←hx];have hl:0<xs.length:=by rw[hx];simp
  obtain⟨ad,e,hc⟩:=h.2.2 hl
  have key:∀j,j<xs.length→w.cell? (ad.add j)=some (.string (xs.getD j ⟨#[]⟩)):=fun j hj=>by
   have hg:xs[j]?=some (xs.getD j ⟨#[]⟩):=by rw[List.getD_eq_getElem?_getD,List.getElem?_eq_getElem hj];rfl
   obtain⟨c,hcl,hR,hcc⟩:=hc j _ hg;have hR2:c=[.string (xs.getD j ⟨#[]⟩)]:=hR;have:=hcc 0 (.string (xs.getD j ⟨#[]⟩)) (by rw[hR2];rfl);have hz:j * Go.Proofs.ah.aG.Kd.string.sz+0=j:=by show j * 1+0=j;omega
   rwa [hz]at this
  have h0:=key 0 hl;have hs:=spotF (a:=ad) (by simpa [Addr.add]using h0);refine .inr ⟨ad.block,ad.off,by rw[e,←hs],fun j hj=>?_⟩;have:=key j hj;rw[hs,addF]at this;exact this
theorem back1_in(n:Nat)(hn:1≤n)(l B1:Nat)(A:Option Addr)(c:Nat)(xs:List ByteArray)(w0:World)(hr:Strs w0 A xs)(J Jx:List IxS→World→Prop)
 (hY:∀pre x W,J pre W→pre.length<xs.length→YieldAt Fence.wide (n - 1) Tryz.prog l #[.int .i64 (x.1:Nat),.string x.2] W fun e W'=>
   (e=.returned (.bool true)∧J (pre++[x]) W'∧KpB 41 w0.heap.size B1 (.slice A xs.length c) W W')∨(e=.returned (.bool false)∧Jx (pre++[x]) W'))
 (W:World) (hW:Below w0.heap.size w0 W) (b1:Boxed W B1 41 (.slice A xs.length c)) (h0:J [] W):
 CallsIn Fence.wide n Tryz.prog 172 #[.func (.yield l) #[] #[],.pointer (some ⟨B1,0,none⟩)] W fun e W'=>(∃v,e=.returned v)∧
  ((∃ys,ys=pY xs xs.length∧J ys W')∨(∃pre,(∃k,k≤xs.length∧pre=pY xs k)∧Jx pre W')):=by
 have hxl:=hr.2.1;have hat:=str_at hr;refine callsIn_of_wp Tryz.func172 rfl trivial ?_ rfl;simp only[Tryz.ntmps172,List.size_toArray,List.length_cons,List.length_nil,Nat.reduceAdd,Nat.reduceSub,Array.replicate_succ,Array.replicate_zero,List.push_toArray,List.append_toArray,List.nil_append,List.cons_append];have c1:=b1.cell
 gi_wp2
 gi_loopw [3] (fun v wr=>∃k:Nat,k≤xs.length∧v=.int .i64 ((xs.length:Int) - 1 - k)∧J (pY xs k) wr∧Below w0.heap.size w0 wr∧Boxed wr B1 41 (.slice A xs.length c)) (fun v _=>(intOf v+1).toNat)
 case atStart=>exact⟨0,Nat.zero_le _,by simp,h0,hW,b1⟩
 case round=>
  obtain⟨k,hk,rfl,hJs,hB,hbx⟩:=hrel;have cb:=hbx.cell
  by_cases hlt:k<xs.length
  ·rcases hat with rfl|⟨g,o,rfl,hcs⟩
   ·simp at hlt
   ·have hj:xs.length - 1 - k<xs.length:=by omega
    obtain⟨fn,tmps,assign,body,hy,hR⟩:=hY _ (xs.length - 1 - k,xs.getD (xs.length - 1 - k) ⟨#[]⟩) wr hJs (by rw[D5];exact hlt);have hj2:(xs.length:Int) - 1 - k=((xs.length - 1 - k:Nat):Int):=by omega
    have hcx:=(hB.cell (p:=⟨g,o+(xs.length - 1 - k),none⟩) (World.block_lt_of_cell? w0 _ (hcs _ hj))).trans (hcs _ hj);have hsucc:=Lib.hid (uo xs k);clear hcs;dsimp only at hy;rw[hj2];generalize xs.getD (xs.length - 1 - k) ⟨#[]⟩=sx at *;obtain⟨q,hq⟩:∃q,xs.length - 1 - k=q:=⟨_,rfl⟩
    rw[hq]at hy hcx hR hsucc hj;rw[hq];have hqk:Hid (xs.length - 1 - k=q):=hq;clear hq hj2
    gi_wp2
    refine hR.mono ?_;rintro e W3 (⟨rfl,hJ3,hk3⟩|⟨rfl,hJx3⟩)
    ·gi_wp2
     go_roundw
     case rel=>exact⟨k+1,by omega,by have:=hqk.out;congr 1;omega,by rw[hsucc.out];exact hJ3,hB.trans hk3.1,hk3.2 hbx⟩
     case measure=>first|(simp[intOf];done)|(simp[intOf];omega)
    ·gi_wp2
     refine bodyPost_ret (results_none rfl _ _ _) rfl ?_;exact⟨⟨_,rfl⟩,.inr ⟨_,⟨k+1,by omega,hsucc.out.symm⟩,hJx3⟩⟩
  ·obtain rfl:k=xs.length:=by omega
   gi_wp2
   go_end0;exact⟨⟨_,rfl⟩,.inl ⟨_,rfl,hJs⟩⟩
theorem has_c(A:Option Addr)(c:Nat)(xs:List Bt)(x:Bt)(w:World)(h:Strs w A xs):
 Calls Tryz.prog 114 #[.slice A xs.length c,.string x] w fun e w'=>e=.returned (.bool (Lib.containsS xs x))∧w'=w:=by
 rcases str_at h with rfl|⟨g,o,rfl,hc⟩
 ·exact Tryz.slices_Contains_string_empty A c x w
 ·have:=Tryz.slices_Contains_string g o xs.length c xs x w (Nat.le_refl _) h.2.1 hc
  rwa [List.take_length]at this
theorem back_in(n:Nat)(A:Option Addr)(len c:Nat)(w:World):
 CallsIn Fence.wide n Tryz.prog 127 #[.slice A len c] w fun e w'=>e=.returned (.func (.func 172) #[] #[.pointer (some ⟨w.heap.size,0,none⟩)])∧w'=w.alloc (.cells #[.slice A len c] 41):=by
 refine callsIn_of_wp Tryz.func127 rfl trivial ?_ rfl;simp only[Tryz.ntmps127,List.size_toArray,List.length_cons,List.length_nil,Nat.reduceAdd,Nat.reduceSub,Array.replicate_succ,Array.replicate_zero,List.push_toArray,List.append_toArray,List.nil_append,List.cons_append]
 gi_wp2
 go_ret;exact⟨rfl,rfl⟩
theorem GU(n:Nat)(hn:1≤n)(B1:Nat)(A:Option Addr)(c:Nat)(xs:List Bt)(w0 w:World)(hr:Strs w0 A xs)(hB:Below w0.heap.size w0 w)(b1:Boxed w B1 41 (.slice A xs.length c)):
 SeqStopsK Fence.wide n Tryz.prog 172 #[.pointer (some ⟨B1,0,none⟩)] (fun x:IxS=>#[Value.int .i64 (x.1:Nat),.string x.2]) (KpB 41 w0.heap.size B1 (.slice A xs.length c)) (fun ys=>ys=pY xs xs.length) (fun pre=>∃k,k≤xs.length∧pre=pY xs k) xs.length w:=fun l J Jx W hW _ _ hY h0=>
 back1_in n hn l B1 A c xs w0 hr J Jx hY W (hB.trans (hW.mono hB.size)) ((hW.block B1 b1.lt).trans b1) h0
def dW(xs some_ walls:List Bt):Nat→Int
 |0=> -1
 |k+1=>if Lib.containsS some_ (xs.getD k ⟨#[]⟩)then(k:Int)else if Lib.containsS walls (xs.getD k ⟨#[]⟩)then -1 else dW xs some_ walls k
def freeB(some_ walls:List Bt)(pre:List IxS):Prop:=∀p∈pre,Lib.containsS some_ p.2=false∧Lib.containsS walls p.2=false
theorem um(xs some_ walls:List Bt):∀k,k≤xs.length→freeB some_ walls (pY xs k)→dW xs some_ walls xs.length=dW xs some_ walls (xs.length - k)
 |0,_,_=>by rw[Nat.sub_zero]
 |k+1,hk,h=>by
  rw[uo]at h;have h1:=h (xs.length - 1 - k,xs.getD (xs.length - 1 - k) ⟨#[]⟩) (by simp);have ih:=um xs some_ walls k (by omega) (fun p hp=>h p (List.mem_append_left _ hp));obtain⟨m,hm⟩:∃m,xs.length - k=m+1:=⟨xs.length - k - 1,by omega⟩
  have hm2:xs.length - (k+1)=m:=by omega
  have hm3:xs.length - 1 - k=m:=by omega
  rw[hm3]at h1;rw[ih,hm,hm2];simp only[dW,h1.1,h1.2];rfl
theorem GV(xs some_ walls:List Bt)(k:Nat)(hk:k≤xs.length)(pre':List IxS)(x:IxS)(res:Int)(h:pY xs k=pre'++[x])(hf:freeB some_ walls pre')
 (hc:(Lib.containsS some_ x.2=true∧res=x.1)∨(Lib.containsS some_ x.2=false∧Lib.containsS walls x.2=true∧res= -1)):dW xs some_ walls xs.length=res:=by
 cases k with
 |zero=>simp[pY]at h
 |succ m=>
  rw[uo]at h;obtain⟨h1,h2⟩:=List.append_inj' h rfl;have h3:=(List.cons.inj h2).1;subst h1;subst h3;rw[um xs some_ walls m (by omega) hf];obtain⟨q,hq⟩:∃q,xs.length - m=q+1:=⟨xs.length - m - 1,by omega⟩
  have hq2:xs.length - 1 - m=q:=by omega
  rw[hq2]at hc;rw[hq]
  rcases hc with⟨c1,rfl⟩|⟨c1,c2,rfl⟩
  ·simp only[dW,c1]
   rfl
  ·simp only[dW,c1,c2]
   rfl
theorem uP{X:World}{B q:Nat}{t:TypeId}{v:Value}{row:Option Nat}(h:Boxed X B t v)(hr:∀r,row=some r→q≤r∧∃o:Obj,X.heap[r]?=some o∧o.isCells=false):some B≠row:=fun e=>by
 obtain⟨_,o,ho,hc⟩:=hr B e.symm;rw[show X.heap[B]?=_ from h]at ho;cases ho;cases hc
def fI(w:World)(V1 V2:Value)(ys zs:List Bt)(pre:List IxS)(W:World):Prop:=
 (Boxed W w.heap.size 41 V1∧Boxed W (w.heap.size+1) 41 V2∧Boxed W (w.heap.size+1+1) 3 (.int .i64 0)∧freeB ys zs pre)∧Below w.heap.size w W
def fX(w:World)(ys zs:List Bt)(c:Code)(pre:List IxS)(W:World):Prop:=
 (c=.ret∧∃(res:Int) (pre':List IxS) (x:IxS),Boxed W (w.heap.size+1+1) 3 (.int .i64 res)∧pre=pre'++[x]∧freeB ys zs pre'∧((Lib.containsS ys x.2=true∧res=x.1)∨(Lib.containsS ys x.2=false∧Lib.containsS zs x.2=true∧res= -1)))∧Below w.heap.size w W
theorem fI_own(w:World)(B:Nat)(hB:w.heap.size≤B)(V1 V2:Value)(ys zs:List Bt):OwnFrom B (fI w V1 V2 ys zs):=
 OwnFrom.and (fun s X Y row h hg hr=>⟨h.1.kept hg (uP h.1 hr),h.2.1.kept hg (uP h.2.1 hr),h.2.2.1.kept hg (uP h.2.2.1 hr),h.2.2.2⟩) (ownFrom_below (Nat.le_refl _) hB)
theorem fX_own(w:World)(B:Nat)(hB:w.heap.size≤B)(ys zs:List Bt)(c:Code):OwnFrom B (fX w ys zs c):=
 OwnFrom.and (fun s X Y row h hg hr=>by
  obtain⟨hc,res,pre',x,hb,r⟩:=h;exact⟨hc,res,pre',x,hb.kept hg (uP hb hr),r⟩) (ownFrom_below (Nat.le_refl _) hB)
theorem found_in(n:Nat)(hn:3≤n)(A0 A1 A2:Option Addr)(c0 c1 c2:Nat)(xs ys zs:List Bt)(w:World)(h0:Strs w A0 xs)(h1s:Strs w A1 ys)(h2s:Strs w A2 zs):
 CallsIn Fence.wide n Tryz.prog 77 #[.slice A0 xs.length c0,.slice A1 ys.length c1,.slice A2 zs.length c2] w fun e w'=>e=.returned (.int .i64 (dW xs ys zs xs.length))∧Below w.heap.size w w':=by
 have h1:1≤n:=by omega
 have hfn:Fence.wide.fn 127:=trivial;have hfn2:Fence.wide.fn 114:=trivial;refine callsIn_of_wp_marks Tryz.func77 rfl trivial ?_ rfl;simp only[Tryz.ntmps77,List.size_toArray,List.length_cons,List.length_nil,Nat.reduceAdd,Nat.reduceSub,Array.replicate_succ,Array.replicate_zero,List.push_toArray,List.append_toArray,List.nil_append,List.cons_append]
 gi_wp2_with (gi_at_call 127;refine(back_in _ _ _ _ _).mono ?_;rintro e w' ⟨rfl,rfl⟩)
 have HB0:Below w.heap.size w ((((w.alloc (.cells #[.slice A1 ys.length c1] 41)).alloc (.cells #[.slice A2 zs.length c2] 41)).alloc (.cells #[.int .i64 0] 3)).alloc (.cells #[.slice A0 xs.length c0] 41)):=((((Below.refl _ w).alloc (Nat.le_refl _) _).alloc (by simp) _).alloc (by simp;omega) _).alloc (by simp;omega) _;have b1:=Boxed.new w 41 (.slice A1 ys.length c1)
 have b2:Boxed ((w.alloc (.cells #[.slice A1 ys.length c1] 41)).alloc (.cells #[.slice A2 zs.length c2] 41)) (w.heap.size+1) 41 (.slice A2 zs.length c2):=by
  have h:=Boxed.new (w.alloc (.cells #[.slice A1 ys.length c1] 41)) 41 (.slice A2 zs.length c2);rw[World.size_alloc]at h;exact h
 have b3:Boxed (((w.alloc (.cells #[.slice A1 ys.length c1] 41)).alloc (.cells #[.slice A2 zs.length c2] 41)).alloc (.cells #[.int .i64 0] 3)) (w.heap.size+1+1) 3 (.int .i64 0):=by
  have h:=Boxed.new ((w.alloc (.cells #[.slice A1 ys.length c1] 41)).alloc (.cells #[.slice A2 zs.length c2] 41)) 3 (.int .i64 0);rw[World.size_alloc,World.size_alloc]at h;exact h
 have b4:Boxed ((((w.alloc (.cells #[.slice A1 ys.length c1] 41)).alloc (.cells #[.slice A2 zs.length c2] 41)).alloc (.cells #[.int .i64 0] 3)).alloc (.cells #[.slice A0 xs.length c0] 41)) (w.heap.size+1+1+1) 41 (.slice A0 xs.length c0):=by
  have h:=Boxed.new (((w.alloc (.cells #[.slice A1 ys.length c1] 41)).alloc (.cells #[.slice A2 zs.length c2] 41)).alloc (.cells #[.int .i64 0] 3)) 41 (.slice A0 xs.length c0);rw[World.size_alloc,World.size_alloc,World.size_alloc]at h;exact h
 refine wpIn_rangeFunc_ownG rfl h1 (gf:=172) (lb:=#[.pointer (some ⟨w.heap.size+1+1+1,0,none⟩)]) rfl trivial (enters_of Tryz.func172 (by kernel_rfl) rfl)
  (GU (n - 1) (by omega) (w.heap.size+1+1+1) A0 c0 xs w _ h0 HB0 b4) (fun h k=>kpB_t h k) (kpB_b HB0.size b4.lt) (Below.refl _ _) (fun _=>rfl)
  (fI w (.slice A1 ys.length c1) (.slice A2 zs.length c2) ys zs) (fX w ys zs) (fI_own w _ HB0.size _ _ ys zs) (fX_own w _ HB0.size ys zs)
  ⟨⟨((b1.alloc _).alloc _).alloc _,(b2.alloc _).alloc _,b3.alloc _,fun p hp=>by cases hp⟩,HB0⟩
  ?a1 ?assign ?body ?done ?stop
 case assign=>
  intro l x W K hK
  gi_wp2
  exact hK
 case body=>
  rintro l pre x W ⟨⟨hb1,hb2,hb3,hfree⟩,hB⟩ hlt;have k1:=hb1.cell;have k2:=hb2.cell;have k3:=hb3.cell;have f3:=hb3.frozen;have GX:=Lib.hid hfree;clear hfree;have hc1:=Lib.hid (callsIn_wide (n:=n - 1 - 1 - 1).2 (has_c A1 c1 ys x.2 W (Go.Proofs.ah.aG.Kd.bS h1s hB)));have hc2:=Lib.hid (callsIn_wide (n:=n - 1 - 1 - 1).2 (has_c A2 c2 zs x.2 W (Go.Proofs.ah.aG.Kd.bS h2s hB)));obtain⟨xi,xs'⟩:=x;dsimp only at hc1 hc2;have hd:1≤n - 1 - 1:=by omega
  have hfd:(Fence.wide.inRound l).fn 114:=trivial;cases e1:Lib.containsS ys xs'
  ·rw[e1]at hc1
   cases e2:Lib.containsS zs xs'
   ·rw[e2]at hc2
    gi_wp2_with (first|(gi_at_call 114;refine(CallsIn.inRound l hc1.out).mono ?_;rintro e w1 ⟨rfl,hw1⟩;rw[hw1];clear hc1)|(gi_at_call 114;refine(CallsIn.inRound l hc2.out).mono ?_;rintro e w2 ⟨rfl,hw2⟩;rw[hw2];clear hc2))
    exact⟨KeepsFrom.refl _ _,⟨Below.refl _ _,fun h=>h⟩,⟨hb1,hb2,hb3,fun p hp=>by
     rcases List.mem_append.1 hp with h|h
     ·exact GX.out p h
     ·obtain rfl:=List.mem_singleton.1 h
      exact⟨e1,e2⟩⟩,hB⟩
   ·rw[e2]at hc2
    gi_wp2_with (first|(gi_at_call 114;refine(CallsIn.inRound l hc1.out).mono ?_;rintro e w1 ⟨rfl,hw1⟩;rw[hw1];clear hc1)|(gi_at_call 114;refine(CallsIn.inRound l hc2.out).mono ?_;rintro e w2 ⟨rfl,hw2⟩;rw[hw2];clear hc2))
    exact⟨(KeepsOthers.setCell _ _ _).from _,⟨rfl,-1,pre,(xi,xs'),hb3.set _,rfl,GX.out,.inr ⟨e1,e2,rfl⟩⟩,hB.setCell (p:=⟨w.heap.size+1+1,0,none⟩) (by show w.heap.size≤w.heap.size+1+1;omega) _⟩
  ·rw[e1]at hc1
   gi_wp2_with (first|(gi_at_call 114;refine(CallsIn.inRound l hc1.out).mono ?_;rintro e w1 ⟨rfl,hw1⟩;rw[hw1];clear hc1)|(gi_at_call 114;refine(CallsIn.inRound l hc2.out).mono ?_;rintro e w2 ⟨rfl,hw2⟩;rw[hw2];clear hc2))
   exact⟨(KeepsOthers.setCell _ _ _).from _,⟨rfl,xi,pre,(xi,xs'),hb3.set _,rfl,GX.out,.inl ⟨e1,rfl⟩⟩,hB.setCell (p:=⟨w.heap.size+1+1,0,none⟩) (by show w.heap.size≤w.heap.size+1+1;omega) _⟩
 case done=>
  rintro D ps W hD rfl ⟨⟨hb1,hb2,hb3,hfree⟩,hB⟩ hK;have k3:=hb3.cell;have f3:=hb3.frozen
  have hres:dW xs ys zs xs.length= -1:=by
   rw[um xs ys zs xs.length (Nat.le_refl _) hfree,Nat.sub_self];rfl
  have hres2:=Lib.hid hres
  gi_wp2
  have hK2:=(KeepsOthers.setCell W ⟨w.heap.size+1+1,0,none⟩ (.int .i64 (-1))).same D _ hK rfl;refine⟨by simp,.inl ⟨_,_,rfl,run_takeDeferred hK2,?_⟩⟩
  have hb4:=(hb3.set (.int .i64 (-1))).kept (grownBy_putObj' _ D (.deferred none)) (fun e=>by
   have h:=hb3;rw[show w.heap.size+1+1=D from by simpa using e]at h;rw[show W.heap[D]?=_ from h]at hK;cases hK)
  have hc4:=hb4.cell;have hui:=Tryz.underlying3;rw[hres2.out];refine⟨.int .i64 (-1),?_,rfl,(hB.setCell (p:=⟨w.heap.size+1+1,0,none⟩) (by show w.heap.size≤w.heap.size+1+1;omega) _).trans (belowK_b (w:=w) (Nat.le_refl _) _ D _ _ (Nat.le_trans HB0.size hD) hK2 rfl rfl)⟩;simp[results,asAddr,loadVar,hc4,hui,Sem.run_bind,Result.andThen,go_sem]
 case stop=>
  rintro D c pre W hD ⟨k,hk,rfl⟩ ⟨⟨rfl,res,pre',x,hb3,hpre,hfree,hcase⟩,hB⟩ hK;have hres:dW xs ys zs xs.length=res:=GV xs ys zs k hk pre' x res hpre hfree hcase;have hres2:=Lib.hid hres;clear hres hcase hfree hpre
  gi_wp2
  refine⟨by simp,.inl ⟨_,_,rfl,run_takeDeferred hK,?_⟩⟩
  have hb4:=hb3.kept (grownBy_putObj' _ D (.deferred none)) (fun e=>by
   have h:=hb3;rw[show w.heap.size+1+1=D from by simpa using e]at h;rw[show W.heap[D]?=_ from h]at hK;cases hK)
  have hc4:=hb4.cell;have hui:=Tryz.underlying3;rw[hres2.out];refine⟨.int .i64 res,?_,rfl,hB.trans (belowK_b (w:=w) (Nat.le_refl _) _ D _ _ (Nat.le_trans HB0.size hD) hK rfl rfl)⟩;simp[results,asAddr,loadVar,hc4,hui,Sem.run_bind,Result.andThen,go_sem]
def dL.f(l0 l1 l2:List Bt):Option Int:=some (dW l0 l1 l2 l0.length)
theorem dL.calls(A0:Option Addr)(c0:Nat)(l0:List Bt)(A1:Option Addr)(c1:Nat)(l1:List Bt)(A2:Option Addr)(c2:Nat)(l2:List Bt)(r:Int)(w:World)(hr0:Go.Proofs.ah.aG.Kd.string.C w A0 l0.length l0)(hc0:l0.length≤c0)(hr1:Go.Proofs.ah.aG.Kd.string.C w A1 l1.length l1)(hc1:l1.length≤c1)(hr2:Go.Proofs.ah.aG.Kd.string.C w A2 l2.length l2)(hc2:l2.length≤c2)(h:dL.f l0 l1 l2=some r):
 Calls Tryz.prog 77 #[.slice A0 l0.length c0,.slice A1 l1.length c1,.slice A2 l2.length c2] w fun e w'=>e=.returned (.int .i64 r)∧Below w.heap.size w w':=by
 obtain rfl:=Option.some.inj h;exact(callsIn_wide (n:=3)).1 (found_in 3 (Nat.le_refl _) A0 A1 A2 c0 c1 c2 l0 l1 l2 w hr0 hr1 hr2)
end Go.Proofs.aj.W7
namespace Go.Proofs.aj.W7
open Go.RowKit Go.Proofs.ah.aG Go.Proofs.ah.bX Go.Proofs.ah.dN
attribute [local go_sem] dZ d9 eU eX dS dU eu eB
def bI.l0:Nat→Bt→List Bt→Int→Int→Option (Bool)
 |0,_,_,_,_=>none
 |k+1,x0,x7,x8,x9=>if x9<x8 then(if 0≤x9 then(if x9<(x7.length:Int)then(if(lq ByteArray.empty x7 x9).toList=x0.toList then(some true)else(bI.l0 k x0 x7 x8 (wrap64 (x9+1))))else(none))else(none))else(some false)
def bI.f(k:Nat)(a0:Bt)(l1:List Bt):Option (Bool):=bI.l0 k a0 l1 (l1.length:Int) 0
theorem bI.zP:∀k,(∀y0 y1 y2 y3,LeO (bI.l0 k y0 y1 y2 y3) (bI.l0 (k+1) y0 y1 y2 y3))
 |0=>fun _ _ _ _ r h=>by simp[bI.l0]at h
 |k+1=>by
  have ih0:=bI.zP k
  ·intro y0 y1 y2 y3
   unfold bI.l0
   repeat' first
   |(with_reducible exact ih0 _ _ _ _)
   |(with_reducible exact LeO.refl _)
   |(with_reducible exact LeO.none _)
   |(with_reducible refine LeO.ite ?_ ?_)
   |(with_reducible refine LeO.bind ?_ (fun _=>?_))
   |exact ih0 _ _ _ _
   |exact LeO.none _
   |refine LeO.ite ?_ ?_
   |refine LeO.bind ?_ (fun _=>?_)
theorem bI.mono:∀a0 a1 k,LeO (bI.f k a0 a1) (bI.f (k+1) a0 a1):=by
 intro a0 a1 k;have ih0:=bI.zP k;unfold bI.f
 repeat' first
  |(with_reducible exact ih0 _ _ _ _)
  |(with_reducible exact LeO.refl _)
  |(with_reducible exact LeO.none _)
  |(with_reducible refine LeO.ite ?_ ?_)
  |(with_reducible refine LeO.bind ?_ (fun _=>?_))
  |exact ih0 _ _ _ _
  |exact LeO.none _
  |refine LeO.ite ?_ ?_
  |refine LeO.bind ?_ (fun _=>?_)
theorem bI.calls(k:Nat)(a0:Bt)(A1:Option Addr)(c1:Nat)(l1:List Bt)(r:Bool)(w:World)(hr1:Kd.C Kd.string w A1 l1.length l1)(hc1:l1.length≤c1)(h:bI.f k a0 l1=some r):
 Calls Tryz.prog 81 #[.string a0,.slice A1 l1.length c1] w fun e w'=>e=.returned (.bool r)∧dK w w':=by
 have HR1:=ak.mk hr1;have HC1:=ak.mk hc1;clear hr1 hc1;have H:(bI.l0 k a0 l1 (l1.length:Int) 0)=some r:=h;clear h;have H':=ak.mk H;clear H;go_enter Tryz.func81,Tryz.ntmps81;go_wp2
 go_loopg [9] k (fun kq v9 w'=>∃(oC:Int),v9=.int .i64 oC∧ak (bI.l0 kq a0 l1 (l1.length:Int) oC=some r)∧ak (kq≤k)∧dK w w')
 case atStart=>exact⟨(0),q'c,H',⟨Nat.le_refl _⟩,by repeat(first|exact dK.refl _|apply dK.step)⟩
 case round=>
  clear H'
  try clear c1
  try clear p2
  obtain⟨oC,rfl,HA,HK1,⟨m1,rfl⟩⟩:=hrel;cases gk with
  |zero=>exact absurd HA.out (by simp[bI.l0])
  |succ k1=>
   have H:=HA.out;clear HA;simp only[bI.l0]at H
   by_cases c3:oC<(l1.length:Int)
   ·rw[if_pos c3]at H
    have lI:decide (oC<(l1.length:Int))=true:=decide_eq_true c3;clear c3
    by_cases c4:0≤oC
    ·rw[if_pos c4]at H
     have zV:decide (0≤oC)=true:=decide_eq_true c4;clear c4
     by_cases c5:oC<(l1.length:Int)
     ·rw[if_pos c5]at H
      have zW:decide (oC<(l1.length:Int))=true:=decide_eq_true c5;clear c5
      by_cases c6:(lq ByteArray.empty l1 oC).toList=a0.toList
      ·rw[if_pos c6]at H
       have mo:((lq ByteArray.empty l1 oC).toList==a0.toList)=true:=beq_iff_eq.mpr c6;have c6b1:((lq ByteArray.empty l1 oC).toList !=a0.toList)=false:=bne_eq_false_iff_eq.mpr c6;clear c6;obtain rfl:=Option.some.inj H;have p121:0≤(oC:Int):=q'b;have q121:oC<(l1.length:Int):=q'b;obtain⟨ad121,e121,hx121_0⟩:=Kd.kC HR1.out oC p121 q121;cases e121;replace p121:=eq_true p121;replace q121:=eq_true q121;go_wp2;go_ret;exact⟨q'c,by repeat(first|exact dK.refl _|apply dK.step)⟩
      ·rw[if_neg c6]at H
       have mo:((lq ByteArray.empty l1 oC).toList==a0.toList)=false:=beq_eq_false_iff_ne.mpr c6;have c6b1:((lq ByteArray.empty l1 oC).toList !=a0.toList)=true:=bne_iff_ne.mpr c6;have H':=ak.mk H;clear H;have p121:0≤(oC:Int):=q'b;have q121:oC<(l1.length:Int):=q'b;obtain⟨ad121,e121,hx121_0⟩:=Kd.kC HR1.out oC p121 q121;cases e121;replace p121:=eq_true p121;replace q121:=eq_true q121;go_wp2
       go_roundg k1
       case measure=>have:=HK1.out;omega
       case rel=>exact⟨(wrap64 (oC+1)),q'c,H',⟨by have:=HK1.out;omega⟩,by repeat(first|exact dK.refl _|apply dK.step)⟩
     ·rw[if_neg c5]at H
      exact absurd H (by simp)
    ·rw[if_neg c4]at H
     exact absurd H (by simp)
   ·rw[if_neg c3]at H
    have lI:decide (oC<(l1.length:Int))=false:=decide_eq_false c3;clear c3;obtain rfl:=Option.some.inj H;go_wp2;go_ret;exact⟨q'c,by repeat(first|exact dK.refl _|apply dK.step)⟩
def aM.l0:Nat→List Bt→Bt→Int→Option (Bool)
 |0,_,_,_=>none
 |k+1,x0,x1,x5=>if x5<(x0.length:Int)then(if 0≤x5 then(if(lq ByteArray.empty x0 x5).toList=x1.toList then(some true)else(aM.l0 k x0 x1 (wrap64 (x5+1))))else(none))else(some false)
def aM.f(k:Nat)(l0:List Bt)(a1:Bt):Option (Bool):=aM.l0 k l0 a1 0
theorem aM.calls(k:Nat)(A0:Option Addr)(c0:Nat)(l0:List Bt)(a1:Bt)(r:Bool)(w:World)(hr0:Kd.C Kd.string w A0 l0.length l0)(hc0:l0.length≤c0)(h:aM.f k l0 a1=some r):
 Calls Tryz.prog 57 #[.slice A0 l0.length c0,.string a1] w fun e w'=>e=.returned (.bool r)∧dK w w':=by
 have HR0:=ak.mk hr0;have HC0:=ak.mk hc0;clear hr0 hc0;have H:(aM.l0 k l0 a1 0)=some r:=h;clear h;have H':=ak.mk H;clear H;go_enter Tryz.func57,Tryz.ntmps57;go_wp2
 go_loopg [5] k (fun kq v5 w'=>∃(fC:Int),v5=.int .i64 fC∧ak (aM.l0 kq l0 a1 fC=some r)∧ak (kq≤k)∧dK w w')
 case atStart=>exact⟨(0),q'c,H',⟨Nat.le_refl _⟩,by repeat(first|exact dK.refl _|apply dK.step)⟩
 case round=>
  clear H'
  try clear p2
  obtain⟨fC,rfl,HA,HK1,⟨m1,rfl⟩⟩:=hrel;cases gk with
  |zero=>exact absurd HA.out (by simp[aM.l0])
  |succ k1=>
   have H:=HA.out;clear HA;simp only[aM.l0]at H
   by_cases c3:fC<(l0.length:Int)
   ·rw[if_pos c3]at H
    have lI:decide (fC<(l0.length:Int))=true:=decide_eq_true c3;clear c3
    by_cases c4:0≤fC
    ·rw[if_pos c4]at H
     have zV:decide (0≤fC)=true:=decide_eq_true c4;clear c4
     by_cases c5:(lq ByteArray.empty l0 fC).toList=a1.toList
     ·rw[if_pos c5]at H
      have zW:((lq ByteArray.empty l0 fC).toList==a1.toList)=true:=beq_iff_eq.mpr c5;have c5b1:((lq ByteArray.empty l0 fC).toList !=a1.toList)=false:=bne_eq_false_iff_eq.mpr c5;clear c5;obtain rfl:=Option.some.inj H;have p213:0≤(fC:Int):=q'b;have q213:fC<(l0.length:Int):=q'b;obtain⟨ad213,e213,hx213_0⟩:=Kd.kC HR0.out fC p213 q213;cases e213;replace p213:=eq_true p213;replace q213:=eq_true q213;go_wp2;go_ret;exact⟨q'c,by repeat(first|exact dK.refl _|apply dK.step)⟩
     ·rw[if_neg c5]at H
      have zW:((lq ByteArray.empty l0 fC).toList==a1.toList)=false:=beq_eq_false_iff_ne.mpr c5;have c5b1:((lq ByteArray.empty l0 fC).toList !=a1.toList)=true:=bne_iff_ne.mpr c5;have H':=ak.mk H;clear H;have p213:0≤(fC:Int):=q'b;have q213:fC<(l0.length:Int):=q'b;obtain⟨ad213,e213,hx213_0⟩:=Kd.kC HR0.out fC p213 q213;cases e213;replace p213:=eq_true p213;replace q213:=eq_true q213;go_wp2
      go_roundg k1
      case measure=>have:=HK1.out;omega
      case rel=>exact⟨(wrap64 (fC+1)),q'c,H',⟨by have:=HK1.out;omega⟩,by repeat(first|exact dK.refl _|apply dK.step)⟩
    ·rw[if_neg c4]at H
     exact absurd H (by simp)
   ·rw[if_neg c3]at H
    have lI:decide (fC<(l0.length:Int))=false:=decide_eq_false c3;clear c3;obtain rfl:=Option.some.inj H;go_wp2;go_ret;exact⟨q'c,by repeat(first|exact dK.refl _|apply dK.step)⟩
end Go.Proofs.aj.W7
namespace Go.Proofs.aj.W7
open Go.RowKit Go.Proofs Go.Proofs.aj Go.Proofs.YtkcmghlhpbepcaaGreatDoor Go.Proofs.ah.aG
theorem wN{i:Nat}(h:i<1000000000):wrap64 ((i:Int)+1)=((i+1:Nat):Int):=by unfold wrap64;omega
theorem bIff(a b:Bt):a.toList=b.toList↔a.data.toList=b.data.toList:=by rw[Lib.toList_data,Lib.toList_data]
def mZ(l:List Bt)(s:Bt):Bool:=l.any fun x=>x.data.toList==s.data.toList
theorem Ea(l:List Bt)(i:Nat)(h:i<l.length):lq ByteArray.empty l (i:Int)=l[i]:=by simp[lq,h]
theorem among_l0(s:Bt)(l:List Bt)(hl:l.length<100000):∀(d i k:Nat),l.length - i≤d→i≤l.length→d<k→bI.l0 k s l (l.length:Int) i=some (mZ (l.drop i) s):=by
 intro d
 induction d with
 |zero=>
  intro i k hd hi hk;obtain⟨k,rfl⟩:∃m,k=m+1:=⟨k - 1,by omega⟩
  simp only[bI.l0];rw[if_neg (by omega),List.drop_of_length_le (by omega)];rfl
 |succ d ih=>
  intro i k hd hi hk;obtain⟨k,rfl⟩:∃m,k=m+1:=⟨k - 1,by omega⟩
  by_cases h:i<l.length
  ·simp only[bI.l0]
   rw[if_pos (by omega),if_pos (by omega),if_pos (by omega),Ea l i h,wN (by omega),ih (i+1) k (by omega) (by omega) (by omega),List.drop_eq_getElem_cons h];simp only[mZ,List.any_cons]
   by_cases e:l[i].data.toList=s.data.toList
   ·rw[if_pos ((bIff _ _).2 e),e];simp
   ·rw[if_neg (fun h=>e ((bIff _ _).1 h)),beq_eq_false_iff_ne.2 e,Bool.false_or]
  ·simp only[bI.l0]
   rw[if_neg (by omega),List.drop_of_length_le (by omega)];rfl
theorem oW(s:Bt)(l:List Bt)(k:Nat)(hl:l.length<100000)(hk:l.length<k):bI.f k s l=some (mZ l s):=among_l0 s l hl l.length 0 k (by omega) (by omega) hk
theorem has_l0(s:Bt)(l:List Bt)(hl:l.length<100000):∀(d i k:Nat),l.length - i≤d→i≤l.length→d<k→aM.l0 k l s i=some (mZ (l.drop i) s):=by
 intro d
 induction d with
 |zero=>
  intro i k hd hi hk;obtain⟨k,rfl⟩:∃m,k=m+1:=⟨k - 1,by omega⟩
  simp only[aM.l0];rw[if_neg (by omega),List.drop_of_length_le (by omega)];rfl
 |succ d ih=>
  intro i k hd hi hk;obtain⟨k,rfl⟩:∃m,k=m+1:=⟨k - 1,by omega⟩
  by_cases h:i<l.length
  ·simp only[aM.l0]
   rw[if_pos (by omega),if_pos (by omega),Ea l i h,wN (by omega),ih (i+1) k (by omega) (by omega) (by omega),List.drop_eq_getElem_cons h];simp only[mZ,List.any_cons]
   by_cases e:l[i].data.toList=s.data.toList
   ·rw[if_pos ((bIff _ _).2 e),e];simp
   ·rw[if_neg (fun h=>e ((bIff _ _).1 h)),beq_eq_false_iff_ne.2 e,Bool.false_or]
  ·simp only[aM.l0]
   rw[if_neg (by omega),List.drop_of_length_le (by omega)];rfl
theorem Cc(s:Bt)(l:List Bt)(k:Nat)(hl:l.length<100000)(hk:l.length<k):aM.f k l s=some (mZ l s):=has_l0 s l hl l.length 0 k (by omega) (by omega) hk
end Go.Proofs.aj.W7
namespace Go.Proofs.aj.W7
open Go.RowKit Go.Proofs.ah.aG Go.Proofs.ah.bX Go.Proofs.ah.dN
attribute [local go_sem] dZ d9 eU eX dS dU eu eB
def eO.f(a0:Bt):Option (Bool):=if a0.toList=([108,105] :List UInt8)then(some true)else(if a0.toList=([100,100] :List UInt8)then(some true)else(some (a0.toList==([100,116] :List UInt8))))
theorem eO.calls(a0:Bt)(r:Bool)(w:World)(h:eO.f a0=some r):
 Calls Tryz.prog 76 #[.string a0] w fun e w'=>e=.returned (.bool r)∧dK w w':=by
 have H:(if a0.toList=([108,105] :List UInt8)then(some true)else(if a0.toList=([100,100] :List UInt8)then(some true)else(some (a0.toList==([100,116] :List UInt8)))))=some r:=h;clear h
 by_cases c2:a0.toList=([108,105] :List UInt8)
 ·rw[if_pos c2]at H
  have c2b0:(a0.toList==([108,105] :List UInt8))=true:=beq_iff_eq.mpr c2;have c2b1:(a0.toList !=([108,105] :List UInt8))=false:=bne_eq_false_iff_eq.mpr c2;clear c2;obtain rfl:=Option.some.inj H;go_enter Tryz.func76,Tryz.ntmps76;go_wp2;go_ret;exact⟨q'c,by repeat(first|exact dK.refl _|apply dK.step)⟩
 ·rw[if_neg c2]at H
  have c2b0:(a0.toList==([108,105] :List UInt8))=false:=beq_eq_false_iff_ne.mpr c2;have c2b1:(a0.toList !=([108,105] :List UInt8))=true:=bne_iff_ne.mpr c2
  by_cases c3:a0.toList=([100,100] :List UInt8)
  ·rw[if_pos c3]at H
   have lI:(a0.toList==([100,100] :List UInt8))=true:=beq_iff_eq.mpr c3;have tu:(a0.toList !=([100,100] :List UInt8))=false:=bne_eq_false_iff_eq.mpr c3;clear c3;obtain rfl:=Option.some.inj H;go_enter Tryz.func76,Tryz.ntmps76;go_wp2;go_ret;exact⟨q'c,by repeat(first|exact dK.refl _|apply dK.step)⟩
  ·rw[if_neg c3]at H
   have lI:(a0.toList==([100,100] :List UInt8))=false:=beq_eq_false_iff_ne.mpr c3;have tu:(a0.toList !=([100,100] :List UInt8))=true:=bne_iff_ne.mpr c3;obtain rfl:=Option.some.inj H;go_enter Tryz.func76,Tryz.ntmps76;go_wp2;go_ret;exact⟨q'c,by repeat(first|exact dK.refl _|apply dK.step)⟩
end Go.Proofs.aj.W7
