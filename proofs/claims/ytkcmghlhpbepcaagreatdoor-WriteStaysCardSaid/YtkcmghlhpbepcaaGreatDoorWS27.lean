/- Lemmas and walks, part 27. -/
import Derived.Test.YtkcmghlhpbepcaaGreatDoorWS26
set_option linter.unusedVariables false
set_option linter.unusedSimpArgs false
set_option maxHeartbeats 8000000
set_option maxRecDepth 100000
namespace Go.Proofs.aj.W7
open Go.RowKit Go.Proofs.ah.aD Go.Proofs.ah.bG Go.Proofs.ah.bR
attribute [local go_sem] dD dF dV dW bU bV dG dH
def jJ.l0:Nat→List (S34)→Int→Int→Option (Int)
 |0,_,_,_=>none
 |k+1,x0,x1,x5=>if x5<(x0.length:Int)then(if 0≤x5 then(if 0≤x1 then(if x1<(x0.length:Int)then(if((au x0 x5).f0)>((au x0 x1).f0)then(jJ.l0 k x0 x1 (wrap64 (x5+1)))else(some x5))else(none))else(none))else(none))else(some x5)
def jJ.f(k:Nat)(l0:List (S34))(a1:Int):Option (Int):=(lH.f l0 a1).bind fun t110=>(if t110=true then(jJ.l0 k l0 a1 (wrap64 (a1+1)))else(some 0))
theorem jJ.calls(k:Nat)(A0:Option Addr)(c0:Nat)(l0:List (S34))(a1 r:Int)(w:World)(hr0:Kd.C k34 w A0 l0.length l0)(hc0:l0.length≤c0)(h:jJ.f k l0 a1=some r):
 Calls Tryz.prog 184 #[.slice A0 l0.length c0,.int .i64 a1] w fun e w'=>e=.returned (.int .i64 r)∧bK w w':=by
 have HR0:=ak.mk hr0;have HC0:=ak.mk hc0;clear hr0 hc0;have H:((lH.f l0 a1).bind fun t110=>(if t110=true then(jJ.l0 k l0 a1 (wrap64 (a1+1)))else(some 0)))=some r:=h;clear h;replace H:=Option.bind_eq_some_iff.mp H;obtain⟨t110,A30,H⟩:=H;replace H:(if t110=true then(jJ.l0 k l0 a1 (wrap64 (a1+1)))else(some 0))=some r:=H;have A3:=ak.mk A30;clear A30
 by_cases c4:t110=true
 ·subst c4
  have H1:(jJ.l0 k l0 a1 (wrap64 (a1+1)))=some r:=by rw[if_pos rfl]at H;exact H
  clear H;have H:=H1;clear H1;have H':=ak.mk H;clear H;go_enter Tryz.func184,Tryz.ntmps184
  go_wp2_with(first|(go_at_call 143;(with_reducible refine(lH.calls _ _ l0 a1 true _ ?dz ?dA A3.out).mono ?_);(case dz=>repeat(first|exact HR0.out|(with_reducible refine Kd.nA ?_ _)|(with_reducible refine Kd.nW ?_ _)|(with_reducible refine Kd.qB ?_)));(case dA=>exact HC0.out);rintro e w' ⟨rfl,⟨nd,rfl⟩⟩;(try first|exact⟨rfl,_,World.drewN_drewN _ _ _⟩|exact⟨rfl,_,Eq.trans (World.drewN_drewN _ _ _) (congrArg (World.drewN _) (Nat.add_assoc _ _ _))⟩)))
  repeat(go_quiet (first|(go_at_call 143;(with_reducible refine(lH.calls _ _ l0 a1 true _ ?dz ?dA A3.out).mono ?_);(case dz=>repeat(first|exact HR0.out|(with_reducible refine Kd.nA ?_ _)|(with_reducible refine Kd.nW ?_ _)|(with_reducible refine Kd.qB ?_)));(case dA=>exact HC0.out);rintro e w' ⟨rfl,⟨nd,rfl⟩⟩;(try first|exact⟨rfl,_,World.drewN_drewN _ _ _⟩|exact⟨rfl,_,Eq.trans (World.drewN_drewN _ _ _) (congrArg (World.drewN _) (Nat.add_assoc _ _ _))⟩)));try go_wp2_with(first|(go_at_call 143;(with_reducible refine(lH.calls _ _ l0 a1 true _ ?dz ?dA A3.out).mono ?_);(case dz=>repeat(first|exact HR0.out|(with_reducible refine Kd.nA ?_ _)|(with_reducible refine Kd.nW ?_ _)|(with_reducible refine Kd.qB ?_)));(case dA=>exact HC0.out);rintro e w' ⟨rfl,⟨nd,rfl⟩⟩;(try first|exact⟨rfl,_,World.drewN_drewN _ _ _⟩|exact⟨rfl,_,Eq.trans (World.drewN_drewN _ _ _) (congrArg (World.drewN _) (Nat.add_assoc _ _ _))⟩))))
  go_loopg [5] k (fun kq v5 w'=>∃(iW:Int),v5=.int .i64 iW∧ak (jJ.l0 kq l0 a1 iW=some r)∧ak (kq≤k)∧bK w w')
  case atStart=>exact⟨(wrap64 (a1+1)),q'c,H',⟨Nat.le_refl _⟩,by repeat(first|exact bK.refl _|apply bK.step)⟩
  case round=>
   clear H'
   try clear c1
   try clear p2
   try clear c4
   obtain⟨iW,rfl,HA,HK1,⟨m1,rfl⟩⟩:=hrel;cases gk with
   |zero=>exact absurd HA.out (by simp[jJ.l0])
   |succ k1=>
    have H:=HA.out;clear HA;simp only[jJ.l0]at H
    by_cases c5:iW<(l0.length:Int)
    ·rw[if_pos c5]at H
     have xD:decide (iW<(l0.length:Int))=true:=decide_eq_true c5;clear c5
     by_cases c6:0≤iW
     ·rw[if_pos c6]at H
      have AA:decide (0≤iW)=true:=decide_eq_true c6;clear c6
      by_cases c7:0≤a1
      ·rw[if_pos c7]at H
       have c7b0:decide (0≤a1)=true:=decide_eq_true c7;clear c7
       by_cases c8:a1<(l0.length:Int)
       ·rw[if_pos c8]at H
        have zh:decide (a1<(l0.length:Int))=true:=decide_eq_true c8;clear c8
        by_cases c9:((au l0 iW).f0)>((au l0 a1).f0)
        ·rw[if_pos c9]at H
         have c9b0:decide (((au l0 a1).f0)<((au l0 iW).f0))=true:=decide_eq_true c9;clear c9;have H':=ak.mk H;clear H;have p111:0≤(iW:Int):=q'b;have q111:iW<(l0.length:Int):=q'b;obtain⟨ad111,A111_4,c111_4,e111,hx111_0,hx111_1,hx111_2,hx111_3,hx111_4,Ba,Bb⟩:=lg HR0.out iW p111 q111;cases e111;have HR111_4:=ak.mk Bb;have HC111_4:=ak.mk Ba;clear Bb Ba;replace p111:=eq_true p111;replace q111:=eq_true q111;have p112:0≤(a1:Int):=q'b;have q112:a1<(l0.length:Int):=q'b;obtain⟨ad112,A112_4,c112_4,e112,hx112_0,hx112_1,hx112_2,hx112_3,hx112_4,Bc,Bf⟩:=lg HR0.out a1 p112 q112;obtain rfl:ad111=ad112:=(by injection e112);have HR112_4:=ak.mk Bf;have HC112_4:=ak.mk Bc;clear Bf Bc;replace p112:=eq_true p112;replace q112:=eq_true q112;go_wp2
         repeat(go_quiet (fail);try go_wp2)
         go_roundg k1
         case measure=>have:=HK1.out;omega
         case rel=>exact⟨(wrap64 (iW+1)),q'c,H',⟨by have:=HK1.out;omega⟩,by repeat(first|exact bK.refl _|apply bK.step)⟩
        ·rw[if_neg c9]at H
         have c9b0:decide (((au l0 a1).f0)<((au l0 iW).f0))=false:=decide_eq_false c9;clear c9;obtain rfl:=Option.some.inj H;have p111:0≤(iW:Int):=q'b;have q111:iW<(l0.length:Int):=q'b;obtain⟨ad111,A111_4,c111_4,e111,hx111_0,hx111_1,hx111_2,hx111_3,hx111_4,Ba,Bb⟩:=lg HR0.out iW p111 q111;cases e111;have HR111_4:=ak.mk Bb;have HC111_4:=ak.mk Ba;clear Bb Ba;replace p111:=eq_true p111;replace q111:=eq_true q111;have p112:0≤(a1:Int):=q'b;have q112:a1<(l0.length:Int):=q'b;obtain⟨ad112,A112_4,c112_4,e112,hx112_0,hx112_1,hx112_2,hx112_3,hx112_4,Bc,Bf⟩:=lg HR0.out a1 p112 q112;obtain rfl:ad111=ad112:=(by injection e112);have HR112_4:=ak.mk Bf;have HC112_4:=ak.mk Bc;clear Bf Bc;replace p112:=eq_true p112;replace q112:=eq_true q112;go_wp2
         repeat(go_quiet (fail);try go_wp2)
         go_ret;exact⟨q'c,by repeat(first|exact bK.refl _|apply bK.step)⟩
       ·rw[if_neg c8]at H
        exact absurd H (by simp)
      ·rw[if_neg c7]at H
       exact absurd H (by simp)
     ·rw[if_neg c6]at H
      exact absurd H (by simp)
    ·rw[if_neg c5]at H
     have xD:decide (iW<(l0.length:Int))=false:=decide_eq_false c5;clear c5;obtain rfl:=Option.some.inj H;go_wp2
     repeat(go_quiet (fail);try go_wp2)
     go_ret;exact⟨q'c,by repeat(first|exact bK.refl _|apply bK.step)⟩
 ·replace c4:=Bool.eq_false_iff.mpr c4
  subst c4;have H1:(some 0)=some r:=by rw[if_neg (show¬(false=true) by decide)]at H;first|exact H|(simp only[eq_self]at H⊢;exact H)|(simp only[eq_self,if_true]at H⊢;exact H)
  clear H;have H:=H1;clear H1;obtain rfl:=Option.some.inj H;go_enter Tryz.func184,Tryz.ntmps184
  go_wp2_with(first|(go_at_call 143;(with_reducible refine(lH.calls _ _ l0 a1 false _ ?dz ?dA A3.out).mono ?_);(case dz=>repeat(first|exact HR0.out|(with_reducible refine Kd.nA ?_ _)|(with_reducible refine Kd.nW ?_ _)|(with_reducible refine Kd.qB ?_)));(case dA=>exact HC0.out);rintro e w' ⟨rfl,⟨nd,rfl⟩⟩;(try first|exact⟨rfl,_,World.drewN_drewN _ _ _⟩|exact⟨rfl,_,Eq.trans (World.drewN_drewN _ _ _) (congrArg (World.drewN _) (Nat.add_assoc _ _ _))⟩)))
  repeat(go_quiet (first|(go_at_call 143;(with_reducible refine(lH.calls _ _ l0 a1 false _ ?dz ?dA A3.out).mono ?_);(case dz=>repeat(first|exact HR0.out|(with_reducible refine Kd.nA ?_ _)|(with_reducible refine Kd.nW ?_ _)|(with_reducible refine Kd.qB ?_)));(case dA=>exact HC0.out);rintro e w' ⟨rfl,⟨nd,rfl⟩⟩;(try first|exact⟨rfl,_,World.drewN_drewN _ _ _⟩|exact⟨rfl,_,Eq.trans (World.drewN_drewN _ _ _) (congrArg (World.drewN _) (Nat.add_assoc _ _ _))⟩)));try go_wp2_with(first|(go_at_call 143;(with_reducible refine(lH.calls _ _ l0 a1 false _ ?dz ?dA A3.out).mono ?_);(case dz=>repeat(first|exact HR0.out|(with_reducible refine Kd.nA ?_ _)|(with_reducible refine Kd.nW ?_ _)|(with_reducible refine Kd.qB ?_)));(case dA=>exact HC0.out);rintro e w' ⟨rfl,⟨nd,rfl⟩⟩;(try first|exact⟨rfl,_,World.drewN_drewN _ _ _⟩|exact⟨rfl,_,Eq.trans (World.drewN_drewN _ _ _) (congrArg (World.drewN _) (Nat.add_assoc _ _ _))⟩))))
  go_ret;exact⟨q'c,by repeat(first|exact bK.refl _|apply bK.step)⟩
end Go.Proofs.aj.W7
namespace Go.Proofs.aj.W7
open Go.RowKit Go.Shelf Go.Proofs Go.Proofs.YtkcmghlhpbepcaaGreatDoor
attribute [local go_sem] Oper.semAt_some
def pF(d:Int):List Rw→Nat
 | []=>0
 |y::ys=>if d<y.f0 then pF d ys+1 else 0
theorem L8(d:Int):∀xs:List Rw,pF d xs≤xs.length
 | []=>Nat.le_refl _
 |y::ys=>by
  have:=L8 d ys;simp only[pF,List.length_cons]
  split<;>omega
def iO(xs:List Rw)(i:Nat):Nat:=i+1+pF (au xs i).f0 (xs.drop (i+1))
theorem mo(xs:List Rw)(i:Nat):i<iO xs i:=by unfold iO;omega
theorem oW(xs:List Rw)(i:Nat)(h:i<xs.length):iO xs i≤xs.length:=by
 have:=L8 (au xs i).f0 (xs.drop (i+1));rw[List.length_drop]at this;unfold iO;omega
theorem wr64{x:Int}(h0: -9223372036854775808≤x)(h1:x≤9223372036854775807):wrap64 x=x:=by unfold wrap64;omega
theorem end_l0(xs:List Rw)(hl:xs.length≤9223372036854775807)(i:Nat)(hi:i<xs.length):∀(d j k:Nat),xs.length - j≤d→j≤xs.length→d<k→
 jJ.l0 k xs i j=some ((j+pF (au xs i).f0 (xs.drop j):Nat):Int):=by
 intro d
 induction d with
 |zero=>
  intro j k hd hj hk;obtain⟨k,rfl⟩:∃m,k=m+1:=⟨k - 1,by omega⟩
  simp only[jJ.l0];rw[if_neg (by omega),List.drop_of_length_le (by omega)];rfl
 |succ d ih=>
  intro j k hd hj hk;obtain⟨k,rfl⟩:∃m,k=m+1:=⟨k - 1,by omega⟩
  simp only[jJ.l0]
  by_cases h:j<xs.length
  ·have hdj:au xs (j:Int)=xs[j]:=by simp[au,h]
   rw[if_pos (by omega),if_pos (by omega),if_pos (by omega),if_pos (by omega),List.drop_eq_getElem_cons h,hdj];simp only[pF,gt_iff_lt]
   split
   ·rw[wr64 (by omega) (by omega),show((j:Int)+1)=((j+1:Nat):Int)from by omega,ih (j+1) k (by omega) (by omega) (by omega)]
    congr 2
    omega
   ·rfl
  ·rw[if_neg (by omega),List.drop_of_length_le (by omega)]
   rfl
theorem end_f(xs:List Rw)(hl:xs.length≤9223372036854775807)(i:Nat)(hi:i<xs.length):jJ.f (xs.length+1) xs i=some ((iO xs i:Nat):Int):=by
 unfold jJ.f lH.f;rw[if_pos (by omega),Option.bind_some,decide_eq_true (by omega),if_pos rfl,wr64 (by omega) (by omega),show((i:Int)+1)=((i+1:Nat):Int)from by omega,end_l0 xs hl i hi xs.length (i+1) _ (by omega) (by omega) (by omega)];rfl
def kD(xs:List Rw)(t j:Nat):List Nat:=
 if h:j<t∧j<xs.length then j::kD xs t (iO xs j)else []
termination_by xs.length - j
decreasing_by have:=mo xs j;omega
theorem uz{xs:List Rw}{t j:Nat}(h:j<t)(h2:j<xs.length):kD xs t j=j::kD xs t (iO xs j):=by rw[kD,dif_pos ⟨h,h2⟩]
theorem rJ{xs:List Rw}{t j:Nat}(h:¬j<t):kD xs t j=[]:=by rw[kD,dif_neg (fun e=>h e.1)]
def jI(xs:List Rw)(i:Int):List Nat:=
 if i= -1 then kD xs xs.length 0 else if 0≤i∧i<xs.length then kD xs (iO xs i.toNat) (i.toNat+1)else []
def Av(i:Int):Nat:=if i= -1 then 0 else i.toNat+1
def toI(xs:List Rw)(i:Int):Nat:=if i= -1 then xs.length else iO xs i.toNat
theorem rC{xs:List Rw}{i:Int}(h:i= -1∨0≤i∧i<xs.length):jI xs i=kD xs (toI xs i) (Av i):=by
 unfold jI toI Av
 rcases h with rfl|h
 ·rfl
 ·rw[if_neg (by omega),if_pos h,if_neg (by omega),if_neg (by omega)]
theorem Bl(w:World)(n:Nat)(row:Option Nat):w.grownBy (w.drewN n) row:=⟨rfl,rfl,rfl,Nat.le_refl _,fun _ _ _=>rfl⟩
def KpK(n₀ B:Nat)(v:Value)(W W':World):Prop:=Below n₀ W W'∧(Boxed W B 22 v→Boxed W' B 22 v)
theorem kpK_t{n₀ B:Nat}{v:Value}{X Y Z:World}(h:KpK n₀ B v X Y)(k:KpK n₀ B v Y Z):KpK n₀ B v X Z:=⟨h.1.trans k.1,fun e=>k.2 (h.2 e)⟩
theorem kpK_b{n₀ B:Nat}{v:Value}{w:World}(hn:n₀≤w.heap.size)(hB:B<w.heap.size)(W:World)(l:Nat)(o o':Obj)(hl:w.heap.size≤l)(h:W.heap[l]?=some o)(h1:o.isCells=false)(h2:o.isWalk=false):KpK n₀ B v W (W.putObj l o'):=
 ⟨belowK_b hn W l o o' hl h h1 h2,fun e=>e.kept (grownBy_putObj' W l o') (fun e'=>by cases e';omega)⟩
theorem kids1_in(n:Nat)(hn:1≤n)(l B1 B2:Nat)(A:Option Addr)(c:Nat)(xs:List Rw)(i:Int)(hi:i= -1∨0≤i∧i<xs.length)(hcap:xs.length≤c)(w0:World)(hr:k34.C w0 A xs.length xs)(J Jx:List Nat→World→Prop)
 (hY:∀pre x W,J pre W→pre.length<xs.length→YieldAt Fence.wide (n - 1) Tryz.prog l #[.int .i64 (x:Nat)] W fun e W'=>
   (e=.returned (.bool true)∧J (pre++[x]) W'∧KpK w0.heap.size B1 (.slice A xs.length c) W W')∨(e=.returned (.bool false)∧Jx (pre++[x]) W'))
 (W:World) (hJ:AbidesFrom W.heap.size J) (hW:Below w0.heap.size w0 W) (b1:Boxed W B1 22 (.slice A xs.length c)) (c2:W.cell? ⟨B2,0,none⟩=some (.int .i64 i)) (h0:J [] W):
 CallsIn Fence.wide n Tryz.prog 183 #[.func (.yield l) #[] #[],.pointer (some ⟨B1,0,none⟩),.pointer (some ⟨B2,0,none⟩)] W fun e W'=>(∃v,e=.returned v)∧
  ((∃ys,ys=jI xs i∧J ys W')∨(∃pre,pre<+:jI xs i∧Jx pre W')):=by
 have hxl:=hr.2.1;rw[rC hi];refine callsIn_of_wp Tryz.func183 rfl trivial ?_ rfl;simp only[Tryz.ntmps183,List.size_toArray,List.length_cons,List.length_nil,Nat.reduceAdd,Nat.reduceSub,Array.replicate_succ,Array.replicate_zero,List.push_toArray,List.append_toArray,List.nil_append,List.cons_append];have c1:=b1.cell;have hm1:Tryz.prog.follows .mixedOrders=true:=by kernel_rfl
 have hm2:Tryz.prog.follows .lateStores=true:=by kernel_rfl
 have hm3:Tryz.prog.follows .lateStoresUnsure=true:=by kernel_rfl
 have hE:Hid (∀(j:Nat) (hj:j<xs.length) (W':World),Below w0.heap.size w0 W'→CallsIn Fence.wide (n - 1) Tryz.prog 184 #[.slice A xs.length c,.int .i64 j] W' fun e w'=>e=.returned (.int .i64 (iO xs j:Nat))∧∃m,w'=W'.drewN m):=fun j hj W' hW'=>
  callsIn_wide.2 ((jJ.calls (xs.length+1) A c xs j _ W' (Go.Proofs.ah.aD.Kd.eF hr hW') hcap (end_f xs hxl j hj)).mono (fun e w' h=>⟨h.1,h.2.out⟩))
 replace hE:∀(j:Nat) (hj:j<xs.length),Hid _:=fun j hj=>Lib.hid (hE.out j hj)
 have hfn:Fence.wide.fn 184:=trivial
 rcases hi with rfl|hi
 ·rw[show toI xs (-1)=xs.length from rfl,show Av (-1)=0 from rfl]
  have hdr:=hJ _ _ _ none h0 (Bl W 1 none) (fun r e=>by cases e)
  gi_wp2
  gi_region_o
  all_goals gi_wp2
  gi_loopw [6] (fun v wr=>∃(j:Nat) (pre:List Nat),v=.int .i64 j∧j≤xs.length∧Hid (pre++kD xs xs.length j=kD xs xs.length 0)∧pre.length≤j∧J pre wr∧Below w0.heap.size w0 wr∧Boxed wr B1 22 (.slice A xs.length c)) (fun v _=>xs.length - (intOf v).toNat)
  case atStart=>exact⟨0,[],rfl,Nat.zero_le _,rfl,Nat.zero_le _,hdr,Go.Proofs.ah.aD.bE hW 1,b1⟩
  case round=>
   obtain⟨j,pre,rfl,hj,hpre,hpl,hJs,hB,hbx⟩:=hrel;have hT:=Lib.hid (Nat.le_refl xs.length)
   by_cases hlt:j<xs.length
   ·have hjx:j<xs.length:=by have:=hT.out;omega
    obtain⟨fn,tmps,assign,body,hy,hR⟩:=hY pre j wr hJs (by omega);have hstep:=Lib.hid (uz hlt hjx);have hgt:=Lib.hid (mo xs j);have hle:=Lib.hid (oW xs j hjx);have hE2:=hE j hjx
    gi_wp2
    refine hR.mono ?_;rintro e W3 (⟨rfl,hJ3,hk3⟩|⟨rfl,hJx3⟩)
    ·have hb3:=hk3.2 hbx
     have hc3:=hb3.cell;have hB3:=hB.trans hk3.1;generalize iO xs j=q at *
     gi_wp2_with (gi_at_call 184;refine(hE2.out _ hB3).mono ?_;rintro e w1 ⟨rfl,m1,rfl⟩)
     go_roundw
     case rel=>exact⟨q,pre++[j],rfl,hle.out,Lib.hid (by rw[←hpre.out,hstep.out];simp),by have:=hgt.out;simp;omega,hJ _ _ _ none hJ3 (Bl _ _ none) (fun r e=>by cases e),Go.Proofs.ah.aD.bE hB3 m1,hb3⟩
     case measure=>have:=hgt.out;simp[intOf];omega
    ·gi_wp2
     refine bodyPost_ret (results_none rfl _ _ _) rfl ?_;exact⟨⟨_,rfl⟩,.inr ⟨_,⟨kD xs xs.length (iO xs j),by rw[←hpre.out,hstep.out];simp⟩,hJx3⟩⟩
   ·have hres:=rJ (xs:=xs) hlt
    have hp2:=hpre.out;rw[hres,List.append_nil]at hp2
    gi_wp2
    go_end0;exact⟨⟨_,rfl⟩,.inl ⟨_,hp2,hJs⟩⟩
 ·obtain⟨m,rfl⟩:∃m:Nat,i=m:=⟨i.toNat,by omega⟩
  have hm:m<xs.length:=by omega
  have hne:((m:Int) != -1)=true:=by rw[bne_iff_ne];omega
  have hto:toI xs (m:Int)=iO xs m:=by unfold toI;rw[if_neg (by omega)];rfl
  have hfrom:Av (m:Int)=m+1:=by unfold Av;rw[if_neg (by omega)];rfl
  rw[hto,hfrom];have hEm:=hE m hm;have hEn:=Lib.hid (oW xs m hm);clear hto hfrom hi;generalize iO xs m=T at *
  gi_wp2
  gi_region_o
  all_goals gi_wp2
  gi_region_with_o (gi_at_call 184;refine(hEm.out _ ?_).mono ?_;exact⟨hW.os,hW.tape,hW.output,hW.size,hW.block⟩;rintro e w1 ⟨rfl,m1,rfl⟩)
  all_goals gi_wp2
  all_goals(
   gi_loopw [6] (fun v wr=>∃(j:Nat) (pre:List Nat),v=.int .i64 j∧j≤xs.length∧Hid (pre++kD xs T j=kD xs T (m+1))∧pre.length≤j∧J pre wr∧Below w0.heap.size w0 wr∧Boxed wr B1 22 (.slice A xs.length c)) (fun v _=>xs.length - (intOf v).toNat)
   case atStart=>exact⟨m+1,[],rfl,by omega,rfl,Nat.zero_le _,hJ _ _ _ none h0 (Bl W _ none) (fun r e=>by cases e),Go.Proofs.ah.aD.bE hW _,b1⟩
   case round=>
    obtain⟨j,pre,rfl,hj,hpre,hpl,hJs,hB,hbx⟩:=hrel;have hT:=hEn
    by_cases hlt:j<T
    ·have hjx:j<xs.length:=by have:=hT.out;omega
     obtain⟨fn,tmps,assign,body,hy,hR⟩:=hY pre j wr hJs (by omega);have hstep:=Lib.hid (uz hlt hjx);have hgt:=Lib.hid (mo xs j);have hle:=Lib.hid (oW xs j hjx);have hE2:=hE j hjx
     gi_wp2
     refine hR.mono ?_;rintro e W3 (⟨rfl,hJ3,hk3⟩|⟨rfl,hJx3⟩)
     ·have hb3:=hk3.2 hbx
      have hc3:=hb3.cell;have hB3:=hB.trans hk3.1;generalize iO xs j=q at *
      gi_wp2_with (gi_at_call 184;refine(hE2.out _ hB3).mono ?_;rintro e w1 ⟨rfl,m1,rfl⟩)
      go_roundw
      case rel=>exact⟨q,pre++[j],rfl,hle.out,Lib.hid (by rw[←hpre.out,hstep.out];simp),by have:=hgt.out;simp;omega,hJ _ _ _ none hJ3 (Bl _ _ none) (fun r e=>by cases e),Go.Proofs.ah.aD.bE hB3 m1,hb3⟩
      case measure=>have:=hgt.out;simp[intOf];omega
     ·gi_wp2
      refine bodyPost_ret (results_none rfl _ _ _) rfl ?_;exact⟨⟨_,rfl⟩,.inr ⟨_,⟨kD xs T (iO xs j),by rw[←hpre.out,hstep.out];simp⟩,hJx3⟩⟩
    ·have hres:=rJ (xs:=xs) hlt
     have hp2:=hpre.out;rw[hres,List.append_nil]at hp2
     gi_wp2
     go_end0;exact⟨⟨_,rfl⟩,.inl ⟨_,hp2,hJs⟩⟩)
theorem OP(n:Nat)(A:Option Addr)(len c:Nat)(i:Int)(w:World):
 CallsIn Fence.wide n Tryz.prog 144 #[.slice A len c,.int .i64 i] w fun e w'=>e=.returned (.func (.func 183) #[] #[.pointer (some ⟨w.heap.size,0,none⟩),.pointer (some ⟨w.heap.size+1,0,none⟩)])∧w'=(w.alloc (.cells #[.slice A len c] 22)).alloc (.cells #[.int .i64 i] 3):=by
 refine callsIn_of_wp Tryz.func144 rfl trivial ?_ rfl;simp only[Tryz.ntmps144,List.size_toArray,List.length_cons,List.length_nil,Nat.reduceAdd,Nat.reduceSub,Array.replicate_succ,Array.replicate_zero,List.push_toArray,List.append_toArray,List.nil_append,List.cons_append]
 gi_wp2
 go_ret;exact⟨rfl,rfl⟩
theorem EC(n:Nat)(hn:1≤n)(B1 B2:Nat)(A:Option Addr)(c:Nat)(xs:List Rw)(i:Int)(hi:i= -1∨0≤i∧i<xs.length)(hcap:xs.length≤c)(w0 w:World)(hr:k34.C w0 A xs.length xs)(hB:Below w0.heap.size w0 w)
 (b1:Boxed w B1 22 (.slice A xs.length c)) (b2:Boxed w B2 3 (.int .i64 i)):
 SeqStopsK Fence.wide n Tryz.prog 183 #[.pointer (some ⟨B1,0,none⟩),.pointer (some ⟨B2,0,none⟩)] (fun x:Nat=>#[Value.int .i64 x]) (KpK w0.heap.size B1 (.slice A xs.length c)) (fun ys=>ys=jI xs i) (fun pre=>pre<+:jI xs i) xs.length w:=fun l J Jx W hW hJ _ hY h0=>
 kids1_in n hn l B1 B2 A c xs i hi hcap w0 hr J Jx hY W hJ (hB.trans (hW.mono hB.size)) ((hW.block B1 b1.lt).trans b1) (show W.cell? ⟨B2,0,none⟩=_ from(hW.cell (p:=⟨B2,0,none⟩) b2.lt).trans b2.cell) h0
theorem int_info:(Tryz.prog.info? 3).map (fun i=>(i.zero,i.size,i.bytes))=some (some (.int .i64 0),1,8):=by kernel_rfl
def ow.f(l0:List Rw)(a1:Int):Option (List Int):=if l0.length * 8≤140737488355328 then some ((jI l0 a1).map (fun x:Nat=>(x:Int)))else none
theorem kids_len(xs:List Rw)(i:Int)(hi:i= -1∨0≤i∧i<xs.length):(jI xs i).length≤xs.length:=by
 have h:∀(d t j:Nat),xs.length - j≤d→(kD xs t j).length≤xs.length - j:=by
  intro d
  induction d with
  |zero=>
   intro t j hd
   by_cases e:j<t∧j<xs.length
   ·omega
   ·rw[kD,dif_neg e]
    exact Nat.zero_le _
  |succ d ih=>
   intro t j hd
   by_cases e:j<t∧j<xs.length
   ·rw[kD,dif_pos e,List.length_cons]
    have:=ih t (iO xs j) (by have:=mo xs j;omega);have:=mo xs j;omega
   ·rw[kD,dif_neg e]
    exact Nat.zero_le _
 rw[rC hi];exact Nat.le_trans (h _ _ _ (Nat.le_refl _)) (by omega)
theorem kidsM_in(n:Nat)(hn:3≤n)(A:Option Addr)(c:Nat)(xs:List Rw)(i:Int)(hi:i= -1∨0≤i∧i<xs.length)(hcap:xs.length≤c)(hsz:xs.length * 8≤140737488355328)(w:World)(hr:k34.C w A xs.length xs):
 CallsIn Fence.wide n Tryz.prog 96 #[.slice A xs.length c,.int .i64 i] w fun e w'=>∃v,e=.returned v∧w'.ownsRow w.heap.size 3 1 v (jI xs i).length ((jI xs i).map (fun x:Nat=>Value.int .i64 x))∧Below w.heap.size w w':=by
 have hxl:=hr.2.1;have h1:1≤n:=by omega
 obtain⟨i0,hi0,hz0,hz1,hz2⟩:=info_parts int_info;have hfn:Fence.wide.fn 143:=trivial;have hfn2:Fence.wide.fn 144:=trivial;refine callsIn_of_wp_marks Tryz.func96 rfl trivial ?_ rfl;simp only[Tryz.ntmps96,List.size_toArray,List.length_cons,List.length_nil,Nat.reduceAdd,Nat.reduceSub,Array.replicate_succ,Array.replicate_zero,List.push_toArray,List.append_toArray,List.nil_append,List.cons_append]
 rcases hi with rfl|hi
 ·gi_wp2_with (gi_at_call 144;refine(OP _ _ _ _ _ _).mono ?_;rintro e w' ⟨rfl,rfl⟩)
  have bO:Boxed (w.alloc (.cells #[.slice none 0 0] 85)) w.heap.size 85 (.slice none 0 0):=Boxed.new w 85 (.slice none 0 0);have hBa:Below w.heap.size w (w.alloc (.cells #[.slice none 0 0] 85)):=(Below.refl _ w).alloc (Nat.le_refl _) _;have bL:Boxed ((w.alloc (.cells #[.slice none 0 0] 85)).alloc (.cells #[.slice A xs.length c] 22)) (w.heap.size+1) 22 (.slice A xs.length c):=by have h:=Boxed.new (w.alloc (.cells #[.slice none 0 0] 85)) 22 (.slice A xs.length c);rw[World.size_alloc]at h;exact h
  have bI:Boxed (((w.alloc (.cells #[.slice none 0 0] 85)).alloc (.cells #[.slice A xs.length c] 22)).alloc (.cells #[.int .i64 (-1)] 3)) (w.heap.size+1+1) 3 (.int .i64 (-1)):=by have h:=Boxed.new ((w.alloc (.cells #[.slice none 0 0] 85)).alloc (.cells #[.slice A xs.length c] 22)) 3 (.int .i64 (-1));rw[World.size_alloc,World.size_alloc]at h;exact h
  have hB0:Below w.heap.size w (((w.alloc (.cells #[.slice none 0 0] 85)).alloc (.cells #[.slice A xs.length c] 22)).alloc (.cells #[.int .i64 (-1)] 3)):=(hBa.alloc hBa.size _).alloc (hBa.alloc hBa.size _).size _;have bL3:=(bL.alloc (.cells #[.int .i64 (-1)] 3)).lt
  refine wpIn_rangeFunc_ownG rfl h1 (gf:=183) (lb:=#[.pointer (some ⟨w.heap.size+1,0,none⟩),.pointer (some ⟨w.heap.size+1+1,0,none⟩)]) rfl trivial (enters_of Tryz.func183 (by kernel_rfl) rfl)
   (EC (n - 1) (by omega) (w.heap.size+1) (w.heap.size+1+1) A c xs (-1) (.inl rfl) hcap w _ hr hB0 (bL.alloc _) bI) (fun h k=>kpK_t h k) (kpK_b hB0.size bL3) (Below.refl _ _) (fun _=>rfl)
   (fun pre W=>(∃v,Boxed W w.heap.size 85 v∧W.ownsRow w.heap.size 3 1 v pre.length (pre.map (fun x:Nat=>Value.int .i64 x))∧True)∧Below w.heap.size w W)
   (fun _ _ _=>False)
   (OwnFrom.and (Own.from (holdsRow_own w.heap.size w.heap.size 85 3 1 (fun pre:List Nat=>pre.length) (fun pre=>pre.map (fun x:Nat=>Value.int .i64 x)) (fun _ _=>True)) _) (ownFrom_below (Nat.le_refl _) hB0.size))
   (fun _ _ _ _ _ hs _ _=>hs.elim)
   ⟨⟨_,(bO.alloc _).alloc _,World.ownsRow_nil _ _ _ _,trivial⟩,hB0⟩
   ?a1 ?assign ?body ?done ?stop
  case assign=>
   intro l x W K hK
   gi_wp2
   exact hK
  case body=>
   rintro l pre x W ⟨⟨v,hv,hrow,_⟩,hB⟩ hlt;have hc:=hv.cell
   gi_wp2_with (gi_at_builtin;refine wpListIn_append_own _ rfl _ _ 85 rfl w.heap.size 3 i0 (.int .i64 0) 1 8 Tryz.underlying85 hi0 hz0 hz1 hz2 rfl (by decide) _ _ _ rfl (hrow.alloc _) ⟨W.heap.size,0,none⟩ 1 1 [.int .i64 x] rfl rfl (cell_one_new _ _ _) (by simp[Value.oneCell']) (by unfold maxLen;omega) (by omega) (by have:=hB.size;simp;omega) ?_;intro v' w1 hown' hgrow _;obtain⟨g',cap',rfl⟩:=ownsRow_succ hown';obtain⟨hv1,hv2,hr2,hk2,hb2⟩:=hv.appended (by decide) hrow hB.size (Nat.le_refl _) hown' hgrow;have hc1:=hv1.cell;have hf1:=hv1.frozen)
   exact⟨hk2.from _,⟨hb2,fun e=>((e.alloc _).kept hgrow (e.not_row (by decide) hrow)).kept (grownBy_setCell' _ _ _) (by simp)⟩,⟨⟨_,hv2,by simpa using hr2,trivial⟩,hB.trans hb2⟩⟩
  case done=>
   rintro D ys W hD rfl ⟨⟨v,hv,hrow,_⟩,hB⟩ hK;have hc:=hv.cell
   gi_wp2
   refine⟨by simp,.inl ⟨_,_,rfl,run_takeDeferred hK,?_⟩⟩;exact⟨_,results_tmp rfl _ _ _,v,rfl,ownsRow_putObj hrow _ hK rfl,hB.trans (belowK_b (w:=w) (Nat.le_refl _) W D _ _ (Nat.le_trans hB0.size hD) hK rfl rfl)⟩
  case stop=>
   rintro D c pre W _ _ h _;exact h.elim
 ·have hne:(i != -1)=true:=by rw[bne_iff_ne];omega
  have his:=Lib.hid ((lH.calls A c xs i true w hr hcap (by unfold lH.f;rw[if_pos (by omega),decide_eq_true (by omega)])).mono (R':=fun e w'=>e=.returned (.bool true)∧∃m,w'=w.drewN m) (fun e w' h=>⟨h.1,h.2.out⟩));have hid:=Lib.hid hi;clear hi
  gi_wp2_with (first|(gi_at_call 143;refine(callsIn_wide.2 his.out).mono ?_;rintro e w' ⟨rfl,m1,rfl⟩)|(gi_at_call 144;refine(OP _ _ _ _ _ _).mono ?_;rintro e w' ⟨rfl,rfl⟩))
  have bO:Boxed ((w.drewN m1).alloc (.cells #[.slice none 0 0] 85)) w.heap.size 85 (.slice none 0 0):=Boxed.new (w.drewN m1) 85 (.slice none 0 0);have hBa:Below w.heap.size w ((w.drewN m1).alloc (.cells #[.slice none 0 0] 85)):=(Go.Proofs.ah.aD.bE (Below.refl _ w) m1).alloc (Nat.le_refl _) _;have bL:Boxed (((w.drewN m1).alloc (.cells #[.slice none 0 0] 85)).alloc (.cells #[.slice A xs.length c] 22)) (w.heap.size+1) 22 (.slice A xs.length c):=by have h:=Boxed.new ((w.drewN m1).alloc (.cells #[.slice none 0 0] 85)) 22 (.slice A xs.length c);rw[World.size_alloc]at h;exact h
  have bI:Boxed ((((w.drewN m1).alloc (.cells #[.slice none 0 0] 85)).alloc (.cells #[.slice A xs.length c] 22)).alloc (.cells #[.int .i64 i] 3)) (w.heap.size+1+1) 3 (.int .i64 i):=by have h:=Boxed.new (((w.drewN m1).alloc (.cells #[.slice none 0 0] 85)).alloc (.cells #[.slice A xs.length c] 22)) 3 (.int .i64 i);rw[World.size_alloc,World.size_alloc]at h;exact h
  have hB0:Below w.heap.size w ((((w.drewN m1).alloc (.cells #[.slice none 0 0] 85)).alloc (.cells #[.slice A xs.length c] 22)).alloc (.cells #[.int .i64 i] 3)):=(hBa.alloc hBa.size _).alloc (hBa.alloc hBa.size _).size _;have bL3:=(bL.alloc (.cells #[.int .i64 i] 3)).lt
  refine wpIn_rangeFunc_ownG rfl h1 (gf:=183) (lb:=#[.pointer (some ⟨w.heap.size+1,0,none⟩),.pointer (some ⟨w.heap.size+1+1,0,none⟩)]) rfl trivial (enters_of Tryz.func183 (by kernel_rfl) rfl)
   (EC (n - 1) (by omega) (w.heap.size+1) (w.heap.size+1+1) A c xs i (.inr hid.out) hcap w _ hr hB0 (bL.alloc _) bI) (fun h k=>kpK_t h k) (kpK_b hB0.size bL3) (Below.refl _ _) (fun _=>rfl)
   (fun pre W=>(∃v,Boxed W w.heap.size 85 v∧W.ownsRow w.heap.size 3 1 v pre.length (pre.map (fun x:Nat=>Value.int .i64 x))∧True)∧Below w.heap.size w W)
   (fun _ _ _=>False)
   (OwnFrom.and (Own.from (holdsRow_own w.heap.size w.heap.size 85 3 1 (fun pre:List Nat=>pre.length) (fun pre=>pre.map (fun x:Nat=>Value.int .i64 x)) (fun _ _=>True)) _) (ownFrom_below (Nat.le_refl _) hB0.size))
   (fun _ _ _ _ _ hs _ _=>hs.elim)
   ⟨⟨_,(bO.alloc _).alloc _,World.ownsRow_nil _ _ _ _,trivial⟩,hB0⟩
   ?a2 ?assign ?body ?done ?stop
  case assign=>
   intro l x W K hK
   gi_wp2
   exact hK
  case body=>
   rintro l pre x W ⟨⟨v,hv,hrow,_⟩,hB⟩ hlt;have hc:=hv.cell
   gi_wp2_with (gi_at_builtin;refine wpListIn_append_own _ rfl _ _ 85 rfl w.heap.size 3 i0 (.int .i64 0) 1 8 Tryz.underlying85 hi0 hz0 hz1 hz2 rfl (by decide) _ _ _ rfl (hrow.alloc _) ⟨W.heap.size,0,none⟩ 1 1 [.int .i64 x] rfl rfl (cell_one_new _ _ _) (by simp[Value.oneCell']) (by unfold maxLen;omega) (by omega) (by have:=hB.size;simp;omega) ?_;intro v' w1 hown' hgrow _;obtain⟨g',cap',rfl⟩:=ownsRow_succ hown';obtain⟨hv1,hv2,hr2,hk2,hb2⟩:=hv.appended (by decide) hrow hB.size (Nat.le_refl _) hown' hgrow;have hc1:=hv1.cell;have hf1:=hv1.frozen)
   exact⟨hk2.from _,⟨hb2,fun e=>((e.alloc _).kept hgrow (e.not_row (by decide) hrow)).kept (grownBy_setCell' _ _ _) (by simp)⟩,⟨⟨_,hv2,by simpa using hr2,trivial⟩,hB.trans hb2⟩⟩
  case done=>
   rintro D ys W hD rfl ⟨⟨v,hv,hrow,_⟩,hB⟩ hK;have hc:=hv.cell
   gi_wp2
   refine⟨by simp,.inl ⟨_,_,rfl,run_takeDeferred hK,?_⟩⟩;exact⟨_,results_tmp rfl _ _ _,v,rfl,ownsRow_putObj hrow _ hK rfl,hB.trans (belowK_b (w:=w) (Nat.le_refl _) W D _ _ (Nat.le_trans hB0.size hD) hK rfl rfl)⟩
  case stop=>
   rintro D c pre W _ _ h _;exact h.elim
theorem kidsO_in(n:Nat)(hn:1≤n)(A:Option Addr)(c:Nat)(xs:List Rw)(i:Int)(hi:¬(i= -1∨0≤i∧i<xs.length))(hcap:xs.length≤c)(w:World)(hr:k34.C w A xs.length xs):
 CallsIn Fence.wide n Tryz.prog 96 #[.slice A xs.length c,.int .i64 i] w fun e w'=>e=.returned (.slice none 0 0)∧Below w.heap.size w w':=by
 have hfn:Fence.wide.fn 143:=trivial;have hne:(i != -1)=true:=by rw[bne_iff_ne];omega
 have his:=Lib.hid ((lH.calls A c xs i false w hr hcap (by unfold lH.f;split;rw[decide_eq_false (by omega)];rfl)).mono (R':=fun e w'=>e=.returned (.bool false)∧∃m,w'=w.drewN m) (fun e w' h=>⟨h.1,h.2.out⟩));clear hi;refine callsIn_of_wp_marks Tryz.func96 rfl trivial ?_ rfl;simp only[Tryz.ntmps96,List.size_toArray,List.length_cons,List.length_nil,Nat.reduceAdd,Nat.reduceSub,Array.replicate_succ,Array.replicate_zero,List.push_toArray,List.append_toArray,List.nil_append,List.cons_append];have his2:=Lib.hid ((callsIn_wide (n:=n - 1)).2 his.out)
 gi_wp2_with (gi_at_call 143;refine his2.out.mono ?_;rintro e w' ⟨rfl,m1,rfl⟩)
 exact⟨_,results_tmp rfl _ _ _,rfl,Go.Proofs.ah.aD.bE (Below.refl _ w) m1⟩
theorem ow.calls(A0:Option Addr)(c0:Nat)(l0:List Rw)(a1:Int)(r:List Int)(w:World)(hr0:k34.C w A0 l0.length l0)(hc0:l0.length≤c0)(h:ow.f l0 a1=some r):
 Calls Tryz.prog 96 #[.slice A0 l0.length c0,.int .i64 a1] w fun e w'=>∃v0_:Value,e=.returned (v0_)∧(Go.Proofs.ah.aD.Kd.int .i64).R 3 w' w.heap.size (fun _=>True) v0_ r∧Below w.heap.size w w':=by
 unfold ow.f at h
 by_cases hs:l0.length * 8≤140737488355328
 ·rw[if_pos hs]at h
  obtain rfl:=Option.some.inj h
  by_cases hi:a1= -1∨0≤a1∧a1<l0.length
  ·refine((callsIn_wide (n:=3)).1 (kidsM_in 3 (Nat.le_refl _) A0 c0 l0 a1 hi hc0 hs w hr0)).mono ?_
   rintro e w' ⟨v,rfl,ho,hb⟩;refine⟨v,rfl,Go.Proofs.ah.aD.Kd.R_of_own ?_ (fun _ _=>trivial),hb⟩;unfold Go.Proofs.ah.aD.encs;rw[List.length_map,List.map_map];exact ho
  ·refine((callsIn_wide (n:=3)).1 (kidsO_in 3 (by omega) A0 c0 l0 a1 hi hc0 w hr0)).mono ?_
   rintro e w' ⟨rfl,hb⟩
   have hn:jI l0 a1=[]:=by
    unfold jI;rw[if_neg (fun e=>hi (.inl e)),if_neg (fun e=>hi (.inr e))]
   rw[hn];exact⟨_,rfl,Go.Proofs.ah.aD.Kd.nI _ _ _ _ _,hb⟩
 ·rw[if_neg hs]at h
  cases h
end Go.Proofs.aj.W7
namespace Go.Proofs.aj.W7
open Go.RowKit Go.Proofs Go.Proofs.YtkcmghlhpbepcaaGreatDoor
def wrB(b:Bool)(a:Bt):Option Bt:=if a.data.toList.length≤1000000000 then some ⟨(wrL b a.data.toList).toArray⟩else none
theorem K5{b:Bool}{a r:Bt}(h:wrB b a=some r):∃l:List UInt8,a=⟨l.toArray⟩∧l.length≤1000000000∧r=⟨(wrL b l).toArray⟩:=by
 unfold wrB at h
 split at h
 ·rename_i hl
  exact⟨a.data.toList,by simp,hl,(Option.some.inj h).symm⟩
 ·cases h
def rE.f(a0:Bt):Option Bt:=wrB true a0
theorem rE.calls(a0 r:Bt)(w:World)(h:rE.f a0=some r):
 Calls Tryz.prog 176 #[.string a0] w fun e w'=>e=.returned (.string r)∧Below w.heap.size w w':=by
 obtain⟨l,rfl,hl,rfl⟩:=K5 h;exact value_c l hl w
def uf.f(a0:Bt):Option Bt:=wrB false a0
theorem uf.calls(a0 r:Bt)(w:World)(h:uf.f a0=some r):
 Calls Tryz.prog 136 #[.string a0] w fun e w'=>e=.returned (.string r)∧Below w.heap.size w w':=by
 obtain⟨l,rfl,hl,rfl⟩:=K5 h;exact text_c l hl w
end Go.Proofs.aj.W7
