/- Lemmas and walks, part 37. -/
import Derived.Test.YtkcmghlhpbepcaaGreatDoorNB29
import Derived.Test.YtkcmghlhpbepcaaGreatDoorNB36
set_option linter.unusedVariables false
set_option linter.unusedSimpArgs false
set_option maxHeartbeats 8000000
set_option maxRecDepth 100000
namespace Go.Proofs.aj.W7
open Go.RowKit Go.Proofs Go.Proofs.aj Go.Proofs.YtkcmghlhpbepcaaGreatDoor Go.Proofs.ah.aD Go.Proofs.YtkcmghlhpbepcaaGreatDoor.Ch
structure J3 (t:Tok):Prop where
 name:Cln t.name
 data:Cln t.data
 attrs:∀a∈t.attrs,Cln a.1∧Cln a.2
theorem He:∀(l:List (Txt×Txt)),(∀a∈l,Cln a.1∧Cln a.2)→Cln (kr l)
 | [],_=>nG
 |a::l,h=>by
  have h1:=h a (by simp)
  have e:kr (a::l)=[32]++(a.1++([61,34]++(wrL true a.2++([34]++kr l)))):=by
   show(32::(a.1++61::34::(wrL true a.2++[34])))++kr l=_;simp
  rw[e];exact mF (mW (by decide)) (mF h1.1 (mF (mW (by decide)) (mF (cln_wr true h1.2) (mF (mW (by decide)) (He l (fun b hb=>h b (by simp[hb])))))))
theorem QG{o:Txt}(ho:Cln o){t:Tok}(h1:Cln t.name)(h2:∀a∈t.attrs,Cln a.1∧Cln a.2):Cln (qd o t):=by
 unfold qd;refine mF (mF (mF (mF ho h1) (He _ h2)) ?_) (mW (by decide));unfold pq
 split
 ·exact mW (by decide)
 ·exact nG
theorem tok_cln(b:Bool){t:Tok}(h:J3 t):Cln (rP b t):=by
 unfold rP
 split
 ·split
  ·exact h.data
  ·exact cln_wr false h.data
 ·split
  ·exact QG (mW (by decide)) h.name h.attrs
  ·split
   ·exact QG (mW (by decide)) h.name (by simp)
   ·split
    ·exact mF (mF (mW (by decide)) h.data) (mW (by decide))
    ·split
     ·exact mF (mF (mW (by decide)) h.data) (mW (by decide))
     ·exact nG
theorem FV:∀(L:List Tok) (b:Bool),(∀t∈L,J3 t)→Cln (eO b L)
 | [],_,_=>nG
 |t::L,b,h=>mF (tok_cln b (h t (by simp))) (FV L _ (fun x hx=>h x (by simp[hx])))
structure JZ (x:Rw):Prop where
 name:Cln x.f2.data.toList
 data:Cln x.f3.data.toList
 attrs:∀a∈x.f4,Cln a.f0.data.toList∧Cln a.f1.data.toList
theorem tokP_cln{x:Rw}(h:JZ x):J3 (oI x):=by
 unfold oI
 split
 ·refine⟨h.name,nG,fun a ha=>?_⟩
  obtain⟨y,hy,rfl⟩:=List.mem_map.1 ha;exact h.attrs y hy
 ·split
  ·exact⟨nG,h.data,by simp⟩
  ·exact⟨nG,h.data,by simp⟩
theorem MB:∀(r:List Rw) (op:List Bt),(∀x∈r,JZ x)→(∀n∈op,Cln n.data.toList)→∀t∈mG r op,J3 t
 | [],op,_,ho=>by
   intro t ht;obtain⟨n,hn,rfl⟩:=List.mem_map.1 ht;exact⟨ho n (List.mem_reverse.1 hn),nG,by simp[endP]⟩
 |x::r,op,hr,ho=>by
  intro t ht;rw[mG]at ht
  rcases List.mem_append.1 ht with ht|ht
  ·obtain⟨n,hn,rfl⟩:=List.mem_map.1 ht
   exact⟨ho n (List.mem_of_mem_drop (List.mem_reverse.1 hn)),nG,by simp[endP]⟩
  ·rcases List.mem_cons.1 ht with rfl|ht
   ·exact tokP_cln (hr x (by simp))
   ·refine MB r _ (fun y hy=>hr y (by simp[hy])) (fun n hn=>?_) t ht
    unfold opA at hn
    split at hn
    ·rcases List.mem_append.1 hn with hn|hn
     ·exact ho n (List.mem_of_mem_take hn)
     ·obtain rfl:=List.mem_singleton.1 hn
      exact(hr x (by simp)).name
    ·exact ho n (List.mem_of_mem_take hn)
theorem MC(M:Nat):∀(r:List Rw) (op:List Bt),(∀x∈r,x.f3.size≤M∧x.f4.length≤1000000)→yw (emit r op)≤r.length * M∧∀t∈emit r op,t.f3.length≤1000000
 | [],op,_=>by
   have e:∀m:List Bt,yw (m.map zU)=0:=by
    intro m
    induction m with
    |nil=>rfl
    |cons n m ih=>
     have e1:yw ((n::m).map zU)=0+yw (m.map zU):=rfl;rw[e1,ih]
   refine⟨by rw[emit,e];omega,fun t ht=>?_⟩;obtain⟨n,hn,rfl⟩:=List.mem_map.1 ht;simp[zU]
 |x::r,op,h=>by
  have e:∀m:List Bt,yw (m.map zU)=0:=by
   intro m
   induction m with
   |nil=>rfl
   |cons n m ih=>
    have e1:yw ((n::m).map zU)=0+yw (m.map zU):=rfl;rw[e1,ih]
  obtain⟨i1,i2⟩:=MC M r (opA (op.take x.f0.toNat) x) (fun y hy=>h y (by simp[hy]));have hx:=h x (by simp)
  have ht:(rU x).f2.size≤M∧(rU x).f3.length≤1000000:=by
   unfold rU
   split
   ·exact⟨Nat.zero_le _,hx.2⟩
   ·split
    ·exact⟨hx.1,Nat.zero_le _⟩
    ·exact⟨hx.1,Nat.zero_le _⟩
  refine⟨?_,fun t hm=>?_⟩
  ·have e2:yw (emit (x::r) op)=yw ((op.drop x.f0.toNat).reverse.map zU)+((rU x).f2.size+yw (emit r (opA (op.take x.f0.toNat) x))):=by
    rw[emit];simp[yw]
   rw[e2,e,List.length_cons,Nat.add_mul];omega
  ·rw[emit]at hm
   rcases List.mem_append.1 hm with hm|hm
   ·obtain⟨n,hn,rfl⟩:=List.mem_map.1 hm
    simp[zU]
   ·rcases List.mem_cons.1 hm with rfl|hm
    ·exact ht.2
    ·exact i2 t hm
theorem NJ(xs:List Rw)(s:Bt)(hs:s.data.toList=JJ (mG xs []))(hz:s.size≤65536)(hf:RowsFit xs [] [])(hg:vv xs)(hc:∀x∈xs,JZ x)(M:Nat)(hM:∀x∈xs,x.f3.size≤M∧x.f4.length≤1000000)(hb:xs.length * M≤1000000000):
 qm.f s ⟨#[]⟩=some (xs,0)∧iK.f s=some (xs,0):=by
 have hl:s.data.toList.length=s.size:=Array.length_toList;have hcl:Cln s.data.toList:=by rw[hs];exact FV _ _ (MB xs [] hc (by simp))
 have hr:=Rt hcl
 have hin:inL s.data.toList []=mG xs []:=by
  unfold inL;rw[if_neg (by decide),hs];exact emit_cut hf hg
 have key:qm.f s ⟨#[]⟩=some (xs,0):=by
  unfold qm.f;rw[if_neg (by omega)];unfold mK.f;rw[if_pos (by omega),Option.bind_some,hr];unfold qj.f;have hq:(⟨s.data.toList.toArray⟩:Bt).size=s.size:=by show(List.toArray s.data.toList).size=_;simp
  rw[if_pos (by omega),Option.bind_some];obtain⟨t1,t2⟩:=MC M xs [] hM
  have e:((inL (⟨s.data.toList.toArray⟩:Bt).data.toList (⟨#[]⟩:Bt).data.toList).map Dh)=emit xs []:=by
   show(inL s.data.toList []).map Dh=_;rw[hin,Qv]
  show(j5.f ((inL (⟨s.data.toList.toArray⟩:Bt).data.toList (⟨#[]⟩:Bt).data.toList).map Dh)).bind _=_;rw[e,tree_f (emit xs []) (by omega) t2,GU xs [] [] (by intro n hn;cases hn) hf];rfl
 refine⟨key,?_⟩;unfold iK.f;rw[key,Option.bind_some]
end Go.Proofs.aj.W7
namespace Go.Proofs.aj.W7
open Go.RowKit Go.Proofs.ah.aD Go.Proofs.ah.bJ Go.Proofs.ah.bW
attribute [local go_sem] dB dD dR dS bZ cu dF dG
def iq.f(a0:Int):Option (Bool):=if a0=32 then(some true)else(if a0=9 then(some true)else(if a0=10 then(some true)else(if a0=12 then(some true)else(some (a0==13)))))
theorem iq.calls(a0:Int)(r:Bool)(w:World)(h:iq.f a0=some r):
 Calls Tryz.prog 128 #[.int .u8 a0] w fun e w'=>e=.returned (.bool r)∧bP w w':=by
 have H:(if a0=32 then(some true)else(if a0=9 then(some true)else(if a0=10 then(some true)else(if a0=12 then(some true)else(some (a0==13))))))=some r:=h;clear h
 by_cases c2:a0=32
 ·rw[if_pos c2]at H
  have Di:(a0==32)=true:=beq_iff_eq.mpr c2;have c2b1:(a0 !=32)=false:=bne_eq_false_iff_eq.mpr c2;clear c2;obtain rfl:=Option.some.inj H;go_enter Tryz.func128,Tryz.ntmps128;go_wp2;go_ret;exact⟨q'c,by repeat(first|exact bP.refl _|apply bP.step)⟩
 ·rw[if_neg c2]at H
  have Di:(a0==32)=false:=beq_eq_false_iff_ne.mpr c2;have c2b1:(a0 !=32)=true:=bne_iff_ne.mpr c2
  by_cases c3:a0=9
  ·rw[if_pos c3]at H
   have nN:(a0==9)=true:=beq_iff_eq.mpr c3;have zJ:(a0 !=9)=false:=bne_eq_false_iff_eq.mpr c3;clear c3;obtain rfl:=Option.some.inj H;go_enter Tryz.func128,Tryz.ntmps128;go_wp2;go_ret;exact⟨q'c,by repeat(first|exact bP.refl _|apply bP.step)⟩
  ·rw[if_neg c3]at H
   have nN:(a0==9)=false:=beq_eq_false_iff_ne.mpr c3;have zJ:(a0 !=9)=true:=bne_iff_ne.mpr c3
   by_cases c4:a0=10
   ·rw[if_pos c4]at H
    have mZ:(a0==10)=true:=beq_iff_eq.mpr c4;have AA:(a0 !=10)=false:=bne_eq_false_iff_eq.mpr c4;clear c4;obtain rfl:=Option.some.inj H;go_enter Tryz.func128,Tryz.ntmps128;go_wp2;go_ret;exact⟨q'c,by repeat(first|exact bP.refl _|apply bP.step)⟩
   ·rw[if_neg c4]at H
    have mZ:(a0==10)=false:=beq_eq_false_iff_ne.mpr c4;have AA:(a0 !=10)=true:=bne_iff_ne.mpr c4
    by_cases c5:a0=12
    ·rw[if_pos c5]at H
     have uJ:(a0==12)=true:=beq_iff_eq.mpr c5;have c5b1:(a0 !=12)=false:=bne_eq_false_iff_eq.mpr c5;clear c5;obtain rfl:=Option.some.inj H;go_enter Tryz.func128,Tryz.ntmps128;go_wp2;go_ret;exact⟨q'c,by repeat(first|exact bP.refl _|apply bP.step)⟩
    ·rw[if_neg c5]at H
     have uJ:(a0==12)=false:=beq_eq_false_iff_ne.mpr c5;have c5b1:(a0 !=12)=true:=bne_iff_ne.mpr c5;obtain rfl:=Option.some.inj H;go_enter Tryz.func128,Tryz.ntmps128;go_wp2;go_ret;exact⟨q'c,by repeat(first|exact bP.refl _|apply bP.step)⟩
mutual
def bN.l0:Nat→Bt→Bt→Int→Int→Option (Bool)
 |0,_,_,_,_=>none
 |k+1,x0,x1,x8,x9=>if x9<x8 then(if 0≤x9 then(if x9<(x0.size:Int)then((iq.f (bt x0 x9)).bind fun t366=>(if t366=true then(bN.j1 k x0 x1 x9 x8 x9 true)else(if(bt x0 x9)≥65 then(if(bt x0 x9)≤90 then(bN.j1 k x0 x1 x9 x8 x9 true)else(bN.j1 k x0 x1 x9 x8 x9 ((bt x0 x9)==0)))else(bN.j1 k x0 x1 x9 x8 x9 ((bt x0 x9)==0)))))else(none))else(none))else(some (x0.toList !=([] :List UInt8)))
def bN.j1:Nat→Bt→Bt→Int→Int→Int→Bool→Option (Bool)
 |0,_,_,_,_,_,_=>none
 |k+1,x0,x1,x5,x8,x9,x33=>if x33=true then(some false)else(bN.l1 k x0 x1 x5 x8 x9 (x1.size:Int) 0)
def bN.l1:Nat→Bt→Bt→Int→Int→Int→Int→Int→Option (Bool)
 |0,_,_,_,_,_,_,_=>none
 |k+1,x0,x1,x5,x8,x9,x35,x36=>if x36<x35 then(if 0≤x5 then(if x5<(x0.size:Int)then(if 0≤x36 then(if x36<(x1.size:Int)then(if(bt x0 x5)=(bt x1 x36)then(some false)else(bN.l1 k x0 x1 x5 x8 x9 x35 (wrap64 (x36+1))))else(none))else(none))else(none))else(none))else(bN.l0 k x0 x1 x8 (wrap64 (x9+1)))
end
def bN.f(k:Nat)(a0 a1:Bt):Option (Bool):=bN.l0 k a0 a1 (a0.size:Int) 0
theorem bN.calls(k:Nat)(a0 a1:Bt)(r:Bool)(w:World)(h:bN.f k a0 a1=some r):
 Calls Tryz.prog 79 #[.string a0,.string a1] w fun e w'=>e=.returned (.bool r)∧bP w w':=by
 have H:(bN.l0 k a0 a1 (a0.size:Int) 0)=some r:=h;clear h;have H':=ak.mk H;clear H;go_enter Tryz.func79,Tryz.ntmps79;go_wp2
 repeat(go_quiet (fail);try go_wp2)
 go_loopg [9] k (fun kq v9 w'=>∃(dw:Int),v9=.int .i64 dw∧ak (bN.l0 kq a0 a1 (a0.size:Int) dw=some r)∧ak (kq≤k)∧bP w w')
 case atStart=>exact⟨(0),q'c,H',⟨Nat.le_refl _⟩,by repeat(first|exact bP.refl _|apply bP.step)⟩
 case round=>
  clear H'
  try clear p2
  obtain⟨dw,rfl,HA,HK1,⟨m1,rfl⟩⟩:=hrel;cases gk with
  |zero=>exact absurd HA.out (by simp[bN.l0])
  |succ k1=>
   have H:=HA.out;clear HA;simp only[bN.l0]at H
   by_cases c3:dw<(a0.size:Int)
   ·rw[if_pos c3]at H
    have nN:decide (dw<(a0.size:Int))=true:=decide_eq_true c3;clear c3;have HC4:=ak.mk H;clear H
    go_upto_region 4 with(fail)
    repeat(go_quiet (fail);go_upto_region 4 with(fail))
    go_cut [33] (fun v33 wc=>∃(kq:Nat) (x33_3:Bool),v33=.bool x33_3∧ak (bN.j1 kq a0 a1 dw (a0.size:Int) dw x33_3=some r)∧ak (kq≤k1)∧bP w wc)
    case first=>
     have H:=HC4.out;clear HC4
     by_cases c5:0≤dw
     ·rw[if_pos c5]at H
      have uJ:decide (0≤dw)=true:=decide_eq_true c5;clear c5
      (first|rw[uJ] |(simp only[oO,oP];rw[uJ])|skip)
      by_cases c6:dw<(a0.size:Int)
      ·rw[if_pos c6]at H
       have zL:decide (dw<(a0.size:Int))=true:=decide_eq_true c6;clear c6;replace H:=Option.bind_eq_some_iff.mp H;obtain⟨t366,A80,H⟩:=H;replace H:(if t366=true then(bN.j1 k1 a0 a1 dw (a0.size:Int) dw true)else(if(bt a0 dw)≥65 then(if(bt a0 dw)≤90 then(bN.j1 k1 a0 a1 dw (a0.size:Int) dw true)else(bN.j1 k1 a0 a1 dw (a0.size:Int) dw ((bt a0 dw)==0)))else(bN.j1 k1 a0 a1 dw (a0.size:Int) dw ((bt a0 dw)==0))))=some r:=H;have A8:=ak.mk A80;clear A80
       by_cases c9:t366=true
       ·subst c9
        have H1:(bN.j1 k1 a0 a1 dw (a0.size:Int) dw true)=some r:=by rw[if_pos rfl]at H;exact H
        clear H;have H:=H1;clear H1;have H':=ak.mk H;clear H;have p7:0≤(dw:Int):=q'b;have q7:dw<(a0.size:Int):=q'b;have hx7:=jT a0 dw;replace p7:=eq_true p7;replace q7:=eq_true q7
        go_wp2_with(first|(go_at_call 128;(with_reducible refine(iq.calls (bt a0 dw) true _ A8.out).mono ?_);rintro e w' ⟨rfl,⟨nd,rfl⟩⟩;(try first|exact⟨rfl,_,World.drewN_drewN _ _ _⟩|exact⟨rfl,_,Eq.trans (World.drewN_drewN _ _ _) (congrArg (World.drewN _) (Nat.add_assoc _ _ _))⟩)))
        repeat(go_quiet (first|(go_at_call 128;(with_reducible refine(iq.calls (bt a0 dw) true _ A8.out).mono ?_);rintro e w' ⟨rfl,⟨nd,rfl⟩⟩;(try first|exact⟨rfl,_,World.drewN_drewN _ _ _⟩|exact⟨rfl,_,Eq.trans (World.drewN_drewN _ _ _) (congrArg (World.drewN _) (Nat.add_assoc _ _ _))⟩)));try go_wp2_with(first|(go_at_call 128;(with_reducible refine(iq.calls (bt a0 dw) true _ A8.out).mono ?_);rintro e w' ⟨rfl,⟨nd,rfl⟩⟩;(try first|exact⟨rfl,_,World.drewN_drewN _ _ _⟩|exact⟨rfl,_,Eq.trans (World.drewN_drewN _ _ _) (congrArg (World.drewN _) (Nat.add_assoc _ _ _))⟩))))
        go_meet
        case rel=>exact⟨_,(true),q'c,H',⟨by have:=HK1.out;first|omega|exact Nat.le_refl _⟩,by repeat(first|exact bP.refl _|apply bP.step)⟩
       ·replace c9:=Bool.eq_false_iff.mpr c9
        subst c9;have H1:(if(bt a0 dw)≥65 then(if(bt a0 dw)≤90 then(bN.j1 k1 a0 a1 dw (a0.size:Int) dw true)else(bN.j1 k1 a0 a1 dw (a0.size:Int) dw ((bt a0 dw)==0)))else(bN.j1 k1 a0 a1 dw (a0.size:Int) dw ((bt a0 dw)==0)))=some r:=by rw[if_neg (show¬(false=true) by decide)]at H;first|exact H|(simp only[eq_self]at H⊢;exact H)|(simp only[eq_self,if_true]at H⊢;exact H)
        clear H;have H:=H1;clear H1
        by_cases c11:(bt a0 dw)≥65
        ·rw[if_pos c11]at H
         have c11b0:decide (65≤(bt a0 dw))=true:=decide_eq_true c11;clear c11
         by_cases c13:(bt a0 dw)≤90
         ·rw[if_pos c13]at H
          have uH:decide ((bt a0 dw)≤90)=true:=decide_eq_true c13;clear c13;have H':=ak.mk H;clear H;have p7:0≤(dw:Int):=q'b;have q7:dw<(a0.size:Int):=q'b;have hx7:=jT a0 dw;replace p7:=eq_true p7;replace q7:=eq_true q7
          go_wp2_with(first|(go_at_call 128;(with_reducible refine(iq.calls (bt a0 dw) false _ A8.out).mono ?_);rintro e w' ⟨rfl,⟨nd,rfl⟩⟩;(try first|exact⟨rfl,_,World.drewN_drewN _ _ _⟩|exact⟨rfl,_,Eq.trans (World.drewN_drewN _ _ _) (congrArg (World.drewN _) (Nat.add_assoc _ _ _))⟩);have p10:0≤(dw:Int):=q'b;have q10:dw<(a0.size:Int):=q'b;have hx10:=jT a0 dw;replace p10:=eq_true p10;replace q10:=eq_true q10;have p12:0≤(dw:Int):=q'b;have q12:dw<(a0.size:Int):=q'b;have hx12:=jT a0 dw;replace p12:=eq_true p12;replace q12:=eq_true q12))
          repeat(go_quiet (first|(go_at_call 128;(with_reducible refine(iq.calls (bt a0 dw) false _ A8.out).mono ?_);rintro e w' ⟨rfl,⟨nd,rfl⟩⟩;(try first|exact⟨rfl,_,World.drewN_drewN _ _ _⟩|exact⟨rfl,_,Eq.trans (World.drewN_drewN _ _ _) (congrArg (World.drewN _) (Nat.add_assoc _ _ _))⟩);have p10:0≤(dw:Int):=q'b;have q10:dw<(a0.size:Int):=q'b;have hx10:=jT a0 dw;replace p10:=eq_true p10;replace q10:=eq_true q10;have p12:0≤(dw:Int):=q'b;have q12:dw<(a0.size:Int):=q'b;have hx12:=jT a0 dw;replace p12:=eq_true p12;replace q12:=eq_true q12));try go_wp2_with(first|(go_at_call 128;(with_reducible refine(iq.calls (bt a0 dw) false _ A8.out).mono ?_);rintro e w' ⟨rfl,⟨nd,rfl⟩⟩;(try first|exact⟨rfl,_,World.drewN_drewN _ _ _⟩|exact⟨rfl,_,Eq.trans (World.drewN_drewN _ _ _) (congrArg (World.drewN _) (Nat.add_assoc _ _ _))⟩);have p10:0≤(dw:Int):=q'b;have q10:dw<(a0.size:Int):=q'b;have hx10:=jT a0 dw;replace p10:=eq_true p10;replace q10:=eq_true q10;have p12:0≤(dw:Int):=q'b;have q12:dw<(a0.size:Int):=q'b;have hx12:=jT a0 dw;replace p12:=eq_true p12;replace q12:=eq_true q12)))
          go_meet
          case rel=>exact⟨_,(true),q'c,H',⟨by have:=HK1.out;first|omega|exact Nat.le_refl _⟩,by repeat(first|exact bP.refl _|apply bP.step)⟩
         ·rw[if_neg c13]at H
          have uH:decide ((bt a0 dw)≤90)=false:=decide_eq_false c13;clear c13;have H':=ak.mk H;clear H;have p7:0≤(dw:Int):=q'b;have q7:dw<(a0.size:Int):=q'b;have hx7:=jT a0 dw;replace p7:=eq_true p7;replace q7:=eq_true q7
          go_wp2_with(first|(go_at_call 128;(with_reducible refine(iq.calls (bt a0 dw) false _ A8.out).mono ?_);rintro e w' ⟨rfl,⟨nd,rfl⟩⟩;(try first|exact⟨rfl,_,World.drewN_drewN _ _ _⟩|exact⟨rfl,_,Eq.trans (World.drewN_drewN _ _ _) (congrArg (World.drewN _) (Nat.add_assoc _ _ _))⟩);have p10:0≤(dw:Int):=q'b;have q10:dw<(a0.size:Int):=q'b;have hx10:=jT a0 dw;replace p10:=eq_true p10;replace q10:=eq_true q10;have p12:0≤(dw:Int):=q'b;have q12:dw<(a0.size:Int):=q'b;have hx12:=jT a0 dw;replace p12:=eq_true p12;replace q12:=eq_true q12;have p14:0≤(dw:Int):=q'b;have q14:dw<(a0.size:Int):=q'b;have hx14:=jT a0 dw;replace p14:=eq_true p14;replace q14:=eq_true q14))
          repeat(go_quiet (first|(go_at_call 128;(with_reducible refine(iq.calls (bt a0 dw) false _ A8.out).mono ?_);rintro e w' ⟨rfl,⟨nd,rfl⟩⟩;(try first|exact⟨rfl,_,World.drewN_drewN _ _ _⟩|exact⟨rfl,_,Eq.trans (World.drewN_drewN _ _ _) (congrArg (World.drewN _) (Nat.add_assoc _ _ _))⟩);have p10:0≤(dw:Int):=q'b;have q10:dw<(a0.size:Int):=q'b;have hx10:=jT a0 dw;replace p10:=eq_true p10;replace q10:=eq_true q10;have p12:0≤(dw:Int):=q'b;have q12:dw<(a0.size:Int):=q'b;have hx12:=jT a0 dw;replace p12:=eq_true p12;replace q12:=eq_true q12;have p14:0≤(dw:Int):=q'b;have q14:dw<(a0.size:Int):=q'b;have hx14:=jT a0 dw;replace p14:=eq_true p14;replace q14:=eq_true q14));try go_wp2_with(first|(go_at_call 128;(with_reducible refine(iq.calls (bt a0 dw) false _ A8.out).mono ?_);rintro e w' ⟨rfl,⟨nd,rfl⟩⟩;(try first|exact⟨rfl,_,World.drewN_drewN _ _ _⟩|exact⟨rfl,_,Eq.trans (World.drewN_drewN _ _ _) (congrArg (World.drewN _) (Nat.add_assoc _ _ _))⟩);have p10:0≤(dw:Int):=q'b;have q10:dw<(a0.size:Int):=q'b;have hx10:=jT a0 dw;replace p10:=eq_true p10;replace q10:=eq_true q10;have p12:0≤(dw:Int):=q'b;have q12:dw<(a0.size:Int):=q'b;have hx12:=jT a0 dw;replace p12:=eq_true p12;replace q12:=eq_true q12;have p14:0≤(dw:Int):=q'b;have q14:dw<(a0.size:Int):=q'b;have hx14:=jT a0 dw;replace p14:=eq_true p14;replace q14:=eq_true q14)))
          go_meet
          case rel=>exact⟨_,(((bt a0 dw)==0)),q'c,H',⟨by have:=HK1.out;first|omega|exact Nat.le_refl _⟩,by repeat(first|exact bP.refl _|apply bP.step)⟩
        ·rw[if_neg c11]at H
         have c11b0:decide (65≤(bt a0 dw))=false:=decide_eq_false c11;clear c11;have H':=ak.mk H;clear H;have p7:0≤(dw:Int):=q'b;have q7:dw<(a0.size:Int):=q'b;have hx7:=jT a0 dw;replace p7:=eq_true p7;replace q7:=eq_true q7
         go_wp2_with(first|(go_at_call 128;(with_reducible refine(iq.calls (bt a0 dw) false _ A8.out).mono ?_);rintro e w' ⟨rfl,⟨nd,rfl⟩⟩;(try first|exact⟨rfl,_,World.drewN_drewN _ _ _⟩|exact⟨rfl,_,Eq.trans (World.drewN_drewN _ _ _) (congrArg (World.drewN _) (Nat.add_assoc _ _ _))⟩);have p10:0≤(dw:Int):=q'b;have q10:dw<(a0.size:Int):=q'b;have hx10:=jT a0 dw;replace p10:=eq_true p10;replace q10:=eq_true q10;have p15:0≤(dw:Int):=q'b;have q15:dw<(a0.size:Int):=q'b;have hx15:=jT a0 dw;replace p15:=eq_true p15;replace q15:=eq_true q15))
         repeat(go_quiet (first|(go_at_call 128;(with_reducible refine(iq.calls (bt a0 dw) false _ A8.out).mono ?_);rintro e w' ⟨rfl,⟨nd,rfl⟩⟩;(try first|exact⟨rfl,_,World.drewN_drewN _ _ _⟩|exact⟨rfl,_,Eq.trans (World.drewN_drewN _ _ _) (congrArg (World.drewN _) (Nat.add_assoc _ _ _))⟩);have p10:0≤(dw:Int):=q'b;have q10:dw<(a0.size:Int):=q'b;have hx10:=jT a0 dw;replace p10:=eq_true p10;replace q10:=eq_true q10;have p15:0≤(dw:Int):=q'b;have q15:dw<(a0.size:Int):=q'b;have hx15:=jT a0 dw;replace p15:=eq_true p15;replace q15:=eq_true q15));try go_wp2_with(first|(go_at_call 128;(with_reducible refine(iq.calls (bt a0 dw) false _ A8.out).mono ?_);rintro e w' ⟨rfl,⟨nd,rfl⟩⟩;(try first|exact⟨rfl,_,World.drewN_drewN _ _ _⟩|exact⟨rfl,_,Eq.trans (World.drewN_drewN _ _ _) (congrArg (World.drewN _) (Nat.add_assoc _ _ _))⟩);have p10:0≤(dw:Int):=q'b;have q10:dw<(a0.size:Int):=q'b;have hx10:=jT a0 dw;replace p10:=eq_true p10;replace q10:=eq_true q10;have p15:0≤(dw:Int):=q'b;have q15:dw<(a0.size:Int):=q'b;have hx15:=jT a0 dw;replace p15:=eq_true p15;replace q15:=eq_true q15)))
         go_meet
         case rel=>exact⟨_,(((bt a0 dw)==0)),q'c,H',⟨by have:=HK1.out;first|omega|exact Nat.le_refl _⟩,by repeat(first|exact bP.refl _|apply bP.step)⟩
      ·rw[if_neg c6]at H
       exact absurd H (by simp)
     ·rw[if_neg c5]at H
      exact absurd H (by simp)
    case rest=>
     clear HC4
     try clear c1
     try clear p1
     try clear q1
     try clear hx1
     try clear p2
     try clear c3
     try clear nN
     try clear c5
     try clear uJ
     try clear c6
     try clear zL
     try clear c7
     try clear p7
     try clear q7
     try clear hx7
     try clear c9
     try clear p10
     try clear q10
     try clear hx10
     try clear c11
     try clear c11b0
     try clear p12
     try clear q12
     try clear hx12
     try clear c13
     try clear uH
     try clear p14
     try clear q14
     try clear hx14
     try clear p15
     try clear q15
     try clear hx15
     try clear p10
     try clear p12
     try clear p14
     try clear p15
     try clear p2
     try clear p7
     try clear q10
     try clear q12
     try clear q14
     try clear q15
     try clear q7
     obtain⟨kq,x33_3,rfl,HA,HJ3,⟨mc3,rfl⟩⟩:=hcut;cases kq with
     |zero=>exact absurd HA.out (by simp[bN.j1])
     |succ kj3=>
      have H:=HA.out;clear HA;simp only[bN.j1]at H
      by_cases c16:x33_3=true
      ·subst c16
       have H1:(some false)=some r:=by rw[if_pos rfl]at H;exact H
       clear H;have H:=H1;clear H1;obtain rfl:=Option.some.inj H;go_wp2
       repeat(go_quiet (fail);try go_wp2)
       go_ret;exact⟨q'c,by repeat(first|exact bP.refl _|apply bP.step)⟩
      ·replace c16:=Bool.eq_false_iff.mpr c16
       subst c16;have H1:(bN.l1 kj3 a0 a1 dw (a0.size:Int) dw (a1.size:Int) 0)=some r:=by rw[if_neg (show¬(false=true) by decide)]at H;first|exact H|(simp only[eq_self]at H⊢;exact H)|(simp only[eq_self,if_true]at H⊢;exact H)
       clear H;have H:=H1;clear H1;have H':=ak.mk H;clear H;go_wp2
       repeat(go_quiet (fail);try go_wp2)
       go_loopg [36] kj3 (fun kq v36 w'=>∃(nJ:Int),v36=.int .i64 nJ∧ak (bN.l1 kq a0 a1 dw (a0.size:Int) dw (a1.size:Int) nJ=some r)∧ak (kq≤kj3)∧bP w w')
       case atStart=>exact⟨(0),q'c,H',⟨Nat.le_refl _⟩,by repeat(first|exact bP.refl _|apply bP.step)⟩
       case round=>
        clear H'
        try clear c1
        try clear p1
        try clear q1
        try clear hx1
        try clear p2
        try clear c3
        try clear nN
        try clear c5
        try clear uJ
        try clear c6
        try clear zL
        try clear c7
        try clear p7
        try clear q7
        try clear hx7
        try clear c9
        try clear p10
        try clear q10
        try clear hx10
        try clear c11
        try clear c11b0
        try clear p12
        try clear q12
        try clear hx12
        try clear c13
        try clear uH
        try clear p14
        try clear q14
        try clear hx14
        try clear p15
        try clear q15
        try clear hx15
        try clear c16
        try clear p1
        try clear p10
        try clear p12
        try clear p14
        try clear p15
        try clear p2
        try clear p7
        try clear q1
        try clear q10
        try clear q12
        try clear q14
        try clear q15
        try clear q7
        obtain⟨nJ,rfl,HA,HK3,⟨m3,rfl⟩⟩:=hrel;cases gk with
        |zero=>exact absurd HA.out (by simp[bN.l1])
        |succ k3=>
         have H:=HA.out;clear HA;simp only[bN.l1]at H
         by_cases c17:nJ<(a1.size:Int)
         ·rw[if_pos c17]at H
          have c17b0:decide (nJ<(a1.size:Int))=true:=decide_eq_true c17;clear c17
          by_cases c18:0≤dw
          ·rw[if_pos c18]at H
           have c18b0:decide (0≤dw)=true:=decide_eq_true c18;clear c18
           by_cases c19:dw<(a0.size:Int)
           ·rw[if_pos c19]at H
            have EC:decide (dw<(a0.size:Int))=true:=decide_eq_true c19;clear c19
            by_cases c21:0≤nJ
            ·rw[if_pos c21]at H
             have c21b0:decide (0≤nJ)=true:=decide_eq_true c21;clear c21
             by_cases c22:nJ<(a1.size:Int)
             ·rw[if_pos c22]at H
              have c22b0:decide (nJ<(a1.size:Int))=true:=decide_eq_true c22;clear c22
              by_cases c24:(bt a0 dw)=(bt a1 nJ)
              ·rw[if_pos c24]at H
               have c24b0:((bt a0 dw)==(bt a1 nJ))=true:=beq_iff_eq.mpr c24;have c24b1:((bt a0 dw) !=(bt a1 nJ))=false:=bne_eq_false_iff_eq.mpr c24;clear c24;obtain rfl:=Option.some.inj H;have p20:0≤(dw:Int):=q'b;have q20:dw<(a0.size:Int):=q'b;have hx20:=jT a0 dw;replace p20:=eq_true p20;replace q20:=eq_true q20;have p23:0≤(nJ:Int):=q'b;have q23:nJ<(a1.size:Int):=q'b;have hx23:=jT a1 nJ;replace p23:=eq_true p23;replace q23:=eq_true q23;go_wp2
               repeat(go_quiet (fail);try go_wp2)
               go_ret;exact⟨q'c,by repeat(first|exact bP.refl _|apply bP.step)⟩
              ·rw[if_neg c24]at H
               have c24b0:((bt a0 dw)==(bt a1 nJ))=false:=beq_eq_false_iff_ne.mpr c24;have c24b1:((bt a0 dw) !=(bt a1 nJ))=true:=bne_iff_ne.mpr c24;have H':=ak.mk H;clear H;have p20:0≤(dw:Int):=q'b;have q20:dw<(a0.size:Int):=q'b;have hx20:=jT a0 dw;replace p20:=eq_true p20;replace q20:=eq_true q20;have p23:0≤(nJ:Int):=q'b;have q23:nJ<(a1.size:Int):=q'b;have hx23:=jT a1 nJ;replace p23:=eq_true p23;replace q23:=eq_true q23;go_wp2
               repeat(go_quiet (fail);try go_wp2)
               go_roundg k3
               case measure=>have:=HK1.out;have:=HJ3.out;have:=HK3.out;omega
               case rel=>exact⟨(wrap64 (nJ+1)),q'c,H',⟨by have:=HK1.out;have:=HJ3.out;have:=HK3.out;omega⟩,by repeat(first|exact bP.refl _|apply bP.step)⟩
             ·rw[if_neg c22]at H
              exact absurd H (by simp)
            ·rw[if_neg c21]at H
             exact absurd H (by simp)
           ·rw[if_neg c19]at H
            exact absurd H (by simp)
          ·rw[if_neg c18]at H
           exact absurd H (by simp)
         ·rw[if_neg c17]at H
          have c17b0:decide (nJ<(a1.size:Int))=false:=decide_eq_false c17;clear c17;have H':=ak.mk H;clear H;go_wp2
          repeat(go_quiet (fail);try go_wp2)
          go_roundg k3
          case measure=>have:=HK1.out;have:=HJ3.out;have:=HK3.out;omega
          case rel=>exact⟨(wrap64 (dw+1)),q'c,H',⟨by have:=HK1.out;have:=HJ3.out;have:=HK3.out;omega⟩,by repeat(first|exact bP.refl _|apply bP.step)⟩
   ·rw[if_neg c3]at H
    have nN:decide (dw<(a0.size:Int))=false:=decide_eq_false c3;clear c3;obtain rfl:=Option.some.inj H;go_wp2
    repeat(go_quiet (fail);try go_wp2)
    go_ret;exact⟨q'c,by repeat(first|exact bP.refl _|apply bP.step)⟩
def jU.f(a0:Int):Option (Bool):=if a0≥97 then(if a0≤122 then(some true)else(if a0≥65 then(some (decide (a0≤90)))else(some false)))else(if a0≥65 then(some (decide (a0≤90)))else(some false))
theorem jU.calls(a0:Int)(r:Bool)(w:World)(h:jU.f a0=some r):
 Calls Tryz.prog 80 #[.int .u8 a0] w fun e w'=>e=.returned (.bool r)∧bP w w':=by
 have H:(if a0≥97 then(if a0≤122 then(some true)else(if a0≥65 then(some (decide (a0≤90)))else(some false)))else(if a0≥65 then(some (decide (a0≤90)))else(some false)))=some r:=h;clear h
 by_cases c2:a0≥97
 ·rw[if_pos c2]at H
  have Di:decide (97≤a0)=true:=decide_eq_true c2;clear c2
  by_cases c3:a0≤122
  ·rw[if_pos c3]at H
   have nN:decide (a0≤122)=true:=decide_eq_true c3;clear c3;obtain rfl:=Option.some.inj H;go_enter Tryz.func80,Tryz.ntmps80;go_wp2;go_ret;exact⟨q'c,by repeat(first|exact bP.refl _|apply bP.step)⟩
  ·rw[if_neg c3]at H
   have nN:decide (a0≤122)=false:=decide_eq_false c3;clear c3
   by_cases c4:a0≥65
   ·rw[if_pos c4]at H
    have mZ:decide (65≤a0)=true:=decide_eq_true c4;clear c4;obtain rfl:=Option.some.inj H;go_enter Tryz.func80,Tryz.ntmps80;go_wp2;go_ret;exact⟨q'c,by repeat(first|exact bP.refl _|apply bP.step)⟩
   ·rw[if_neg c4]at H
    have mZ:decide (65≤a0)=false:=decide_eq_false c4;clear c4;obtain rfl:=Option.some.inj H;go_enter Tryz.func80,Tryz.ntmps80;go_wp2;go_ret;exact⟨q'c,by repeat(first|exact bP.refl _|apply bP.step)⟩
 ·rw[if_neg c2]at H
  have Di:decide (97≤a0)=false:=decide_eq_false c2;clear c2
  by_cases c5:a0≥65
  ·rw[if_pos c5]at H
   have uJ:decide (65≤a0)=true:=decide_eq_true c5;clear c5;obtain rfl:=Option.some.inj H;go_enter Tryz.func80,Tryz.ntmps80;go_wp2;go_ret;exact⟨q'c,by repeat(first|exact bP.refl _|apply bP.step)⟩
  ·rw[if_neg c5]at H
   have uJ:decide (65≤a0)=false:=decide_eq_false c5;clear c5;obtain rfl:=Option.some.inj H;go_enter Tryz.func80,Tryz.ntmps80;go_wp2;go_ret;exact⟨q'c,by repeat(first|exact bP.refl _|apply bP.step)⟩
def jV.f(k:Nat)(a0:Bt):Option (Bool):=(bN.f k a0 (⟨#[47,62]⟩:Bt)).bind fun t367=>(if t367=true then(if 0<(a0.size:Int)then((jU.f (bt a0 0)).bind fun t368=>(some t368))else(none))else(some false))
theorem jV.calls(k:Nat)(a0:Bt)(r:Bool)(w:World)(h:jV.f k a0=some r):
 Calls Tryz.prog 30 #[.string a0] w fun e w'=>e=.returned (.bool r)∧bP w w':=by
 have H:((bN.f k a0 (⟨#[47,62]⟩:Bt)).bind fun t367=>(if t367=true then(if 0<(a0.size:Int)then((jU.f (bt a0 0)).bind fun t368=>(some t368))else(none))else(some false)))=some r:=h;clear h;replace H:=Option.bind_eq_some_iff.mp H;obtain⟨t367,A20,H⟩:=H;replace H:(if t367=true then(if 0<(a0.size:Int)then((jU.f (bt a0 0)).bind fun t368=>(some t368))else(none))else(some false))=some r:=H;have A2:=ak.mk A20;clear A20
 by_cases c3:t367=true
 ·subst c3
  have H1:(if 0<(a0.size:Int)then((jU.f (bt a0 0)).bind fun t368=>(some t368))else(none))=some r:=by rw[if_pos rfl]at H;exact H
  clear H;have H:=H1;clear H1
  by_cases c4:0<(a0.size:Int)
  ·rw[if_pos c4]at H
   have mZ:decide (0<(a0.size:Int))=true:=decide_eq_true c4;have AA:decide (0<a0.size)=true:=decide_eq_true (by omega);clear c4;replace H:=Option.bind_eq_some_iff.mp H;obtain⟨t368,A60,H⟩:=H;replace H:(some t368)=some r:=H;have A6:=ak.mk A60;clear A60;obtain rfl:=Option.some.inj H;go_enter Tryz.func30,Tryz.ntmps30
   go_wp2_with(first|((with_reducible refine aZ (f:=79) rfl ?_);refine dJ (some 4) rfl rfl Tryz.func79 (by kernel_rfl) rfl #[.string a0,.string (⟨#[47,62]⟩:Bt)] rfl q'a ?_;(with_reducible refine(bN.calls k a0 (⟨#[47,62]⟩:Bt) true _ A2.out).mono ?_);rintro e w' ⟨rfl,⟨nd,rfl⟩⟩;refine⟨_,rfl,?_⟩;have p5:0≤(0:Int):=(by omega);have q5:0<a0.size:=(by have:(0:Int)<(a0.size:Int):=q'b;omega);have hx5:∀h:0<a0.size,((a0[0]'h).toNat:Int)=bt a0 0:=jT a0 0;clear p5;have qi5:(0<(a0.size:Int))=True:=eq_true (q'b);replace q5:=eq_true q5)|(go_at_call 80;(with_reducible refine(jU.calls (bt a0 0) t368 _ A6.out).mono ?_);rintro e w' ⟨rfl,⟨nd,rfl⟩⟩))
   go_ret;exact⟨q'c,by repeat(first|exact bP.refl _|apply bP.step)⟩
  ·rw[if_neg c4]at H
   exact absurd H (by simp)
 ·replace c3:=Bool.eq_false_iff.mpr c3
  subst c3;have H1:(some false)=some r:=by rw[if_neg (show¬(false=true) by decide)]at H;first|exact H|(simp only[eq_self]at H⊢;exact H)|(simp only[eq_self,if_true]at H⊢;exact H)
  clear H;have H:=H1;clear H1;obtain rfl:=Option.some.inj H;go_enter Tryz.func30,Tryz.ntmps30
  go_wp2_with(first|((with_reducible refine aZ (f:=79) rfl ?_);refine dJ (some 4) rfl rfl Tryz.func79 (by kernel_rfl) rfl #[.string a0,.string (⟨#[47,62]⟩:Bt)] rfl q'a ?_;(with_reducible refine(bN.calls k a0 (⟨#[47,62]⟩:Bt) false _ A2.out).mono ?_);rintro e w' ⟨rfl,⟨nd,rfl⟩⟩;refine⟨_,rfl,?_⟩))
  go_ret;exact⟨q'c,by repeat(first|exact bP.refl _|apply bP.step)⟩
end Go.Proofs.aj.W7
