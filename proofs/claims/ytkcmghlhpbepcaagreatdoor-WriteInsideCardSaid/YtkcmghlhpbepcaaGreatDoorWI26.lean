/- Lemmas and walks, part 26. -/
import Derived.Test.YtkcmghlhpbepcaaGreatDoorWI25
set_option linter.unusedVariables false
set_option linter.unusedSimpArgs false
set_option maxHeartbeats 8000000
set_option maxRecDepth 100000
namespace Go.Proofs.aj.W7
open Go.RowKit ah.aD ah.bH ah.bU
attribute [local go_sem] dB dD dW dX bZ cu dF dG
mutual
def dO.l0:Nat→Bt→Bt→Int→Int→Option (Bool)
 |0,_,_,_,_=>none
 |k+1,x0,x1,x8,x9=>if x9<x8 then(if 0≤x9 then(if x9<(x0.size:Int)then((jo.f (bt x0 x9)).bind fun t366=>(if t366=true then(dO.j1 k x0 x1 x9 x8 x9 true)else(if(bt x0 x9)≥65 then(if(bt x0 x9)≤90 then(dO.j1 k x0 x1 x9 x8 x9 true)else(dO.j1 k x0 x1 x9 x8 x9 ((bt x0 x9)==0)))else(dO.j1 k x0 x1 x9 x8 x9 ((bt x0 x9)==0)))))else(none))else(none))else(some (x0.toList !=([] :List UInt8)))
def dO.j1:Nat→Bt→Bt→Int→Int→Int→Bool→Option (Bool)
 |0,_,_,_,_,_,_=>none
 |k+1,x0,x1,x5,x8,x9,x33=>if x33=true then(some false)else(dO.l1 k x0 x1 x5 x8 x9 (x1.size:Int) 0)
def dO.l1:Nat→Bt→Bt→Int→Int→Int→Int→Int→Option (Bool)
 |0,_,_,_,_,_,_,_=>none
 |k+1,x0,x1,x5,x8,x9,x35,x36=>if x36<x35 then(if 0≤x5 then(if x5<(x0.size:Int)then(if 0≤x36 then(if x36<(x1.size:Int)then(if(bt x0 x5)=(bt x1 x36)then(some false)else(dO.l1 k x0 x1 x5 x8 x9 x35 (wrap64 (x36+1))))else(none))else(none))else(none))else(none))else(dO.l0 k x0 x1 x8 (wrap64 (x9+1)))
end
def dO.f(k:Nat)(a0 a1:Bt):Option (Bool):=dO.l0 k a0 a1 (a0.size:Int) 0
theorem dO.calls(k:Nat)(a0 a1:Bt)(r:Bool)(w:World)(h:dO.f k a0 a1=some r):
 Calls Tryz.prog 79 #[.string a0,.string a1] w fun e w'=>e=.returned (.bool r)∧bJ w w':=by
 have H:(dO.l0 k a0 a1 (a0.size:Int) 0)=some r:=h;clear h;have H':=ak.mk H;clear H;go_enter Tryz.func79,Tryz.ntmps79;go_wp2
 repeat(go_quiet (fail);try go_wp2)
 go_loopg [9] k (fun kq v9 w'=>∃(eB:Int),v9=.int .i64 eB∧ak (dO.l0 kq a0 a1 (a0.size:Int) eB=some r)∧ak (kq≤k)∧bJ w w')
 case atStart=>exact⟨(0),q'c,H',⟨Nat.le_refl _⟩,by repeat(first|exact bJ.refl _|apply bJ.step)⟩
 case round=>
  clear H'
  try clear p2
  obtain⟨eB,rfl,HA,HK1,⟨m1,rfl⟩⟩:=hrel;cases gk with
  |zero=>exact absurd HA.out (by simp[dO.l0])
  |succ k1=>
   have H:=HA.out;clear HA;simp only[dO.l0]at H
   by_cases c3:eB<(a0.size:Int)
   ·rw[if_pos c3]at H
    have oD:=decide_eq_true c3;clear c3;have HC4:=ak.mk H;clear H
    go_upto_region 4 with(fail)
    repeat(go_quiet (fail);go_upto_region 4 with(fail))
    go_cut [33] (fun v33 wc=>∃(kq:Nat) (x33_3:Bool),v33=.bool x33_3∧ak (dO.j1 kq a0 a1 eB (a0.size:Int) eB x33_3=some r)∧ak (kq≤k1)∧bJ w wc)
    case first=>
     have H:=HC4.out;clear HC4
     by_cases c5:0≤eB
     ·rw[if_pos c5]at H
      have tX:=decide_eq_true c5;clear c5
      (first|rw[tX] |(simp only[mq,nA];rw[tX])|skip)
      by_cases c6:eB<(a0.size:Int)
      ·rw[if_pos c6]at H
       have AO:=decide_eq_true c6;clear c6;replace H:=Option.bind_eq_some_iff.mp H;obtain⟨t366,A80,H⟩:=H
       try dsimp only at H
       have A8:=ak.mk A80;clear A80
       by_cases c9:t366=true
       ·subst c9
        rw[if_pos rfl]at H
        try dsimp only at H
        have H':=ak.mk H;clear H;have p7:0≤(eB:Int):=q'b;have q7:eB<(a0.size:Int):=q'b;have hx7:=kW a0 eB;replace p7:=eq_true p7;replace q7:=eq_true q7
        go_wp2_with(first|(go_at_call 128;(with_reducible refine(jo.calls (bt a0 eB) true _ A8.out).mono ?_);rintro e w' ⟨rfl,⟨nd,rfl⟩⟩;(try first|exact⟨rfl,_,World.drewN_drewN _ _ _⟩|exact⟨rfl,_,Eq.trans (World.drewN_drewN _ _ _) (congrArg (World.drewN _) (Nat.add_assoc _ _ _))⟩)))
        repeat(go_quiet (first|(go_at_call 128;(with_reducible refine(jo.calls (bt a0 eB) true _ A8.out).mono ?_);rintro e w' ⟨rfl,⟨nd,rfl⟩⟩;(try first|exact⟨rfl,_,World.drewN_drewN _ _ _⟩|exact⟨rfl,_,Eq.trans (World.drewN_drewN _ _ _) (congrArg (World.drewN _) (Nat.add_assoc _ _ _))⟩)));try go_wp2_with(first|(go_at_call 128;(with_reducible refine(jo.calls (bt a0 eB) true _ A8.out).mono ?_);rintro e w' ⟨rfl,⟨nd,rfl⟩⟩;(try first|exact⟨rfl,_,World.drewN_drewN _ _ _⟩|exact⟨rfl,_,Eq.trans (World.drewN_drewN _ _ _) (congrArg (World.drewN _) (Nat.add_assoc _ _ _))⟩))))
        go_meet
        case rel=>exact⟨_,(true),q'c,H',⟨lz HK1.out⟩,by repeat(first|exact bJ.refl _|apply bJ.step)⟩
       ·replace c9:=Bool.eq_false_iff.mpr c9
        subst c9;have H1:(if(bt a0 eB)≥65 then(if(bt a0 eB)≤90 then(dO.j1 k1 a0 a1 eB (a0.size:Int) eB true)else(dO.j1 k1 a0 a1 eB (a0.size:Int) eB ((bt a0 eB)==0)))else(dO.j1 k1 a0 a1 eB (a0.size:Int) eB ((bt a0 eB)==0)))=some r:=by rw[if_neg (show¬(false=true) by decide)]at H;first|exact H|(simp only[eq_self]at H⊢;exact H)|(simp only[eq_self,if_true]at H⊢;exact H)
        clear H;have H:=H1;clear H1
        by_cases c11:(bt a0 eB)≥65
        ·rw[if_pos c11]at H
         have c11b0:=decide_eq_true c11;clear c11
         by_cases c13:(bt a0 eB)≤90
         ·rw[if_pos c13]at H
          have vX:=decide_eq_true c13;clear c13;have H':=ak.mk H;clear H;have p7:0≤(eB:Int):=q'b;have q7:eB<(a0.size:Int):=q'b;have hx7:=kW a0 eB;replace p7:=eq_true p7;replace q7:=eq_true q7
          go_wp2_with(first|(go_at_call 128;(with_reducible refine(jo.calls (bt a0 eB) false _ A8.out).mono ?_);rintro e w' ⟨rfl,⟨nd,rfl⟩⟩;(try first|exact⟨rfl,_,World.drewN_drewN _ _ _⟩|exact⟨rfl,_,Eq.trans (World.drewN_drewN _ _ _) (congrArg (World.drewN _) (Nat.add_assoc _ _ _))⟩);have p10:0≤(eB:Int):=q'b;have q10:eB<(a0.size:Int):=q'b;have hx10:=kW a0 eB;replace p10:=eq_true p10;replace q10:=eq_true q10;have p12:0≤(eB:Int):=q'b;have q12:eB<(a0.size:Int):=q'b;have hx12:=kW a0 eB;replace p12:=eq_true p12;replace q12:=eq_true q12))
          repeat(go_quiet (first|(go_at_call 128;(with_reducible refine(jo.calls (bt a0 eB) false _ A8.out).mono ?_);rintro e w' ⟨rfl,⟨nd,rfl⟩⟩;(try first|exact⟨rfl,_,World.drewN_drewN _ _ _⟩|exact⟨rfl,_,Eq.trans (World.drewN_drewN _ _ _) (congrArg (World.drewN _) (Nat.add_assoc _ _ _))⟩);have p10:0≤(eB:Int):=q'b;have q10:eB<(a0.size:Int):=q'b;have hx10:=kW a0 eB;replace p10:=eq_true p10;replace q10:=eq_true q10;have p12:0≤(eB:Int):=q'b;have q12:eB<(a0.size:Int):=q'b;have hx12:=kW a0 eB;replace p12:=eq_true p12;replace q12:=eq_true q12));try go_wp2_with(first|(go_at_call 128;(with_reducible refine(jo.calls (bt a0 eB) false _ A8.out).mono ?_);rintro e w' ⟨rfl,⟨nd,rfl⟩⟩;(try first|exact⟨rfl,_,World.drewN_drewN _ _ _⟩|exact⟨rfl,_,Eq.trans (World.drewN_drewN _ _ _) (congrArg (World.drewN _) (Nat.add_assoc _ _ _))⟩);have p10:0≤(eB:Int):=q'b;have q10:eB<(a0.size:Int):=q'b;have hx10:=kW a0 eB;replace p10:=eq_true p10;replace q10:=eq_true q10;have p12:0≤(eB:Int):=q'b;have q12:eB<(a0.size:Int):=q'b;have hx12:=kW a0 eB;replace p12:=eq_true p12;replace q12:=eq_true q12)))
          go_meet
          case rel=>exact⟨_,(true),q'c,H',⟨lz HK1.out⟩,by repeat(first|exact bJ.refl _|apply bJ.step)⟩
         ·rw[if_neg c13]at H
          have vX:=decide_eq_false c13;clear c13;have H':=ak.mk H;clear H;have p7:0≤(eB:Int):=q'b;have q7:eB<(a0.size:Int):=q'b;have hx7:=kW a0 eB;replace p7:=eq_true p7;replace q7:=eq_true q7
          go_wp2_with(first|(go_at_call 128;(with_reducible refine(jo.calls (bt a0 eB) false _ A8.out).mono ?_);rintro e w' ⟨rfl,⟨nd,rfl⟩⟩;(try first|exact⟨rfl,_,World.drewN_drewN _ _ _⟩|exact⟨rfl,_,Eq.trans (World.drewN_drewN _ _ _) (congrArg (World.drewN _) (Nat.add_assoc _ _ _))⟩);have p10:0≤(eB:Int):=q'b;have q10:eB<(a0.size:Int):=q'b;have hx10:=kW a0 eB;replace p10:=eq_true p10;replace q10:=eq_true q10;have p12:0≤(eB:Int):=q'b;have q12:eB<(a0.size:Int):=q'b;have hx12:=kW a0 eB;replace p12:=eq_true p12;replace q12:=eq_true q12;have p14:0≤(eB:Int):=q'b;have q14:eB<(a0.size:Int):=q'b;have hx14:=kW a0 eB;replace p14:=eq_true p14;replace q14:=eq_true q14))
          repeat(go_quiet (first|(go_at_call 128;(with_reducible refine(jo.calls (bt a0 eB) false _ A8.out).mono ?_);rintro e w' ⟨rfl,⟨nd,rfl⟩⟩;(try first|exact⟨rfl,_,World.drewN_drewN _ _ _⟩|exact⟨rfl,_,Eq.trans (World.drewN_drewN _ _ _) (congrArg (World.drewN _) (Nat.add_assoc _ _ _))⟩);have p10:0≤(eB:Int):=q'b;have q10:eB<(a0.size:Int):=q'b;have hx10:=kW a0 eB;replace p10:=eq_true p10;replace q10:=eq_true q10;have p12:0≤(eB:Int):=q'b;have q12:eB<(a0.size:Int):=q'b;have hx12:=kW a0 eB;replace p12:=eq_true p12;replace q12:=eq_true q12;have p14:0≤(eB:Int):=q'b;have q14:eB<(a0.size:Int):=q'b;have hx14:=kW a0 eB;replace p14:=eq_true p14;replace q14:=eq_true q14));try go_wp2_with(first|(go_at_call 128;(with_reducible refine(jo.calls (bt a0 eB) false _ A8.out).mono ?_);rintro e w' ⟨rfl,⟨nd,rfl⟩⟩;(try first|exact⟨rfl,_,World.drewN_drewN _ _ _⟩|exact⟨rfl,_,Eq.trans (World.drewN_drewN _ _ _) (congrArg (World.drewN _) (Nat.add_assoc _ _ _))⟩);have p10:0≤(eB:Int):=q'b;have q10:eB<(a0.size:Int):=q'b;have hx10:=kW a0 eB;replace p10:=eq_true p10;replace q10:=eq_true q10;have p12:0≤(eB:Int):=q'b;have q12:eB<(a0.size:Int):=q'b;have hx12:=kW a0 eB;replace p12:=eq_true p12;replace q12:=eq_true q12;have p14:0≤(eB:Int):=q'b;have q14:eB<(a0.size:Int):=q'b;have hx14:=kW a0 eB;replace p14:=eq_true p14;replace q14:=eq_true q14)))
          go_meet
          case rel=>exact⟨_,(((bt a0 eB)==0)),q'c,H',⟨lz HK1.out⟩,by repeat(first|exact bJ.refl _|apply bJ.step)⟩
        ·rw[if_neg c11]at H
         have c11b0:=decide_eq_false c11;clear c11;have H':=ak.mk H;clear H;have p7:0≤(eB:Int):=q'b;have q7:eB<(a0.size:Int):=q'b;have hx7:=kW a0 eB;replace p7:=eq_true p7;replace q7:=eq_true q7
         go_wp2_with(first|(go_at_call 128;(with_reducible refine(jo.calls (bt a0 eB) false _ A8.out).mono ?_);rintro e w' ⟨rfl,⟨nd,rfl⟩⟩;(try first|exact⟨rfl,_,World.drewN_drewN _ _ _⟩|exact⟨rfl,_,Eq.trans (World.drewN_drewN _ _ _) (congrArg (World.drewN _) (Nat.add_assoc _ _ _))⟩);have p10:0≤(eB:Int):=q'b;have q10:eB<(a0.size:Int):=q'b;have hx10:=kW a0 eB;replace p10:=eq_true p10;replace q10:=eq_true q10;have p15:0≤(eB:Int):=q'b;have q15:eB<(a0.size:Int):=q'b;have hx15:=kW a0 eB;replace p15:=eq_true p15;replace q15:=eq_true q15))
         repeat(go_quiet (first|(go_at_call 128;(with_reducible refine(jo.calls (bt a0 eB) false _ A8.out).mono ?_);rintro e w' ⟨rfl,⟨nd,rfl⟩⟩;(try first|exact⟨rfl,_,World.drewN_drewN _ _ _⟩|exact⟨rfl,_,Eq.trans (World.drewN_drewN _ _ _) (congrArg (World.drewN _) (Nat.add_assoc _ _ _))⟩);have p10:0≤(eB:Int):=q'b;have q10:eB<(a0.size:Int):=q'b;have hx10:=kW a0 eB;replace p10:=eq_true p10;replace q10:=eq_true q10;have p15:0≤(eB:Int):=q'b;have q15:eB<(a0.size:Int):=q'b;have hx15:=kW a0 eB;replace p15:=eq_true p15;replace q15:=eq_true q15));try go_wp2_with(first|(go_at_call 128;(with_reducible refine(jo.calls (bt a0 eB) false _ A8.out).mono ?_);rintro e w' ⟨rfl,⟨nd,rfl⟩⟩;(try first|exact⟨rfl,_,World.drewN_drewN _ _ _⟩|exact⟨rfl,_,Eq.trans (World.drewN_drewN _ _ _) (congrArg (World.drewN _) (Nat.add_assoc _ _ _))⟩);have p10:0≤(eB:Int):=q'b;have q10:eB<(a0.size:Int):=q'b;have hx10:=kW a0 eB;replace p10:=eq_true p10;replace q10:=eq_true q10;have p15:0≤(eB:Int):=q'b;have q15:eB<(a0.size:Int):=q'b;have hx15:=kW a0 eB;replace p15:=eq_true p15;replace q15:=eq_true q15)))
         go_meet
         case rel=>exact⟨_,(((bt a0 eB)==0)),q'c,H',⟨lz HK1.out⟩,by repeat(first|exact bJ.refl _|apply bJ.step)⟩
      ·rw[if_neg c6]at H
       exact absurd H (by simp)
     ·rw[if_neg c5]at H
      exact absurd H (by simp)
    case rest=>
     clear HC4
     try clear c1
     try clear p1
     try clear q1
     try clear hx1
     try clear p2
     try clear c3
     try clear oD
     try clear c5
     try clear tX
     try clear c6
     try clear AO
     try clear c7
     try clear p7
     try clear q7
     try clear hx7
     try clear c9
     try clear p10
     try clear q10
     try clear hx10
     try clear c11
     try clear c11b0
     try clear p12
     try clear q12
     try clear hx12
     try clear c13
     try clear vX
     try clear p14
     try clear q14
     try clear hx14
     try clear p15
     try clear q15
     try clear hx15
     try clear p10
     try clear p12
     try clear p14
     try clear p15
     try clear p2
     try clear p7
     try clear q10
     try clear q12
     try clear q14
     try clear q15
     try clear q7
     obtain⟨kq,x33_3,rfl,HA,HJ3,⟨mc3,rfl⟩⟩:=hcut;cases kq with
     |zero=>exact absurd HA.out (by simp[dO.j1])
     |succ kj3=>
      have H:=HA.out;clear HA;simp only[dO.j1]at H
      by_cases c16:x33_3=true
      ·subst c16
       rw[if_pos rfl]at H
       try dsimp only at H
       obtain rfl:=Option.some.inj H;go_wp2
       repeat(go_quiet (fail);try go_wp2)
       go_ret;exact⟨q'c,by repeat(first|exact bJ.refl _|apply bJ.step)⟩
      ·replace c16:=Bool.eq_false_iff.mpr c16
       subst c16;have H1:(dO.l1 kj3 a0 a1 eB (a0.size:Int) eB (a1.size:Int) 0)=some r:=by rw[if_neg (show¬(false=true) by decide)]at H;first|exact H|(simp only[eq_self]at H⊢;exact H)|(simp only[eq_self,if_true]at H⊢;exact H)
       clear H;have H:=H1;clear H1;have H':=ak.mk H;clear H;go_wp2
       repeat(go_quiet (fail);try go_wp2)
       go_loopg [36] kj3 (fun kq v36 w'=>∃(uE:Int),v36=.int .i64 uE∧ak (dO.l1 kq a0 a1 eB (a0.size:Int) eB (a1.size:Int) uE=some r)∧ak (kq≤kj3)∧bJ w w')
       case atStart=>exact⟨(0),q'c,H',⟨Nat.le_refl _⟩,by repeat(first|exact bJ.refl _|apply bJ.step)⟩
       case round=>
        clear H'
        try clear c1
        try clear p1
        try clear q1
        try clear hx1
        try clear p2
        try clear c3
        try clear oD
        try clear c5
        try clear tX
        try clear c6
        try clear AO
        try clear c7
        try clear p7
        try clear q7
        try clear hx7
        try clear c9
        try clear p10
        try clear q10
        try clear hx10
        try clear c11
        try clear c11b0
        try clear p12
        try clear q12
        try clear hx12
        try clear c13
        try clear vX
        try clear p14
        try clear q14
        try clear hx14
        try clear p15
        try clear q15
        try clear hx15
        try clear c16
        try clear p1
        try clear p10
        try clear p12
        try clear p14
        try clear p15
        try clear p2
        try clear p7
        try clear q1
        try clear q10
        try clear q12
        try clear q14
        try clear q15
        try clear q7
        obtain⟨uE,rfl,HA,HK3,⟨m3,rfl⟩⟩:=hrel;cases gk with
        |zero=>exact absurd HA.out (by simp[dO.l1])
        |succ k3=>
         have H:=HA.out;clear HA;simp only[dO.l1]at H
         by_cases c17:uE<(a1.size:Int)
         ·rw[if_pos c17]at H
          have c17b0:=decide_eq_true c17;clear c17
          by_cases c18:0≤eB
          ·rw[if_pos c18]at H
           have c18b0:=decide_eq_true c18;clear c18
           by_cases c19:eB<(a0.size:Int)
           ·rw[if_pos c19]at H
            have GL:=decide_eq_true c19;clear c19
            by_cases c21:0≤uE
            ·rw[if_pos c21]at H
             have c21b0:=decide_eq_true c21;clear c21
             by_cases c22:uE<(a1.size:Int)
             ·rw[if_pos c22]at H
              have c22b0:=decide_eq_true c22;clear c22
              by_cases c24:(bt a0 eB)=(bt a1 uE)
              ·rw[if_pos c24]at H
               have c24b0:=beq_iff_eq.mpr c24;have c24b1:=bne_eq_false_iff_eq.mpr c24;clear c24;obtain rfl:=Option.some.inj H;have p20:0≤(eB:Int):=q'b;have q20:eB<(a0.size:Int):=q'b;have hx20:=kW a0 eB;replace p20:=eq_true p20;replace q20:=eq_true q20;have p23:0≤(uE:Int):=q'b;have q23:uE<(a1.size:Int):=q'b;have hx23:=kW a1 uE;replace p23:=eq_true p23;replace q23:=eq_true q23;go_wp2
               repeat(go_quiet (fail);try go_wp2)
               go_ret;exact⟨q'c,by repeat(first|exact bJ.refl _|apply bJ.step)⟩
              ·rw[if_neg c24]at H
               have c24b0:=beq_eq_false_iff_ne.mpr c24;have c24b1:=bne_iff_ne.mpr c24;have H':=ak.mk H;clear H;have p20:0≤(eB:Int):=q'b;have q20:eB<(a0.size:Int):=q'b;have hx20:=kW a0 eB;replace p20:=eq_true p20;replace q20:=eq_true q20;have p23:0≤(uE:Int):=q'b;have q23:uE<(a1.size:Int):=q'b;have hx23:=kW a1 uE;replace p23:=eq_true p23;replace q23:=eq_true q23;go_wp2
               repeat(go_quiet (fail);try go_wp2)
               go_roundg k3
               case measure=>have:=HK1.out;have:=HJ3.out;have:=HK3.out;omega
               case rel=>exact⟨(wrap64 (uE+1)),q'c,H',⟨by have:=HK1.out;have:=HJ3.out;have:=HK3.out;omega⟩,by repeat(first|exact bJ.refl _|apply bJ.step)⟩
             ·rw[if_neg c22]at H
              exact absurd H (by simp)
            ·rw[if_neg c21]at H
             exact absurd H (by simp)
           ·rw[if_neg c19]at H
            exact absurd H (by simp)
          ·rw[if_neg c18]at H
           exact absurd H (by simp)
         ·rw[if_neg c17]at H
          have c17b0:=decide_eq_false c17;clear c17;have H':=ak.mk H;clear H;go_wp2
          repeat(go_quiet (fail);try go_wp2)
          go_roundg k3
          case measure=>have:=HK1.out;have:=HJ3.out;have:=HK3.out;omega
          case rel=>exact⟨(wrap64 (eB+1)),q'c,H',⟨by have:=HK1.out;have:=HJ3.out;have:=HK3.out;omega⟩,by repeat(first|exact bJ.refl _|apply bJ.step)⟩
   ·rw[if_neg c3]at H
    have oD:=decide_eq_false c3;clear c3;obtain rfl:=Option.some.inj H;go_wp2
    repeat(go_quiet (fail);try go_wp2)
    go_ret;exact⟨q'c,by repeat(first|exact bJ.refl _|apply bJ.step)⟩
def rE.f(a0:Int):Option (Bool):=if a0≥97 then(if a0≤122 then(some true)else(if a0≥65 then(some (decide (a0≤90)))else(some false)))else(if a0≥65 then(some (decide (a0≤90)))else(some false))
theorem rE.calls(a0:Int)(r:Bool)(w:World)(h:rE.f a0=some r):
 Calls Tryz.prog 80 #[.int .u8 a0] w fun e w'=>e=.returned (.bool r)∧bJ w w':=by
 have H:(if a0≥97 then(if a0≤122 then(some true)else(if a0≥65 then(some (decide (a0≤90)))else(some false)))else(if a0≥65 then(some (decide (a0≤90)))else(some false)))=some r:=h;clear h
 by_cases c2:a0≥97
 ·rw[if_pos c2]at H
  have EU:=decide_eq_true c2;clear c2
  by_cases c3:a0≤122
  ·rw[if_pos c3]at H
   have oD:=decide_eq_true c3;clear c3;obtain rfl:=Option.some.inj H;go_enter Tryz.func80,Tryz.ntmps80;go_wp2;go_ret;exact⟨q'c,by repeat(first|exact bJ.refl _|apply bJ.step)⟩
  ·rw[if_neg c3]at H
   have oD:=decide_eq_false c3;clear c3
   by_cases c4:a0≥65
   ·rw[if_pos c4]at H
    have lY:=decide_eq_true c4;clear c4;obtain rfl:=Option.some.inj H;go_enter Tryz.func80,Tryz.ntmps80;go_wp2;go_ret;exact⟨q'c,by repeat(first|exact bJ.refl _|apply bJ.step)⟩
   ·rw[if_neg c4]at H
    have lY:=decide_eq_false c4;clear c4;obtain rfl:=Option.some.inj H;go_enter Tryz.func80,Tryz.ntmps80;go_wp2;go_ret;exact⟨q'c,by repeat(first|exact bJ.refl _|apply bJ.step)⟩
 ·rw[if_neg c2]at H
  have EU:=decide_eq_false c2;clear c2
  by_cases c5:a0≥65
  ·rw[if_pos c5]at H
   have tX:=decide_eq_true c5;clear c5;obtain rfl:=Option.some.inj H;go_enter Tryz.func80,Tryz.ntmps80;go_wp2;go_ret;exact⟨q'c,by repeat(first|exact bJ.refl _|apply bJ.step)⟩
  ·rw[if_neg c5]at H
   have tX:=decide_eq_false c5;clear c5;obtain rfl:=Option.some.inj H;go_enter Tryz.func80,Tryz.ntmps80;go_wp2;go_ret;exact⟨q'c,by repeat(first|exact bJ.refl _|apply bJ.step)⟩
def mE.f(k:Nat)(a0:Bt):Option (Bool):=(dO.f k a0 (⟨#[47,62]⟩:Bt)).bind fun t367=>(if t367=true then(if 0<(a0.size:Int)then((rE.f (bt a0 0)).bind fun t368=>(some t368))else(none))else(some false))
theorem mE.calls(k:Nat)(a0:Bt)(r:Bool)(w:World)(h:mE.f k a0=some r):
 Calls Tryz.prog 30 #[.string a0] w fun e w'=>e=.returned (.bool r)∧bJ w w':=by
 have H:((dO.f k a0 (⟨#[47,62]⟩:Bt)).bind fun t367=>(if t367=true then(if 0<(a0.size:Int)then((rE.f (bt a0 0)).bind fun t368=>(some t368))else(none))else(some false)))=some r:=h;clear h;replace H:=Option.bind_eq_some_iff.mp H;obtain⟨t367,A20,H⟩:=H
 try dsimp only at H
 have A2:=ak.mk A20;clear A20
 by_cases c3:t367=true
 ·subst c3
  rw[if_pos rfl]at H
  try dsimp only at H
  by_cases c4:0<(a0.size:Int)
  ·rw[if_pos c4]at H
   have lY:=decide_eq_true c4;have Ab:decide (0<a0.size)=true:=decide_eq_true (by omega);clear c4;replace H:=Option.bind_eq_some_iff.mp H;obtain⟨t368,A60,H⟩:=H
   try dsimp only at H
   have A6:=ak.mk A60;clear A60;obtain rfl:=Option.some.inj H;go_enter Tryz.func30,Tryz.ntmps30
   go_wp2_with(first|((with_reducible refine bC (f:=79) rfl ?_);refine eG (some 4) rfl rfl Tryz.func79 (by kernel_rfl) rfl #[.string a0,.string (⟨#[47,62]⟩:Bt)] rfl q'a ?_;(with_reducible refine(dO.calls k a0 (⟨#[47,62]⟩:Bt) true _ A2.out).mono ?_);rintro e w' ⟨rfl,⟨nd,rfl⟩⟩;refine⟨_,rfl,?_⟩;have p5:0≤(0:Int):=(by omega);have q5:0<a0.size:=(by have:(0:Int)<(a0.size:Int):=q'b;omega);have hx5:∀h:0<a0.size,((a0[0]'h).toNat:Int)=bt a0 0:=kW a0 0;clear p5;have qi5:(0<(a0.size:Int))=True:=eq_true (q'b);replace q5:=eq_true q5)|(go_at_call 80;(with_reducible refine(rE.calls (bt a0 0) t368 _ A6.out).mono ?_);rintro e w' ⟨rfl,⟨nd,rfl⟩⟩))
   go_ret;exact⟨q'c,by repeat(first|exact bJ.refl _|apply bJ.step)⟩
  ·rw[if_neg c4]at H
   exact absurd H (by simp)
 ·replace c3:=Bool.eq_false_iff.mpr c3
  subst c3;have H1:(some false)=some r:=by rw[if_neg (show¬(false=true) by decide)]at H;first|exact H|(simp only[eq_self]at H⊢;exact H)|(simp only[eq_self,if_true]at H⊢;exact H)
  clear H;have H:=H1;clear H1;obtain rfl:=Option.some.inj H;go_enter Tryz.func30,Tryz.ntmps30
  go_wp2_with(first|((with_reducible refine bC (f:=79) rfl ?_);refine eG (some 4) rfl rfl Tryz.func79 (by kernel_rfl) rfl #[.string a0,.string (⟨#[47,62]⟩:Bt)] rfl q'a ?_;(with_reducible refine(dO.calls k a0 (⟨#[47,62]⟩:Bt) false _ A2.out).mono ?_);rintro e w' ⟨rfl,⟨nd,rfl⟩⟩;refine⟨_,rfl,?_⟩))
  go_ret;exact⟨q'c,by repeat(first|exact bJ.refl _|apply bJ.step)⟩
def o8.f(k:Nat)(a0:Bt):Option (Bool):=(dO.f k a0 (⟨#[47,62,34,39,60,61]⟩:Bt)).bind fun t608=>(some t608)
theorem o8.calls(k:Nat)(a0:Bt)(r:Bool)(w:World)(h:o8.f k a0=some r):
 Calls Tryz.prog 95 #[.string a0] w fun e w'=>e=.returned (.bool r)∧bJ w w':=by
 have H:((dO.f k a0 (⟨#[47,62,34,39,60,61]⟩:Bt)).bind fun t608=>(some t608))=some r:=h;clear h;replace H:=Option.bind_eq_some_iff.mp H;obtain⟨t608,A20,H⟩:=H
 try dsimp only at H
 have A2:=ak.mk A20;clear A20;obtain rfl:=Option.some.inj H;go_enter Tryz.func95,Tryz.ntmps95
 go_wp2_with(first|((with_reducible refine bC (f:=79) rfl ?_);refine eG (some 4) rfl rfl Tryz.func79 (by kernel_rfl) rfl #[.string a0,.string (⟨#[47,62,34,39,60,61]⟩:Bt)] rfl q'a ?_;(with_reducible refine(dO.calls k a0 (⟨#[47,62,34,39,60,61]⟩:Bt) t608 _ A2.out).mono ?_);rintro e w' ⟨rfl,⟨nd,rfl⟩⟩;refine⟨_,rfl,?_⟩))
 go_ret;exact⟨q'c,by repeat(first|exact bJ.refl _|apply bJ.step)⟩
mutual
def dA.j0:Nat→Bool→Int→Int→Bt→Bt→List (S36)→Option (Bool)
 |0,_,_,_,_,_,_=>none
 |k+1,x28,x610000,x610001,x610002,x610003,R4=>if x28=true then(some false)else(dA.l0 k R4 (R4.length:Int) 0)
def dA.l0:Nat→List (S36)→Int→Int→Option (Bool)
 |0,_,_,_=>none
 |k+1,x30,x31,x32=>if x32<x31 then(if 0≤x32 then(if x32<(x30.length:Int)then((o8.f k ((bD x30 x32).f0)).bind fun t616=>(if t616=true then((fB.f ((bD x30 x32).f0)).bind fun t617=>(if t617=true then((fB.f ((bD x30 x32).f1)).bind fun t618=>(if t618=true then(dA.l0 k x30 x31 (wrap64 (x32+1)))else(some false)))else(some false)))else(some false)))else(none))else(none))else(some true)
end
def dA.f(k:Nat)(eD dV:Int)(dH eu:Bt)(bG:List (S36))(l1:List Bt):Option (Bool):=(mE.f k dH).bind fun t610=>(if t610=true then((jB.f k dH).bind fun t611=>(if t611=true then(dA.j0 k true eD dV dH eu bG)else((fB.f dH).bind fun t612=>(if t612=true then((oo.f k dH l1).bind fun t613=>(dA.j0 k (!t613) eD dV dH eu bG))else(dA.j0 k true eD dV dH eu bG)))))else(dA.j0 k true eD dV dH eu bG))
theorem dA.calls(k:Nat)(eD dV:Int)(dH eu:Bt)(iT:Option Addr)(fM:Nat)(bG:List (S36))(A1:Option Addr)(c1:Nat)(l1:List Bt)(r:Bool)(w:World)(zh:Kd.C k36 w iT bG.length bG)(zi:bG.length≤fM)(hr1:Kd.C Kd.string w A1 l1.length l1)(hc1:l1.length≤c1)(h:dA.f k eD dV dH eu bG l1=some r)(hS_:YtkcmghlhpbepcaaGreatDoor.Std w):
 Calls Tryz.prog 49 #[.agg #[.int .i64 eD,.int .i64 dV,.string dH,.string eu,.slice iT bG.length fM],.slice A1 l1.length c1] w fun e w'=>e=.returned (.bool r)∧Below w.heap.size w w':=by
 have HS_:=ak.mk hS_;clear hS_;have hu34:=Tryz.underlying34;have hu36:=Tryz.underlying36;have zl:=ak.mk zh;have ND:=ak.mk zi;clear zh zi;have HR1:=ak.mk hr1;have HC1:=ak.mk hc1;clear hr1 hc1;have HB:=ak.mk (Below.refl w.heap.size w);have H:((mE.f k dH).bind fun t610=>(if t610=true then((jB.f k dH).bind fun t611=>(if t611=true then(dA.j0 k true eD dV dH eu bG)else((fB.f dH).bind fun t612=>(if t612=true then((oo.f k dH l1).bind fun t613=>(dA.j0 k (!t613) eD dV dH eu bG))else(dA.j0 k true eD dV dH eu bG)))))else(dA.j0 k true eD dV dH eu bG)))=some r:=h;clear h;have HC3:=ak.mk H;clear H;go_enter Tryz.func49,Tryz.ntmps49
 go_upto_region 1 with(first|((with_reducible refine cB (N:=2) rfl ?_);refine fH ?hg (N:=2) ?hd (cs:=#[.int .i64 eD,.int .i64 dV,.string dH,.string eu,.slice iT bG.length fM]) (t:=34) ?hr ?_;(case hd=>rfl);(case hg=>rfl);(case hr=>first|(go_simp;done)|(go_simp;rfl));intro fD hg w4 gG hb;have bR:=ak.mk (gG);have GW609:=ak.mk ((by rw[hg];exact(aU bz):w.heap.size≤fD));have jv:=ak.mk ((by rw[hg];exact(aU bz):w.heap.size≤fD));replace HB:=ak.mk (aG bz hb);clear hb gG hg))
 (try simp only[Act.put,List.setIfInBounds_toArray,List.set_cons_zero,List.set_cons_succ])
 go_cut [28] (fun v28 wc=>∃(kq:Nat) (x28_2:Bool),v28=.bool x28_2∧ak (dA.j0 kq x28_2 eD dV dH eu bG=some r)∧ak (kq≤k)∧ak (wc.heap[fD]?=some (.cells #[.int .i64 eD,.int .i64 dV,.string dH,.string eu,(.slice iT bG.length fM)] 34 (0,0)))∧ak (Below w.heap.size w wc))
 case first=>
  have H:=HC3.out;clear HC3;replace H:=Option.bind_eq_some_iff.mp H;obtain⟨t610,A50,H⟩:=H
  try dsimp only at H
  have A5:=ak.mk A50;clear A50
  by_cases c6:t610=true
  ·subst c6
   rw[if_pos rfl]at H
   try dsimp only at H
   replace H:=Option.bind_eq_some_iff.mp H;obtain⟨t611,A70,H⟩:=H
   try dsimp only at H
   have A7:=ak.mk A70;clear A70
   by_cases c8:t611=true
   ·subst c8
    rw[if_pos rfl]at H
    try dsimp only at H
    have H':=ak.mk H;clear H;have xC:w4.cell? ⟨fD,0,none⟩=some (.int .i64 eD):=(aC bR.out 0).trans rfl;have xD:w4.cell? ⟨fD,1,none⟩=some (.int .i64 dV):=(aC bR.out 1).trans rfl;have xE:w4.cell? ⟨fD,2,none⟩=some (.string dH):=(aC bR.out 2).trans rfl;have xF:w4.cell? ⟨fD,3,none⟩=some (.string eu):=(aC bR.out 3).trans rfl;have xG:w4.cell? ⟨fD,4,none⟩=some (.slice iT bG.length fM):=(aC bR.out 4).trans rfl;have xH:=ay bR.out 0;have xI:=ay bR.out 1;have xJ:=ay bR.out 2;have xK:=ay bR.out 3;have xL:=ay bR.out 4
    go_wp2_with(first|((with_reducible refine bC (f:=30) rfl ?_);refine eG (some 9) rfl rfl Tryz.func30 (by kernel_rfl) rfl #[.string dH] rfl q'a ?_;(with_reducible refine(mE.calls k dH true _ A5.out).mono ?_);rintro e w' ⟨rfl,⟨nd,rfl⟩⟩;refine⟨_,rfl,?_⟩)|(go_at_call 34;(with_reducible refine(jB.calls k dH true _ A7.out).mono ?_);rintro e w10 ⟨rfl,hb⟩;replace bR:=ak.mk (dK (g:=fD) (o:=.cells #[.int .i64 eD,.int .i64 dV,.string dH,.string eu,.slice iT bG.length fM] 34 (0,0)) (kz bR.out) hb);replace HB:=ak.mk (aG (bs jv.out) hb);(try clear hb);(try clear hb2);(try clear hk);(try clear hi)))
    go_meet
    case rel=>exact⟨_,(true),q'c,H',⟨by first|omega|exact Nat.le_refl _⟩,⟨kz bR.out⟩,⟨bs jv.out⟩⟩
   ·replace c8:=Bool.eq_false_iff.mpr c8
    subst c8;have H1:((fB.f dH).bind fun t612=>(if t612=true then((oo.f k dH l1).bind fun t613=>(dA.j0 k (!t613) eD dV dH eu bG))else(dA.j0 k true eD dV dH eu bG)))=some r:=by rw[if_neg (show¬(false=true) by decide)]at H;first|exact H|(simp only[eq_self]at H⊢;exact H)|(simp only[eq_self,if_true]at H⊢;exact H)
    clear H;have H:=H1;clear H1;replace H:=Option.bind_eq_some_iff.mp H;obtain⟨t612,A110,H⟩:=H
    try dsimp only at H
    have A11:=ak.mk A110;clear A110
    by_cases c12:t612=true
    ·subst c12
     rw[if_pos rfl]at H
     try dsimp only at H
     replace H:=Option.bind_eq_some_iff.mp H;obtain⟨t613,A130,H⟩:=H
     try dsimp only at H
     have A13:=ak.mk A130;clear A130;have H':=ak.mk H;clear H;have xM:w4.cell? ⟨fD,0,none⟩=some (.int .i64 eD):=(aC bR.out 0).trans rfl;have xO:w4.cell? ⟨fD,1,none⟩=some (.int .i64 dV):=(aC bR.out 1).trans rfl;have xP:w4.cell? ⟨fD,2,none⟩=some (.string dH):=(aC bR.out 2).trans rfl;have xQ:w4.cell? ⟨fD,3,none⟩=some (.string eu):=(aC bR.out 3).trans rfl;have xR:w4.cell? ⟨fD,4,none⟩=some (.slice iT bG.length fM):=(aC bR.out 4).trans rfl;have xS:=ay bR.out 0;have xU:=ay bR.out 1;have xV:=ay bR.out 2;have xW:=ay bR.out 3;have xX:=ay bR.out 4
     go_wp2_with(first|((with_reducible refine bC (f:=30) rfl ?_);refine eG (some 9) rfl rfl Tryz.func30 (by kernel_rfl) rfl #[.string dH] rfl q'a ?_;(with_reducible refine(mE.calls k dH true _ A5.out).mono ?_);rintro e w' ⟨rfl,⟨nd,rfl⟩⟩;refine⟨_,rfl,?_⟩)|(go_at_call 34;(with_reducible refine(jB.calls k dH false _ A7.out).mono ?_);rintro e w15 ⟨rfl,hb⟩;replace bR:=ak.mk (dK (g:=fD) (o:=.cells #[.int .i64 eD,.int .i64 dV,.string dH,.string eu,.slice iT bG.length fM] 34 (0,0)) (kz bR.out) hb);replace HB:=ak.mk (aG (bs jv.out) hb);(try clear hb);(try clear hb2);(try clear hk);(try clear hi);have uF:w15.cell? ⟨fD,0,none⟩=some (.int .i64 eD):=(aC bR.out 0).trans rfl;have uG:w15.cell? ⟨fD,1,none⟩=some (.int .i64 dV):=(aC bR.out 1).trans rfl;have xg:w15.cell? ⟨fD,2,none⟩=some (.string dH):=(aC bR.out 2).trans rfl;have xq:w15.cell? ⟨fD,3,none⟩=some (.string eu):=(aC bR.out 3).trans rfl;have xu:w15.cell? ⟨fD,4,none⟩=some (.slice iT bG.length fM):=(aC bR.out 4).trans rfl;have uH:=ay bR.out 0;have uI:=ay bR.out 1;have xw:=ay bR.out 2;have xA:=ay bR.out 3;have xB:=ay bR.out 4)|(go_at_call 47;(with_reducible refine(fB.calls dH true _ A11.out (YtkcmghlhpbepcaaGreatDoor.Std.below HS_.out (bs jv.out))).mono ?_);rintro e w17 ⟨rfl,hb⟩;replace bR:=ak.mk (dK (g:=fD) (o:=.cells #[.int .i64 eD,.int .i64 dV,.string dH,.string eu,.slice iT bG.length fM] 34 (0,0)) (kz bR.out) hb);replace HB:=ak.mk (aG (bs jv.out) hb);(try clear hb);(try clear hb2);(try clear hk);(try clear hi);have ug:w17.cell? ⟨fD,0,none⟩=some (.int .i64 eD):=(aC bR.out 0).trans rfl;have uh:w17.cell? ⟨fD,1,none⟩=some (.int .i64 dV):=(aC bR.out 1).trans rfl;have uj:w17.cell? ⟨fD,2,none⟩=some (.string dH):=(aC bR.out 2).trans rfl;have um:w17.cell? ⟨fD,3,none⟩=some (.string eu):=(aC bR.out 3).trans rfl;have uo:w17.cell? ⟨fD,4,none⟩=some (.slice iT bG.length fM):=(aC bR.out 4).trans rfl;have uq:=ay bR.out 0;have uw:=ay bR.out 1;have uy:=ay bR.out 2;have uz:=ay bR.out 3;have uD:=ay bR.out 4)|(go_at_call 27;(with_reducible refine(oo.calls k dH _ _ l1 t613 _ ?dI ?dJ A13.out).mono ?_);(case dI=>exact cz (Kd.bT HR1.out HB.out));(case dJ=>exact HC1.out);rintro e w19 ⟨rfl,hb⟩;replace bR:=ak.mk (dK (g:=fD) (o:=.cells #[.int .i64 eD,.int .i64 dV,.string dH,.string eu,.slice iT bG.length fM] 34 (0,0)) (kz bR.out) hb);replace HB:=ak.mk (aG (bs jv.out) hb);(try clear hb);(try clear hb2);(try clear hk);(try clear hi)))
     go_meet
     case rel=>exact⟨_,(!t613),q'c,H',⟨by first|omega|exact Nat.le_refl _⟩,⟨kz bR.out⟩,⟨bs jv.out⟩⟩
    ·replace c12:=Bool.eq_false_iff.mpr c12
     subst c12;have H1:(dA.j0 k true eD dV dH eu bG)=some r:=by rw[if_neg (show¬(false=true) by decide)]at H;first|exact H|(simp only[eq_self]at H⊢;exact H)|(simp only[eq_self,if_true]at H⊢;exact H)
     clear H;have H:=H1;clear H1;have H':=ak.mk H;clear H;have R5:w4.cell? ⟨fD,0,none⟩=some (.int .i64 eD):=(aC bR.out 0).trans rfl;have R6:w4.cell? ⟨fD,1,none⟩=some (.int .i64 dV):=(aC bR.out 1).trans rfl;have R7:w4.cell? ⟨fD,2,none⟩=some (.string dH):=(aC bR.out 2).trans rfl;have R8:w4.cell? ⟨fD,3,none⟩=some (.string eu):=(aC bR.out 3).trans rfl;have R9:w4.cell? ⟨fD,4,none⟩=some (.slice iT bG.length fM):=(aC bR.out 4).trans rfl;have Sb:=ay bR.out 0;have Sd:=ay bR.out 1;have Sg:=ay bR.out 2;have Si:=ay bR.out 3;have Sj:=ay bR.out 4
     go_wp2_with(first|((with_reducible refine bC (f:=30) rfl ?_);refine eG (some 9) rfl rfl Tryz.func30 (by kernel_rfl) rfl #[.string dH] rfl q'a ?_;(with_reducible refine(mE.calls k dH true _ A5.out).mono ?_);rintro e w' ⟨rfl,⟨nd,rfl⟩⟩;refine⟨_,rfl,?_⟩)|(go_at_call 34;(with_reducible refine(jB.calls k dH false _ A7.out).mono ?_);rintro e w21 ⟨rfl,hb⟩;replace bR:=ak.mk (dK (g:=fD) (o:=.cells #[.int .i64 eD,.int .i64 dV,.string dH,.string eu,.slice iT bG.length fM] 34 (0,0)) (kz bR.out) hb);replace HB:=ak.mk (aG (bs jv.out) hb);(try clear hb);(try clear hb2);(try clear hk);(try clear hi);have KC:w21.cell? ⟨fD,0,none⟩=some (.int .i64 eD):=(aC bR.out 0).trans rfl;have KD:w21.cell? ⟨fD,1,none⟩=some (.int .i64 dV):=(aC bR.out 1).trans rfl;have KE:w21.cell? ⟨fD,2,none⟩=some (.string dH):=(aC bR.out 2).trans rfl;have KF:w21.cell? ⟨fD,3,none⟩=some (.string eu):=(aC bR.out 3).trans rfl;have KG:w21.cell? ⟨fD,4,none⟩=some (.slice iT bG.length fM):=(aC bR.out 4).trans rfl;have KH:=ay bR.out 0;have KI:=ay bR.out 1;have KJ:=ay bR.out 2;have KL:=ay bR.out 3;have KM:=ay bR.out 4)|(go_at_call 47;(with_reducible refine(fB.calls dH false _ A11.out (YtkcmghlhpbepcaaGreatDoor.Std.below HS_.out (bs jv.out))).mono ?_);rintro e w23 ⟨rfl,hb⟩;replace bR:=ak.mk (dK (g:=fD) (o:=.cells #[.int .i64 eD,.int .i64 dV,.string dH,.string eu,.slice iT bG.length fM] 34 (0,0)) (kz bR.out) hb);replace HB:=ak.mk (aG (bs jv.out) hb);(try clear hb);(try clear hb2);(try clear hk);(try clear hi)))
     go_meet
     case rel=>exact⟨_,(true),q'c,H',⟨by first|omega|exact Nat.le_refl _⟩,⟨kz bR.out⟩,⟨bs jv.out⟩⟩
  ·replace c6:=Bool.eq_false_iff.mpr c6
   subst c6;have H1:(dA.j0 k true eD dV dH eu bG)=some r:=by rw[if_neg (show¬(false=true) by decide)]at H;first|exact H|(simp only[eq_self]at H⊢;exact H)|(simp only[eq_self,if_true]at H⊢;exact H)
   clear H;have H:=H1;clear H1;have H':=ak.mk H;clear H;have Sk:w4.cell? ⟨fD,0,none⟩=some (.int .i64 eD):=(aC bR.out 0).trans rfl;have Sl:w4.cell? ⟨fD,1,none⟩=some (.int .i64 dV):=(aC bR.out 1).trans rfl;have Sm:w4.cell? ⟨fD,2,none⟩=some (.string dH):=(aC bR.out 2).trans rfl;have Sn:w4.cell? ⟨fD,3,none⟩=some (.string eu):=(aC bR.out 3).trans rfl;have Sq:w4.cell? ⟨fD,4,none⟩=some (.slice iT bG.length fM):=(aC bR.out 4).trans rfl;have Sr:=ay bR.out 0;have Sv:=ay bR.out 1;have Sw:=ay bR.out 2;have Sy:=ay bR.out 3;have Sz:=ay bR.out 4
   go_wp2_with(first|((with_reducible refine bC (f:=30) rfl ?_);refine eG (some 9) rfl rfl Tryz.func30 (by kernel_rfl) rfl #[.string dH] rfl q'a ?_;(with_reducible refine(mE.calls k dH false _ A5.out).mono ?_);rintro e w' ⟨rfl,⟨nd,rfl⟩⟩;refine⟨_,rfl,?_⟩))
   go_meet
   case rel=>exact⟨_,(true),q'c,H',⟨by first|omega|exact Nat.le_refl _⟩,⟨kz bR.out⟩,⟨bs jv.out⟩⟩
 case rest=>
  clear HC3
  try clear c1
  try clear p2
  try clear c3
  try clear c4
  try clear c6
  try clear c8
  try clear c12
  try clear xM
  try clear xO
  try clear xP
  try clear xQ
  try clear xR
  try clear uF
  try clear uG
  try clear xg
  try clear xq
  try clear xu
  try clear ug
  try clear uh
  try clear uj
  try clear um
  try clear uo
  try clear R5
  try clear R6
  try clear R7
  try clear R8
  try clear R9
  try clear KC
  try clear KD
  try clear KE
  try clear KF
  try clear KG
  try clear Sk
  try clear Sl
  try clear Sm
  try clear Sn
  try clear Sq
  try clear xC
  try clear xD
  try clear xE
  try clear xF
  try clear xG
  try clear xS
  try clear xU
  try clear xV
  try clear xW
  try clear xX
  try clear uH
  try clear uI
  try clear xw
  try clear xA
  try clear xB
  try clear uq
  try clear uw
  try clear uy
  try clear uz
  try clear uD
  try clear Sb
  try clear Sd
  try clear Sg
  try clear Si
  try clear Sj
  try clear KH
  try clear KI
  try clear KJ
  try clear KL
  try clear KM
  try clear Sr
  try clear Sv
  try clear Sw
  try clear Sy
  try clear Sz
  try clear xH
  try clear xI
  try clear xJ
  try clear xK
  try clear xL
  obtain⟨kq,x28_2,rfl,HA,HJ2,bR,HB⟩:=hcut;cases kq with
  |zero=>exact absurd HA.out (by simp[dA.j0])
  |succ kj2=>
   have H:=HA.out;clear HA;simp only[dA.j0]at H
   by_cases c25:x28_2=true
   ·subst c25
    rw[if_pos rfl]at H
    try dsimp only at H
    obtain rfl:=Option.some.inj H;go_wp2;go_ret;exact⟨by first|rfl|(simp[aI,aJ]<;>rfl)|(simp[*,aI,aJ]<;>rfl),bs jv.out⟩
   ·replace c25:=Bool.eq_false_iff.mpr c25
    subst c25;have H1:(dA.l0 kj2 bG (bG.length:Int) 0)=some r:=by rw[if_neg (show¬(false=true) by decide)]at H;first|exact H|(simp only[eq_self]at H⊢;exact H)|(simp only[eq_self,if_true]at H⊢;exact H)
    clear H;have H:=H1;clear H1;have H':=ak.mk H;clear H;have Fz:wc.cell? ⟨fD,0,none⟩=some (.int .i64 eD):=(aC bR.out 0).trans rfl;have FB:wc.cell? ⟨fD,1,none⟩=some (.int .i64 dV):=(aC bR.out 1).trans rfl;have SA:wc.cell? ⟨fD,2,none⟩=some (.string dH):=(aC bR.out 2).trans rfl;have SB:wc.cell? ⟨fD,3,none⟩=some (.string eu):=(aC bR.out 3).trans rfl;have SC:wc.cell? ⟨fD,4,none⟩=some (.slice iT bG.length fM):=(aC bR.out 4).trans rfl;have FC:=ay bR.out 0;have FD:=ay bR.out 1;have SE:=ay bR.out 2;have SF:=ay bR.out 3;have SG:=ay bR.out 4;go_wp2
    go_loopg [32] kj2 (fun kq v32 w'=>∃(iI:Int),v32=.int .i64 iI∧ak (dA.l0 kq bG (bG.length:Int) iI=some r)∧ak (kq≤kj2)∧ak (w'.heap[fD]?=some (.cells #[.int .i64 eD,.int .i64 dV,.string dH,.string eu,(.slice iT bG.length fM)] 34 (0,0)))∧ak (Below w.heap.size w w'))
    case atStart=>exact⟨(0),q'c,H',⟨Nat.le_refl _⟩,⟨kz bR.out⟩,⟨bs jv.out⟩⟩
    case round=>
     clear H'
     try clear c1
     try clear c2
     try clear p2
     try clear c3
     try clear c4
     try clear c6
     try clear c8
     try clear c12
     try clear c25
     try clear xM
     try clear xO
     try clear xP
     try clear xQ
     try clear xR
     try clear uF
     try clear uG
     try clear xg
     try clear xq
     try clear xu
     try clear ug
     try clear uh
     try clear uj
     try clear um
     try clear uo
     try clear R5
     try clear R6
     try clear R7
     try clear R8
     try clear R9
     try clear KC
     try clear KD
     try clear KE
     try clear KF
     try clear KG
     try clear Sk
     try clear Sl
     try clear Sm
     try clear Sn
     try clear Sq
     try clear Fz
     try clear FB
     try clear SA
     try clear SB
     try clear SC
     try clear xC
     try clear xD
     try clear xE
     try clear xF
     try clear xG
     try clear xS
     try clear xU
     try clear xV
     try clear xW
     try clear xX
     try clear uH
     try clear uI
     try clear xw
     try clear xA
     try clear xB
     try clear uq
     try clear uw
     try clear uy
     try clear uz
     try clear uD
     try clear Sb
     try clear Sd
     try clear Sg
     try clear Si
     try clear Sj
     try clear KH
     try clear KI
     try clear KJ
     try clear KL
     try clear KM
     try clear Sr
     try clear Sv
     try clear Sw
     try clear Sy
     try clear Sz
     try clear FC
     try clear FD
     try clear SE
     try clear SF
     try clear SG
     try clear xH
     try clear xI
     try clear xJ
     try clear xK
     try clear xL
     try clear p2
     obtain⟨iI,rfl,HA,HK2,bR,HB⟩:=hrel;cases gk with
     |zero=>exact absurd HA.out (by simp[dA.l0])
     |succ k2=>
      have H:=HA.out;clear HA;simp only[dA.l0]at H
      by_cases c27:iI<(bG.length:Int)
      ·rw[if_pos c27]at H
       have c27b0:=decide_eq_true c27;clear c27
       by_cases c28:0≤iI
       ·rw[if_pos c28]at H
        have c28b0:=decide_eq_true c28;clear c28
        by_cases c29:iI<(bG.length:Int)
        ·rw[if_pos c29]at H
         have c29b0:=decide_eq_true c29;clear c29;replace H:=Option.bind_eq_some_iff.mp H;obtain⟨t616,GN,H⟩:=H
         try dsimp only at H
         have A30:=ak.mk GN;clear GN
         by_cases c31:t616=true
         ·subst c31
          rw[if_pos rfl]at H
          try dsimp only at H
          replace H:=Option.bind_eq_some_iff.mp H;obtain⟨t617,A320,H⟩:=H
          try dsimp only at H
          have A32:=ak.mk A320;clear A320
          by_cases c33:t617=true
          ·subst c33
           rw[if_pos rfl]at H
           try dsimp only at H
           replace H:=Option.bind_eq_some_iff.mp H;obtain⟨t618,A340,H⟩:=H
           try dsimp only at H
           have A34:=ak.mk A340;clear A340
           by_cases c35:t618=true
           ·subst c35
            rw[if_pos rfl]at H
            try dsimp only at H
            have H':=ak.mk H;clear H;have AV:0≤(iI:Int):=q'b;have AX:iI<(bG.length:Int):=q'b;obtain⟨pG,e614,mM,mO⟩:=ni zl.out iI AV AX;cases e614;replace mM:=(HB.out.cell (World.block_lt_of_cell? w _ mM)).trans mM;replace mO:=(HB.out.cell (World.block_lt_of_cell? w _ mO)).trans mO;replace AV:=eq_true AV;replace AX:=eq_true AX
            go_wp2_with(first|((with_reducible refine cB (N:=6) rfl ?_);refine fH ?hg (N:=6) ?hd (cs:=#[.string (⟨#[]⟩:Bt),.string (⟨#[]⟩:Bt)]) (t:=36) ?hr ?_;(case hd=>rfl);(case hg=>rfl);(case hr=>first|(go_simp;done)|(go_simp;rfl));intro jO hg w36 gG hb;have jl:=ak.mk (gG);have GW615:=ak.mk ((by rw[hg];exact(aU (bs jv.out)):w.heap.size≤jO));have rG:=ak.mk ((by rw[hg];exact(aU (bs jv.out)):w.heap.size≤jO));have kK:=ak.mk ((by rw[hg];exact Nat.ne_of_lt (iK (g:=fD) (o:=.cells #[.int .i64 eD,.int .i64 dV,.string dH,.string eu,.slice (some pG) bG.length fM] 34 (0,0)) (kz bR.out)):fD≠jO));have qN:=ak.mk ((by rw[hg];exact Nat.ne_of_gt (iK (g:=fD) (o:=.cells #[.int .i64 eD,.int .i64 dV,.string dH,.string eu,.slice (some pG) bG.length fM] 34 (0,0)) (kz bR.out)):jO≠fD));replace bR:=ak.mk (dK (g:=fD) (o:=.cells #[.int .i64 eD,.int .i64 dV,.string dH,.string eu,.slice (some pG) bG.length fM] 34 (0,0)) (kz bR.out) hb);replace HB:=ak.mk (aG (bs jv.out) hb);clear hb gG hg;have hnb37:=qN.out;have hnc37:=kK.out;have hcz38_0:w36.cell? ⟨jO,0,none⟩=some (.string (⟨#[]⟩:Bt)):=(aC jl.out 0).trans rfl;have hcz38_1:w36.cell? ⟨jO,1,none⟩=some (.string (⟨#[]⟩:Bt)):=(aC jl.out 1).trans rfl;have hfz38_0:=ay jl.out 0;have hfz38_1:=ay jl.out 1)|((with_reducible refine bC (f:=95) rfl ?_);refine eG (some 38) rfl rfl Tryz.func95 (by kernel_rfl) rfl #[.string ((bD bG iI).f0)] rfl q'a ?_;(with_reducible refine(o8.calls k2 ((bD bG iI).f0) true _ A30.out).mono ?_);rintro e w' ⟨rfl,⟨nd,rfl⟩⟩;refine⟨_,rfl,?_⟩)|(go_at_call 47;(with_reducible refine(fB.calls ((bD bG iI).f0) true _ A32.out (YtkcmghlhpbepcaaGreatDoor.Std.below HS_.out (by repeat(first|(with_reducible first|exact HB.out|apply dn|apply bE|apply bX|refine aH ?_ jv.out|refine aH ?_ rG.out)|exact HB.out)))).mono ?_);rintro e w39 ⟨rfl,hb⟩;replace bR:=ak.mk (dK (g:=fD) (o:=.cells #[.int .i64 eD,.int .i64 dV,.string dH,.string eu,.slice (some pG) bG.length fM] 34 (0,0)) (by(with_reducible repeat(first|refine aY ?_ _|refine bq ?_ |refine aZ ?_ _));refine nG ?_ kK.out _;(with_reducible repeat(first|refine aY ?_ _|refine bq ?_ |refine aZ ?_ _));refine nG ?_ kK.out _;(with_reducible repeat(first|refine aY ?_ _|refine bq ?_ |refine aZ ?_ _));exact bR.out) hb);replace jl:=ak.mk (dK (g:=jO) (o:=.cells #[.string ((bD bG iI).f0),.string ((bD bG iI).f1)] 36 (0,0)) (by(with_reducible repeat(first|refine aY ?_ _|refine bq ?_ |refine aZ ?_ _));refine bQ (cs:=#[.string ((bD bG iI).f0),.string (⟨#[]⟩:Bt)]) ?_ 1 _ rfl;(with_reducible repeat(first|refine aY ?_ _|refine bq ?_ |refine aZ ?_ _));refine bQ (cs:=#[.string (⟨#[]⟩:Bt),.string (⟨#[]⟩:Bt)]) ?_ 0 _ rfl;(with_reducible repeat(first|refine aY ?_ _|refine bq ?_ |refine aZ ?_ _));exact jl.out) hb);replace HB:=ak.mk (aG (by repeat(first|(with_reducible first|exact HB.out|apply dn|apply bE|apply bX|refine aH ?_ jv.out|refine aH ?_ rG.out)|exact HB.out)) hb);(try clear hb);(try clear hb2);(try clear hk);(try clear hi);have hcz40_0:w39.cell? ⟨jO,0,none⟩=some (.string ((bD bG iI).f0)):=(aC jl.out 0).trans rfl;have hcz40_1:w39.cell? ⟨jO,1,none⟩=some (.string ((bD bG iI).f1)):=(aC jl.out 1).trans rfl;have hfz40_0:=ay jl.out 0;have hfz40_1:=ay jl.out 1)|(go_at_call 47;(with_reducible refine(fB.calls ((bD bG iI).f1) true _ A34.out (YtkcmghlhpbepcaaGreatDoor.Std.below HS_.out (by repeat(first|(with_reducible first|exact HB.out|apply dn|apply bE|apply bX|refine aH ?_ jv.out|refine aH ?_ rG.out)|exact HB.out)))).mono ?_);rintro e w41 ⟨rfl,hb⟩;replace bR:=ak.mk (dK (g:=fD) (o:=.cells #[.int .i64 eD,.int .i64 dV,.string dH,.string eu,.slice (some pG) bG.length fM] 34 (0,0)) (kz bR.out) hb);replace jl:=ak.mk (dK (g:=jO) (o:=.cells #[.string ((bD bG iI).f0),.string ((bD bG iI).f1)] 36 (0,0)) (kz jl.out) hb);replace HB:=ak.mk (aG (by repeat(first|(with_reducible first|exact HB.out|apply dn|apply bE|apply bX|refine aH ?_ jv.out|refine aH ?_ rG.out)|exact HB.out)) hb);(try clear hb);(try clear hb2);(try clear hk);(try clear hi)))
            go_roundg k2
            case measure=>have:=HJ2.out;have:=HK2.out;omega
            case rel=>exact⟨(wrap64 (iI+1)),q'c,H',⟨by have:=HJ2.out;have:=HK2.out;omega⟩,⟨kz bR.out⟩,⟨by repeat(first|(with_reducible first|exact HB.out|apply dn|apply bE|apply bX|refine aH ?_ jv.out|refine aH ?_ rG.out)|exact HB.out)⟩⟩
           ·replace c35:=Bool.eq_false_iff.mpr c35
            subst c35;have H1:(some false)=some r:=by rw[if_neg (show¬(false=true) by decide)]at H;first|exact H|(simp only[eq_self]at H⊢;exact H)|(simp only[eq_self,if_true]at H⊢;exact H)
            clear H;have H:=H1;clear H1;obtain rfl:=Option.some.inj H;have AV:0≤(iI:Int):=q'b;have AX:iI<(bG.length:Int):=q'b;obtain⟨pG,e614,mM,mO⟩:=ni zl.out iI AV AX;cases e614;replace mM:=(HB.out.cell (World.block_lt_of_cell? w _ mM)).trans mM;replace mO:=(HB.out.cell (World.block_lt_of_cell? w _ mO)).trans mO;replace AV:=eq_true AV;replace AX:=eq_true AX
            go_wp2_with(first|((with_reducible refine cB (N:=6) rfl ?_);refine fH ?hg (N:=6) ?hd (cs:=#[.string (⟨#[]⟩:Bt),.string (⟨#[]⟩:Bt)]) (t:=36) ?hr ?_;(case hd=>rfl);(case hg=>rfl);(case hr=>first|(go_simp;done)|(go_simp;rfl));intro jO hg w42 gG hb;have jl:=ak.mk (gG);have GW615:=ak.mk ((by rw[hg];exact(aU (bs jv.out)):w.heap.size≤jO));have rG:=ak.mk ((by rw[hg];exact(aU (bs jv.out)):w.heap.size≤jO));have kK:=ak.mk ((by rw[hg];exact Nat.ne_of_lt (iK (g:=fD) (o:=.cells #[.int .i64 eD,.int .i64 dV,.string dH,.string eu,.slice (some pG) bG.length fM] 34 (0,0)) (kz bR.out)):fD≠jO));have qN:=ak.mk ((by rw[hg];exact Nat.ne_of_gt (iK (g:=fD) (o:=.cells #[.int .i64 eD,.int .i64 dV,.string dH,.string eu,.slice (some pG) bG.length fM] 34 (0,0)) (kz bR.out)):jO≠fD));replace bR:=ak.mk (dK (g:=fD) (o:=.cells #[.int .i64 eD,.int .i64 dV,.string dH,.string eu,.slice (some pG) bG.length fM] 34 (0,0)) (kz bR.out) hb);replace HB:=ak.mk (aG (bs jv.out) hb);clear hb gG hg;have hnb43:=qN.out;have hnc43:=kK.out;have hcz44_0:w42.cell? ⟨jO,0,none⟩=some (.string (⟨#[]⟩:Bt)):=(aC jl.out 0).trans rfl;have hcz44_1:w42.cell? ⟨jO,1,none⟩=some (.string (⟨#[]⟩:Bt)):=(aC jl.out 1).trans rfl;have hfz44_0:=ay jl.out 0;have hfz44_1:=ay jl.out 1)|((with_reducible refine bC (f:=95) rfl ?_);refine eG (some 38) rfl rfl Tryz.func95 (by kernel_rfl) rfl #[.string ((bD bG iI).f0)] rfl q'a ?_;(with_reducible refine(o8.calls k2 ((bD bG iI).f0) true _ A30.out).mono ?_);rintro e w' ⟨rfl,⟨nd,rfl⟩⟩;refine⟨_,rfl,?_⟩)|(go_at_call 47;(with_reducible refine(fB.calls ((bD bG iI).f0) true _ A32.out (YtkcmghlhpbepcaaGreatDoor.Std.below HS_.out (by repeat(first|(with_reducible first|exact HB.out|apply dn|apply bE|apply bX|refine aH ?_ jv.out|refine aH ?_ rG.out)|exact HB.out)))).mono ?_);rintro e w45 ⟨rfl,hb⟩;replace bR:=ak.mk (dK (g:=fD) (o:=.cells #[.int .i64 eD,.int .i64 dV,.string dH,.string eu,.slice (some pG) bG.length fM] 34 (0,0)) (by(with_reducible repeat(first|refine aY ?_ _|refine bq ?_ |refine aZ ?_ _));refine nG ?_ kK.out _;(with_reducible repeat(first|refine aY ?_ _|refine bq ?_ |refine aZ ?_ _));refine nG ?_ kK.out _;(with_reducible repeat(first|refine aY ?_ _|refine bq ?_ |refine aZ ?_ _));exact bR.out) hb);replace jl:=ak.mk (dK (g:=jO) (o:=.cells #[.string ((bD bG iI).f0),.string ((bD bG iI).f1)] 36 (0,0)) (by(with_reducible repeat(first|refine aY ?_ _|refine bq ?_ |refine aZ ?_ _));refine bQ (cs:=#[.string ((bD bG iI).f0),.string (⟨#[]⟩:Bt)]) ?_ 1 _ rfl;(with_reducible repeat(first|refine aY ?_ _|refine bq ?_ |refine aZ ?_ _));refine bQ (cs:=#[.string (⟨#[]⟩:Bt),.string (⟨#[]⟩:Bt)]) ?_ 0 _ rfl;(with_reducible repeat(first|refine aY ?_ _|refine bq ?_ |refine aZ ?_ _));exact jl.out) hb);replace HB:=ak.mk (aG (by repeat(first|(with_reducible first|exact HB.out|apply dn|apply bE|apply bX|refine aH ?_ jv.out|refine aH ?_ rG.out)|exact HB.out)) hb);(try clear hb);(try clear hb2);(try clear hk);(try clear hi);have hcz46_0:w45.cell? ⟨jO,0,none⟩=some (.string ((bD bG iI).f0)):=(aC jl.out 0).trans rfl;have hcz46_1:w45.cell? ⟨jO,1,none⟩=some (.string ((bD bG iI).f1)):=(aC jl.out 1).trans rfl;have hfz46_0:=ay jl.out 0;have hfz46_1:=ay jl.out 1)|(go_at_call 47;(with_reducible refine(fB.calls ((bD bG iI).f1) false _ A34.out (YtkcmghlhpbepcaaGreatDoor.Std.below HS_.out (by repeat(first|(with_reducible first|exact HB.out|apply dn|apply bE|apply bX|refine aH ?_ jv.out|refine aH ?_ rG.out)|exact HB.out)))).mono ?_);rintro e w47 ⟨rfl,hb⟩;replace bR:=ak.mk (dK (g:=fD) (o:=.cells #[.int .i64 eD,.int .i64 dV,.string dH,.string eu,.slice (some pG) bG.length fM] 34 (0,0)) (kz bR.out) hb);replace jl:=ak.mk (dK (g:=jO) (o:=.cells #[.string ((bD bG iI).f0),.string ((bD bG iI).f1)] 36 (0,0)) (kz jl.out) hb);replace HB:=ak.mk (aG (by repeat(first|(with_reducible first|exact HB.out|apply dn|apply bE|apply bX|refine aH ?_ jv.out|refine aH ?_ rG.out)|exact HB.out)) hb);(try clear hb);(try clear hb2);(try clear hk);(try clear hi)))
            go_ret;exact⟨by first|rfl|(simp[aI,aJ]<;>rfl)|(simp[*,aI,aJ]<;>rfl),by repeat(first|(with_reducible first|exact HB.out|apply dn|apply bE|apply bX|refine aH ?_ jv.out|refine aH ?_ rG.out)|exact HB.out)⟩
          ·replace c33:=Bool.eq_false_iff.mpr c33
           subst c33;have H1:(some false)=some r:=by rw[if_neg (show¬(false=true) by decide)]at H;first|exact H|(simp only[eq_self]at H⊢;exact H)|(simp only[eq_self,if_true]at H⊢;exact H)
           clear H;have H:=H1;clear H1;obtain rfl:=Option.some.inj H;have AV:0≤(iI:Int):=q'b;have AX:iI<(bG.length:Int):=q'b;obtain⟨pG,e614,mM,mO⟩:=ni zl.out iI AV AX;cases e614;replace mM:=(HB.out.cell (World.block_lt_of_cell? w _ mM)).trans mM;replace mO:=(HB.out.cell (World.block_lt_of_cell? w _ mO)).trans mO;replace AV:=eq_true AV;replace AX:=eq_true AX
           go_wp2_with(first|((with_reducible refine cB (N:=6) rfl ?_);refine fH ?hg (N:=6) ?hd (cs:=#[.string (⟨#[]⟩:Bt),.string (⟨#[]⟩:Bt)]) (t:=36) ?hr ?_;(case hd=>rfl);(case hg=>rfl);(case hr=>first|(go_simp;done)|(go_simp;rfl));intro jO hg w48 gG hb;have jl:=ak.mk (gG);have GW615:=ak.mk ((by rw[hg];exact(aU (bs jv.out)):w.heap.size≤jO));have rG:=ak.mk ((by rw[hg];exact(aU (bs jv.out)):w.heap.size≤jO));have kK:=ak.mk ((by rw[hg];exact Nat.ne_of_lt (iK (g:=fD) (o:=.cells #[.int .i64 eD,.int .i64 dV,.string dH,.string eu,.slice (some pG) bG.length fM] 34 (0,0)) (kz bR.out)):fD≠jO));have qN:=ak.mk ((by rw[hg];exact Nat.ne_of_gt (iK (g:=fD) (o:=.cells #[.int .i64 eD,.int .i64 dV,.string dH,.string eu,.slice (some pG) bG.length fM] 34 (0,0)) (kz bR.out)):jO≠fD));replace bR:=ak.mk (dK (g:=fD) (o:=.cells #[.int .i64 eD,.int .i64 dV,.string dH,.string eu,.slice (some pG) bG.length fM] 34 (0,0)) (kz bR.out) hb);replace HB:=ak.mk (aG (bs jv.out) hb);clear hb gG hg;have hnb49:=qN.out;have hnc49:=kK.out;have hcz50_0:w48.cell? ⟨jO,0,none⟩=some (.string (⟨#[]⟩:Bt)):=(aC jl.out 0).trans rfl;have hcz50_1:w48.cell? ⟨jO,1,none⟩=some (.string (⟨#[]⟩:Bt)):=(aC jl.out 1).trans rfl;have hfz50_0:=ay jl.out 0;have hfz50_1:=ay jl.out 1)|((with_reducible refine bC (f:=95) rfl ?_);refine eG (some 38) rfl rfl Tryz.func95 (by kernel_rfl) rfl #[.string ((bD bG iI).f0)] rfl q'a ?_;(with_reducible refine(o8.calls k2 ((bD bG iI).f0) true _ A30.out).mono ?_);rintro e w' ⟨rfl,⟨nd,rfl⟩⟩;refine⟨_,rfl,?_⟩)|(go_at_call 47;(with_reducible refine(fB.calls ((bD bG iI).f0) false _ A32.out (YtkcmghlhpbepcaaGreatDoor.Std.below HS_.out (by repeat(first|(with_reducible first|exact HB.out|apply dn|apply bE|apply bX|refine aH ?_ jv.out|refine aH ?_ rG.out)|exact HB.out)))).mono ?_);rintro e w51 ⟨rfl,hb⟩;replace bR:=ak.mk (dK (g:=fD) (o:=.cells #[.int .i64 eD,.int .i64 dV,.string dH,.string eu,.slice (some pG) bG.length fM] 34 (0,0)) (by(with_reducible repeat(first|refine aY ?_ _|refine bq ?_ |refine aZ ?_ _));refine nG ?_ kK.out _;(with_reducible repeat(first|refine aY ?_ _|refine bq ?_ |refine aZ ?_ _));refine nG ?_ kK.out _;(with_reducible repeat(first|refine aY ?_ _|refine bq ?_ |refine aZ ?_ _));exact bR.out) hb);replace jl:=ak.mk (dK (g:=jO) (o:=.cells #[.string ((bD bG iI).f0),.string ((bD bG iI).f1)] 36 (0,0)) (by(with_reducible repeat(first|refine aY ?_ _|refine bq ?_ |refine aZ ?_ _));refine bQ (cs:=#[.string ((bD bG iI).f0),.string (⟨#[]⟩:Bt)]) ?_ 1 _ rfl;(with_reducible repeat(first|refine aY ?_ _|refine bq ?_ |refine aZ ?_ _));refine bQ (cs:=#[.string (⟨#[]⟩:Bt),.string (⟨#[]⟩:Bt)]) ?_ 0 _ rfl;(with_reducible repeat(first|refine aY ?_ _|refine bq ?_ |refine aZ ?_ _));exact jl.out) hb);replace HB:=ak.mk (aG (by repeat(first|(with_reducible first|exact HB.out|apply dn|apply bE|apply bX|refine aH ?_ jv.out|refine aH ?_ rG.out)|exact HB.out)) hb);(try clear hb);(try clear hb2);(try clear hk);(try clear hi)))
           go_ret;exact⟨by first|rfl|(simp[aI,aJ]<;>rfl)|(simp[*,aI,aJ]<;>rfl),by repeat(first|(with_reducible first|exact HB.out|apply dn|apply bE|apply bX|refine aH ?_ jv.out|refine aH ?_ rG.out)|exact HB.out)⟩
         ·replace c31:=Bool.eq_false_iff.mpr c31
          subst c31;have H1:(some false)=some r:=by rw[if_neg (show¬(false=true) by decide)]at H;first|exact H|(simp only[eq_self]at H⊢;exact H)|(simp only[eq_self,if_true]at H⊢;exact H)
          clear H;have H:=H1;clear H1;obtain rfl:=Option.some.inj H;have AV:0≤(iI:Int):=q'b;have AX:iI<(bG.length:Int):=q'b;obtain⟨pG,e614,mM,mO⟩:=ni zl.out iI AV AX;cases e614;replace mM:=(HB.out.cell (World.block_lt_of_cell? w _ mM)).trans mM;replace mO:=(HB.out.cell (World.block_lt_of_cell? w _ mO)).trans mO;replace AV:=eq_true AV;replace AX:=eq_true AX
          go_wp2_with(first|((with_reducible refine cB (N:=6) rfl ?_);refine fH ?hg (N:=6) ?hd (cs:=#[.string (⟨#[]⟩:Bt),.string (⟨#[]⟩:Bt)]) (t:=36) ?hr ?_;(case hd=>rfl);(case hg=>rfl);(case hr=>first|(go_simp;done)|(go_simp;rfl));intro jO hg w52 gG hb;have jl:=ak.mk (gG);have GW615:=ak.mk ((by rw[hg];exact(aU (bs jv.out)):w.heap.size≤jO));have rG:=ak.mk ((by rw[hg];exact(aU (bs jv.out)):w.heap.size≤jO));have kK:=ak.mk ((by rw[hg];exact Nat.ne_of_lt (iK (g:=fD) (o:=.cells #[.int .i64 eD,.int .i64 dV,.string dH,.string eu,.slice (some pG) bG.length fM] 34 (0,0)) (kz bR.out)):fD≠jO));have qN:=ak.mk ((by rw[hg];exact Nat.ne_of_gt (iK (g:=fD) (o:=.cells #[.int .i64 eD,.int .i64 dV,.string dH,.string eu,.slice (some pG) bG.length fM] 34 (0,0)) (kz bR.out)):jO≠fD));replace bR:=ak.mk (dK (g:=fD) (o:=.cells #[.int .i64 eD,.int .i64 dV,.string dH,.string eu,.slice (some pG) bG.length fM] 34 (0,0)) (kz bR.out) hb);replace HB:=ak.mk (aG (bs jv.out) hb);clear hb gG hg;have hnb53:=qN.out;have hnc53:=kK.out;have hcz54_0:w52.cell? ⟨jO,0,none⟩=some (.string (⟨#[]⟩:Bt)):=(aC jl.out 0).trans rfl;have hcz54_1:w52.cell? ⟨jO,1,none⟩=some (.string (⟨#[]⟩:Bt)):=(aC jl.out 1).trans rfl;have hfz54_0:=ay jl.out 0;have hfz54_1:=ay jl.out 1)|((with_reducible refine bC (f:=95) rfl ?_);refine eG (some 38) rfl rfl Tryz.func95 (by kernel_rfl) rfl #[.string ((bD bG iI).f0)] rfl q'a ?_;(with_reducible refine(o8.calls k2 ((bD bG iI).f0) false _ A30.out).mono ?_);rintro e w' ⟨rfl,⟨nd,rfl⟩⟩;refine⟨_,rfl,?_⟩))
          go_ret;exact⟨by first|rfl|(simp[aI,aJ]<;>rfl)|(simp[*,aI,aJ]<;>rfl),by repeat(first|(with_reducible first|exact HB.out|apply dn|apply bE|apply bX|refine aH ?_ jv.out|refine aH ?_ rG.out)|exact HB.out)⟩
        ·rw[if_neg c29]at H
         exact absurd H (by simp)
       ·rw[if_neg c28]at H
        exact absurd H (by simp)
      ·rw[if_neg c27]at H
       have c27b0:=decide_eq_false c27;clear c27;obtain rfl:=Option.some.inj H;go_wp2;go_ret;exact⟨by first|rfl|(simp[aI,aJ]<;>rfl)|(simp[*,aI,aJ]<;>rfl),bs jv.out⟩
end Go.Proofs.aj.W7
