/- Lemmas and walks, part 31. -/
import Derived.Test.YtkcmghlhpbepcaaGreatDoorNB30
set_option linter.unusedVariables false
set_option linter.unusedSimpArgs false
set_option maxHeartbeats 8000000
set_option maxRecDepth 100000
namespace Go.Proofs.aj.W7
open Go.RowKit Go.Proofs.ah.aD Go.Proofs.ah.bH Go.Proofs.ah.bV
attribute [local go_sem] dA dB dP dQ bY bZ dD dF
mutual
def dh.l0:Nat→ByteArray→ByteArray→Int→Int→Option (Bool)
 |0,_,_,_,_=>none
 |k+1,x0,x1,x8,x9=>if x9<x8 then(if 0≤x9 then(if x9<(x0.size:Int)then((iT.f (bt x0 x9)).bind fun t366=>(if t366=true then(dh.j1 k x0 x1 x9 x8 x9 true)else(if(bt x0 x9)≥65 then(if(bt x0 x9)≤90 then(dh.j1 k x0 x1 x9 x8 x9 true)else(dh.j1 k x0 x1 x9 x8 x9 ((bt x0 x9)==0)))else(dh.j1 k x0 x1 x9 x8 x9 ((bt x0 x9)==0)))))else(none))else(none))else(some (x0.toList !=([] :List UInt8)))
def dh.j1:Nat→ByteArray→ByteArray→Int→Int→Int→Bool→Option (Bool)
 |0,_,_,_,_,_,_=>none
 |k+1,x0,x1,x5,x8,x9,x33=>if x33=true then(some false)else(dh.l1 k x0 x1 x5 x8 x9 (x1.size:Int) 0)
def dh.l1:Nat→ByteArray→ByteArray→Int→Int→Int→Int→Int→Option (Bool)
 |0,_,_,_,_,_,_,_=>none
 |k+1,x0,x1,x5,x8,x9,x35,x36=>if x36<x35 then(if 0≤x5 then(if x5<(x0.size:Int)then(if 0≤x36 then(if x36<(x1.size:Int)then(if(bt x0 x5)=(bt x1 x36)then(some false)else(dh.l1 k x0 x1 x5 x8 x9 x35 (wrap64 (x36+1))))else(none))else(none))else(none))else(none))else(dh.l0 k x0 x1 x8 (wrap64 (x9+1)))
end
def dh.f(k:Nat)(a0 a1:ByteArray):Option (Bool):=dh.l0 k a0 a1 (a0.size:Int) 0
theorem dh.calls(k:Nat)(a0 a1:ByteArray)(r:Bool)(w:World)(h:dh.f k a0 a1=some r):
 Calls Tryz.prog 79 #[.string a0,.string a1] w fun e w'=>e=.returned (.bool r)∧bN w w':=by
 have H:(dh.l0 k a0 a1 (a0.size:Int) 0)=some r:=h;clear h;have H':=ak.mk H;clear H;go_enter Tryz.func79,Tryz.ntmps79;go_wp2
 repeat(go_quiet (fail);try go_wp2)
 go_loopg [9] k (fun kq v9 w'=>∃(dw:Int),v9=.int .i64 dw∧ak (dh.l0 kq a0 a1 (a0.size:Int) dw=some r)∧ak (kq≤k)∧bN w w')
 case atStart=>exact⟨(0),q'c,H',⟨Nat.le_refl _⟩,by repeat(first|exact bN.refl _|apply bN.step)⟩
 case round=>
  clear H'
  try clear p2
  obtain⟨dw,rfl,HA,HK1,⟨m1,rfl⟩⟩:=hrel;cases gk with
  |zero=>exact absurd HA.out (by simp[dh.l0])
  |succ k1=>
   have H:=HA.out;clear HA;simp only[dh.l0]at H
   by_cases c3:dw<(a0.size:Int)
   ·rw[if_pos c3]at H
    have nC:decide (dw<(a0.size:Int))=true:=decide_eq_true c3;clear c3;have HC4:=ak.mk H;clear H
    go_upto_region 4 with(fail)
    repeat(go_quiet (fail);go_upto_region 4 with(fail))
    go_cut [33] (fun v33 wc=>∃(kq:Nat) (x33_3:Bool),v33=.bool x33_3∧ak (dh.j1 kq a0 a1 dw (a0.size:Int) dw x33_3=some r)∧ak (kq≤k1)∧bN w wc)
    case first=>
     have H:=HC4.out;clear HC4
     by_cases c5:0≤dw
     ·rw[if_pos c5]at H
      have uf:decide (0≤dw)=true:=decide_eq_true c5;clear c5
      (first|rw[uf] |(simp only[oD,oF];rw[uf])|skip)
      by_cases c6:dw<(a0.size:Int)
      ·rw[if_pos c6]at H
       have zm:decide (dw<(a0.size:Int))=true:=decide_eq_true c6;clear c6;replace H:=Option.bind_eq_some_iff.mp H;obtain⟨t366,A80,H⟩:=H;replace H:(if t366=true then(dh.j1 k1 a0 a1 dw (a0.size:Int) dw true)else(if(bt a0 dw)≥65 then(if(bt a0 dw)≤90 then(dh.j1 k1 a0 a1 dw (a0.size:Int) dw true)else(dh.j1 k1 a0 a1 dw (a0.size:Int) dw ((bt a0 dw)==0)))else(dh.j1 k1 a0 a1 dw (a0.size:Int) dw ((bt a0 dw)==0))))=some r:=H;have A8:=ak.mk A80;clear A80
       by_cases c9:t366=true
       ·subst c9
        have H1:(dh.j1 k1 a0 a1 dw (a0.size:Int) dw true)=some r:=by rw[if_pos rfl]at H;exact H
        clear H;have H:=H1;clear H1;have H':=ak.mk H;clear H;have p7:0≤(dw:Int):=q'b;have q7:dw<(a0.size:Int):=q'b;have hx7:=kg a0 dw;replace p7:=eq_true p7;replace q7:=eq_true q7
        go_wp2_with(first|(go_at_call 128;(with_reducible refine(iT.calls (bt a0 dw) true _ A8.out).mono ?_);rintro e w' ⟨rfl,⟨nd,rfl⟩⟩;(try first|exact⟨rfl,_,World.drewN_drewN _ _ _⟩|exact⟨rfl,_,Eq.trans (World.drewN_drewN _ _ _) (congrArg (World.drewN _) (Nat.add_assoc _ _ _))⟩)))
        repeat(go_quiet (first|(go_at_call 128;(with_reducible refine(iT.calls (bt a0 dw) true _ A8.out).mono ?_);rintro e w' ⟨rfl,⟨nd,rfl⟩⟩;(try first|exact⟨rfl,_,World.drewN_drewN _ _ _⟩|exact⟨rfl,_,Eq.trans (World.drewN_drewN _ _ _) (congrArg (World.drewN _) (Nat.add_assoc _ _ _))⟩)));try go_wp2_with(first|(go_at_call 128;(with_reducible refine(iT.calls (bt a0 dw) true _ A8.out).mono ?_);rintro e w' ⟨rfl,⟨nd,rfl⟩⟩;(try first|exact⟨rfl,_,World.drewN_drewN _ _ _⟩|exact⟨rfl,_,Eq.trans (World.drewN_drewN _ _ _) (congrArg (World.drewN _) (Nat.add_assoc _ _ _))⟩))))
        go_meet
        case rel=>exact⟨_,(true),q'c,H',⟨by have:=HK1.out;first|omega|exact Nat.le_refl _⟩,by repeat(first|exact bN.refl _|apply bN.step)⟩
       ·replace c9:=Bool.eq_false_iff.mpr c9
        subst c9;have H1:(if(bt a0 dw)≥65 then(if(bt a0 dw)≤90 then(dh.j1 k1 a0 a1 dw (a0.size:Int) dw true)else(dh.j1 k1 a0 a1 dw (a0.size:Int) dw ((bt a0 dw)==0)))else(dh.j1 k1 a0 a1 dw (a0.size:Int) dw ((bt a0 dw)==0)))=some r:=by rw[if_neg (show¬(false=true) by decide)]at H;first|exact H|(simp only[eq_self]at H⊢;exact H)|(simp only[eq_self,if_true]at H⊢;exact H)
        clear H;have H:=H1;clear H1
        by_cases c11:(bt a0 dw)≥65
        ·rw[if_pos c11]at H
         have c11b0:decide (65≤(bt a0 dw))=true:=decide_eq_true c11;clear c11
         by_cases c13:(bt a0 dw)≤90
         ·rw[if_pos c13]at H
          have tY:decide ((bt a0 dw)≤90)=true:=decide_eq_true c13;clear c13;have H':=ak.mk H;clear H;have p7:0≤(dw:Int):=q'b;have q7:dw<(a0.size:Int):=q'b;have hx7:=kg a0 dw;replace p7:=eq_true p7;replace q7:=eq_true q7
          go_wp2_with(first|(go_at_call 128;(with_reducible refine(iT.calls (bt a0 dw) false _ A8.out).mono ?_);rintro e w' ⟨rfl,⟨nd,rfl⟩⟩;(try first|exact⟨rfl,_,World.drewN_drewN _ _ _⟩|exact⟨rfl,_,Eq.trans (World.drewN_drewN _ _ _) (congrArg (World.drewN _) (Nat.add_assoc _ _ _))⟩);have p10:0≤(dw:Int):=q'b;have q10:dw<(a0.size:Int):=q'b;have hx10:=kg a0 dw;replace p10:=eq_true p10;replace q10:=eq_true q10;have p12:0≤(dw:Int):=q'b;have q12:dw<(a0.size:Int):=q'b;have hx12:=kg a0 dw;replace p12:=eq_true p12;replace q12:=eq_true q12))
          repeat(go_quiet (first|(go_at_call 128;(with_reducible refine(iT.calls (bt a0 dw) false _ A8.out).mono ?_);rintro e w' ⟨rfl,⟨nd,rfl⟩⟩;(try first|exact⟨rfl,_,World.drewN_drewN _ _ _⟩|exact⟨rfl,_,Eq.trans (World.drewN_drewN _ _ _) (congrArg (World.drewN _) (Nat.add_assoc _ _ _))⟩);have p10:0≤(dw:Int):=q'b;have q10:dw<(a0.size:Int):=q'b;have hx10:=kg a0 dw;replace p10:=eq_true p10;replace q10:=eq_true q10;have p12:0≤(dw:Int):=q'b;have q12:dw<(a0.size:Int):=q'b;have hx12:=kg a0 dw;replace p12:=eq_true p12;replace q12:=eq_true q12));try go_wp2_with(first|(go_at_call 128;(with_reducible refine(iT.calls (bt a0 dw) false _ A8.out).mono ?_);rintro e w' ⟨rfl,⟨nd,rfl⟩⟩;(try first|exact⟨rfl,_,World.drewN_drewN _ _ _⟩|exact⟨rfl,_,Eq.trans (World.drewN_drewN _ _ _) (congrArg (World.drewN _) (Nat.add_assoc _ _ _))⟩);have p10:0≤(dw:Int):=q'b;have q10:dw<(a0.size:Int):=q'b;have hx10:=kg a0 dw;replace p10:=eq_true p10;replace q10:=eq_true q10;have p12:0≤(dw:Int):=q'b;have q12:dw<(a0.size:Int):=q'b;have hx12:=kg a0 dw;replace p12:=eq_true p12;replace q12:=eq_true q12)))
          go_meet
          case rel=>exact⟨_,(true),q'c,H',⟨by have:=HK1.out;first|omega|exact Nat.le_refl _⟩,by repeat(first|exact bN.refl _|apply bN.step)⟩
         ·rw[if_neg c13]at H
          have tY:decide ((bt a0 dw)≤90)=false:=decide_eq_false c13;clear c13;have H':=ak.mk H;clear H;have p7:0≤(dw:Int):=q'b;have q7:dw<(a0.size:Int):=q'b;have hx7:=kg a0 dw;replace p7:=eq_true p7;replace q7:=eq_true q7
          go_wp2_with(first|(go_at_call 128;(with_reducible refine(iT.calls (bt a0 dw) false _ A8.out).mono ?_);rintro e w' ⟨rfl,⟨nd,rfl⟩⟩;(try first|exact⟨rfl,_,World.drewN_drewN _ _ _⟩|exact⟨rfl,_,Eq.trans (World.drewN_drewN _ _ _) (congrArg (World.drewN _) (Nat.add_assoc _ _ _))⟩);have p10:0≤(dw:Int):=q'b;have q10:dw<(a0.size:Int):=q'b;have hx10:=kg a0 dw;replace p10:=eq_true p10;replace q10:=eq_true q10;have p12:0≤(dw:Int):=q'b;have q12:dw<(a0.size:Int):=q'b;have hx12:=kg a0 dw;replace p12:=eq_true p12;replace q12:=eq_true q12;have p14:0≤(dw:Int):=q'b;have q14:dw<(a0.size:Int):=q'b;have hx14:=kg a0 dw;replace p14:=eq_true p14;replace q14:=eq_true q14))
          repeat(go_quiet (first|(go_at_call 128;(with_reducible refine(iT.calls (bt a0 dw) false _ A8.out).mono ?_);rintro e w' ⟨rfl,⟨nd,rfl⟩⟩;(try first|exact⟨rfl,_,World.drewN_drewN _ _ _⟩|exact⟨rfl,_,Eq.trans (World.drewN_drewN _ _ _) (congrArg (World.drewN _) (Nat.add_assoc _ _ _))⟩);have p10:0≤(dw:Int):=q'b;have q10:dw<(a0.size:Int):=q'b;have hx10:=kg a0 dw;replace p10:=eq_true p10;replace q10:=eq_true q10;have p12:0≤(dw:Int):=q'b;have q12:dw<(a0.size:Int):=q'b;have hx12:=kg a0 dw;replace p12:=eq_true p12;replace q12:=eq_true q12;have p14:0≤(dw:Int):=q'b;have q14:dw<(a0.size:Int):=q'b;have hx14:=kg a0 dw;replace p14:=eq_true p14;replace q14:=eq_true q14));try go_wp2_with(first|(go_at_call 128;(with_reducible refine(iT.calls (bt a0 dw) false _ A8.out).mono ?_);rintro e w' ⟨rfl,⟨nd,rfl⟩⟩;(try first|exact⟨rfl,_,World.drewN_drewN _ _ _⟩|exact⟨rfl,_,Eq.trans (World.drewN_drewN _ _ _) (congrArg (World.drewN _) (Nat.add_assoc _ _ _))⟩);have p10:0≤(dw:Int):=q'b;have q10:dw<(a0.size:Int):=q'b;have hx10:=kg a0 dw;replace p10:=eq_true p10;replace q10:=eq_true q10;have p12:0≤(dw:Int):=q'b;have q12:dw<(a0.size:Int):=q'b;have hx12:=kg a0 dw;replace p12:=eq_true p12;replace q12:=eq_true q12;have p14:0≤(dw:Int):=q'b;have q14:dw<(a0.size:Int):=q'b;have hx14:=kg a0 dw;replace p14:=eq_true p14;replace q14:=eq_true q14)))
          go_meet
          case rel=>exact⟨_,(((bt a0 dw)==0)),q'c,H',⟨by have:=HK1.out;first|omega|exact Nat.le_refl _⟩,by repeat(first|exact bN.refl _|apply bN.step)⟩
        ·rw[if_neg c11]at H
         have c11b0:decide (65≤(bt a0 dw))=false:=decide_eq_false c11;clear c11;have H':=ak.mk H;clear H;have p7:0≤(dw:Int):=q'b;have q7:dw<(a0.size:Int):=q'b;have hx7:=kg a0 dw;replace p7:=eq_true p7;replace q7:=eq_true q7
         go_wp2_with(first|(go_at_call 128;(with_reducible refine(iT.calls (bt a0 dw) false _ A8.out).mono ?_);rintro e w' ⟨rfl,⟨nd,rfl⟩⟩;(try first|exact⟨rfl,_,World.drewN_drewN _ _ _⟩|exact⟨rfl,_,Eq.trans (World.drewN_drewN _ _ _) (congrArg (World.drewN _) (Nat.add_assoc _ _ _))⟩);have p10:0≤(dw:Int):=q'b;have q10:dw<(a0.size:Int):=q'b;have hx10:=kg a0 dw;replace p10:=eq_true p10;replace q10:=eq_true q10;have p15:0≤(dw:Int):=q'b;have q15:dw<(a0.size:Int):=q'b;have hx15:=kg a0 dw;replace p15:=eq_true p15;replace q15:=eq_true q15))
         repeat(go_quiet (first|(go_at_call 128;(with_reducible refine(iT.calls (bt a0 dw) false _ A8.out).mono ?_);rintro e w' ⟨rfl,⟨nd,rfl⟩⟩;(try first|exact⟨rfl,_,World.drewN_drewN _ _ _⟩|exact⟨rfl,_,Eq.trans (World.drewN_drewN _ _ _) (congrArg (World.drewN _) (Nat.add_assoc _ _ _))⟩);have p10:0≤(dw:Int):=q'b;have q10:dw<(a0.size:Int):=q'b;have hx10:=kg a0 dw;replace p10:=eq_true p10;replace q10:=eq_true q10;have p15:0≤(dw:Int):=q'b;have q15:dw<(a0.size:Int):=q'b;have hx15:=kg a0 dw;replace p15:=eq_true p15;replace q15:=eq_true q15));try go_wp2_with(first|(go_at_call 128;(with_reducible refine(iT.calls (bt a0 dw) false _ A8.out).mono ?_);rintro e w' ⟨rfl,⟨nd,rfl⟩⟩;(try first|exact⟨rfl,_,World.drewN_drewN _ _ _⟩|exact⟨rfl,_,Eq.trans (World.drewN_drewN _ _ _) (congrArg (World.drewN _) (Nat.add_assoc _ _ _))⟩);have p10:0≤(dw:Int):=q'b;have q10:dw<(a0.size:Int):=q'b;have hx10:=kg a0 dw;replace p10:=eq_true p10;replace q10:=eq_true q10;have p15:0≤(dw:Int):=q'b;have q15:dw<(a0.size:Int):=q'b;have hx15:=kg a0 dw;replace p15:=eq_true p15;replace q15:=eq_true q15)))
         go_meet
         case rel=>exact⟨_,(((bt a0 dw)==0)),q'c,H',⟨by have:=HK1.out;first|omega|exact Nat.le_refl _⟩,by repeat(first|exact bN.refl _|apply bN.step)⟩
      ·rw[if_neg c6]at H
       exact absurd H (by simp)
     ·rw[if_neg c5]at H
      exact absurd H (by simp)
    case rest=>
     clear HC4
     try clear c1
     try clear p1
     try clear q1
     try clear hx1
     try clear p2
     try clear c3
     try clear nC
     try clear c5
     try clear uf
     try clear c6
     try clear zm
     try clear c7
     try clear p7
     try clear q7
     try clear hx7
     try clear c9
     try clear p10
     try clear q10
     try clear hx10
     try clear c11
     try clear c11b0
     try clear p12
     try clear q12
     try clear hx12
     try clear c13
     try clear tY
     try clear p14
     try clear q14
     try clear hx14
     try clear p15
     try clear q15
     try clear hx15
     try clear p10
     try clear p12
     try clear p14
     try clear p15
     try clear p2
     try clear p7
     try clear q10
     try clear q12
     try clear q14
     try clear q15
     try clear q7
     obtain⟨kq,x33_3,rfl,HA,HJ3,⟨mc3,rfl⟩⟩:=hcut;cases kq with
     |zero=>exact absurd HA.out (by simp[dh.j1])
     |succ kj3=>
      have H:=HA.out;clear HA;simp only[dh.j1]at H
      by_cases c16:x33_3=true
      ·subst c16
       have H1:(some false)=some r:=by rw[if_pos rfl]at H;exact H
       clear H;have H:=H1;clear H1;obtain rfl:=Option.some.inj H;go_wp2
       repeat(go_quiet (fail);try go_wp2)
       go_ret;exact⟨q'c,by repeat(first|exact bN.refl _|apply bN.step)⟩
      ·replace c16:=Bool.eq_false_iff.mpr c16
       subst c16;have H1:(dh.l1 kj3 a0 a1 dw (a0.size:Int) dw (a1.size:Int) 0)=some r:=by rw[if_neg (show¬(false=true) by decide)]at H;first|exact H|(simp only[eq_self]at H⊢;exact H)|(simp only[eq_self,if_true]at H⊢;exact H)
       clear H;have H:=H1;clear H1;have H':=ak.mk H;clear H;go_wp2
       repeat(go_quiet (fail);try go_wp2)
       go_loopg [36] kj3 (fun kq v36 w'=>∃(nk:Int),v36=.int .i64 nk∧ak (dh.l1 kq a0 a1 dw (a0.size:Int) dw (a1.size:Int) nk=some r)∧ak (kq≤kj3)∧bN w w')
       case atStart=>exact⟨(0),q'c,H',⟨Nat.le_refl _⟩,by repeat(first|exact bN.refl _|apply bN.step)⟩
       case round=>
        clear H'
        try clear c1
        try clear p1
        try clear q1
        try clear hx1
        try clear p2
        try clear c3
        try clear nC
        try clear c5
        try clear uf
        try clear c6
        try clear zm
        try clear c7
        try clear p7
        try clear q7
        try clear hx7
        try clear c9
        try clear p10
        try clear q10
        try clear hx10
        try clear c11
        try clear c11b0
        try clear p12
        try clear q12
        try clear hx12
        try clear c13
        try clear tY
        try clear p14
        try clear q14
        try clear hx14
        try clear p15
        try clear q15
        try clear hx15
        try clear c16
        try clear p1
        try clear p10
        try clear p12
        try clear p14
        try clear p15
        try clear p2
        try clear p7
        try clear q1
        try clear q10
        try clear q12
        try clear q14
        try clear q15
        try clear q7
        obtain⟨nk,rfl,HA,HK3,⟨m3,rfl⟩⟩:=hrel;cases gk with
        |zero=>exact absurd HA.out (by simp[dh.l1])
        |succ k3=>
         have H:=HA.out;clear HA;simp only[dh.l1]at H
         by_cases c17:nk<(a1.size:Int)
         ·rw[if_pos c17]at H
          have c17b0:decide (nk<(a1.size:Int))=true:=decide_eq_true c17;clear c17
          by_cases c18:0≤dw
          ·rw[if_pos c18]at H
           have c18b0:decide (0≤dw)=true:=decide_eq_true c18;clear c18
           by_cases c19:dw<(a0.size:Int)
           ·rw[if_pos c19]at H
            have Ee:decide (dw<(a0.size:Int))=true:=decide_eq_true c19;clear c19
            by_cases c21:0≤nk
            ·rw[if_pos c21]at H
             have c21b0:decide (0≤nk)=true:=decide_eq_true c21;clear c21
             by_cases c22:nk<(a1.size:Int)
             ·rw[if_pos c22]at H
              have c22b0:decide (nk<(a1.size:Int))=true:=decide_eq_true c22;clear c22
              by_cases c24:(bt a0 dw)=(bt a1 nk)
              ·rw[if_pos c24]at H
               have c24b0:((bt a0 dw)==(bt a1 nk))=true:=beq_iff_eq.mpr c24;have c24b1:((bt a0 dw) !=(bt a1 nk))=false:=bne_eq_false_iff_eq.mpr c24;clear c24;obtain rfl:=Option.some.inj H;have p20:0≤(dw:Int):=q'b;have q20:dw<(a0.size:Int):=q'b;have hx20:=kg a0 dw;replace p20:=eq_true p20;replace q20:=eq_true q20;have p23:0≤(nk:Int):=q'b;have q23:nk<(a1.size:Int):=q'b;have hx23:=kg a1 nk;replace p23:=eq_true p23;replace q23:=eq_true q23;go_wp2
               repeat(go_quiet (fail);try go_wp2)
               go_ret;exact⟨q'c,by repeat(first|exact bN.refl _|apply bN.step)⟩
              ·rw[if_neg c24]at H
               have c24b0:((bt a0 dw)==(bt a1 nk))=false:=beq_eq_false_iff_ne.mpr c24;have c24b1:((bt a0 dw) !=(bt a1 nk))=true:=bne_iff_ne.mpr c24;have H':=ak.mk H;clear H;have p20:0≤(dw:Int):=q'b;have q20:dw<(a0.size:Int):=q'b;have hx20:=kg a0 dw;replace p20:=eq_true p20;replace q20:=eq_true q20;have p23:0≤(nk:Int):=q'b;have q23:nk<(a1.size:Int):=q'b;have hx23:=kg a1 nk;replace p23:=eq_true p23;replace q23:=eq_true q23;go_wp2
               repeat(go_quiet (fail);try go_wp2)
               go_roundg k3
               case measure=>have:=HK1.out;have:=HJ3.out;have:=HK3.out;omega
               case rel=>exact⟨(wrap64 (nk+1)),q'c,H',⟨by have:=HK1.out;have:=HJ3.out;have:=HK3.out;omega⟩,by repeat(first|exact bN.refl _|apply bN.step)⟩
             ·rw[if_neg c22]at H
              exact absurd H (by simp)
            ·rw[if_neg c21]at H
             exact absurd H (by simp)
           ·rw[if_neg c19]at H
            exact absurd H (by simp)
          ·rw[if_neg c18]at H
           exact absurd H (by simp)
         ·rw[if_neg c17]at H
          have c17b0:decide (nk<(a1.size:Int))=false:=decide_eq_false c17;clear c17;have H':=ak.mk H;clear H;go_wp2
          repeat(go_quiet (fail);try go_wp2)
          go_roundg k3
          case measure=>have:=HK1.out;have:=HJ3.out;have:=HK3.out;omega
          case rel=>exact⟨(wrap64 (dw+1)),q'c,H',⟨by have:=HK1.out;have:=HJ3.out;have:=HK3.out;omega⟩,by repeat(first|exact bN.refl _|apply bN.step)⟩
   ·rw[if_neg c3]at H
    have nC:decide (dw<(a0.size:Int))=false:=decide_eq_false c3;clear c3;obtain rfl:=Option.some.inj H;go_wp2
    repeat(go_quiet (fail);try go_wp2)
    go_ret;exact⟨q'c,by repeat(first|exact bN.refl _|apply bN.step)⟩
def mE.f(a0:Int):Option (Bool):=if a0≥97 then(if a0≤122 then(some true)else(if a0≥65 then(some (decide (a0≤90)))else(some false)))else(if a0≥65 then(some (decide (a0≤90)))else(some false))
theorem mE.calls(a0:Int)(r:Bool)(w:World)(h:mE.f a0=some r):
 Calls Tryz.prog 80 #[.int .u8 a0] w fun e w'=>e=.returned (.bool r)∧bN w w':=by
 have H:(if a0≥97 then(if a0≤122 then(some true)else(if a0≥65 then(some (decide (a0≤90)))else(some false)))else(if a0≥65 then(some (decide (a0≤90)))else(some false)))=some r:=h;clear h
 by_cases c2:a0≥97
 ·rw[if_pos c2]at H
  have CJ:decide (97≤a0)=true:=decide_eq_true c2;clear c2
  by_cases c3:a0≤122
  ·rw[if_pos c3]at H
   have nC:decide (a0≤122)=true:=decide_eq_true c3;clear c3;obtain rfl:=Option.some.inj H;go_enter Tryz.func80,Tryz.ntmps80;go_wp2;go_ret;exact⟨q'c,by repeat(first|exact bN.refl _|apply bN.step)⟩
  ·rw[if_neg c3]at H
   have nC:decide (a0≤122)=false:=decide_eq_false c3;clear c3
   by_cases c4:a0≥65
   ·rw[if_pos c4]at H
    have mP:decide (65≤a0)=true:=decide_eq_true c4;clear c4;obtain rfl:=Option.some.inj H;go_enter Tryz.func80,Tryz.ntmps80;go_wp2;go_ret;exact⟨q'c,by repeat(first|exact bN.refl _|apply bN.step)⟩
   ·rw[if_neg c4]at H
    have mP:decide (65≤a0)=false:=decide_eq_false c4;clear c4;obtain rfl:=Option.some.inj H;go_enter Tryz.func80,Tryz.ntmps80;go_wp2;go_ret;exact⟨q'c,by repeat(first|exact bN.refl _|apply bN.step)⟩
 ·rw[if_neg c2]at H
  have CJ:decide (97≤a0)=false:=decide_eq_false c2;clear c2
  by_cases c5:a0≥65
  ·rw[if_pos c5]at H
   have uf:decide (65≤a0)=true:=decide_eq_true c5;clear c5;obtain rfl:=Option.some.inj H;go_enter Tryz.func80,Tryz.ntmps80;go_wp2;go_ret;exact⟨q'c,by repeat(first|exact bN.refl _|apply bN.step)⟩
  ·rw[if_neg c5]at H
   have uf:decide (65≤a0)=false:=decide_eq_false c5;clear c5;obtain rfl:=Option.some.inj H;go_enter Tryz.func80,Tryz.ntmps80;go_wp2;go_ret;exact⟨q'c,by repeat(first|exact bN.refl _|apply bN.step)⟩
def kT.f(k:Nat)(a0:ByteArray):Option (Bool):=(dh.f k a0 (⟨#[47,62]⟩:ByteArray)).bind fun t367=>(if t367=true then(if 0<(a0.size:Int)then((mE.f (bt a0 0)).bind fun t368=>(some t368))else(none))else(some false))
theorem kT.calls(k:Nat)(a0:ByteArray)(r:Bool)(w:World)(h:kT.f k a0=some r):
 Calls Tryz.prog 30 #[.string a0] w fun e w'=>e=.returned (.bool r)∧bN w w':=by
 have H:((dh.f k a0 (⟨#[47,62]⟩:ByteArray)).bind fun t367=>(if t367=true then(if 0<(a0.size:Int)then((mE.f (bt a0 0)).bind fun t368=>(some t368))else(none))else(some false)))=some r:=h;clear h;replace H:=Option.bind_eq_some_iff.mp H;obtain⟨t367,A20,H⟩:=H;replace H:(if t367=true then(if 0<(a0.size:Int)then((mE.f (bt a0 0)).bind fun t368=>(some t368))else(none))else(some false))=some r:=H;have A2:=ak.mk A20;clear A20
 by_cases c3:t367=true
 ·subst c3
  have H1:(if 0<(a0.size:Int)then((mE.f (bt a0 0)).bind fun t368=>(some t368))else(none))=some r:=by rw[if_pos rfl]at H;exact H
  clear H;have H:=H1;clear H1
  by_cases c4:0<(a0.size:Int)
  ·rw[if_pos c4]at H
   have mP:decide (0<(a0.size:Int))=true:=decide_eq_true c4;have Ab:decide (0<a0.size)=true:=decide_eq_true (by omega);clear c4;replace H:=Option.bind_eq_some_iff.mp H;obtain⟨t368,A60,H⟩:=H;replace H:(some t368)=some r:=H;have A6:=ak.mk A60;clear A60;obtain rfl:=Option.some.inj H;go_enter Tryz.func30,Tryz.ntmps30
   go_wp2_with(first|((with_reducible refine aZ (f:=79) rfl ?_);refine dI (some 4) rfl rfl Tryz.func79 (by kernel_rfl) rfl #[.string a0,.string (⟨#[47,62]⟩:ByteArray)] rfl q'a ?_;(with_reducible refine(dh.calls k a0 (⟨#[47,62]⟩:ByteArray) true _ A2.out).mono ?_);rintro e w' ⟨rfl,⟨nd,rfl⟩⟩;refine⟨_,rfl,?_⟩;have p5:0≤(0:Int):=(by omega);have q5:0<a0.size:=(by have:(0:Int)<(a0.size:Int):=q'b;omega);have hx5:∀h:0<a0.size,((a0[0]'h).toNat:Int)=bt a0 0:=kg a0 0;clear p5;have qi5:(0<(a0.size:Int))=True:=eq_true (q'b);replace q5:=eq_true q5)|(go_at_call 80;(with_reducible refine(mE.calls (bt a0 0) t368 _ A6.out).mono ?_);rintro e w' ⟨rfl,⟨nd,rfl⟩⟩))
   go_ret;exact⟨q'c,by repeat(first|exact bN.refl _|apply bN.step)⟩
  ·rw[if_neg c4]at H
   exact absurd H (by simp)
 ·replace c3:=Bool.eq_false_iff.mpr c3
  subst c3;have H1:(some false)=some r:=by rw[if_neg (show¬(false=true) by decide)]at H;first|exact H|(simp only[eq_self]at H⊢;exact H)|(simp only[eq_self,if_true]at H⊢;exact H)
  clear H;have H:=H1;clear H1;obtain rfl:=Option.some.inj H;go_enter Tryz.func30,Tryz.ntmps30
  go_wp2_with(first|((with_reducible refine aZ (f:=79) rfl ?_);refine dI (some 4) rfl rfl Tryz.func79 (by kernel_rfl) rfl #[.string a0,.string (⟨#[47,62]⟩:ByteArray)] rfl q'a ?_;(with_reducible refine(dh.calls k a0 (⟨#[47,62]⟩:ByteArray) false _ A2.out).mono ?_);rintro e w' ⟨rfl,⟨nd,rfl⟩⟩;refine⟨_,rfl,?_⟩))
  go_ret;exact⟨q'c,by repeat(first|exact bN.refl _|apply bN.step)⟩
def nT.f(k:Nat)(a0:ByteArray):Option (Bool):=(dh.f k a0 (⟨#[47,62,34,39,60,61]⟩:ByteArray)).bind fun t608=>(some t608)
theorem nT.calls(k:Nat)(a0:ByteArray)(r:Bool)(w:World)(h:nT.f k a0=some r):
 Calls Tryz.prog 95 #[.string a0] w fun e w'=>e=.returned (.bool r)∧bN w w':=by
 have H:((dh.f k a0 (⟨#[47,62,34,39,60,61]⟩:ByteArray)).bind fun t608=>(some t608))=some r:=h;clear h;replace H:=Option.bind_eq_some_iff.mp H;obtain⟨t608,A20,H⟩:=H;replace H:(some t608)=some r:=H;have A2:=ak.mk A20;clear A20;obtain rfl:=Option.some.inj H;go_enter Tryz.func95,Tryz.ntmps95
 go_wp2_with(first|((with_reducible refine aZ (f:=79) rfl ?_);refine dI (some 4) rfl rfl Tryz.func79 (by kernel_rfl) rfl #[.string a0,.string (⟨#[47,62,34,39,60,61]⟩:ByteArray)] rfl q'a ?_;(with_reducible refine(dh.calls k a0 (⟨#[47,62,34,39,60,61]⟩:ByteArray) t608 _ A2.out).mono ?_);rintro e w' ⟨rfl,⟨nd,rfl⟩⟩;refine⟨_,rfl,?_⟩))
 go_ret;exact⟨q'c,by repeat(first|exact bN.refl _|apply bN.step)⟩
end Go.Proofs.aj.W7
