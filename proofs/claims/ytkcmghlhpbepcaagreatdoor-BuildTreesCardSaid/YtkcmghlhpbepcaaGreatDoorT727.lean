/- Lemmas and walks, part 27. -/
import Derived.Test.YtkcmghlhpbepcaaGreatDoorT725
import Derived.Test.YtkcmghlhpbepcaaGreatDoorT726
set_option linter.unusedVariables false
set_option linter.unusedSimpArgs false
set_option maxHeartbeats 8000000
set_option maxRecDepth 100000
namespace Go.Proofs.aj.W7
open Go.RowKit Go.Proofs.ah.aG Go.Proofs.ah.bX Go.Proofs.ah.dN
attribute [local go_sem] dZ d9 eU eX dS dU eu eB
mutual
def bH.l0:Nat→List (S36)→List (S36)→Int→Option ((List (S36)))
 |0,_,_,_=>none
 |k+1,x0,x3,x4=>if x4<(x0.length:Int)then(bH.l1 k x0 x3 x4 true 0)else(some x3)
def bH.l1:Nat→List (S36)→List (S36)→Int→Bool→Int→Option ((List (S36)))
 |0,_,_,_,_,_=>none
 |k+1,x0,x3,x4,x5,x6=>if x6<x4 then(if x5=true then(if 0≤x6 then(if x6<(x0.length:Int)then(if 0≤x4 then(if x4<(x0.length:Int)then(bH.l1 k x0 x3 x4 (((dV x0 x6).f0).toList !=((dV x0 x4).f0).toList) (wrap64 (x6+1)))else(none))else(none))else(none))else(none))else(bH.l1 k x0 x3 x4 false (wrap64 (x6+1))))else(if x5=true then(if 0≤x4 then(if x4<(x0.length:Int)then(if x3.length<4398046511104 then(bH.l0 k x0 (x3++[(⟨(dV x0 x4).f0,(dV x0 x4).f1⟩:S36)]) (wrap64 (x4+1)))else(none))else(none))else(none))else(bH.l0 k x0 x3 (wrap64 (x4+1))))
end
def bH.f(k:Nat)(l0:List (S36)):Option ((List (S36))):=bH.l0 k l0 (([] :List (S36))) 0
theorem bH.calls(k:Nat)(A0:Option Addr)(c0:Nat)(l0 r:List (S36))(w:World)(hr0:Kd.C k36 w A0 l0.length l0)(hc0:l0.length≤c0)(h:bH.f k l0=some r):
 Calls Tryz.prog 64 #[.slice A0 l0.length c0] w fun e w'=>∃v0_:Value,e=.returned (v0_)∧Kd.R k36 36 w' w.heap.size (fun _=>True) v0_ r∧Below w.heap.size w w':=by
 have hu36:=Tryz.underlying36;have HR0:=ak.mk hr0;have HC0:=ak.mk hc0;clear hr0 hc0;have HB:=ak.mk (Below.refl w.heap.size w);have H:(bH.l0 k l0 (([] :List (S36))) 0)=some r:=h;clear h;obtain⟨y464,FN⟩:∃y_:List (S36),y_=(([] :List (S36))):=⟨_,rfl⟩
 replace H:(bH.l0 k l0 y464 0)=some r:=by first|(rw[FN];with_reducible exact H)|(have H2_:=(Option.bind_some _ _).symm.trans H;rw[FN];with_reducible exact H2_)|(have H2_:=(Option.bind_some _ _).symm.trans H;with_reducible exact H2_)|with_reducible exact H|(rw[FN];exact H)|exact H
 have BM:=ak.mk FN;clear FN;have H':=ak.mk H;clear H;go_enter Tryz.func64,Tryz.ntmps64
 go_wp2_with(first|((with_reducible refine bY (N:=7) rfl ?_);refine Kd.eZ k36 _ 36 ?hg (N:=7) ?hd (xs:=([] :List (S36))) (inner:=[]) (ok:=fun _=>True) (okp:=fun _=>True) ?hr ?hp (fun _ hk=>hk) trivial (Below.refl _ _) (Nat.le_refl _) (by simp) ?_;(case hd=>rfl);(case hg=>rfl);(case hr=>first|(go_simp;done)|(go_simp;rfl));(case hp=>exact(aY.none _ _));intro v465 w2 ho3 hb hg_ cu;clear hg_ cu;(first|rw[←BM.out]at ho3|(simp only[Int.reduceToNat]at ho3;rw[←BM.out]at ho3));have HO466:=ak.mk (Kd.bM ho3 (aJ bz));replace HB:=ak.mk (aN bz hb);clear hb ho3))
 repeat(go_quiet (first|((with_reducible refine bY (N:=7) rfl ?_);refine Kd.eZ k36 _ 36 ?hg (N:=7) ?hd (xs:=([] :List (S36))) (inner:=[]) (ok:=fun _=>True) (okp:=fun _=>True) ?hr ?hp (fun _ hk=>hk) trivial (Below.refl _ _) (Nat.le_refl _) (by simp) ?_;(case hd=>rfl);(case hg=>rfl);(case hr=>first|(go_simp;done)|(go_simp;rfl));(case hp=>exact(aY.none _ _));intro v465 w2 ho3 hb hg_ cu;clear hg_ cu;(first|rw[←BM.out]at ho3|(simp only[Int.reduceToNat]at ho3;rw[←BM.out]at ho3));have HO466:=ak.mk (Kd.bM ho3 (aJ bz));replace HB:=ak.mk (aN bz hb);clear hb ho3));try go_wp2_with(first|((with_reducible refine bY (N:=7) rfl ?_);refine Kd.eZ k36 _ 36 ?hg (N:=7) ?hd (xs:=([] :List (S36))) (inner:=[]) (ok:=fun _=>True) (okp:=fun _=>True) ?hr ?hp (fun _ hk=>hk) trivial (Below.refl _ _) (Nat.le_refl _) (by simp) ?_;(case hd=>rfl);(case hg=>rfl);(case hr=>first|(go_simp;done)|(go_simp;rfl));(case hp=>exact(aY.none _ _));intro v465 w2 ho3 hb hg_ cu;clear hg_ cu;(first|rw[←BM.out]at ho3|(simp only[Int.reduceToNat]at ho3;rw[←BM.out]at ho3));have HO466:=ak.mk (Kd.bM ho3 (aJ bz));replace HB:=ak.mk (aN bz hb);clear hb ho3)))
 go_loopg [3,4] k (fun kq v3 v4 w'=>∃(lY:List (S36)) (bQ:Int),v4=.int .i64 bQ∧ak (bH.l0 kq l0 lY bQ=some r)∧ak (kq≤k)∧ak (Kd.R k36 36 w' w.heap.size (fun _=>True) v3 lY)∧ak (Below w.heap.size w w'))
 case atStart=>exact⟨(y464),(0),q'c,H',⟨Nat.le_refl _⟩,⟨by(with_reducible repeat(first|apply Kd.aZ|apply Kd.bB|apply Kd.bq));exact HO466.out⟩,⟨bz⟩⟩
 case round=>
  clear H'
  try clear p2
  obtain⟨lY,bQ,rfl,HA,HK1,mD,HB⟩:=hrel;cases gk with
  |zero=>exact absurd HA.out (by simp[bH.l0])
  |succ k1=>
   have H:=HA.out;clear HA;simp only[bH.l0]at H
   by_cases c4:bQ<(l0.length:Int)
   ·rw[if_pos c4]at H
    have zV:decide (bQ<(l0.length:Int))=true:=decide_eq_true c4;clear c4;have H':=ak.mk H;clear H;go_wp2
    repeat(go_quiet (fail);try go_wp2)
    go_loopg [5,6] k1 (fun kq v5 v6 w'=>∃(x5_2:Bool) (pq:Int),v5=.bool x5_2∧v6=.int .i64 pq∧ak (bH.l1 kq l0 lY bQ x5_2 pq=some r)∧ak (kq≤k1)∧ak (Kd.R k36 36 w' w.heap.size (fun _=>True) u3 lY)∧ak (Below w.heap.size w w'))
    case atStart=>exact⟨(true),(0),q'c,q'c,H',⟨Nat.le_refl _⟩,⟨by(with_reducible repeat(first|apply Kd.aZ|apply Kd.bB|apply Kd.bq));exact mD.out⟩,⟨bz⟩⟩
    case round=>
     clear H'
     try clear p2
     try clear c4
     try clear zV
     try clear p2
     obtain⟨x5_2,pq,rfl,rfl,HA,HK2,mD,HB⟩:=hrel;cases gk with
     |zero=>exact absurd HA.out (by simp[bH.l1])
     |succ k2=>
      have H:=HA.out;clear HA;simp only[bH.l1]at H
      by_cases c5:pq<bQ
      ·rw[if_pos c5]at H
       have zW:decide (pq<bQ)=true:=decide_eq_true c5;clear c5
       by_cases c6:x5_2=true
       ·subst c6
        have H1:(if 0≤pq then(if pq<(l0.length:Int)then(if 0≤bQ then(if bQ<(l0.length:Int)then(bH.l1 k2 l0 lY bQ (((dV l0 pq).f0).toList !=((dV l0 bQ).f0).toList) (wrap64 (pq+1)))else(none))else(none))else(none))else(none))=some r:=by rw[if_pos rfl]at H;exact H
        clear H;have H:=H1;clear H1
        by_cases c7:0≤pq
        ·rw[if_pos c7]at H
         have wR:decide (0≤pq)=true:=decide_eq_true c7;clear c7
         by_cases c8:pq<(l0.length:Int)
         ·rw[if_pos c8]at H
          have c8b0:decide (pq<(l0.length:Int))=true:=decide_eq_true c8;clear c8
          by_cases c9:0≤bQ
          ·rw[if_pos c9]at H
           have c9b0:decide (0≤bQ)=true:=decide_eq_true c9;clear c9
           by_cases c10:bQ<(l0.length:Int)
           ·rw[if_pos c10]at H
            have c10b0:decide (bQ<(l0.length:Int))=true:=decide_eq_true c10;clear c10;have H':=ak.mk H;clear H;have p467:0≤(pq:Int):=q'b;have q467:pq<(l0.length:Int):=q'b;obtain⟨ad467,e467,CJ,CK⟩:=o8 HR0.out pq p467 q467;cases e467;replace CJ:=(HB.out.cell (World.block_lt_of_cell? w _ CJ)).trans CJ;replace CK:=(HB.out.cell (World.block_lt_of_cell? w _ CK)).trans CK;replace p467:=eq_true p467;replace q467:=eq_true q467;have p468:0≤(bQ:Int):=q'b;have q468:bQ<(l0.length:Int):=q'b;obtain⟨ad468,e468,CO,CP⟩:=o8 HR0.out bQ p468 q468;obtain rfl:ad467=ad468:=(by injection e468);replace CO:=(HB.out.cell (World.block_lt_of_cell? w _ CO)).trans CO;replace CP:=(HB.out.cell (World.block_lt_of_cell? w _ CP)).trans CP;replace p468:=eq_true p468;replace q468:=eq_true q468;go_wp2
            repeat(go_quiet (fail);try go_wp2)
            go_roundg k2
            case measure=>have:=HK1.out;have:=HK2.out;omega
            case rel=>exact⟨((((dV l0 pq).f0).toList !=((dV l0 bQ).f0).toList)),(wrap64 (pq+1)),q'c,q'c,H',⟨by have:=HK1.out;have:=HK2.out;omega⟩,⟨by(with_reducible repeat(first|apply Kd.aZ|apply Kd.bB|apply Kd.bq));exact mD.out⟩,⟨bz⟩⟩
           ·rw[if_neg c10]at H
            exact absurd H (by simp)
          ·rw[if_neg c9]at H
           exact absurd H (by simp)
         ·rw[if_neg c8]at H
          exact absurd H (by simp)
        ·rw[if_neg c7]at H
         exact absurd H (by simp)
       ·replace c6:=Bool.eq_false_iff.mpr c6
        subst c6;have H1:(bH.l1 k2 l0 lY bQ false (wrap64 (pq+1)))=some r:=by rw[if_neg (show¬(false=true) by decide)]at H;first|exact H|(simp only[eq_self]at H⊢;exact H)|(simp only[eq_self,if_true]at H⊢;exact H)
        clear H;have H:=H1;clear H1;have H':=ak.mk H;clear H;go_wp2
        repeat(go_quiet (fail);try go_wp2)
        go_roundg k2
        case measure=>have:=HK1.out;have:=HK2.out;omega
        case rel=>exact⟨(false),(wrap64 (pq+1)),q'c,q'c,H',⟨by have:=HK1.out;have:=HK2.out;omega⟩,⟨by(with_reducible repeat(first|apply Kd.aZ|apply Kd.bB|apply Kd.bq));exact mD.out⟩,⟨bz⟩⟩
      ·rw[if_neg c5]at H
       have zW:decide (pq<bQ)=false:=decide_eq_false c5;clear c5
       by_cases c11:x5_2=true
       ·subst c11
        have H1:(if 0≤bQ then(if bQ<(l0.length:Int)then(if lY.length<4398046511104 then(bH.l0 k2 l0 (lY++[(⟨(dV l0 bQ).f0,(dV l0 bQ).f1⟩:S36)]) (wrap64 (bQ+1)))else(none))else(none))else(none))=some r:=by rw[if_pos rfl]at H;exact H
        clear H;have H:=H1;clear H1
        by_cases c12:0≤bQ
        ·rw[if_pos c12]at H
         have c12b0:decide (0≤bQ)=true:=decide_eq_true c12;clear c12
         by_cases c13:bQ<(l0.length:Int)
         ·rw[if_pos c13]at H
          have c13b0:decide (bQ<(l0.length:Int))=true:=decide_eq_true c13;clear c13
          by_cases c14:lY.length<4398046511104
          ·rw[if_pos c14]at H
           have LMc14:=ak.mk c14;clear c14;obtain⟨y470,FP⟩:∃y_:List (S36),y_=(lY++[(⟨(dV l0 bQ).f0,(dV l0 bQ).f1⟩:S36)]):=⟨_,rfl⟩
           replace H:(bH.l0 k2 l0 y470 (wrap64 (bQ+1)))=some r:=by first|(rw[FP];with_reducible exact H)|(have H2_:=(Option.bind_some _ _).symm.trans H;rw[FP];with_reducible exact H2_)|(have H2_:=(Option.bind_some _ _).symm.trans H;with_reducible exact H2_)|with_reducible exact H|(rw[FP];exact H)|exact H
           have Ny470:=ak.mk FP;clear FP;have H':=ak.mk H;clear H;have p469:0≤(bQ:Int):=q'b;have q469:bQ<(l0.length:Int):=q'b;obtain⟨ad469,e469,CQ,CS⟩:=o8 HR0.out bQ p469 q469;cases e469;replace CQ:=(HB.out.cell (World.block_lt_of_cell? w _ CQ)).trans CQ;replace CS:=(HB.out.cell (World.block_lt_of_cell? w _ CS)).trans CS;replace p469:=eq_true p469;replace q469:=eq_true q469
           go_wp2_with(first|((with_reducible refine fG (b:=.append) (xs:=#[.tmp 34,.tmp 39]) rfl ?_);at_builtin;refine Kd.fZ k36 (w0:=w) w.heap.size rfl (.tmp 34) (.tmp 39) 32 36 (.agg #[(.string ⟨#[]⟩),(.string ⟨#[]⟩)]) 32 rfl Tryz.underlying32 wJ rfl (by decide) (by omega) u3 lY (⟨(dV l0 bQ).f0,(dV l0 bQ).f1⟩:S36) [.string ((dV l0 bQ).f0),.string ((dV l0 bQ).f1)] (fun _=>True) (fun _=>False) rfl rfl ?aP (fun _ hk=>hk.elim) ?aF ?aO ?aB ?aS ?aL ?_;(case aP=>exact uM _ _ _ (⟨(dV l0 bQ).f0,(dV l0 bQ).f1⟩:S36));(case aB=>exact bz);(case aF=>exact(fun _ _=>trivial));(case aO=>exact(rz mD.out));(case aS=>exact(aJ bz));(case aL=>have:=LMc14.out;omega);intro v471 w15 ho hb hg hat;rw[←Ny470.out]at ho;have HO472:=ak.mk (ho);replace HB:=ak.mk (hb);clear mD;clear ho hb hg hat))
           repeat(go_quiet (first|((with_reducible refine fG (b:=.append) (xs:=#[.tmp 34,.tmp 39]) rfl ?_);at_builtin;refine Kd.fZ k36 (w0:=w) w.heap.size rfl (.tmp 34) (.tmp 39) 32 36 (.agg #[(.string ⟨#[]⟩),(.string ⟨#[]⟩)]) 32 rfl Tryz.underlying32 wJ rfl (by decide) (by omega) u3 lY (⟨(dV l0 bQ).f0,(dV l0 bQ).f1⟩:S36) [.string ((dV l0 bQ).f0),.string ((dV l0 bQ).f1)] (fun _=>True) (fun _=>False) rfl rfl ?aP (fun _ hk=>hk.elim) ?aF ?aO ?aB ?aS ?aL ?_;(case aP=>exact uM _ _ _ (⟨(dV l0 bQ).f0,(dV l0 bQ).f1⟩:S36));(case aB=>exact bz);(case aF=>exact(fun _ _=>trivial));(case aO=>exact(rz mD.out));(case aS=>exact(aJ bz));(case aL=>have:=LMc14.out;omega);intro v471 w15 ho hb hg hat;rw[←Ny470.out]at ho;have HO472:=ak.mk (ho);replace HB:=ak.mk (hb);clear mD;clear ho hb hg hat));try go_wp2_with(first|((with_reducible refine fG (b:=.append) (xs:=#[.tmp 34,.tmp 39]) rfl ?_);at_builtin;refine Kd.fZ k36 (w0:=w) w.heap.size rfl (.tmp 34) (.tmp 39) 32 36 (.agg #[(.string ⟨#[]⟩),(.string ⟨#[]⟩)]) 32 rfl Tryz.underlying32 wJ rfl (by decide) (by omega) u3 lY (⟨(dV l0 bQ).f0,(dV l0 bQ).f1⟩:S36) [.string ((dV l0 bQ).f0),.string ((dV l0 bQ).f1)] (fun _=>True) (fun _=>False) rfl rfl ?aP (fun _ hk=>hk.elim) ?aF ?aO ?aB ?aS ?aL ?_;(case aP=>exact uM _ _ _ (⟨(dV l0 bQ).f0,(dV l0 bQ).f1⟩:S36));(case aB=>exact bz);(case aF=>exact(fun _ _=>trivial));(case aO=>exact(rz mD.out));(case aS=>exact(aJ bz));(case aL=>have:=LMc14.out;omega);intro v471 w15 ho hb hg hat;rw[←Ny470.out]at ho;have HO472:=ak.mk (ho);replace HB:=ak.mk (hb);clear mD;clear ho hb hg hat)))
           go_roundg k2
           case measure=>have:=HK1.out;have:=HK2.out;omega
           case rel=>exact⟨(y470),(wrap64 (bQ+1)),q'c,H',⟨by have:=HK1.out;have:=HK2.out;omega⟩,⟨by(with_reducible repeat(first|apply Kd.aZ|apply Kd.bB|apply Kd.bq));exact HO472.out⟩,⟨bz⟩⟩
          ·rw[if_neg c14]at H
           exact absurd H (by simp)
         ·rw[if_neg c13]at H
          exact absurd H (by simp)
        ·rw[if_neg c12]at H
         exact absurd H (by simp)
       ·replace c11:=Bool.eq_false_iff.mpr c11
        subst c11;have H1:(bH.l0 k2 l0 lY (wrap64 (bQ+1)))=some r:=by rw[if_neg (show¬(false=true) by decide)]at H;first|exact H|(simp only[eq_self]at H⊢;exact H)|(simp only[eq_self,if_true]at H⊢;exact H)
        clear H;have H:=H1;clear H1;have H':=ak.mk H;clear H;go_wp2
        repeat(go_quiet (fail);try go_wp2)
        go_roundg k2
        case measure=>have:=HK1.out;have:=HK2.out;omega
        case rel=>exact⟨(lY),(wrap64 (bQ+1)),q'c,H',⟨by have:=HK1.out;have:=HK2.out;omega⟩,⟨by(with_reducible repeat(first|apply Kd.aZ|apply Kd.bB|apply Kd.bq));exact mD.out⟩,⟨bz⟩⟩
   ·rw[if_neg c4]at H
    have zV:decide (bQ<(l0.length:Int))=false:=decide_eq_false c4;clear c4;obtain rfl:=Option.some.inj H;go_wp2
    repeat(go_quiet (fail);try go_wp2)
    go_ret;exact⟨_,by first|rfl|(simp[aQ,aT]<;>rfl)|(simp[*,aQ,aT]<;>rfl),by(with_reducible repeat(first|apply Kd.aZ|apply Kd.bB|apply Kd.bq));exact mD.out,bz⟩
def jh.f:Option (List Bt):=some (([(⟨#[98,111,100,121]⟩:Bt),(⟨#[102,114,97,109,101,115,101,116]⟩:Bt),(⟨#[104,101,97,100]⟩:Bt),(⟨#[104,116,109,108]⟩:Bt)] :List Bt))
theorem jh.calls(r:List Bt)(w:World)(h:jh.f=some r):
 Calls Tryz.prog 58 #[] w fun e w'=>∃v0_:Value,e=.returned (v0_)∧Kd.R Kd.string 9 w' w.heap.size (fun _=>True) v0_ r∧Below w.heap.size w w':=by
 have HB:=ak.mk (Below.refl w.heap.size w);have H:(some (([(⟨#[98,111,100,121]⟩:Bt),(⟨#[102,114,97,109,101,115,101,116]⟩:Bt),(⟨#[104,101,97,100]⟩:Bt),(⟨#[104,116,109,108]⟩:Bt)] :List Bt)))=some r:=h;clear h;obtain⟨y458,FL⟩:∃y_:List Bt,y_=(([(⟨#[98,111,100,121]⟩:Bt),(⟨#[102,114,97,109,101,115,101,116]⟩:Bt),(⟨#[104,101,97,100]⟩:Bt),(⟨#[104,116,109,108]⟩:Bt)] :List Bt)):=⟨_,rfl⟩
 replace H:(some y458)=some r:=by first|(rw[FL];with_reducible exact H)|(have H2_:=(Option.bind_some _ _).symm.trans H;rw[FL];with_reducible exact H2_)|(have H2_:=(Option.bind_some _ _).symm.trans H;with_reducible exact H2_)|with_reducible exact H|(rw[FL];exact H)|exact H
 have Ny458:=ak.mk FL;clear FL;obtain rfl:=Option.some.inj H;go_enter Tryz.func58,Tryz.ntmps58
 go_wp2_with(first|((with_reducible refine bY (N:=1) rfl ?_);refine Kd.eZ Kd.string _ 9 ?hg (N:=1) ?hd (xs:=([(⟨#[98,111,100,121]⟩:Bt),(⟨#[102,114,97,109,101,115,101,116]⟩:Bt),(⟨#[104,101,97,100]⟩:Bt),(⟨#[104,116,109,108]⟩:Bt)] :List Bt)) (inner:=[.string (⟨#[98,111,100,121]⟩:Bt),.string (⟨#[102,114,97,109,101,115,101,116]⟩:Bt),.string (⟨#[104,101,97,100]⟩:Bt),.string (⟨#[104,116,109,108]⟩:Bt)]) (ok:=fun _=>True) (okp:=fun _=>True) ?hr ?hp (fun _ hk=>hk) trivial (Below.refl _ _) (Nat.le_refl _) (by simp) ?_;(case hd=>rfl);(case hg=>rfl);(case hr=>first|(go_simp;done)|(go_simp;rfl));(case hp=>exact(aY.one (show Kd.M Kd.string _ _ _ (⟨#[98,111,100,121]⟩:Bt) [.string (⟨#[98,111,100,121]⟩:Bt)]from rfl) (aY.one (show Kd.M Kd.string _ _ _ (⟨#[102,114,97,109,101,115,101,116]⟩:Bt) [.string (⟨#[102,114,97,109,101,115,101,116]⟩:Bt)]from rfl) (aY.one (show Kd.M Kd.string _ _ _ (⟨#[104,101,97,100]⟩:Bt) [.string (⟨#[104,101,97,100]⟩:Bt)]from rfl) (aY.one (show Kd.M Kd.string _ _ _ (⟨#[104,116,109,108]⟩:Bt) [.string (⟨#[104,116,109,108]⟩:Bt)]from rfl) (aY.none _ _))))));intro v459 w1 ho2 hb hg_ cu;clear hg_ cu;(first|rw[←Ny458.out]at ho2|(simp only[Int.reduceToNat]at ho2;rw[←Ny458.out]at ho2));have HO460:=ak.mk (Kd.bM ho2 (aJ bz));replace HB:=ak.mk (aN bz hb);clear hb ho2))
 go_ret;exact⟨_,by first|rfl|(simp[aQ,aT]<;>rfl)|(simp[*,aQ,aT]<;>rfl),by(with_reducible repeat(first|apply Kd.aZ|apply Kd.bB|apply Kd.bq));exact HO460.out,bz⟩
def eG.f:Option (List Bt):=some (([(⟨#[97,114,101,97]⟩:Bt),(⟨#[98,97,115,101]⟩:Bt),(⟨#[98,114]⟩:Bt),(⟨#[99,111,108]⟩:Bt),(⟨#[101,109,98,101,100]⟩:Bt),(⟨#[104,114]⟩:Bt),(⟨#[105,109,103]⟩:Bt),(⟨#[105,110,112,117,116]⟩:Bt),(⟨#[108,105,110,107]⟩:Bt),(⟨#[109,101,116,97]⟩:Bt),(⟨#[112,97,114,97,109]⟩:Bt),(⟨#[115,111,117,114,99,101]⟩:Bt),(⟨#[116,114,97,99,107]⟩:Bt),(⟨#[119,98,114]⟩:Bt)] :List Bt))
theorem eG.calls(r:List Bt)(w:World)(h:eG.f=some r):
 Calls Tryz.prog 65 #[] w fun e w'=>∃v0_:Value,e=.returned (v0_)∧Kd.R Kd.string 9 w' w.heap.size (fun _=>True) v0_ r∧Below w.heap.size w w':=by
 have HB:=ak.mk (Below.refl w.heap.size w);have H:(some (([(⟨#[97,114,101,97]⟩:Bt),(⟨#[98,97,115,101]⟩:Bt),(⟨#[98,114]⟩:Bt),(⟨#[99,111,108]⟩:Bt),(⟨#[101,109,98,101,100]⟩:Bt),(⟨#[104,114]⟩:Bt),(⟨#[105,109,103]⟩:Bt),(⟨#[105,110,112,117,116]⟩:Bt),(⟨#[108,105,110,107]⟩:Bt),(⟨#[109,101,116,97]⟩:Bt),(⟨#[112,97,114,97,109]⟩:Bt),(⟨#[115,111,117,114,99,101]⟩:Bt),(⟨#[116,114,97,99,107]⟩:Bt),(⟨#[119,98,114]⟩:Bt)] :List Bt)))=some r:=h;clear h;obtain⟨y461,FM⟩:∃y_:List Bt,y_=(([(⟨#[97,114,101,97]⟩:Bt),(⟨#[98,97,115,101]⟩:Bt),(⟨#[98,114]⟩:Bt),(⟨#[99,111,108]⟩:Bt),(⟨#[101,109,98,101,100]⟩:Bt),(⟨#[104,114]⟩:Bt),(⟨#[105,109,103]⟩:Bt),(⟨#[105,110,112,117,116]⟩:Bt),(⟨#[108,105,110,107]⟩:Bt),(⟨#[109,101,116,97]⟩:Bt),(⟨#[112,97,114,97,109]⟩:Bt),(⟨#[115,111,117,114,99,101]⟩:Bt),(⟨#[116,114,97,99,107]⟩:Bt),(⟨#[119,98,114]⟩:Bt)] :List Bt)):=⟨_,rfl⟩
 replace H:(some y461)=some r:=by first|(rw[FM];with_reducible exact H)|(have H2_:=(Option.bind_some _ _).symm.trans H;rw[FM];with_reducible exact H2_)|(have H2_:=(Option.bind_some _ _).symm.trans H;with_reducible exact H2_)|with_reducible exact H|(rw[FM];exact H)|exact H
 have Ny461:=ak.mk FM;clear FM;obtain rfl:=Option.some.inj H;go_enter Tryz.func65,Tryz.ntmps65
 go_wp2_with(first|((with_reducible refine bY (N:=1) rfl ?_);refine Kd.eZ Kd.string _ 9 ?hg (N:=1) ?hd (xs:=([(⟨#[97,114,101,97]⟩:Bt),(⟨#[98,97,115,101]⟩:Bt),(⟨#[98,114]⟩:Bt),(⟨#[99,111,108]⟩:Bt),(⟨#[101,109,98,101,100]⟩:Bt),(⟨#[104,114]⟩:Bt),(⟨#[105,109,103]⟩:Bt),(⟨#[105,110,112,117,116]⟩:Bt),(⟨#[108,105,110,107]⟩:Bt),(⟨#[109,101,116,97]⟩:Bt),(⟨#[112,97,114,97,109]⟩:Bt),(⟨#[115,111,117,114,99,101]⟩:Bt),(⟨#[116,114,97,99,107]⟩:Bt),(⟨#[119,98,114]⟩:Bt)] :List Bt)) (inner:=[.string (⟨#[97,114,101,97]⟩:Bt),.string (⟨#[98,97,115,101]⟩:Bt),.string (⟨#[98,114]⟩:Bt),.string (⟨#[99,111,108]⟩:Bt),.string (⟨#[101,109,98,101,100]⟩:Bt),.string (⟨#[104,114]⟩:Bt),.string (⟨#[105,109,103]⟩:Bt),.string (⟨#[105,110,112,117,116]⟩:Bt),.string (⟨#[108,105,110,107]⟩:Bt),.string (⟨#[109,101,116,97]⟩:Bt),.string (⟨#[112,97,114,97,109]⟩:Bt),.string (⟨#[115,111,117,114,99,101]⟩:Bt),.string (⟨#[116,114,97,99,107]⟩:Bt),.string (⟨#[119,98,114]⟩:Bt)]) (ok:=fun _=>True) (okp:=fun _=>True) ?hr ?hp (fun _ hk=>hk) trivial (Below.refl _ _) (Nat.le_refl _) (by simp) ?_;(case hd=>rfl);(case hg=>rfl);(case hr=>first|(go_simp;done)|(go_simp;rfl));(case hp=>exact(aY.one (show Kd.M Kd.string _ _ _ (⟨#[97,114,101,97]⟩:Bt) [.string (⟨#[97,114,101,97]⟩:Bt)]from rfl) (aY.one (show Kd.M Kd.string _ _ _ (⟨#[98,97,115,101]⟩:Bt) [.string (⟨#[98,97,115,101]⟩:Bt)]from rfl) (aY.one (show Kd.M Kd.string _ _ _ (⟨#[98,114]⟩:Bt) [.string (⟨#[98,114]⟩:Bt)]from rfl) (aY.one (show Kd.M Kd.string _ _ _ (⟨#[99,111,108]⟩:Bt) [.string (⟨#[99,111,108]⟩:Bt)]from rfl) (aY.one (show Kd.M Kd.string _ _ _ (⟨#[101,109,98,101,100]⟩:Bt) [.string (⟨#[101,109,98,101,100]⟩:Bt)]from rfl) (aY.one (show Kd.M Kd.string _ _ _ (⟨#[104,114]⟩:Bt) [.string (⟨#[104,114]⟩:Bt)]from rfl) (aY.one (show Kd.M Kd.string _ _ _ (⟨#[105,109,103]⟩:Bt) [.string (⟨#[105,109,103]⟩:Bt)]from rfl) (aY.one (show Kd.M Kd.string _ _ _ (⟨#[105,110,112,117,116]⟩:Bt) [.string (⟨#[105,110,112,117,116]⟩:Bt)]from rfl) (aY.one (show Kd.M Kd.string _ _ _ (⟨#[108,105,110,107]⟩:Bt) [.string (⟨#[108,105,110,107]⟩:Bt)]from rfl) (aY.one (show Kd.M Kd.string _ _ _ (⟨#[109,101,116,97]⟩:Bt) [.string (⟨#[109,101,116,97]⟩:Bt)]from rfl) (aY.one (show Kd.M Kd.string _ _ _ (⟨#[112,97,114,97,109]⟩:Bt) [.string (⟨#[112,97,114,97,109]⟩:Bt)]from rfl) (aY.one (show Kd.M Kd.string _ _ _ (⟨#[115,111,117,114,99,101]⟩:Bt) [.string (⟨#[115,111,117,114,99,101]⟩:Bt)]from rfl) (aY.one (show Kd.M Kd.string _ _ _ (⟨#[116,114,97,99,107]⟩:Bt) [.string (⟨#[116,114,97,99,107]⟩:Bt)]from rfl) (aY.one (show Kd.M Kd.string _ _ _ (⟨#[119,98,114]⟩:Bt) [.string (⟨#[119,98,114]⟩:Bt)]from rfl) (aY.none _ _))))))))))))))));intro v462 w1 ho2 hb hg_ cu;clear hg_ cu;(first|rw[←Ny461.out]at ho2|(simp only[Int.reduceToNat]at ho2;rw[←Ny461.out]at ho2));have HO463:=ak.mk (Kd.bM ho2 (aJ bz));replace HB:=ak.mk (aN bz hb);clear hb ho2))
 go_ret;exact⟨_,by first|rfl|(simp[aQ,aT]<;>rfl)|(simp[*,aQ,aT]<;>rfl),by(with_reducible repeat(first|apply Kd.aZ|apply Kd.bB|apply Kd.bq));exact HO463.out,bz⟩
end Go.Proofs.aj.W7
namespace Go.Proofs.aj.W7
open Go.RowKit Go.Proofs Go.Proofs.aj Go.Proofs.YtkcmghlhpbepcaaGreatDoor Go.Proofs.ah.aG
theorem goneR_f:jh.f=some Gt:=rfl
theorem Gu:eG.f=some Gv:=rfl
theorem isGone(s:Bt)(k:Nat)(hk:1000≤k):aM.f k Gt s=some (oH s):=by
 rw[Cc _ _ _ (by decide) (by rw[show Gt.length=4 from rfl];omega),goneL_eq]
theorem isVoid(s:Bt)(k:Nat)(hk:1000≤k):aM.f k Gv s=some (nL s):=by
 rw[Cc _ _ _ (by decide) (by rw[show Gv.length=14 from rfl];omega),voidL_eq]
theorem xu(a b:List Bt):∀(n:Nat) (op:List Bt),xq a b n op=rO a b n op
 |0,_=>rfl
 |n+1,op=>by
  simp only[xq,rO]
  split
  ·rfl
  ·exact xu a b n _
theorem Ke(s:Bt)(k:Nat)(hk:200≤k):bA.f k s=some (iH s):=by rw[J9 s k (by omega),Ce s k hk]
theorem wh(s:Bt)(k:Nat)(hk:200≤k):aV.f k s=some (gP s):=by rw[walls_eq s k (by omega),Gs s k hk]
theorem Gw(s:Bt):(iH s).length<1000:=by
 obtain⟨c,hc,hl⟩:=xU s 200 (by omega);rw[Ce s 200 (by omega)]at hc
 rwa [Option.some.inj hc]
theorem qY(s:Bt):(gP s).length<1000:=by
 obtain⟨c,hc,hl⟩:=AV s 200 (by omega);rw[Gs s 200 (by omega)]at hc
 rwa [Option.some.inj hc]
theorem H8(op:List Bt)(s:Bt)(ho:op.length<10000)(k:Nat)(hk:40000≤k):fD.f k op s=some (fV op s):=by
 unfold fD.f fV mW;have h1:=uh (iH s) (gP s) (op.length+1) op;rw[Ke s k (by omega),Option.bind_some,wh s k (by omega),Option.bind_some,Gr op _ _ ho (Gw s) (qY s) k hk,Option.bind_some,par_eq,(nmOk s).par,Option.bind_some,xu];cases parL s with
 |false=>rfl
 |true=>
  rw[if_pos rfl,if_pos rfl,wh _ k (by omega),Option.bind_some,Gr _ _ _ (by omega) (by decide) (qY _) k hk,Option.bind_some,xu]
theorem Ec(a b:At):eqN a b=true↔a.f0.toList=b.f0.toList:=by unfold eqN;exact beq_iff_eq
theorem hasN_app(out:List At)(b a:At):pV (out++[b]) a=(pV out a||eqN a b):=by simp[pV]
theorem hasN_of(out:List At)(a b:At)(h:eqN a b=true)(hb:pV out b=true):pV out a=true:=by
 unfold pV at *;rw[List.any_eq_true]at *;obtain⟨x,hx,e⟩:=hb;exact⟨x,hx,(Ec _ _).2 (((Ec _ _).1 h).trans ((Ec _ _).1 e))⟩
theorem Cg:∀(l out:List At) (a:At),pV (lK out l) a=(pV out a||l.any (eqN a))
 | [],out,a=>by simp[lK]
 |b::r,out,a=>by
  simp only[lK,List.any_cons];rw[Cg r _ a];cases hb:pV out b with
  |true=>
   rw[if_pos rfl];cases he:eqN a b with
   |false=>simp
   |true=>rw[hasN_of out a b he hb];simp
  |false=>
   rw[if_neg (by decide),hasN_app,Bool.or_assoc]
theorem Ci:∀(l:List At) (a:At) (out:List At),lK out (l++[a])=if pV (lK out l) a then lK out l else lK out l++[a]
 | [],a,out=>rfl
 |b::r,a,out=>by
  simp only[List.cons_append,lK];exact Ci r a _
theorem Ed(l:List At)(i:Nat)(h:i<l.length):dV l i=l[i]:=by simp[dV,h]
theorem Ee(l:List At)(hl:l.length≤1000000)(x:List At)(i:Nat)(hi:i<l.length)(q:Nat):∀(d j k:Nat) (b:Bool),j+d=i→q+d+1≤k→
 ∃k',q≤k'∧bH.l1 k l x i b j=if(b&& !((l.drop j).take d).any (fun y=>eqN y l[i]))=true then(if x.length<4398046511104 then bH.l0 k' l (x++[l[i]]) (wrap64 ((i:Int)+1))else none)else bH.l0 k' l x (wrap64 ((i:Int)+1))
 |0,j,k,b,hj,hk=>by
  obtain⟨k,rfl⟩:∃m,k=m+1:=⟨k - 1,by omega⟩
  refine⟨k,by omega,?_⟩;simp only[bH.l1];rw[if_neg (by omega)];cases b with
  |false=>rfl
  |true=>
   rw[if_pos rfl,if_pos (by omega),if_pos (by omega),Ed l i hi];rfl
 |d+1,j,k,b,hj,hk=>by
  obtain⟨k,rfl⟩:∃m,k=m+1:=⟨k - 1,by omega⟩
  simp only[bH.l1];rw[if_pos (by omega),wN (by omega)];have hjl:j<l.length:=by omega
  have e:((l.drop j).take (d+1)).any (fun y=>eqN y l[i])=(eqN l[j] l[i] ||((l.drop (j+1)).take d).any (fun y=>eqN y l[i])):=by
   rw[List.drop_eq_getElem_cons hjl,List.take_succ_cons,List.any_cons]
  rw[e];cases b with
  |false=>
   rw[if_neg (by decide)];obtain⟨k',h1,h2⟩:=Ee l hl x i hi q d (j+1) k false (by omega) (by omega);exact⟨k',h1,h2⟩
  |true=>
   rw[if_pos rfl,if_pos (by omega),if_pos (by omega),if_pos (by omega),if_pos (by omega),Ed l i hi,Ed l j hjl];obtain⟨k',h1,h2⟩:=Ee l hl x i hi q d (j+1) k (l[j].f0.toList !=l[i].f0.toList) (by omega) (by omega);refine⟨k',h1,?_⟩;rw[h2];have e2:(l[j].f0.toList !=l[i].f0.toList)=!eqN l[j] l[i]:=rfl;rw[e2,Bool.true_and,Bool.not_or]
theorem JB(l:List At)(hl:l.length≤1000000):∀(d i k:Nat),i+d=l.length→d * (l.length+2)+1≤k→bH.l0 k l (lK [] (l.take i)) i=some (mM l)
 |0,i,k,hi,hk=>by
  obtain⟨k,rfl⟩:∃m,k=m+1:=⟨k - 1,by omega⟩
  simp only[bH.l0];rw[if_neg (by omega),List.take_of_length_le (by omega)];rfl
 |d+1,i,k,hi,hk=>by
  have e:(d+1) * (l.length+2)=d * (l.length+2)+l.length+2:=by rw[Nat.succ_mul];omega
  obtain⟨k,rfl⟩:∃m,k=m+1:=⟨k - 1,by omega⟩
  have hil:i<l.length:=by omega
  simp only[bH.l0];rw[if_pos (by omega)];obtain⟨k',h1,h2⟩:=Ee l hl (lK [] (l.take i)) i hil (d * (l.length+2)+1) i 0 k true (Nat.zero_add _) (by omega);rw[show((0:Nat):Int)=0 from rfl]at h2;rw[h2,wN (by omega),List.drop_zero,Bool.true_and];have ih:=JB l hl d (i+1) k' (by omega) h1;have ht:l.take (i+1)=l.take i++[l[i]]:=by rw[List.take_succ_eq_append_getElem hil]
  rw[ht,Ci]at ih
  have hh:pV (lK [] (l.take i)) l[i]=(l.take i).any (fun y=>eqN y l[i]):=by
   rw[Cg];simp only[pV,List.any_nil,Bool.false_or]
   congr 1
   funext y
   unfold eqN;exact BEq.comm
  rw[hh]at ih;have hlen:=xw (l.take i) [];rw[List.length_take]at hlen;simp only[List.length_nil]at hlen;cases hb:(l.take i).any (fun y=>eqN y l[i])with
  |true=>
   rw[hb,if_pos rfl]at ih;rw[if_neg (by decide)];exact ih
  |false=>
   rw[hb,if_neg (by decide)]at ih;rw[if_pos (by decide),if_pos (by omega)];exact ih
theorem once_val(l:List At)(hl:l.length≤1000000)(k:Nat)(hk:l.length * (l.length+2)+1≤k):bH.f k l=some (mM l):=by
 unfold bH.f;exact JB l hl l.length 0 k (Nat.zero_add _) hk
theorem tabs(s:Bt):mZ AQ s=Lib.containsS (iH tbN) s:=by
 rw[←oo];have e:iH tbN=[⟨#[116,98,111,100,121]⟩,⟨#[116,100]⟩,⟨#[116,102,111,111,116]⟩,⟨#[116,104]⟩,⟨#[116,104,101,97,100]⟩,⟨#[116,114]⟩]:=by kernel_rfl
 rw[e];show mZ ((bN.f).getD []) s=_;simp only[bN.f,Option.getD_some,mZ,List.any_cons,List.any_nil,Bool.or_false]
 try ac_rfl
theorem Kg(op:List Bt)(s:Bt)(ho:op.length<10000)(k:Nat)(hk:40000≤k):
 bZ.f k op s=some (if 0≤dW op [s] (uN s) op.length then(op.take (dW op [s] (uN s) op.length).toNat,true)else(op,false)):=by
 have hj:∀b,bZ.j0 k op s (gP pN) b=some (if 0≤dW op [s] (if b then gP trN else gP pN) op.length then(op.take (dW op [s] (if b then gP trN else gP pN) op.length).toNat,true)else(op,false)):=by
  obtain⟨k,rfl⟩:∃m,k=m+1:=⟨k - 1,by omega⟩
  intro b
  have hend:∀w:List Bt,w.length<1000→((bG.f k op ([s] :List Bt) w).bind fun jr=>(if jr<0 then(some (op,false))else((some (([] :List Bt):List Bt)).bind fun ow=>(if 0≤jr then(if jr≤(op.length:Int)then((some (op.take (jr:Int).toNat:List Bt)).bind fun mF=>(if ow.length+mF.length<8796093022208 then(some ((ow++mF),true))else(none)))else(none))else(none)))))=some (if 0≤dW op [s] w op.length then(op.take (dW op [s] w op.length).toNat,true)else(op,false)):=by
   intro w hw;have hf:=xg op [s] w op.length;rw[Eb op _ _ (by omega) (by simp) hw k (by omega),Option.bind_some];generalize dW op [s] w op.length=j at *
   by_cases hneg:j<0
   ·rw[if_pos hneg,if_neg (by omega)]
   ·rw[if_neg hneg,Option.bind_some,if_pos (by omega),if_pos (by omega),Option.bind_some,if_pos (by rw[List.length_take];simp;omega),if_pos (by omega),List.nil_append]
  simp only[bZ.j0];cases b with
  |true=>
   rw[if_pos rfl,wh _ k (by omega),Option.bind_some];exact hend _ (qY _)
  |false=>
   rw[if_neg (by decide)];exact hend _ (qY _)
 unfold bZ.f uN;rw[wh _ k (by omega),Option.bind_some]
 have hi:isTab s=(s.toList==[116,97,98,108,101] ||mZ AQ s):=by
  unfold isTab;rw[←tabs,Lib.toList_data]
 rw[hi]
 by_cases e:s.toList=[116,97,98,108,101]
 ·rw[if_pos e,hj true,beq_iff_eq.2 e]
  rfl
 ·rw[if_neg e,show bN.f=some AQ from rfl,Option.bind_some,AU s k (by omega),Option.bind_some,hj,beq_eq_false_iff_ne.2 e,Bool.false_or]
end Go.Proofs.aj.W7
