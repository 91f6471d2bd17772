/- Lemmas and walks, part 46. -/
import Derived.Test.YtkcmghlhpbepcaaGreatDoorNB45
set_option linter.unusedVariables false
set_option linter.unusedSimpArgs false
set_option maxHeartbeats 8000000
set_option maxRecDepth 100000
namespace Go.Proofs.aj.W7
open Go.RowKit Go.Proofs.ah.aD Go.Proofs.ah.bJ Go.Proofs.ah.bW
attribute [local go_sem] dB dD dR dS bZ cu dF dG
def bQ.l0:Nat→List (S34)→List (S34)→Int→Option ((List (S34)))
 |0,_,_,_=>none
 |k+1,x0,x3,x4=>if x4<(x0.length:Int)then(if x4<40 then(if 0≤x4 then(if 0≤(mn (((au x0 x4).f4).length:Int) 6)then(if(mn (((au x0 x4).f4).length:Int) 6)≤(((au x0 x4).f4).length:Int)then(if x3.length<1954687338268 then(bQ.l0 k x0 (x3++[(⟨(au x0 x4).f0,(au x0 x4).f1,(au x0 x4).f2,(au x0 x4).f3,(((au x0 x4).f4).take ((mn (((au x0 x4).f4).length:Int) 6):Int).toNat)⟩:S34)]) (wrap64 (x4+1)))else(none))else(none))else(none))else(none))else(some x3))else(some x3)
def bQ.f(k:Nat)(l0:List (S34)):Option ((List (S34))):=bQ.l0 k l0 (([] :List (S34))) 0
theorem bQ.calls(k:Nat)(P0_:Nat→Prop)(A0:Option Addr)(c0:Nat)(l0 r:List (S34))(w:World)(hs0:Kd.V k34 34 w w.heap.size (fun k_=>P0_ k_) (.slice A0 l0.length c0) l0)(h:bQ.f k l0=some r):
 Calls Tryz.prog 15 #[.slice A0 l0.length c0] w fun e w'=>∃v0_:Value,e=.returned (v0_)∧Kd.N k34 34 w' w.heap.size (fun k_=>(P0_ k_∨w.heap.size≤k_)) v0_ r∧Below w.heap.size w w':=by
 have hu34:=Tryz.underlying34;have HO0:=ak.mk (show Kd.V k34 34 w w.heap.size (fun k_=>(P0_ k_∨w.heap.size≤k_)) (.slice A0 l0.length c0) l0 from Kd.mR hs0 (fun k_ hk=>.inl hk));have HB:=ak.mk (Below.refl w.heap.size w);have H:(bQ.l0 k l0 (([] :List (S34))) 0)=some r:=h;clear h;obtain⟨y637,Ll⟩:∃y_:List (S34),y_=(([] :List (S34))):=⟨_,rfl⟩
 replace H:(bQ.l0 k l0 y637 0)=some r:=by first|(rw[Ll];with_reducible exact H)|(have H2_:=(Option.bind_some _ _).symm.trans H;rw[Ll];with_reducible exact H2_)|(have H2_:=(Option.bind_some _ _).symm.trans H;with_reducible exact H2_)|with_reducible exact H|(rw[Ll];exact H)|exact H
 have Ny637:=ak.mk Ll;clear Ll;have H':=ak.mk H;clear H;go_enter Tryz.func15,Tryz.ntmps15
 go_wp2_with(first|((with_reducible refine cO (N:=6) rfl ?_);refine Kd.N_lit k34 _ 34 ?hg (N':=6) ?hd (xs:=([] :List (S34))) (inner:=[]) (ok:=(fun k_=>(P0_ k_∨w.heap.size≤k_))) (okp:=(fun k_=>(P0_ k_∨w.heap.size≤k_))) ?hr ?hp (fun _ hk=>hk) ((show∀k_,w.heap.size≤k_→(fun k_=>(P0_ k_∨w.heap.size≤k_)) k_ from fun k_ hk=>(.inr (Nat.le_trans (aR bz) hk))) _ (Nat.le_refl _)) (Below.refl _ _) (Nat.le_refl _) (by simp) ?_;(case hd=>rfl);(case hg=>rfl);(case hr=>first|(go_simp;done)|(go_simp;rfl));(case hp=>exact(bM.none _ _));intro v638 w2 ho3 hb hg_ fJ;clear hg_ fJ;(first|rw[←Ny637.out]at ho3|(simp only[Int.reduceToNat]at ho3;rw[←Ny637.out]at ho3));have HO639:=ak.mk (Kd.qP ho3 (aR bz));replace HO0:=ak.mk (Kd.V_elder' (by(with_reducible repeat(first|apply Kd.ny|apply Kd.nA|apply Kd.pR));exact HO0.out) (by first|exact Kd.Jq ho3|exact Kd.jL ho3) hb);replace HB:=ak.mk (aG bz hb);clear hb ho3))
 go_loopg [3,4] k (fun kq v3 v4 w'=>∃(nT:List (S34)) (eu:Int),v4=.int .i64 eu∧ak (bQ.l0 kq l0 nT eu=some r)∧ak (kq≤k)∧ak (Kd.V k34 34 w' w.heap.size (fun k_=>(P0_ k_∨w.heap.size≤k_)∧some k_≠(v3:Value).ownBlock) (.slice A0 l0.length c0) l0)∧ak (Kd.N k34 34 w' w.heap.size (fun k_=>(P0_ k_∨w.heap.size≤k_)) v3 nT)∧ak (Below w.heap.size w w'))
 case atStart=>exact⟨(y637),(0),q'c,H',⟨Nat.le_refl _⟩,⟨by(with_reducible repeat(first|apply Kd.ny|apply Kd.nA|apply Kd.pR));exact HO0.out⟩,⟨by(with_reducible repeat(first|apply Kd.wQ|apply Kd.wR|apply Kd.zO));exact HO639.out⟩,⟨bz⟩⟩
 case round=>
  clear H'
  try clear c1
  try clear p2
  obtain⟨nT,eu,rfl,HA,HK1,zl,gy,HB⟩:=hrel;cases gk with
  |zero=>exact absurd HA.out (by simp[bQ.l0])
  |succ k1=>
   have H:=HA.out;clear HA;simp only[bQ.l0]at H
   by_cases c4:eu<(l0.length:Int)
   ·rw[if_pos c4]at H
    have mZ:decide (eu<(l0.length:Int))=true:=decide_eq_true c4;clear c4
    by_cases c5:eu<40
    ·rw[if_pos c5]at H
     have uJ:decide (eu<40)=true:=decide_eq_true c5;clear c5
     by_cases c6:0≤eu
     ·rw[if_pos c6]at H
      have zL:decide (0≤eu)=true:=decide_eq_true c6;clear c6;obtain⟨ji7,hji7⟩:∃j_:Int,(mn (((au l0 eu).f4).length:Int) 6)=j_:=⟨_,rfl⟩
      replace H:(if 0≤(ji7)then(if(ji7)≤(((au l0 eu).f4).length:Int)then(if nT.length<1954687338268 then(bQ.l0 k1 l0 (nT++[(⟨(au l0 eu).f0,(au l0 eu).f1,(au l0 eu).f2,(au l0 eu).f3,(((au l0 eu).f4).take ((ji7):Int).toNat)⟩:S34)]) (wrap64 (eu+1)))else(none))else(none))else(none))=some r:=by first|(rw[hji7]at H;exact H)|(simp only[hji7]at H⊢;exact H)
      have hji7_:(if 6<(((au l0 eu).f4).length:Int)then 6 else(((au l0 eu).f4).length:Int))=ji7:=hji7
      by_cases c8:0≤(ji7)
      ·rw[if_pos c8]at H
       have xU:=eq_true c8;have c8b1:decide (0≤(ji7))=true:=decide_eq_true c8;clear c8
       by_cases c9:(ji7)≤(((au l0 eu).f4).length:Int)
       ·rw[if_pos c9]at H
        have c9b0:=eq_true c9;have c9b1:decide ((ji7)≤(((au l0 eu).f4).length:Int))=true:=decide_eq_true c9;clear c9;obtain⟨uP,Lm⟩:∃y_:List (S36),y_=(((au l0 eu).f4).take ((ji7):Int).toNat):=⟨_,rfl⟩
        replace H:(if nT.length<1954687338268 then(bQ.l0 k1 l0 (nT++[(⟨(au l0 eu).f0,(au l0 eu).f1,(au l0 eu).f2,(au l0 eu).f3,uP⟩:S34)]) (wrap64 (eu+1)))else(none))=some r:=by first|(rw[Lm];with_reducible exact H)|(have H2_:=(Option.bind_some _ _).symm.trans H;rw[Lm];with_reducible exact H2_)|(have H2_:=(Option.bind_some _ _).symm.trans H;with_reducible exact H2_)|with_reducible exact H|(rw[Lm];exact H)|exact H
        have Ny642:=ak.mk Lm;clear Lm
        by_cases c10:nT.length<1954687338268
        ·rw[if_pos c10]at H
         have LMc10:=ak.mk c10;clear c10;obtain⟨y647,Lp⟩:∃y_:List (S34),y_=(nT++[(⟨(au l0 eu).f0,(au l0 eu).f1,(au l0 eu).f2,(au l0 eu).f3,uP⟩:S34)]):=⟨_,rfl⟩
         replace H:(bQ.l0 k1 l0 y647 (wrap64 (eu+1)))=some r:=by first|(rw[Lp];with_reducible exact H)|(have H2_:=(Option.bind_some _ _).symm.trans H;rw[Lp];with_reducible exact H2_)|(have H2_:=(Option.bind_some _ _).symm.trans H;with_reducible exact H2_)|with_reducible exact H|(rw[Lp];exact H)|exact H
         have Ny647:=ak.mk Lp;clear Lp;have H':=ak.mk H;clear H;have p640:0≤(eu:Int):=q'b;have q640:eu<(l0.length:Int):=q'b;obtain⟨ad640,kg,jO,e640,hx640_0,hx640_1,hx640_2,hx640_3,hx640_4,P9,Qa⟩:=kQ (Kd.EM zl.out).2.2 eu p640 q640;cases e640;obtain⟨ce640,hce640,hMe640,hcc640⟩:=Kd.V_get zl.out z34 eu p640 (by first|exact q640|exact q'b|(have e_:=(Kd.EM zl.out).1;omega));obtain⟨ua640_4,uc640_4,rfl,Jr,Js⟩:=Ra hMe640;have DN:=hcc640 4 _ rfl;rw[lX _ _ 4 (by omega)]at DN;replace DN:=Option.some.inj (DN.symm.trans hx640_4);injection DN with hva_ hvn_ hvc_
         rw[hva_]at Js;rw[hvc_]at Jr;have nC:=ak.mk (show Kd.V k36 36 _ w.heap.size _ _ ((au l0 eu).f4)from Kd.V_mk Jr Js);clear hva_ hvn_ hvc_ Js Jr;clear hcc640 hce640;have DR:=ak.mk Qa;have HC640_4:=ak.mk P9;clear Qa P9;replace p640:=eq_true p640;replace q640:=eq_true q640
         go_wp2_with(first|((with_reducible refine cO (N:=5) rfl ?_);refine eH ?hg (N:=5) ?hd (cs:=#[.int .i64 0,.int .i64 0,.string (⟨#[]⟩:Bt),.string (⟨#[]⟩:Bt),.slice none 0 0]) (t:=34) ?hr ?_;(case hd=>rfl);(case hg=>rfl);(case hr=>first|(go_simp;done)|(go_simp;rfl));intro eT hg w11 fP hb;have je:=ak.mk (fP);have GW641:=ak.mk ((by rw[hg];exact(aR bz):w.heap.size≤eT));have Gz:=ak.mk ((by rw[hg];exact(aR bz):w.heap.size≤eT));replace zl:=ak.mk (Kd.Qb (Kd.Lr (by(with_reducible repeat(first|apply Kd.ny|apply Kd.nA|apply Kd.pR));exact zl.out) eT (Nat.le_of_eq hg.symm)) hb);replace gy:=ak.mk (Kd.jl (Kd.N_elderB (nz gy.out) eT (Nat.le_of_eq hg.symm)) hb);replace nC:=ak.mk (Kd.Qb (Kd.Lr (by(with_reducible repeat(first|apply Kd.ny|apply Kd.nA|apply Kd.pR));exact nC.out) eT (Nat.le_of_eq hg.symm)) hb);replace DR:=ak.mk (Kd.eF (by repeat(first|(with_reducible exact DR.out)|(with_reducible refine Kd.mg ?_ _)|(with_reducible refine Kd.nk ?_ _)|(with_reducible refine Kd.pJ ?_)|exact DR.out)) hb);replace HB:=ak.mk (aG bz hb);clear hb fP hg;have Ov:w11.cell? ⟨eT,0,none⟩=some (.int .i64 0):=(aC je.out 0).trans rfl;have Ow:w11.cell? ⟨eT,1,none⟩=some (.int .i64 0):=(aC je.out 1).trans rfl;have Ox:w11.cell? ⟨eT,2,none⟩=some (.string (⟨#[]⟩:Bt)):=(aC je.out 2).trans rfl;have Oy:w11.cell? ⟨eT,3,none⟩=some (.string (⟨#[]⟩:Bt)):=(aC je.out 3).trans rfl;have Oz:w11.cell? ⟨eT,4,none⟩=some (.slice none 0 0):=(aC je.out 4).trans rfl;have OA:=ay je.out 0;have OB:=ay je.out 1;have OC:=ay je.out 2;have OD:=ay je.out 3;have OE:=ay je.out 4)|((with_reducible refine j6 (t:=34) (p:=5) rfl ?_);refine jE (t:=34) (p:=5) (v:=?vo_w13) (w1:=(((((w11.setCell ⟨eT,0,none⟩ (.int .i64 ((au l0 eu).f0))).setCell ⟨eT,1,none⟩ (.int .i64 ((au l0 eu).f1))).setCell ⟨eT,2,none⟩ (.string ((au l0 eu).f2))).setCell ⟨eT,3,none⟩ (.string ((au l0 eu).f3))).setCell ⟨eT,4,none⟩ (.slice kg ((au l0 eu).f4).length jO))) ?hg ?ho ?hn ?hr ?_;(case ho=>rfl);(case hg=>rfl);(case hn=>rfl);(case hr=>first|(go_simp;done)|(go_simp;rfl));intro w13 hw;have n0_:ak (Kd.V k34 34 w13 w.heap.size (fun k_=>(P0_ k_∨w.heap.size≤k_)∧some k_≠(u3:Value).ownBlock∧k_≠eT) (.slice (some ad640) l0.length c0) l0):=⟨(by rw[hw];exact(by(with_reducible repeat(first|apply Kd.ny|apply Kd.nA|apply Kd.pR));exact Kd.mR (Kd.uQ (p:=⟨eT,4,none⟩) (Kd.uQ (p:=⟨eT,3,none⟩) (Kd.uQ (p:=⟨eT,2,none⟩) (Kd.uQ (p:=⟨eT,1,none⟩) (Kd.uQ (p:=⟨eT,0,none⟩) (Kd.mR zl.out (fun k_ hk=>(⟨hk,hk.2⟩:_∧k_≠eT))) (fun _ hk=>hk.2) (.int .i64 ((au l0 eu).f0))) (fun _ hk=>hk.2) (.int .i64 ((au l0 eu).f1))) (fun _ hk=>hk.2) (.string ((au l0 eu).f2))) (fun _ hk=>hk.2) (.string ((au l0 eu).f3))) (fun _ hk=>hk.2) (.slice kg ((au l0 eu).f4).length jO)) (fun _ hk=>⟨hk.1.1.1,⟨hk.1.1.2,hk.1.2⟩⟩)))⟩;have n1_:ak (Kd.N k34 34 w13 w.heap.size (fun k_=>(P0_ k_∨w.heap.size≤k_)∧k_≠eT) u3 nT):=⟨(by rw[hw];exact(by(with_reducible repeat(first|apply Kd.wQ|apply Kd.wR|apply Kd.zO));exact Kd.oq (Kd.GA (p:=⟨eT,4,none⟩) (Kd.GA (p:=⟨eT,3,none⟩) (Kd.GA (p:=⟨eT,2,none⟩) (Kd.GA (p:=⟨eT,1,none⟩) (Kd.GA (p:=⟨eT,0,none⟩) (Kd.oq gy.out (fun k_ hk=>(⟨hk,hk.2⟩:_∧k_≠eT))) (fun _ hk=>hk.2) (.int .i64 ((au l0 eu).f0))) (fun _ hk=>hk.2) (.int .i64 ((au l0 eu).f1))) (fun _ hk=>hk.2) (.string ((au l0 eu).f2))) (fun _ hk=>hk.2) (.string ((au l0 eu).f3))) (fun _ hk=>hk.2) (.slice kg ((au l0 eu).f4).length jO)) (fun _ hk=>⟨hk.1.1,hk.1.2⟩)))⟩;have n2_:ak (Kd.V k36 36 w13 w.heap.size (fun k_=>(P0_ k_∨w.heap.size≤k_)∧some k_≠(u3:Value).ownBlock∧k_≠eT) (.slice kg ((au l0 eu).f4).length jO) ((au l0 eu).f4)):=⟨(by rw[hw];exact(by(with_reducible repeat(first|apply Kd.ny|apply Kd.nA|apply Kd.pR));exact Kd.mR (Kd.uQ (p:=⟨eT,4,none⟩) (Kd.uQ (p:=⟨eT,3,none⟩) (Kd.uQ (p:=⟨eT,2,none⟩) (Kd.uQ (p:=⟨eT,1,none⟩) (Kd.uQ (p:=⟨eT,0,none⟩) (Kd.mR nC.out (fun k_ hk=>(⟨hk,hk.2⟩:_∧k_≠eT))) (fun _ hk=>hk.2) (.int .i64 ((au l0 eu).f0))) (fun _ hk=>hk.2) (.int .i64 ((au l0 eu).f1))) (fun _ hk=>hk.2) (.string ((au l0 eu).f2))) (fun _ hk=>hk.2) (.string ((au l0 eu).f3))) (fun _ hk=>hk.2) (.slice kg ((au l0 eu).f4).length jO)) (fun _ hk=>⟨hk.1.1.1,⟨hk.1.1.2,hk.1.2⟩⟩)))⟩;have n3_:ak (w13.heap[eT]?=some (.cells #[.int .i64 ((au l0 eu).f0),.int .i64 ((au l0 eu).f1),.string ((au l0 eu).f2),.string ((au l0 eu).f3),.slice kg ((au l0 eu).f4).length jO] 34 (0,0))):=⟨(by rw[hw];exact(by(with_reducible repeat(first|refine aT ?_ _|refine aY ?_ |refine aU ?_ _));refine bU (cs:=#[.int .i64 ((au l0 eu).f0),.int .i64 ((au l0 eu).f1),.string ((au l0 eu).f2),.string ((au l0 eu).f3),.slice none 0 0]) ?_ 4 _ rfl;(with_reducible repeat(first|refine aT ?_ _|refine aY ?_ |refine aU ?_ _));refine bU (cs:=#[.int .i64 ((au l0 eu).f0),.int .i64 ((au l0 eu).f1),.string ((au l0 eu).f2),.string (⟨#[]⟩:Bt),.slice none 0 0]) ?_ 3 _ rfl;(with_reducible repeat(first|refine aT ?_ _|refine aY ?_ |refine aU ?_ _));refine bU (cs:=#[.int .i64 ((au l0 eu).f0),.int .i64 ((au l0 eu).f1),.string (⟨#[]⟩:Bt),.string (⟨#[]⟩:Bt),.slice none 0 0]) ?_ 2 _ rfl;(with_reducible repeat(first|refine aT ?_ _|refine aY ?_ |refine aU ?_ _));refine bU (cs:=#[.int .i64 ((au l0 eu).f0),.int .i64 0,.string (⟨#[]⟩:Bt),.string (⟨#[]⟩:Bt),.slice none 0 0]) ?_ 1 _ rfl;(with_reducible repeat(first|refine aT ?_ _|refine aY ?_ |refine aU ?_ _));refine bU (cs:=#[.int .i64 0,.int .i64 0,.string (⟨#[]⟩:Bt),.string (⟨#[]⟩:Bt),.slice none 0 0]) ?_ 0 _ rfl;(with_reducible repeat(first|refine aT ?_ _|refine aY ?_ |refine aU ?_ _));exact je.out))⟩;have n4_:ak (Below w.heap.size w w13):=⟨(by rw[hw];exact(bs Gz.out))⟩;clear hw;clear zl;clear gy;clear nC;clear je;clear HB;have zl:=n0_;have gy:=n1_;have nC:=n2_;have je:=n3_;have HB:=n4_;clear n0_ n1_ n2_ n3_ n4_;have sF:w13.cell? ⟨eT,0,none⟩=some (.int .i64 ((au l0 eu).f0)):=(aC je.out 0).trans rfl;have sG:w13.cell? ⟨eT,1,none⟩=some (.int .i64 ((au l0 eu).f1)):=(aC je.out 1).trans rfl;have sH:w13.cell? ⟨eT,2,none⟩=some (.string ((au l0 eu).f2)):=(aC je.out 2).trans rfl;have sI:w13.cell? ⟨eT,3,none⟩=some (.string ((au l0 eu).f3)):=(aC je.out 3).trans rfl;have sJ:w13.cell? ⟨eT,4,none⟩=some (.slice kg ((au l0 eu).f4).length jO):=(aC je.out 4).trans rfl;have sK:=ay je.out 0;have sM:=ay je.out 1;have sN:=ay je.out 2;have sO:=ay je.out 3;have sP:=ay je.out 4;have q15:((ji7):Int)≤((((au l0 eu).f4).length:Int):Int):=q'b;obtain⟨i015,hi015,_,hsz15,_⟩:=info_parts HV;have Qc:((au l0 eu).f4).length≤jO:=HC640_4.out;have hC15:Kd.F k36 _ _ kg ((au l0 eu).f4).length ((au l0 eu).f4):=(Kd.V_at (base:=w.heap.size) nC.out).2.2;have hcut15:=wK (P:=Tryz.prog) 32 36 .i64 Tryz.underlying32 hi015 kg ((au l0 eu).f4).length jO (ji7) (q'b) q15 Qc;have hr15:=Kd.F_take (m:=((ji7):Int).toNat) hC15 (by omega);have hy15:uP.length=((ji7):Int).toNat:=(by rw[Ny642.out,List.length_take];omega);rw[←Ny642.out]at hr15;rw[←hy15]at hcut15;have CK:=ak.mk (show Kd.V k36 36 _ w.heap.size _ (.slice kg uP.length jO) uP from Kd.V_mk (by omega) hr15);have HC646:=ak.mk (show uP.length≤jO from by omega);clear hr15 hC15 Qc hi015 hsz15;have KY15:=ak.mk hy15;clear hy15;replace q15:=eq_true q15)|((with_reducible refine j6 (t:=32) (p:=28) rfl ?_);refine jE (t:=32) (p:=28) (v:=?vo_w16) (w1:=(w13.setCell ⟨eT,4,none⟩ (.slice kg uP.length jO))) ?hg ?ho ?hn ?hr ?_;(case ho=>rfl);(case hg=>rfl);(case hn=>rfl);(case hr=>first|(go_simp;done)|(go_simp;rfl));intro w16 hw;have n0_:ak (Kd.V k34 34 w16 w.heap.size (fun k_=>(P0_ k_∨w.heap.size≤k_)∧some k_≠(u3:Value).ownBlock∧k_≠eT) (.slice (some ad640) l0.length c0) l0):=⟨(by rw[hw];exact(by(with_reducible repeat(first|apply Kd.ny|apply Kd.nA|apply Kd.pR));exact Kd.mR (Kd.uQ (p:=⟨eT,4,none⟩) (Kd.mR zl.out (fun k_ hk=>(⟨hk,hk.2.2⟩:_∧k_≠eT))) (fun _ hk=>hk.2) (.slice kg uP.length jO)) (fun _ hk=>⟨hk.1.1,⟨hk.1.2.1,hk.1.2.2⟩⟩)))⟩;have n1_:ak (Kd.N k34 34 w16 w.heap.size (fun k_=>(P0_ k_∨w.heap.size≤k_)∧k_≠eT) u3 nT):=⟨(by rw[hw];exact(by(with_reducible repeat(first|apply Kd.wQ|apply Kd.wR|apply Kd.zO));exact Kd.oq (Kd.GA (p:=⟨eT,4,none⟩) (Kd.oq gy.out (fun k_ hk=>(⟨hk,hk.2⟩:_∧k_≠eT))) (fun _ hk=>hk.2) (.slice kg uP.length jO)) (fun _ hk=>⟨hk.1.1,hk.1.2⟩)))⟩;have n2_:ak (Kd.V k36 36 w16 w.heap.size (fun k_=>(P0_ k_∨w.heap.size≤k_)∧some k_≠(u3:Value).ownBlock∧k_≠eT) (.slice kg ((au l0 eu).f4).length jO) ((au l0 eu).f4)):=⟨(by rw[hw];exact(by(with_reducible repeat(first|apply Kd.ny|apply Kd.nA|apply Kd.pR));exact Kd.mR (Kd.uQ (p:=⟨eT,4,none⟩) (Kd.mR nC.out (fun k_ hk=>(⟨hk,hk.2.2⟩:_∧k_≠eT))) (fun _ hk=>hk.2) (.slice kg uP.length jO)) (fun _ hk=>⟨hk.1.1,⟨hk.1.2.1,hk.1.2.2⟩⟩)))⟩;have n3_:ak (Kd.V k36 36 w16 w.heap.size (fun k_=>(P0_ k_∨w.heap.size≤k_)∧some k_≠(u3:Value).ownBlock∧k_≠eT) (.slice kg uP.length jO) uP):=⟨(by rw[hw];exact(by(with_reducible repeat(first|apply Kd.ny|apply Kd.nA|apply Kd.pR));exact Kd.mR (Kd.uQ (p:=⟨eT,4,none⟩) (Kd.mR CK.out (fun k_ hk=>(⟨hk,hk.2.2⟩:_∧k_≠eT))) (fun _ hk=>hk.2) (.slice kg uP.length jO)) (fun _ hk=>⟨hk.1.1,⟨hk.1.2.1,hk.1.2.2⟩⟩)))⟩;have n4_:ak (w16.heap[eT]?=some (.cells #[.int .i64 ((au l0 eu).f0),.int .i64 ((au l0 eu).f1),.string ((au l0 eu).f2),.string ((au l0 eu).f3),.slice kg uP.length jO] 34 (0,0))):=⟨(by rw[hw];exact(by(with_reducible repeat(first|refine aT ?_ _|refine aY ?_ |refine aU ?_ _));refine bU (cs:=#[.int .i64 ((au l0 eu).f0),.int .i64 ((au l0 eu).f1),.string ((au l0 eu).f2),.string ((au l0 eu).f3),.slice kg ((au l0 eu).f4).length jO]) ?_ 4 _ rfl;(with_reducible repeat(first|refine aT ?_ _|refine aY ?_ |refine aU ?_ _));exact je.out))⟩;have n5_:ak (Below w.heap.size w w16):=⟨(by rw[hw];exact(bs Gz.out))⟩;clear hw;clear zl;clear gy;clear nC;clear CK;clear je;clear HB;have zl:=n0_;have gy:=n1_;have nC:=n2_;have CK:=n3_;have je:=n4_;have HB:=n5_;clear n0_ n1_ n2_ n3_ n4_ n5_;have OG:w16.cell? ⟨eT,0,none⟩=some (.int .i64 ((au l0 eu).f0)):=(aC je.out 0).trans rfl;have OH:w16.cell? ⟨eT,1,none⟩=some (.int .i64 ((au l0 eu).f1)):=(aC je.out 1).trans rfl;have OI:w16.cell? ⟨eT,2,none⟩=some (.string ((au l0 eu).f2)):=(aC je.out 2).trans rfl;have OJ:w16.cell? ⟨eT,3,none⟩=some (.string ((au l0 eu).f3)):=(aC je.out 3).trans rfl;have OL:w16.cell? ⟨eT,4,none⟩=some (.slice kg uP.length jO):=(aC je.out 4).trans rfl;have OM:=ay je.out 0;have OO:=ay je.out 1;have OP:=ay je.out 2;have OQ:=ay je.out 3;have OT:=ay je.out 4)|((with_reducible refine qJ (b:=.append) (xs:=#[.tmp 29,.tmp 31]) rfl ?_);at_builtin;refine Kd.N_append k34 (w0:=w) w.heap.size rfl (.tmp 29) (.tmp 31) 22 34 (.agg #[(.int .i64 0),(.int .i64 0),(.string ⟨#[]⟩),(.string ⟨#[]⟩),(.slice none 0 0)]) 72 rfl Tryz.underlying22 ru rfl (by decide) (by omega) u3 nT (⟨(au l0 eu).f0,(au l0 eu).f1,(au l0 eu).f2,(au l0 eu).f3,uP⟩:S34) [.int .i64 ((au l0 eu).f0),.int .i64 ((au l0 eu).f1),.string ((au l0 eu).f2),.string ((au l0 eu).f3),.slice kg uP.length jO] (fun k_=>(P0_ k_∨w.heap.size≤k_)∧k_≠eT) (fun k_=>((fun k_=>(P0_ k_∨w.heap.size≤k_)∧k_≠eT)) k_∧some k_≠(u3:Value).ownBlock) rfl rfl ?aP (fun _ hk=>hk) ?aF ?aO ?aB ?aS ?aL ?_;(case aP=>exact(k34_mkF _ _ (⟨(au l0 eu).f0,(au l0 eu).f1,(au l0 eu).f2,(au l0 eu).f3,uP⟩:S34) (Kd.EM (Kd.mR (ok':=(fun k_=>((fun k_=>(P0_ k_∨w.heap.size≤k_)∧k_≠eT)) k_∧some k_≠(u3:Value).ownBlock)) (CK.out) (fun k_ hk=>⟨⟨hk.1,hk.2.2⟩,hk.2.1⟩))).2.1 (Kd.V_F (Kd.mR (ok':=(fun k_=>((fun k_=>(P0_ k_∨w.heap.size≤k_)∧k_≠eT)) k_∧some k_≠(u3:Value).ownBlock)) (CK.out) (fun k_ hk=>⟨⟨hk.1,hk.2.2⟩,hk.2.1⟩)))));(case aB=>exact(bs Gz.out));(case aF=>exact(fun k_ hk=>⟨(.inr (Nat.le_trans (aR (bs Gz.out)) hk)),Kd.freshB (g:=eT) (o:=.cells #[.int .i64 ((au l0 eu).f0),.int .i64 ((au l0 eu).f1),.string ((au l0 eu).f2),.string ((au l0 eu).f3),.slice kg uP.length jO] 34 (0,0)) (kz je.out) k_ hk⟩));(case aO=>exact(nz gy.out));(case aS=>exact(aR (bs Gz.out)));(case aL=>have:=LMc10.out;omega);intro v648 w18 ho hb hg hat;rw[←Ny647.out]at ho;have HO649:=ak.mk (ho);replace zl:=ak.mk (Kd.EN (ok:=(fun k_=>(P0_ k_∨w.heap.size≤k_)∧k_≠eT)) (by(with_reducible repeat(first|apply Kd.ny|apply Kd.nA|apply Kd.pR));exact Kd.mR zl.out (fun _ hk=>⟨⟨hk.1,hk.2.2⟩,hk.2.1⟩)) hg hat);replace nC:=ak.mk (Kd.EN (ok:=(fun k_=>(P0_ k_∨w.heap.size≤k_)∧k_≠eT)) (by(with_reducible repeat(first|apply Kd.ny|apply Kd.nA|apply Kd.pR));exact Kd.mR nC.out (fun _ hk=>⟨⟨hk.1,hk.2.2⟩,hk.2.1⟩)) hg hat);replace je:=ak.mk (qU (g:=eT) (o:=.cells #[.int .i64 ((au l0 eu).f0),.int .i64 ((au l0 eu).f1),.string ((au l0 eu).f2),.string ((au l0 eu).f3),.slice kg uP.length jO] 34 (0,0)) (kz je.out) hg (Kd.N_away gy.out (fun _ hk=>hk.2)));replace CK:=ak.mk (Kd.EN (ok:=(fun k_=>(P0_ k_∨w.heap.size≤k_)∧k_≠eT)) (by(with_reducible repeat(first|apply Kd.ny|apply Kd.nA|apply Kd.pR));exact Kd.mR CK.out (fun _ hk=>⟨⟨hk.1,hk.2.2⟩,hk.2.1⟩)) hg hat);replace HB:=ak.mk (hb);clear gy;clear ho hb hg hat))
         go_roundg k1
         case measure=>have:=HK1.out;omega
         case rel=>exact⟨(y647),(wrap64 (eu+1)),q'c,H',⟨by have:=HK1.out;omega⟩,⟨by(with_reducible repeat(first|apply Kd.ny|apply Kd.nA|apply Kd.pR));exact Kd.mR zl.out (fun _ hk=>⟨hk.1.1,hk.2⟩)⟩,⟨by(with_reducible repeat(first|apply Kd.wQ|apply Kd.wR|apply Kd.zO));exact Kd.oq HO649.out (fun _ hk=>hk.1)⟩,⟨bs Gz.out⟩⟩
        ·rw[if_neg c10]at H
         exact absurd H (by simp)
       ·rw[if_neg c9]at H
        exact absurd H (by simp)
      ·rw[if_neg c8]at H
       exact absurd H (by simp)
     ·rw[if_neg c6]at H
      exact absurd H (by simp)
    ·rw[if_neg c5]at H
     have uJ:decide (eu<40)=false:=decide_eq_false c5;clear c5;obtain rfl:=Option.some.inj H;go_wp2;go_ret;exact⟨_,by first|rfl|(simp[aJ,aM]<;>rfl)|(simp[*,aJ,aM]<;>rfl),by(with_reducible repeat(first|apply Kd.wQ|apply Kd.wR|apply Kd.zO));exact gy.out,bz⟩
   ·rw[if_neg c4]at H
    have mZ:decide (eu<(l0.length:Int))=false:=decide_eq_false c4;clear c4;obtain rfl:=Option.some.inj H;go_wp2;go_ret;exact⟨_,by first|rfl|(simp[aJ,aM]<;>rfl)|(simp[*,aJ,aM]<;>rfl),by(with_reducible repeat(first|apply Kd.wQ|apply Kd.wR|apply Kd.zO));exact gy.out,bz⟩
end Go.Proofs.aj.W7
namespace Go.Proofs.aj.W7
open Go.RowKit Go.Proofs Go.Proofs.aj Go.Proofs.YtkcmghlhpbepcaaGreatDoor Go.Proofs.ah.aD
def tY(x:Rw):Rw:=⟨x.f0,x.f1,x.f2,x.f3,x.f4.take ((mn (x.f4.length:Int) 6):Int).toNat⟩
theorem mn6'(n:Nat):0≤mn (n:Int) 6∧mn (n:Int) 6≤n∧mn (n:Int) 6≤6:=by unfold mn;split<;>omega
theorem bound_l0(l:List Rw)(hl:l.length≤1000000000):∀(d i k:Nat) (acc:List Rw),40 - i≤d→acc.length=i→d<k→
 bQ.l0 k l acc i=some (acc++((l.drop i).take (40 - i)).map tY):=by
 intro d
 induction d with
 |zero=>
  intro i k acc hd ha hk;obtain⟨k,rfl⟩:∃m,k=m+1:=⟨k - 1,by omega⟩
  rw[show 40 - i=0 from by omega];simp only[bQ.l0]
  by_cases h1:(i:Int)<(l.length:Int)
  ·rw[if_pos h1,if_neg (by omega)];simp
  ·rw[if_neg h1];simp
 |succ d ih=>
  intro i k acc hd ha hk;obtain⟨k,rfl⟩:∃m,k=m+1:=⟨k - 1,by omega⟩
  by_cases h1:(i:Int)<(l.length:Int)
  ·by_cases h2:(i:Int)<40
   ·have hi:i<l.length:=by omega
    have hm:=mn6' l[i].f4.length;have:=ih (i+1) k (acc++[tY l[i]]) (by omega) (by simp[ha]) (by omega);simp only[bQ.l0];rw[if_pos h1,if_pos h2,if_pos (by omega),nH l i hi,if_pos hm.1,if_pos hm.2.1,if_pos (by omega),wN (by omega)];refine this.trans ?_;rw[List.append_assoc]
    congr 2
    rw[show 40 - i=(40 - (i+1))+1 from by omega,List.drop_eq_getElem_cons hi,List.take_succ_cons];rfl
   ·simp only[bQ.l0]
    rw[if_pos h1,if_neg h2,show 40 - i=0 from by omega];simp
  ·simp only[bQ.l0]
   rw[if_neg h1,List.drop_of_length_le (by omega)];simp
theorem bound_f(l:List Rw)(hl:l.length≤1000000000)(k:Nat)(hk:100≤k):bQ.f k l=some ((l.take 40).map tY):=by
 have:=bound_l0 l hl 40 0 k [] (by omega) rfl (by omega);simpa [bQ.f]using this
theorem QA:∀(l:List S36),(l.flatMap atT).length≤6 * (l.map Av).sum
 | []=>by simp
 |a::l=>by
  have ih:=QA l;have h1:=Hu true a.f1.data.toList;have e0:=l9 a.f0;have e1:=l9 a.f1;simp only[List.flatMap_cons,List.length_append,List.map_cons,List.sum_cons,Av,atT,List.length_cons,List.length_nil]at *;omega
theorem own_wt(x:Rw):own x≤30 * qD x:=by
 have h1:=QA x.f4;have e0:=l9 x.f2;have e1:=l9 x.f3;have e2:(x.f4.map (fun x=>Av x)).sum=(x.f4.map Av).sum:=rfl;unfold own tagT;simp only[List.length_append,List.length_cons,List.length_nil,qD]at *;omega
theorem QB:∀(l:List Rw),(l.map own).sum≤30 * (l.map qD).sum
 | []=>by simp
 |x::l=>by have:=QB l;have:=own_wt x;simp only[List.map_cons,List.sum_cons];omega
theorem yZ{α:Type}(f:α→Nat):∀(l:List α) (n:Nat),((l.take n).map f).sum≤(l.map f).sum
 | [],n=>by simp
 |a::l,0=>by simp
 |a::l,n+1=>by have:=yZ f l n;simp only[List.take_succ_cons,List.map_cons,List.sum_cons];omega
theorem QC(x:Rw):qD (tY x)≤qD x:=by
 have:=yZ Av x.f4 (mn (x.f4.length:Int) 6).toNat;simp only[qD,tY];omega
theorem FP:∀(l:List Rw),((l.map tY).map qD).sum≤(l.map qD).sum
 | []=>by simp
 |x::l=>by have:=FP l;have:=QC x;simp only[List.map_cons,List.sum_cons];omega
theorem QD:∀(l:List Rw),l.length≤(l.map qD).sum
 | []=>by simp
 |x::l=>by have:=QD l;simp only[List.map_cons,List.sum_cons,List.length_cons,qD];omega
theorem size_of(l:List Rw)(h:(l.map qD).sum≤2000000):GZ ((l.take 40).map tY):=by
 refine⟨by rw[List.length_map,List.length_take];omega,?_,?_⟩
 ·have h1:=QB ((l.take 40).map tY)
  have h2:=FP (l.take 40);have h3:=yZ qD l 40;unfold yx;rw[List.drop_zero];omega
 ·intro x hx
  obtain⟨y,_,rfl⟩:=List.mem_map.1 hx;have:=mn6' y.f4.length;simp only[tY,List.length_take];omega
end Go.Proofs.aj.W7
namespace Go.Proofs.aj.W7
open Go.RowKit Go.Proofs.ah.aD Go.Proofs.ah.bJ Go.Proofs.ah.bW
attribute [local go_sem] dB dD dR dS bZ cu dF dG
def gU.f(l0:List (S34)):Option (Bt):=(fA.f l0 (-1)).bind fun t636=>(some t636)
theorem gU.calls(A0:Option Addr)(c0:Nat)(l0:List (S34))(r:Bt)(w:World)(hr0:Kd.C k34 w A0 l0.length l0)(hc0:l0.length≤c0)(h:gU.f l0=some r)(hS_:Go.Proofs.YtkcmghlhpbepcaaGreatDoor.Std w):
 Calls Tryz.prog 42 #[.slice A0 l0.length c0] w fun e w'=>e=.returned (.string r)∧Below w.heap.size w w':=by
 have HS_:=ak.mk hS_;clear hS_;have HR0:=ak.mk hr0;have HC0:=ak.mk hc0;clear hr0 hc0;have HB:=ak.mk (Below.refl w.heap.size w);have H:((fA.f l0 (-1)).bind fun t636=>(some t636))=some r:=h;clear h;replace H:=Option.bind_eq_some_iff.mp H;obtain⟨t636,A20,H⟩:=H;replace H:(some t636)=some r:=H;have A2:=ak.mk A20;clear A20;obtain rfl:=Option.some.inj H;go_enter Tryz.func42,Tryz.ntmps42
 go_wp2_with(first|((with_reducible refine aZ (f:=90) rfl ?_);refine dJ (some 4) rfl rfl Tryz.func90 (by kernel_rfl) rfl #[.slice A0 l0.length c0,.int .i64 (-1)] rfl q'a ?_;(with_reducible refine(fA.calls _ _ l0 (-1) t636 _ ?cZ ?dH A2.out (Go.Proofs.YtkcmghlhpbepcaaGreatDoor.Std.below HS_.out bz)).mono ?_);(case cZ=>repeat(first|exact HR0.out|(with_reducible refine Kd.mg ?_ _)|(with_reducible refine Kd.nk ?_ _)|(with_reducible refine Kd.pJ ?_)));(case dH=>exact HC0.out);rintro e w3 ⟨rfl,hb⟩;refine⟨_,rfl,?_⟩;replace HB:=ak.mk (aG bz hb);(try clear hb);(try clear hb2);(try clear hk);(try clear hi)))
 go_ret;exact⟨by first|rfl|(simp[aJ,aM]<;>rfl)|(simp[*,aJ,aM]<;>rfl),bz⟩
end Go.Proofs.aj.W7
namespace Go.Proofs.aj.W7
open Go.RowKit Go.Proofs.ah.aD Go.Proofs.ah.bJ Go.Proofs.ah.bW
attribute [local go_sem] dB dD dR dS bZ cu dF dG
attribute [local go_sem high] eqA36
def dW.l0:Nat→List (S36)→List (S36)→Int→Option (Bool)
 |0,_,_,_=>none
 |k+1,x0,x1,x5=>if x5<(x0.length:Int)then(if 0≤x5 then(if x5<(x1.length:Int)then(if(!((((bq x0 x5).f0).toList)==(((bq x1 x5).f0).toList))||(!((((bq x0 x5).f1).toList)==(((bq x1 x5).f1).toList))))=true then(some false)else(dW.l0 k x0 x1 (wrap64 (x5+1))))else(none))else(none))else(some true)
def dW.f(k:Nat)(l0 l1:List (S36)):Option (Bool):=if(l0.length:Int)=(l1.length:Int)then(dW.l0 k l0 l1 0)else(some false)
theorem dW.calls(k:Nat)(A0:Option Addr)(c0:Nat)(l0:List (S36))(A1:Option Addr)(c1:Nat)(l1:List (S36))(r:Bool)(w:World)(hr0:Kd.C k36 w A0 l0.length l0)(hc0:l0.length≤c0)(hr1:Kd.C k36 w A1 l1.length l1)(hc1:l1.length≤c1)(h:dW.f k l0 l1=some r):
 Calls Tryz.prog 71 #[.slice A0 l0.length c0,.slice A1 l1.length c1] w fun e w'=>e=.returned (.bool r)∧bP w w':=by
 have hu36:=Tryz.underlying36;have HR0:=ak.mk hr0;have HC0:=ak.mk hc0;clear hr0 hc0;have HR1:=ak.mk hr1;have HC1:=ak.mk hc1;clear hr1 hc1;have H:(if(l0.length:Int)=(l1.length:Int)then(dW.l0 k l0 l1 0)else(some false))=some r:=h;clear h
 by_cases c3:(l0.length:Int)=(l1.length:Int)
 ·rw[if_pos c3]at H
  have nN:((l0.length:Int)==(l1.length:Int))=true:=beq_iff_eq.mpr c3;have zJ:((l0.length:Int) !=(l1.length:Int))=false:=bne_eq_false_iff_eq.mpr c3;have c3b2:(l0.length==l1.length)=true:=by first|simpa using c3|(simp at c3⊢;omega)
  clear c3;have H':=ak.mk H;clear H;go_enter Tryz.func71,Tryz.ntmps71;go_wp2
  repeat(go_quiet (fail);try go_wp2)
  go_loopg [5] k (fun kq v5 w'=>∃(iP:Int),v5=.int .i64 iP∧ak (dW.l0 kq l0 l1 iP=some r)∧ak (kq≤k)∧bP w w')
  case atStart=>exact⟨(0),q'c,H',⟨Nat.le_refl _⟩,by repeat(first|exact bP.refl _|apply bP.step)⟩
  case round=>
   clear H'
   try clear c1
   try clear p2
   try clear c3
   try clear nN
   try clear zJ
   try clear c3b2
   obtain⟨iP,rfl,HA,HK1,⟨m1,rfl⟩⟩:=hrel;cases gk with
   |zero=>exact absurd HA.out (by simp[dW.l0])
   |succ k1=>
    have H:=HA.out;clear HA;simp only[dW.l0]at H
    by_cases c4:iP<(l0.length:Int)
    ·rw[if_pos c4]at H
     have mZ:decide (iP<(l0.length:Int))=true:=decide_eq_true c4;clear c4
     by_cases c5:0≤iP
     ·rw[if_pos c5]at H
      have uJ:decide (0≤iP)=true:=decide_eq_true c5;clear c5
      by_cases c6:iP<(l1.length:Int)
      ·rw[if_pos c6]at H
       have zL:decide (iP<(l1.length:Int))=true:=decide_eq_true c6;clear c6
       by_cases c7:(!((((bq l0 iP).f0).toList)==(((bq l1 iP).f0).toList))||(!((((bq l0 iP).f1).toList)==(((bq l1 iP).f1).toList))))=true
       ·rw[if_pos c7]at H
        have c7b0:(!((((bq l0 iP).f0).toList)==(((bq l1 iP).f0).toList))||(!((((bq l0 iP).f1).toList)==(((bq l1 iP).f1).toList))))=true:=c7;clear c7;obtain rfl:=Option.some.inj H;have p106:0≤(iP:Int):=q'b;have q106:iP<(l0.length:Int):=q'b;obtain⟨ad106,e106,hx106_0,hx106_1⟩:=lY HR0.out iP p106 q106;cases e106;replace p106:=eq_true p106;replace q106:=eq_true q106;have p107:0≤(iP:Int):=q'b;have q107:iP<(l1.length:Int):=q'b;obtain⟨ad107,e107,hx107_0,hx107_1⟩:=lY HR1.out iP p107 q107;cases e107;replace p107:=eq_true p107;replace q107:=eq_true q107;go_wp2
        repeat(go_quiet (fail);try go_wp2)
        go_ret;exact⟨q'c,by repeat(first|exact bP.refl _|apply bP.step)⟩
       ·rw[if_neg c7]at H
        have c7b0:(!((((bq l0 iP).f0).toList)==(((bq l1 iP).f0).toList))||(!((((bq l0 iP).f1).toList)==(((bq l1 iP).f1).toList))))=false:=by simpa using c7
        clear c7;have H':=ak.mk H;clear H;have p106:0≤(iP:Int):=q'b;have q106:iP<(l0.length:Int):=q'b;obtain⟨ad106,e106,hx106_0,hx106_1⟩:=lY HR0.out iP p106 q106;cases e106;replace p106:=eq_true p106;replace q106:=eq_true q106;have p107:0≤(iP:Int):=q'b;have q107:iP<(l1.length:Int):=q'b;obtain⟨ad107,e107,hx107_0,hx107_1⟩:=lY HR1.out iP p107 q107;cases e107;replace p107:=eq_true p107;replace q107:=eq_true q107;go_wp2
        repeat(go_quiet (fail);try go_wp2)
        go_roundg k1
        case measure=>have:=HK1.out;omega
        case rel=>exact⟨(wrap64 (iP+1)),q'c,H',⟨by have:=HK1.out;omega⟩,by repeat(first|exact bP.refl _|apply bP.step)⟩
      ·rw[if_neg c6]at H
       exact absurd H (by simp)
     ·rw[if_neg c5]at H
      exact absurd H (by simp)
    ·rw[if_neg c4]at H
     have mZ:decide (iP<(l0.length:Int))=false:=decide_eq_false c4;clear c4;obtain rfl:=Option.some.inj H;go_wp2
     repeat(go_quiet (fail);try go_wp2)
     go_ret;exact⟨q'c,by repeat(first|exact bP.refl _|apply bP.step)⟩
 ·rw[if_neg c3]at H
  have nN:((l0.length:Int)==(l1.length:Int))=false:=beq_eq_false_iff_ne.mpr c3;have zJ:((l0.length:Int) !=(l1.length:Int))=true:=bne_iff_ne.mpr c3;have c3b2:(l0.length==l1.length)=false:=by first|simpa using c3|(simp at c3⊢;omega)
  obtain rfl:=Option.some.inj H;go_enter Tryz.func71,Tryz.ntmps71;go_wp2
  repeat(go_quiet (fail);try go_wp2)
  go_ret;exact⟨q'c,by repeat(first|exact bP.refl _|apply bP.step)⟩
end Go.Proofs.aj.W7
