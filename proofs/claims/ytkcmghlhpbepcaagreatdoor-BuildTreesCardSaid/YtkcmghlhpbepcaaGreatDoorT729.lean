/- Lemmas and walks, part 29. -/
import Derived.Test.YtkcmghlhpbepcaaGreatDoorT727
import Derived.Test.YtkcmghlhpbepcaaGreatDoorT728
set_option linter.unusedVariables false
set_option linter.unusedSimpArgs false
set_option maxHeartbeats 100000000
set_option maxRecDepth 100000
namespace Go.Proofs.aj.W7
open Go.RowKit Go.Proofs.ah.aG Go.Proofs.ah.bX Go.Proofs.ah.dN
attribute [local go_sem] dZ d9 eU eX dS dU eu eB
mutual
def ay.l0:Nat→List (S65)→List Bt→List (S34)→Int→Option ((List (S34))×Int)
 |0,_,_,_,_=>none
 |k+1,x0,x4,x5,x6=>if x6<(x0.length:Int)then(if 0≤x6 then(if((au x0 x6).f1).toList=([] :List UInt8)then(ay.j1 k x0 x4 x5 x6 true ((au x0 x6).f0) ((au x0 x6).f1) ((au x0 x6).f2) ((au x0 x6).f3) ((au x0 x6).f4))else((jh.f).bind fun t532=>((aM.f k t532 ((au x0 x6).f1)).bind fun t535=>(ay.j1 k x0 x4 x5 x6 t535 ((au x0 x6).f0) ((au x0 x6).f1) ((au x0 x6).f2) ((au x0 x6).f3) ((au x0 x6).f4)))))else(none))else(some (x5,0))
def ay.j1:Nat→List (S65)→List Bt→List (S34)→Int→Bool→Int→Bt→Bt→List (S36)→Bool→Option ((List (S34))×Int)
 |0,_,_,_,_,_,_,_,_,_,_=>none
 |k+1,x0,x4,x5,x6,x8,gN,gD,gV,iA,iD=>if gN=0 then(ay.j2 k x0 x4 x5 x6 x8 (gV.toList !=([] :List UInt8)) gN gD gV iA iD)else(ay.j2 k x0 x4 x5 x6 x8 false gN gD gV iA iD)
def ay.j2:Nat→List (S65)→List Bt→List (S34)→Int→Bool→Bool→Int→Bt→Bt→List (S36)→Bool→Option ((List (S34))×Int)
 |0,_,_,_,_,_,_,_,_,_,_,_=>none
 |k+1,x0,x4,x5,x6,x8,x39,gN,gD,gV,iA,iD=>if x39=true then((fP.f x5 (x4.length:Int) 1 (⟨#[]⟩:Bt) gV ([] :List (S36))).bind fun t536=>(ay.j3 k x0 x4 t536 x6 x8 gN gD gV iA iD))else(ay.j3 k x0 x4 x5 x6 x8 gN gD gV iA iD)
def ay.j3:Nat→List (S65)→List Bt→List (S34)→Int→Bool→Int→Bt→Bt→List (S36)→Bool→Option ((List (S34))×Int)
 |0,_,_,_,_,_,_,_,_,_,_=>none
 |k+1,x0,x4,x5,x6,x8,gN,gD,gV,iA,iD=>if gN=3 then(if x5.length<1954687338268 then(ay.j4 k x0 x4 (x5++[(⟨(x4.length:Int),2,(⟨#[]⟩:Bt),gV,([] :List (S36))⟩:S34)]) x6 x8 gN gD gV iA iD)else(none))else(ay.j4 k x0 x4 x5 x6 x8 gN gD gV iA iD)
def ay.j4:Nat→List (S65)→List Bt→List (S34)→Int→Bool→Int→Bt→Bt→List (S36)→Bool→Option ((List (S34))×Int)
 |0,_,_,_,_,_,_,_,_,_,_=>none
 |k+1,x0,x4,x5,x6,x8,gN,gD,gV,iA,iD=>if gN=1 then(ay.j5 k x0 x4 x5 x6 x8 (!x8) gN gD gV iA iD)else(ay.j5 k x0 x4 x5 x6 x8 false gN gD gV iA iD)
def ay.j5:Nat→List (S65)→List Bt→List (S34)→Int→Bool→Bool→Int→Bt→Bt→List (S36)→Bool→Option ((List (S34))×Int)
 |0,_,_,_,_,_,_,_,_,_,_,_=>none
 |k+1,x0,x4,x5,x6,x8,x64,gN,gD,gV,iA,iD=>if x64=true then((fD.f k x4 gD).bind fun ji=>((bH.f k iA).bind fun tF=>(if x5.length<1954687338268 then((some (x5++[(⟨(ji.length:Int),0,gD,(⟨#[]⟩:Bt),tF⟩:S34)] :List (S34))).bind fun nX=>((eG.f).bind fun qM=>((aM.f k qM gD).bind fun vE=>(if vE=true then(ay.j6 k x0 ji nX x6 x8 gN gD gV iA iD)else(if ji.length<8796093022208 then(ay.j6 k x0 (ji++[gD]) nX x6 x8 gN gD gV iA iD)else(none))))))else(none))))else(ay.j6 k x0 x4 x5 x6 x8 gN gD gV iA iD)
def ay.j6:Nat→List (S65)→List Bt→List (S34)→Int→Bool→Int→Bt→Bt→List (S36)→Bool→Option ((List (S34))×Int)
 |0,_,_,_,_,_,_,_,_,_,_=>none
 |k+1,x0,x4,x5,x6,x8,gN,gD,gV,iA,iD=>if gN=2 then(if x8=true then(ay.j7 k x0 x4 x5 x6 false gN gD gV iA iD)else((eG.f).bind fun t558=>((aM.f k t558 gD).bind fun t561=>(ay.j7 k x0 x4 x5 x6 (!t561) gN gD gV iA iD))))else(ay.j7 k x0 x4 x5 x6 false gN gD gV iA iD)
def ay.j7:Nat→List (S65)→List Bt→List (S34)→Int→Bool→Int→Bt→Bt→List (S36)→Bool→Option ((List (S34))×Int)
 |0,_,_,_,_,_,_,_,_,_,_=>none
 |k+1,x0,x4,x5,x6,x103,gN,gD,gV,iA,iD=>if x103=true then((bZ.f k x4 gD).bind fun Af=>(if Af.2=true then(ay.j8 k x0 Af.1 x5 x6 false)else(ay.j8 k x0 Af.1 x5 x6 (gD.toList==([112] :List UInt8)))))else(if(x5.length:Int)>4096 then(some (([] :List (S34)),2))else(if(x5.length:Int)>0 then(if 0≤(wrap64 ((x5.length:Int) - 1))then(if(wrap64 ((x5.length:Int) - 1))<(x5.length:Int)then(if((bJ x5 (wrap64 ((x5.length:Int) - 1))).f0)≥60 then(some (([] :List (S34)),2))else(ay.l0 k x0 x4 x5 (wrap64 (x6+1))))else(none))else(none))else(ay.l0 k x0 x4 x5 (wrap64 (x6+1)))))
def ay.j8:Nat→List (S65)→List Bt→List (S34)→Int→Bool→Option ((List (S34))×Int)
 |0,_,_,_,_,_=>none
 |k+1,x0,x4,x5,x6,x118=>if x118=true then(if x5.length<1954687338268 then((some (x5++[(⟨(x4.length:Int),0,(⟨#[112]⟩:Bt),(⟨#[]⟩:Bt),([] :List (S36))⟩:S34)] :List (S34))).bind fun ig=>(if(ig.length:Int)>4096 then(some (([] :List (S34)),2))else(if(ig.length:Int)>0 then(if 0≤(wrap64 ((ig.length:Int) - 1))then(if(wrap64 ((ig.length:Int) - 1))<(ig.length:Int)then(if((bJ ig (wrap64 ((ig.length:Int) - 1))).f0)≥60 then(some (([] :List (S34)),2))else(ay.l0 k x0 x4 ig (wrap64 (x6+1))))else(none))else(none))else(ay.l0 k x0 x4 ig (wrap64 (x6+1))))))else(none))else(if(x5.length:Int)>4096 then(some (([] :List (S34)),2))else(if(x5.length:Int)>0 then(if 0≤(wrap64 ((x5.length:Int) - 1))then(if(wrap64 ((x5.length:Int) - 1))<(x5.length:Int)then(if((bJ x5 (wrap64 ((x5.length:Int) - 1))).f0)≥60 then(some (([] :List (S34)),2))else(ay.l0 k x0 x4 x5 (wrap64 (x6+1))))else(none))else(none))else(ay.l0 k x0 x4 x5 (wrap64 (x6+1)))))
end
def ay.f(k:Nat)(l0:List (S65)):Option ((List (S34))×Int):=ay.l0 k l0 (([] :List Bt)) (([] :List (S34))) 0
def ay.T6:Bool×List (List Nat×List Nat):=(true,[([],[]),([0],[0]),([1],[1]),([2],[2]),([3,3],[3]),([3],[3]),([5,3],[3,5]),([4,6,4,3],[3,4,6]),([3,7],[3,7]),([8,7,0,1,2,3,4,5,6,7,8],[8])])
def ay.B6:List Nat:=[0,1,3,7,15,15,47,127,255,511]
theorem ay.tab6:nY .any (opsOf Tryz.f20 6)=ay.T6:=by kernel_rfl
theorem ay.bits6:qN ay.T6.2 ay.B6=true:=by kernel_rfl
def ay.T13:Bool×List (List Nat×List Nat):=(true,[([],[]),([],[]),([1],[1]),([],[]),([3],[3]),([],[]),([5],[5]),([6],[6]),([2,4,7],[2,4,7]),([8],[8]),([0,9,7],[0,9]),([10,10,0,1,2,3,4,5,6,7,8,9,10],[0,10])])
def ay.B13:List Nat:=[0,0,2,0,8,0,32,96,254,510,1023,2047]
theorem ay.tab13:nY .any (opsOf Tryz.f20 13)=ay.T13:=by kernel_rfl
theorem ay.bits13:qN ay.T13.2 ay.B13=true:=by kernel_rfl
def ay.T16:Bool×List (List Nat×List Nat):=(true,[([],[]),([0],[0]),([1],[1]),([2],[2]),([3],[3]),([4,3],[3,4]),([3,5],[3,5]),([6,3],[6]),([7,7],[7]),([7],[7]),([9,7],[7,9]),([8,10,8,7],[7,8,10]),([11,7],[7,11]),([7,12],[7,12])])
def ay.B16:List Nat:=[0,1,3,7,15,31,63,127,255,255,767,2047,4095,8191]
theorem ay.tab16:nY .any (opsOf Tryz.f20 16)=ay.T16:=by kernel_rfl
theorem ay.G8:qN ay.T16.2 ay.B16=true:=by kernel_rfl
theorem ay.calls(k:Nat)(A0:Option Addr)(c0:Nat)(l0:List (S65))(r1:List (S34))(r2:Int)(w:World)(hr0:Kd.C k65 w A0 l0.length l0)(hc0:l0.length≤c0)(h:ay.f k l0=some (r1,r2)):
 Calls Tryz.prog 20 #[.slice A0 l0.length c0] w fun e w'=>∃v0_:Value,e=.returned (.tuple #[v0_,.int .i64 r2])∧Kd.R k34 34 w' w.heap.size (fun _=>True) v0_ r1∧Below w.heap.size w w':=by
 have hu65:=Tryz.underlying65;have hu34:=Tryz.underlying34;have HR0:=ak.mk hr0;have HC0:=ak.mk hc0;clear hr0 hc0;have HB:=ak.mk (Below.refl w.heap.size w);have H:(ay.l0 k l0 (([] :List Bt)) (([] :List (S34))) 0)=some (r1,r2):=h;clear h;obtain⟨y524,F6⟩:∃y_:List Bt,y_=(([] :List Bt)):=⟨_,rfl⟩
 replace H:(ay.l0 k l0 y524 (([] :List (S34))) 0)=some (r1,r2):=by first|(rw[F6];with_reducible exact H)|(have H2_:=(Option.bind_some _ _).symm.trans H;rw[F6];with_reducible exact H2_)|(have H2_:=(Option.bind_some _ _).symm.trans H;with_reducible exact H2_)|with_reducible exact H|(rw[F6];exact H)|exact H
 have Ny524:=ak.mk F6;clear F6;obtain⟨y527,F7⟩:∃y_:List (S34),y_=(([] :List (S34))):=⟨_,rfl⟩
 replace H:(ay.l0 k l0 y524 y527 0)=some (r1,r2):=by first|(rw[F7];with_reducible exact H)|(have H2_:=(Option.bind_some _ _).symm.trans H;rw[F7];with_reducible exact H2_)|(have H2_:=(Option.bind_some _ _).symm.trans H;with_reducible exact H2_)|with_reducible exact H|(rw[F7];exact H)|exact H
 have Ny527:=ak.mk F7;clear F7;have H':=ak.mk H;clear H;go_enter Tryz.func20,Tryz.ntmps20
 go_wp2_with(first|((with_reducible refine bY (N:=11) rfl ?_);(try(refine iQ (by rfl) ?_;dsimp only));refine Kd.eZ Kd.string _ 9 ?hg (N:=11) ?hd (xs:=([] :List Bt)) (inner:=[]) (ok:=fun _=>True) (okp:=fun _=>True) ?hr ?hp (fun _ hk=>hk) trivial (Below.refl _ _) (Nat.le_refl _) (by simp) ?_;(case hd=>rfl);(case hg=>rfl);(case hr=>first|(go_simp;done)|(go_simp;rfl));(case hp=>exact(aY.none _ _));intro v525 w2 ho3 hb hg_ cu;clear hg_ cu;(first|rw[←Ny524.out]at ho3|(simp only[Int.reduceToNat]at ho3;rw[←Ny524.out]at ho3));have HO526:=ak.mk (Kd.bM ho3 (aJ bz));replace HB:=ak.mk (aN bz hb);clear hb ho3)|((with_reducible refine bY (N:=12) rfl ?_);(try(refine iQ (by rfl) ?_;dsimp only));refine Kd.eZ k34 _ 34 ?hg (N:=12) ?hd (xs:=([] :List (S34))) (inner:=[]) (ok:=fun _=>True) (okp:=fun _=>True) ?hr ?hp (fun _ hk=>hk) trivial (Below.refl _ _) (Nat.le_refl _) (by simp) ?_;(case hd=>rfl);(case hg=>rfl);(case hr=>first|(go_simp;done)|(go_simp;rfl));(case hp=>exact(aY.none _ _));intro v528 w4 ho5 hb hg_ cu;clear hg_ cu;(first|rw[←Ny527.out]at ho5|(simp only[Int.reduceToNat]at ho5;rw[←Ny527.out]at ho5));have HO529:=ak.mk (Kd.bM ho5 (aJ bz));replace HO526:=ak.mk (Kd.dR (rz HO526.out) hb);replace HB:=ak.mk (aN bz hb);clear hb ho5))
 go_loopg [4,5,6] k (fun kq v4 v5 v6 w'=>∃(bQ:List Bt) (fC:List (S34)) (aC:Int),v6=.int .i64 aC∧ak (ay.l0 kq l0 bQ fC aC=some (r1,r2))∧ak (kq≤k)∧ak (Kd.R Kd.string 9 w' w.heap.size (fun _=>True) v4 bQ)∧ak (Kd.R k34 34 w' w.heap.size (fun _=>True) v5 fC)∧ak (Below w.heap.size w w'))
 case atStart=>exact⟨(y524),(y527),(0),q'c,H',⟨Nat.le_refl _⟩,⟨by(with_reducible repeat(first|apply Kd.aZ|apply Kd.bB|apply Kd.bq));exact HO526.out⟩,⟨by(with_reducible repeat(first|apply Kd.aZ|apply Kd.bB|apply Kd.bq));exact HO529.out⟩,⟨bz⟩⟩
 case round=>
  clear H'
  try clear c2
  try clear p2
  obtain⟨bQ,fC,aC,rfl,HA,HK1,dA,dh,HB⟩:=hrel;cases gk with
  |zero=>exact absurd HA.out (by simp[ay.l0])
  |succ k1=>
   have H:=HA.out;clear HA;simp only[ay.l0]at H
   by_cases c6:aC<(l0.length:Int)
   ·rw[if_pos c6]at H
    have mo:decide (aC<(l0.length:Int))=true:=decide_eq_true c6;clear c6
    by_cases c7:0≤aC
    ·rw[if_pos c7]at H
     have wR:decide (0≤aC)=true:=decide_eq_true c7;clear c7;have HC8:=ak.mk H;clear H;have p530:0≤(aC:Int):=q'b;have q530:aC<(l0.length:Int):=q'b;obtain⟨ad530,dO,dP,e530,oM,oN,oO,oP,oQ,IE,IG⟩:=Cv HR0.out aC p530 q530;cases e530;replace oM:=(HB.out.cell (World.block_lt_of_cell? w _ oM)).trans oM;replace oN:=(HB.out.cell (World.block_lt_of_cell? w _ oN)).trans oN;replace oO:=(HB.out.cell (World.block_lt_of_cell? w _ oO)).trans oO;replace oP:=(HB.out.cell (World.block_lt_of_cell? w _ oP)).trans oP;replace oQ:=(HB.out.cell (World.block_lt_of_cell? w _ oQ)).trans oQ;have II:=ak.mk IG;have IJ:=ak.mk IE;clear IG IE;replace p530:=eq_true p530;replace q530:=eq_true q530
     go_upto_region 6 with(first|((with_reducible refine bY (N:=7) rfl ?_);(try(refine iQ (by rfl) ?_;dsimp only));refine wV ?hg (N:=7) ?hd (cs:=#[.int .i64 0,.string (⟨#[]⟩:Bt),.string (⟨#[]⟩:Bt),.slice none 0 0,.bool false]) (t:=65) ?hr ?_;(case hd=>rfl);(case hg=>rfl);(case hr=>first|(go_simp;done)|(go_simp;rfl));intro bD hg w9 hbox hb;have aD:=ak.mk (hbox);have GW531:=ak.mk ((by rw[hg];exact(aJ bz):w.heap.size≤bD));have eH:=ak.mk ((by rw[hg];exact(aJ bz):w.heap.size≤bD));replace dA:=ak.mk (Kd.dR (rz dA.out) hb);replace dh:=ak.mk (Kd.dR (rz dh.out) hb);replace HB:=ak.mk (aN bz hb);clear hb hbox hg;have vF:w9.cell? ⟨bD,0,none⟩=some (.int .i64 0):=(aA aD.out 0).trans rfl;have vG:w9.cell? ⟨bD,1,none⟩=some (.string (⟨#[]⟩:Bt)):=(aA aD.out 1).trans rfl;have vH:w9.cell? ⟨bD,2,none⟩=some (.string (⟨#[]⟩:Bt)):=(aA aD.out 2).trans rfl;have vI:w9.cell? ⟨bD,3,none⟩=some (.slice none 0 0):=(aA aD.out 3).trans rfl;have vJ:w9.cell? ⟨bD,4,none⟩=some (.bool false):=(aA aD.out 4).trans rfl;have vK:=aU aD.out 0;have vL:=aU aD.out 1;have vM:=aU aD.out 2;have vN:=aU aD.out 3;have vO:=aU aD.out 4))
     (try simp only[Act.put,List.setIfInBounds_toArray,List.set_cons_zero,List.set_cons_succ])
     go_cut [8] (fun v8 wc=>∃(kq:Nat) (lJ:Bool),v8=.bool lJ∧ak (ay.j1 kq l0 bQ fC aC lJ ((au l0 aC).f0) ((au l0 aC).f1) ((au l0 aC).f2) ((au l0 aC).f3) ((au l0 aC).f4)=some (r1,r2))∧ak (kq≤k1)∧ak (Kd.R Kd.string 9 wc w.heap.size (fun _=>True) u4 bQ)∧ak (Kd.R k34 34 wc w.heap.size (fun _=>True) u5 fC)∧ak (wc.heap[bD]?=some (.cells #[.int .i64 ((au l0 aC).f0),.string ((au l0 aC).f1),.string ((au l0 aC).f2),(.slice dO ((au l0 aC).f3).length dP),.bool ((au l0 aC).f4)] 65 (0,0)))∧ak (Below w.heap.size w wc))
     case first=>
      as_aux_lemma=>
       have H:=HC8.out;clear HC8
       by_cases c11:((au l0 aC).f1).toList=([] :List UInt8)
       ·rw[if_pos c11]at H
        have mQ:(((au l0 aC).f1).toList==([] :List UInt8))=true:=beq_iff_eq.mpr c11;have vD:(((au l0 aC).f1).toList !=([] :List UInt8))=false:=bne_eq_false_iff_eq.mpr c11;clear c11
        (first|rw[mQ] |(simp only[gM,gX];rw[mQ])|skip)
        have H':=ak.mk H;clear H
        try go_wp2
        have n0_:ak (Kd.R Kd.string 9 (((((w9.setCell ⟨bD,0,none⟩ (.int .i64 ((au l0 aC).f0))).setCell ⟨bD,1,none⟩ (.string ((au l0 aC).f1))).setCell ⟨bD,2,none⟩ (.string ((au l0 aC).f2))).setCell ⟨bD,3,none⟩ (.slice dO ((au l0 aC).f3).length dP)).setCell ⟨bD,4,none⟩ (.bool ((au l0 aC).f4))) w.heap.size (fun _=>True) u4 bQ):=⟨by(with_reducible repeat(first|apply Kd.aZ|apply Kd.bB|apply Kd.bq));exact Kd.dz (Kd.jk (p:=⟨bD,4,none⟩) (Kd.jk (p:=⟨bD,3,none⟩) (Kd.jk (p:=⟨bD,2,none⟩) (Kd.jk (p:=⟨bD,1,none⟩) (Kd.jk (p:=⟨bD,0,none⟩) (Kd.qO dA.out aD.out (by decide)) (fun _ hk=>hk.2) (.int .i64 ((au l0 aC).f0))) (fun _ hk=>hk.2) (.string ((au l0 aC).f1))) (fun _ hk=>hk.2) (.string ((au l0 aC).f2))) (fun _ hk=>hk.2) (.slice dO ((au l0 aC).f3).length dP)) (fun _ hk=>hk.2) (.bool ((au l0 aC).f4))) (fun _ hk=>trivial)⟩
        have n1_:ak (Kd.R k34 34 (((((w9.setCell ⟨bD,0,none⟩ (.int .i64 ((au l0 aC).f0))).setCell ⟨bD,1,none⟩ (.string ((au l0 aC).f1))).setCell ⟨bD,2,none⟩ (.string ((au l0 aC).f2))).setCell ⟨bD,3,none⟩ (.slice dO ((au l0 aC).f3).length dP)).setCell ⟨bD,4,none⟩ (.bool ((au l0 aC).f4))) w.heap.size (fun _=>True) u5 fC):=⟨by(with_reducible repeat(first|apply Kd.aZ|apply Kd.bB|apply Kd.bq));exact Kd.dz (Kd.jk (p:=⟨bD,4,none⟩) (Kd.jk (p:=⟨bD,3,none⟩) (Kd.jk (p:=⟨bD,2,none⟩) (Kd.jk (p:=⟨bD,1,none⟩) (Kd.jk (p:=⟨bD,0,none⟩) (Kd.qO dh.out aD.out (by decide)) (fun _ hk=>hk.2) (.int .i64 ((au l0 aC).f0))) (fun _ hk=>hk.2) (.string ((au l0 aC).f1))) (fun _ hk=>hk.2) (.string ((au l0 aC).f2))) (fun _ hk=>hk.2) (.slice dO ((au l0 aC).f3).length dP)) (fun _ hk=>hk.2) (.bool ((au l0 aC).f4))) (fun _ hk=>trivial)⟩
        have n2_:ak ((((((w9.setCell ⟨bD,0,none⟩ (.int .i64 ((au l0 aC).f0))).setCell ⟨bD,1,none⟩ (.string ((au l0 aC).f1))).setCell ⟨bD,2,none⟩ (.string ((au l0 aC).f2))).setCell ⟨bD,3,none⟩ (.slice dO ((au l0 aC).f3).length dP)).setCell ⟨bD,4,none⟩ (.bool ((au l0 aC).f4))).heap[bD]?=some (.cells #[.int .i64 ((au l0 aC).f0),.string ((au l0 aC).f1),.string ((au l0 aC).f2),.slice dO ((au l0 aC).f3).length dP,.bool ((au l0 aC).f4)] 65 (0,0))):=⟨by(with_reducible repeat(first|refine cO ?_ _|refine cB ?_ |refine bT ?_ _));refine fT (cs:=#[.int .i64 ((au l0 aC).f0),.string ((au l0 aC).f1),.string ((au l0 aC).f2),.slice dO ((au l0 aC).f3).length dP,.bool false]) ?_ 4 _ rfl;(with_reducible repeat(first|refine cO ?_ _|refine cB ?_ |refine bT ?_ _));refine fT (cs:=#[.int .i64 ((au l0 aC).f0),.string ((au l0 aC).f1),.string ((au l0 aC).f2),.slice none 0 0,.bool false]) ?_ 3 _ rfl;(with_reducible repeat(first|refine cO ?_ _|refine cB ?_ |refine bT ?_ _));refine fT (cs:=#[.int .i64 ((au l0 aC).f0),.string ((au l0 aC).f1),.string (⟨#[]⟩:Bt),.slice none 0 0,.bool false]) ?_ 2 _ rfl;(with_reducible repeat(first|refine cO ?_ _|refine cB ?_ |refine bT ?_ _));refine fT (cs:=#[.int .i64 ((au l0 aC).f0),.string (⟨#[]⟩:Bt),.string (⟨#[]⟩:Bt),.slice none 0 0,.bool false]) ?_ 1 _ rfl;(with_reducible repeat(first|refine cO ?_ _|refine cB ?_ |refine bT ?_ _));refine fT (cs:=#[.int .i64 0,.string (⟨#[]⟩:Bt),.string (⟨#[]⟩:Bt),.slice none 0 0,.bool false]) ?_ 0 _ rfl;(with_reducible repeat(first|refine cO ?_ _|refine cB ?_ |refine bT ?_ _));exact aD.out⟩
        have n3_:ak (Below w.heap.size w (((((w9.setCell ⟨bD,0,none⟩ (.int .i64 ((au l0 aC).f0))).setCell ⟨bD,1,none⟩ (.string ((au l0 aC).f1))).setCell ⟨bD,2,none⟩ (.string ((au l0 aC).f2))).setCell ⟨bD,3,none⟩ (.slice dO ((au l0 aC).f3).length dP)).setCell ⟨bD,4,none⟩ (.bool ((au l0 aC).f4)))):=⟨bs eH.out⟩
        (try clear dA)
        (try clear dh)
        (try clear aD)
        (try clear HB)
        generalize (((((w9.setCell ⟨bD,0,none⟩ (.int .i64 ((au l0 aC).f0))).setCell ⟨bD,1,none⟩ (.string ((au l0 aC).f1))).setCell ⟨bD,2,none⟩ (.string ((au l0 aC).f2))).setCell ⟨bD,3,none⟩ (.slice dO ((au l0 aC).f3).length dP)).setCell ⟨bD,4,none⟩ (.bool ((au l0 aC).f4)))=w12 at n0_ n1_ n2_ n3_⊢;have dA:=n0_;have dh:=n1_;have aD:=n2_;have HB:=n3_;clear n0_ n1_ n2_ n3_;replace dA:=ak.mk (Kd.bq dA.out);replace dh:=ak.mk (Kd.bq dh.out);replace aD:=ak.mk (cB aD.out);replace HB:=ak.mk (fA HB.out)
        refine jm (n:=10) (S:=fun w'=>w'.cell? ⟨bD,0,none⟩=some (.int .i64 ((au l0 aC).f0))∧w'.cell? ⟨bD,1,none⟩=some (.string ((au l0 aC).f1))∧w'.cell? ⟨bD,2,none⟩=some (.string ((au l0 aC).f2))∧w'.cell? ⟨bD,3,none⟩=some (.slice dO ((au l0 aC).f3).length dP)∧w'.cell? ⟨bD,4,none⟩=some (.bool ((au l0 aC).f4))) (ds:=[]) (fl 10 0) (by kernel_rfl) rfl rfl ⟨(aA aD.out 0).trans rfl,(aA aD.out 1).trans rfl,(aA aD.out 2).trans rfl,(aA aD.out 3).trans rfl,(aA aD.out 4).trans rfl⟩ (fun hHeld=>?_);refine mG ay.tab6 ay.bits6 (fun HT_ HW_=>?_)
        generalize w12.drew=w13 at dA dh aD HB hHeld⊢;refine pw 0 23 (fl 10 1) ?_;refine pt 1 24 (fl 10 2) ?_;refine pw 2 25 (fl 10 3) ?_;refine pw 3 26 (fl 10 4) ?_;refine pu 4 27 (fl 10 5) ?_;refine pu 5 28 (fl 10 6) ?_;refine pu 6 29 (fl 10 7) ?_;refine pu 7 30 (fl 10 8) ?_;refine pw 8 31 (fl 10 9) ?_;refine pw 9 8 (fl 10 10) ?_;refine kS (qP HT_.out (by kernel_rfl)) ?_
        try go_wp2
        go_meet
        case rel=>exact⟨_,(true),q'c,H',⟨by have:=HK1.out;first|omega|exact Nat.le_refl _⟩,⟨by(with_reducible repeat(first|apply Kd.aZ|apply Kd.bB|apply Kd.bq));exact dA.out⟩,⟨by(with_reducible repeat(first|apply Kd.aZ|apply Kd.bB|apply Kd.bq));exact dh.out⟩,⟨by(with_reducible repeat(first|refine cO ?_ _|refine cB ?_ |refine bT ?_ _));exact aD.out⟩,⟨bs eH.out⟩⟩
       ·rw[if_neg c11]at H
        have mQ:(((au l0 aC).f1).toList==([] :List UInt8))=false:=beq_eq_false_iff_ne.mpr c11;have vD:(((au l0 aC).f1).toList !=([] :List UInt8))=true:=bne_iff_ne.mpr c11
        (first|rw[mQ] |(simp only[gM,gX];rw[mQ])|skip)
        replace H:=Option.bind_eq_some_iff.mp H;obtain⟨t532,A140,H⟩:=H;replace H:((aM.f k1 t532 ((au l0 aC).f1)).bind fun t535=>(ay.j1 k1 l0 bQ fC aC t535 ((au l0 aC).f0) ((au l0 aC).f1) ((au l0 aC).f2) ((au l0 aC).f3) ((au l0 aC).f4)))=some (r1,r2):=H;have A14:=ak.mk A140;clear A140;replace H:=Option.bind_eq_some_iff.mp H;obtain⟨t535,A150,H⟩:=H;replace H:(ay.j1 k1 l0 bQ fC aC t535 ((au l0 aC).f0) ((au l0 aC).f1) ((au l0 aC).f2) ((au l0 aC).f3) ((au l0 aC).f4))=some (r1,r2):=H;have A15:=ak.mk A150;clear A150;have H':=ak.mk H;clear H
        try go_wp2
        have n0_:ak (Kd.R Kd.string 9 (((((w9.setCell ⟨bD,0,none⟩ (.int .i64 ((au l0 aC).f0))).setCell ⟨bD,1,none⟩ (.string ((au l0 aC).f1))).setCell ⟨bD,2,none⟩ (.string ((au l0 aC).f2))).setCell ⟨bD,3,none⟩ (.slice dO ((au l0 aC).f3).length dP)).setCell ⟨bD,4,none⟩ (.bool ((au l0 aC).f4))) w.heap.size (fun _=>True) u4 bQ):=⟨by(with_reducible repeat(first|apply Kd.aZ|apply Kd.bB|apply Kd.bq));exact Kd.dz (Kd.jk (p:=⟨bD,4,none⟩) (Kd.jk (p:=⟨bD,3,none⟩) (Kd.jk (p:=⟨bD,2,none⟩) (Kd.jk (p:=⟨bD,1,none⟩) (Kd.jk (p:=⟨bD,0,none⟩) (Kd.qO dA.out aD.out (by decide)) (fun _ hk=>hk.2) (.int .i64 ((au l0 aC).f0))) (fun _ hk=>hk.2) (.string ((au l0 aC).f1))) (fun _ hk=>hk.2) (.string ((au l0 aC).f2))) (fun _ hk=>hk.2) (.slice dO ((au l0 aC).f3).length dP)) (fun _ hk=>hk.2) (.bool ((au l0 aC).f4))) (fun _ hk=>trivial)⟩
        have n1_:ak (Kd.R k34 34 (((((w9.setCell ⟨bD,0,none⟩ (.int .i64 ((au l0 aC).f0))).setCell ⟨bD,1,none⟩ (.string ((au l0 aC).f1))).setCell ⟨bD,2,none⟩ (.string ((au l0 aC).f2))).setCell ⟨bD,3,none⟩ (.slice dO ((au l0 aC).f3).length dP)).setCell ⟨bD,4,none⟩ (.bool ((au l0 aC).f4))) w.heap.size (fun _=>True) u5 fC):=⟨by(with_reducible repeat(first|apply Kd.aZ|apply Kd.bB|apply Kd.bq));exact Kd.dz (Kd.jk (p:=⟨bD,4,none⟩) (Kd.jk (p:=⟨bD,3,none⟩) (Kd.jk (p:=⟨bD,2,none⟩) (Kd.jk (p:=⟨bD,1,none⟩) (Kd.jk (p:=⟨bD,0,none⟩) (Kd.qO dh.out aD.out (by decide)) (fun _ hk=>hk.2) (.int .i64 ((au l0 aC).f0))) (fun _ hk=>hk.2) (.string ((au l0 aC).f1))) (fun _ hk=>hk.2) (.string ((au l0 aC).f2))) (fun _ hk=>hk.2) (.slice dO ((au l0 aC).f3).length dP)) (fun _ hk=>hk.2) (.bool ((au l0 aC).f4))) (fun _ hk=>trivial)⟩
        have n2_:ak ((((((w9.setCell ⟨bD,0,none⟩ (.int .i64 ((au l0 aC).f0))).setCell ⟨bD,1,none⟩ (.string ((au l0 aC).f1))).setCell ⟨bD,2,none⟩ (.string ((au l0 aC).f2))).setCell ⟨bD,3,none⟩ (.slice dO ((au l0 aC).f3).length dP)).setCell ⟨bD,4,none⟩ (.bool ((au l0 aC).f4))).heap[bD]?=some (.cells #[.int .i64 ((au l0 aC).f0),.string ((au l0 aC).f1),.string ((au l0 aC).f2),.slice dO ((au l0 aC).f3).length dP,.bool ((au l0 aC).f4)] 65 (0,0))):=⟨by(with_reducible repeat(first|refine cO ?_ _|refine cB ?_ |refine bT ?_ _));refine fT (cs:=#[.int .i64 ((au l0 aC).f0),.string ((au l0 aC).f1),.string ((au l0 aC).f2),.slice dO ((au l0 aC).f3).length dP,.bool false]) ?_ 4 _ rfl;(with_reducible repeat(first|refine cO ?_ _|refine cB ?_ |refine bT ?_ _));refine fT (cs:=#[.int .i64 ((au l0 aC).f0),.string ((au l0 aC).f1),.string ((au l0 aC).f2),.slice none 0 0,.bool false]) ?_ 3 _ rfl;(with_reducible repeat(first|refine cO ?_ _|refine cB ?_ |refine bT ?_ _));refine fT (cs:=#[.int .i64 ((au l0 aC).f0),.string ((au l0 aC).f1),.string (⟨#[]⟩:Bt),.slice none 0 0,.bool false]) ?_ 2 _ rfl;(with_reducible repeat(first|refine cO ?_ _|refine cB ?_ |refine bT ?_ _));refine fT (cs:=#[.int .i64 ((au l0 aC).f0),.string (⟨#[]⟩:Bt),.string (⟨#[]⟩:Bt),.slice none 0 0,.bool false]) ?_ 1 _ rfl;(with_reducible repeat(first|refine cO ?_ _|refine cB ?_ |refine bT ?_ _));refine fT (cs:=#[.int .i64 0,.string (⟨#[]⟩:Bt),.string (⟨#[]⟩:Bt),.slice none 0 0,.bool false]) ?_ 0 _ rfl;(with_reducible repeat(first|refine cO ?_ _|refine cB ?_ |refine bT ?_ _));exact aD.out⟩
        have n3_:ak (Below w.heap.size w (((((w9.setCell ⟨bD,0,none⟩ (.int .i64 ((au l0 aC).f0))).setCell ⟨bD,1,none⟩ (.string ((au l0 aC).f1))).setCell ⟨bD,2,none⟩ (.string ((au l0 aC).f2))).setCell ⟨bD,3,none⟩ (.slice dO ((au l0 aC).f3).length dP)).setCell ⟨bD,4,none⟩ (.bool ((au l0 aC).f4)))):=⟨bs eH.out⟩
        (try clear dA)
        (try clear dh)
        (try clear aD)
        (try clear HB)
        generalize (((((w9.setCell ⟨bD,0,none⟩ (.int .i64 ((au l0 aC).f0))).setCell ⟨bD,1,none⟩ (.string ((au l0 aC).f1))).setCell ⟨bD,2,none⟩ (.string ((au l0 aC).f2))).setCell ⟨bD,3,none⟩ (.slice dO ((au l0 aC).f3).length dP)).setCell ⟨bD,4,none⟩ (.bool ((au l0 aC).f4)))=w16 at n0_ n1_ n2_ n3_⊢;have dA:=n0_;have dh:=n1_;have aD:=n2_;have HB:=n3_;clear n0_ n1_ n2_ n3_;replace dA:=ak.mk (Kd.bq dA.out);replace dh:=ak.mk (Kd.bq dh.out);replace aD:=ak.mk (cB aD.out);replace HB:=ak.mk (fA HB.out)
        refine jm (n:=10) (S:=fun w'=>w'.cell? ⟨bD,0,none⟩=some (.int .i64 ((au l0 aC).f0))∧w'.cell? ⟨bD,1,none⟩=some (.string ((au l0 aC).f1))∧w'.cell? ⟨bD,2,none⟩=some (.string ((au l0 aC).f2))∧w'.cell? ⟨bD,3,none⟩=some (.slice dO ((au l0 aC).f3).length dP)∧w'.cell? ⟨bD,4,none⟩=some (.bool ((au l0 aC).f4))) (ds:=[]) (fl 10 0) (by kernel_rfl) rfl rfl ⟨(aA aD.out 0).trans rfl,(aA aD.out 1).trans rfl,(aA aD.out 2).trans rfl,(aA aD.out 3).trans rfl,(aA aD.out 4).trans rfl⟩ (fun hHeld=>?_);refine mG ay.tab6 ay.bits6 (fun HT_ HW_=>?_)
        generalize w16.drew=w17 at dA dh aD HB hHeld⊢;refine pw 0 23 (fl 10 1) ?_;refine pt 1 24 (fl 10 2) ?_;refine pw 2 25 (fl 10 3) ?_;refine pw 3 26 (fl 10 4) ?_;refine pw 5 28 (fb 10 47) ?_;refine pt 6 29 (fb 10 111) ?_;refine tH (i:=4) (N:=some 27) (fl 10 7) rfl rfl (pz HT_.out (by kernel_rfl)) (by decide) (fun K hK=>?_);refine nM Tryz.func58 (by kernel_rfl) rfl #[] (by rfl) rfl rfl (by(try simp only[List.map_toArray,List.map_cons,List.map_nil]);first|done|rfl|(simp only[List.length_drop,List.length_take];rfl)) ?_
        with_reducible refine(jh.calls t532 _ A14.out).mono ?_
        rintro e w18 ⟨v533,rfl,ho0,hb⟩;refine⟨_,rfl,?_⟩;have HO534:=ak.mk (Kd.bM (Kd.dw ho0 (Kd.fu (rz dA.out))) (aJ (bs eH.out)));replace dA:=ak.mk (Kd.bP (rz dA.out) (Kd.cK ho0) hb);replace dh:=ak.mk (Kd.dR (rz dh.out) hb);replace aD:=ak.mk (kF (g:=bD) (o:=.cells #[.int .i64 ((au l0 aC).f0),.string ((au l0 aC).f1),.string ((au l0 aC).f2),.slice dO ((au l0 aC).f3).length dP,.bool ((au l0 aC).f4)] 65 (0,0)) (kz aD.out) hb);replace HB:=ak.mk (aN (bs eH.out) hb)
        (try clear hb)
        (try clear hb2)
        (try clear hk)
        (try clear hi)
        (try clear ho0)
        obtain⟨Ao19,co19,eo19⟩:=Kd.bF HO534.out
        (first|subst eo19|(injection eo19 with f1_ f2_ f3_;have f4_:=f1_.symm;have f5_:=f3_.symm;clear f1_ f2_ f3_;subst f4_;subst f5_))
        refine hK.out _ _ ⟨(aA aD.out 0).trans rfl,(aA aD.out 1).trans rfl,(aA aD.out 2).trans rfl,(aA aD.out 3).trans rfl,(aA aD.out 4).trans rfl⟩ (fun hHeld=>?_);clear hK K;refine pn ?_;refine tH (i:=7) (N:=some 30) (fl 10 8) rfl rfl (pz HT_.out (by kernel_rfl)) (by decide) (fun K hK=>?_);refine nM Tryz.func57 (by kernel_rfl) rfl #[.slice Ao19 t532.length co19,.string ((au l0 aC).f1)] (by rfl) rfl rfl (by(try simp only[List.map_toArray,List.map_cons,List.map_nil]);first|done|rfl|(simp only[List.length_drop,List.length_take];rfl)) ?_
        with_reducible refine(aM.calls k1 _ _ t532 ((au l0 aC).f1) t535 _ ?dB ?dD A15.out).mono ?_
        (case dB=>exact cz (Kd.aI HO534.out).2.2)
        (case dD=>exact(Kd.aI HO534.out).2.1)
        rintro e w' ⟨rfl,⟨nd,rfl⟩⟩;refine⟨_,rfl,?_⟩;refine hK.out _ _ ⟨(aA aD.out 0).trans rfl,(aA aD.out 1).trans rfl,(aA aD.out 2).trans rfl,(aA aD.out 3).trans rfl,(aA aD.out 4).trans rfl⟩ (fun hHeld=>?_);clear hK K;refine pn ?_;refine pw 8 31 (fl 10 9) ?_;refine pw 9 8 (fl 10 10) ?_;refine kS (qP HT_.out (by kernel_rfl)) ?_
        try go_wp2
        go_meet
        case rel=>exact⟨_,(t535),q'c,H',⟨by have:=HK1.out;first|omega|exact Nat.le_refl _⟩,⟨by(with_reducible repeat(first|apply Kd.aZ|apply Kd.bB|apply Kd.bq));exact Kd.dz dA.out (fun _ hk=>trivial)⟩,⟨by(with_reducible repeat(first|apply Kd.aZ|apply Kd.bB|apply Kd.bq));exact dh.out⟩,⟨by(with_reducible repeat(first|refine cO ?_ _|refine cB ?_ |refine bT ?_ _));exact aD.out⟩,⟨bs eH.out⟩⟩
     case rest=>
      clear HC8
      try clear c1
      try clear c2
      try clear p2
      try clear c5
      try clear p5
      try clear q5
      try clear hx5
      try clear c6
      try clear mo
      try clear c7
      try clear wR
      try clear c11
      try clear mQ
      try clear vD
      try clear vF
      try clear vG
      try clear vH
      try clear vI
      try clear vJ
      try clear vK
      try clear vL
      try clear vM
      try clear vN
      try clear vO
      try clear oM
      try clear oN
      try clear oO
      try clear oP
      try clear oQ
      try clear p2
      try clear p530
      try clear q530
      obtain⟨kq,lJ,rfl,HA,HJ7,dA,dh,aD,HB⟩:=hcut;cases kq with
      |zero=>exact absurd HA.out (by simp[ay.j1])
      |succ kj7=>
       have H:=HA.out;clear HA;simp only[ay.j1]at H;have HC20:=ak.mk H;clear H
       go_upto_region 7 with(fail)
       go_cut [39] (fun v39 wc=>∃(kq:Nat) (CW:Bool),v39=.bool CW∧ak (ay.j2 kq l0 bQ fC aC lJ CW ((au l0 aC).f0) ((au l0 aC).f1) ((au l0 aC).f2) ((au l0 aC).f3) ((au l0 aC).f4)=some (r1,r2))∧ak (kq≤kj7)∧ak (Kd.R Kd.string 9 wc w.heap.size (fun _=>True) u4 bQ)∧ak (Kd.R k34 34 wc w.heap.size (fun _=>True) u5 fC)∧ak (wc.heap[bD]?=some (.cells #[.int .i64 ((au l0 aC).f0),.string ((au l0 aC).f1),.string ((au l0 aC).f2),(.slice dO ((au l0 aC).f3).length dP),.bool ((au l0 aC).f4)] 65 (0,0)))∧ak (Below w.heap.size w wc))
       case first=>
        as_aux_lemma=>
         have H:=HC20.out;clear HC20
         by_cases c21:((au l0 aC).f0)=0
         ·rw[if_pos c21]at H
          have tO:(((au l0 aC).f0)==0)=true:=beq_iff_eq.mpr c21;have BO:(((au l0 aC).f0) !=0)=false:=bne_eq_false_iff_eq.mpr c21;clear c21
          (first|rw[tO] |(simp only[gM,gX];rw[tO])|skip)
          have H':=ak.mk H;clear H;have yH:wc.cell? ⟨bD,0,none⟩=some (.int .i64 ((au l0 aC).f0)):=(aA aD.out 0).trans rfl;have yI:wc.cell? ⟨bD,1,none⟩=some (.string ((au l0 aC).f1)):=(aA aD.out 1).trans rfl;have yJ:wc.cell? ⟨bD,2,none⟩=some (.string ((au l0 aC).f2)):=(aA aD.out 2).trans rfl;have yK:wc.cell? ⟨bD,3,none⟩=some (.slice dO ((au l0 aC).f3).length dP):=(aA aD.out 3).trans rfl;have yL:wc.cell? ⟨bD,4,none⟩=some (.bool ((au l0 aC).f4)):=(aA aD.out 4).trans rfl;have yM:=aU aD.out 0;have yN:=aU aD.out 1;have yO:=aU aD.out 2;have yP:=aU aD.out 3;have yQ:=aU aD.out 4;go_wp2
          go_meet
          case rel=>exact⟨_,((((au l0 aC).f2).toList !=([] :List UInt8))),q'c,H',⟨by have:=HK1.out;have:=HJ7.out;first|omega|exact Nat.le_refl _⟩,⟨by(with_reducible repeat(first|apply Kd.aZ|apply Kd.bB|apply Kd.bq));exact dA.out⟩,⟨by(with_reducible repeat(first|apply Kd.aZ|apply Kd.bB|apply Kd.bq));exact dh.out⟩,⟨by(with_reducible repeat(first|refine cO ?_ _|refine cB ?_ |refine bT ?_ _));exact aD.out⟩,⟨bs eH.out⟩⟩
         ·rw[if_neg c21]at H
          have tO:(((au l0 aC).f0)==0)=false:=beq_eq_false_iff_ne.mpr c21;have BO:(((au l0 aC).f0) !=0)=true:=bne_iff_ne.mpr c21
          (first|rw[tO] |(simp only[gM,gX];rw[tO])|skip)
          have H':=ak.mk H;clear H;have yR:wc.cell? ⟨bD,0,none⟩=some (.int .i64 ((au l0 aC).f0)):=(aA aD.out 0).trans rfl;have yS:wc.cell? ⟨bD,1,none⟩=some (.string ((au l0 aC).f1)):=(aA aD.out 1).trans rfl;have yT:wc.cell? ⟨bD,2,none⟩=some (.string ((au l0 aC).f2)):=(aA aD.out 2).trans rfl;have yU:wc.cell? ⟨bD,3,none⟩=some (.slice dO ((au l0 aC).f3).length dP):=(aA aD.out 3).trans rfl;have yV:wc.cell? ⟨bD,4,none⟩=some (.bool ((au l0 aC).f4)):=(aA aD.out 4).trans rfl;have yX:=aU aD.out 0;have yY:=aU aD.out 1;have yZ:=aU aD.out 2;have y8:=aU aD.out 3;have y9:=aU aD.out 4;go_wp2
          go_meet
          case rel=>exact⟨_,(false),q'c,H',⟨by have:=HK1.out;have:=HJ7.out;first|omega|exact Nat.le_refl _⟩,⟨by(with_reducible repeat(first|apply Kd.aZ|apply Kd.bB|apply Kd.bq));exact dA.out⟩,⟨by(with_reducible repeat(first|apply Kd.aZ|apply Kd.bB|apply Kd.bq));exact dh.out⟩,⟨by(with_reducible repeat(first|refine cO ?_ _|refine cB ?_ |refine bT ?_ _));exact aD.out⟩,⟨bs eH.out⟩⟩
       case rest=>
        clear HC20
        try clear c1
        try clear c2
        try clear p2
        try clear c5
        try clear p5
        try clear q5
        try clear hx5
        try clear c6
        try clear mo
        try clear c7
        try clear wR
        try clear c11
        try clear mQ
        try clear vD
        try clear c20
        try clear c21
        try clear tO
        try clear BO
        try clear vF
        try clear vG
        try clear vH
        try clear vI
        try clear vJ
        try clear yH
        try clear yI
        try clear yJ
        try clear yK
        try clear yL
        try clear yR
        try clear yS
        try clear yT
        try clear yU
        try clear yV
        try clear vK
        try clear vL
        try clear vM
        try clear vN
        try clear vO
        try clear yM
        try clear yN
        try clear yO
        try clear yP
        try clear yQ
        try clear yX
        try clear yY
        try clear yZ
        try clear y8
        try clear y9
        try clear oM
        try clear oN
        try clear oO
        try clear oP
        try clear oQ
        try clear p2
        try clear p5
        try clear p530
        try clear q5
        try clear q530
        obtain⟨kq,CW,rfl,HA,mR,dA,dh,aD,HB⟩:=hcut;cases kq with
        |zero=>exact absurd HA.out (by simp[ay.j2])
        |succ kj19=>
         have H:=HA.out;clear HA;simp only[ay.j2]at H;have HC24:=ak.mk H;clear H
         go_upto_if 39 with(fail)
         go_cut [5] (fun v5 wc=>∃(kq:Nat) (Ag:List (S34)),ak (ay.j3 kq l0 bQ Ag aC lJ ((au l0 aC).f0) ((au l0 aC).f1) ((au l0 aC).f2) ((au l0 aC).f3) ((au l0 aC).f4)=some (r1,r2))∧ak (kq≤kj19)∧ak (Kd.R Kd.string 9 wc w.heap.size (fun _=>True) u4 bQ)∧ak (Kd.R k34 34 wc w.heap.size (fun _=>True) v5 Ag)∧ak (wc.heap[bD]?=some (.cells #[.int .i64 ((au l0 aC).f0),.string ((au l0 aC).f1),.string ((au l0 aC).f2),(.slice dO ((au l0 aC).f3).length dP),.bool ((au l0 aC).f4)] 65 (0,0)))∧ak (Below w.heap.size w wc))
         case first=>
          as_aux_lemma=>
           have H:=HC24.out;clear HC24
           by_cases c25:CW=true
           ·subst c25
            have H1:((fP.f fC (bQ.length:Int) 1 (⟨#[]⟩:Bt) ((au l0 aC).f2) ([] :List (S36))).bind fun t536=>(ay.j3 kj19 l0 bQ t536 aC lJ ((au l0 aC).f0) ((au l0 aC).f1) ((au l0 aC).f2) ((au l0 aC).f3) ((au l0 aC).f4)))=some (r1,r2):=by rw[if_pos rfl]at H;exact H
            clear H;have H:=H1;clear H1;replace H:=Option.bind_eq_some_iff.mp H;obtain⟨t536,A260,H⟩:=H;replace H:(ay.j3 kj19 l0 bQ t536 aC lJ ((au l0 aC).f0) ((au l0 aC).f1) ((au l0 aC).f2) ((au l0 aC).f3) ((au l0 aC).f4))=some (r1,r2):=H;have A26:=ak.mk A260;clear A260;have H':=ak.mk H;clear H;obtain⟨Ao27,co27,eo27⟩:=Kd.bF dA.out;subst eo27;have CX:wc.cell? ⟨bD,0,none⟩=some (.int .i64 ((au l0 aC).f0)):=(aA aD.out 0).trans rfl;have CY:wc.cell? ⟨bD,1,none⟩=some (.string ((au l0 aC).f1)):=(aA aD.out 1).trans rfl;have CZ:wc.cell? ⟨bD,2,none⟩=some (.string ((au l0 aC).f2)):=(aA aD.out 2).trans rfl;have C8:wc.cell? ⟨bD,3,none⟩=some (.slice dO ((au l0 aC).f3).length dP):=(aA aD.out 3).trans rfl;have C9:wc.cell? ⟨bD,4,none⟩=some (.bool ((au l0 aC).f4)):=(aA aD.out 4).trans rfl;have Da:=aU aD.out 0;have Db:=aU aD.out 1;have Dc:=aU aD.out 2;have Df:=aU aD.out 3;have Dg:=aU aD.out 4;obtain⟨zR,zS,eo29⟩:=Kd.bF dh.out;subst eo29
            go_wp2_with(first|((with_reducible refine bC (f:=62) rfl ?_);refine dH (some 46) rfl rfl Tryz.func62 (by kernel_rfl) rfl #[.slice zR fC.length zS,.agg #[.int .i64 (bQ.length:Int),.int .i64 1,.string (⟨#[]⟩:Bt),.string ((au l0 aC).f2),.slice none 0 0]] rfl (by(try simp only[List.map_toArray,List.map_cons,List.map_nil]);first|done|rfl|(simp only[List.length_drop,List.length_take];rfl)) ?_;(refine(fP.calls (.slice zR fC.length zS) fC (bQ.length:Int) 1 (⟨#[]⟩:Bt) ((au l0 aC).f2) ([] :List (S36)) t536 w _ ?dB ?dD A26.out).mono ?_);(case dB=>repeat(first|(with_reducible first|exact HB.out|apply gu|apply eP|apply fA|refine aW ?_ eH.out)|exact HB.out));(case dD=>exact dh.out);rintro e w30 ⟨v537,rfl,ho0,hb,hkp⟩;refine⟨_,rfl,?_⟩;have HO538:=ak.mk (Kd.dz (ok':=fun k_=>True) ho0 (fun k_ hk_=>trivial));replace dA:=ak.mk (Kd.dz (ok':=fun k_=>True) (Kd.IK ((Kd.r9 dA.out (Kd.iZ dh.out) (by decide))) hkp (fun k_ hk_ hs_=>(hk_.2) hs_)) (fun k_ hk_=>trivial));replace aD:=ak.mk (F8 (kz aD.out) hkp (fun hs_=>(fun e_=>(Kd.xY dh.out aD.out (by decide)) e_) hs_));replace HB:=ak.mk (hb);clear dh;(try clear hb);(try clear hkp);(try clear ho0)))
            go_meet
            case rel=>exact⟨_,(t536),H',⟨by have:=HK1.out;have:=HJ7.out;have:=mR.out;first|omega|exact Nat.le_refl _⟩,⟨by(with_reducible repeat(first|apply Kd.aZ|apply Kd.bB|apply Kd.bq));exact dA.out⟩,⟨by(with_reducible repeat(first|apply Kd.aZ|apply Kd.bB|apply Kd.bq));exact HO538.out⟩,⟨by(with_reducible repeat(first|refine cO ?_ _|refine cB ?_ |refine bT ?_ _));exact aD.out⟩,⟨bs eH.out⟩⟩
           ·replace c25:=Bool.eq_false_iff.mpr c25
            subst c25;have H1:(ay.j3 kj19 l0 bQ fC aC lJ ((au l0 aC).f0) ((au l0 aC).f1) ((au l0 aC).f2) ((au l0 aC).f3) ((au l0 aC).f4))=some (r1,r2):=by rw[if_neg (show¬(false=true) by decide)]at H;first|exact H|(simp only[eq_self]at H⊢;exact H)|(simp only[eq_self,if_true]at H⊢;exact H)
            clear H;have H:=H1;clear H1;have H':=ak.mk H;clear H;go_wp2
            go_meet
            case rel=>exact⟨_,(fC),H',⟨by have:=HK1.out;have:=HJ7.out;have:=mR.out;first|omega|exact Nat.le_refl _⟩,⟨by(with_reducible repeat(first|apply Kd.aZ|apply Kd.bB|apply Kd.bq));exact dA.out⟩,⟨by(with_reducible repeat(first|apply Kd.aZ|apply Kd.bB|apply Kd.bq));exact dh.out⟩,⟨by(with_reducible repeat(first|refine cO ?_ _|refine cB ?_ |refine bT ?_ _));exact aD.out⟩,⟨bs eH.out⟩⟩
         case rest=>
          clear HC24
          try clear c1
          try clear c2
          try clear p2
          try clear c5
          try clear p5
          try clear q5
          try clear hx5
          try clear c6
          try clear mo
          try clear c7
          try clear wR
          try clear c11
          try clear mQ
          try clear vD
          try clear c20
          try clear c21
          try clear tO
          try clear BO
          try clear c25
          try clear vF
          try clear vG
          try clear vH
          try clear vI
          try clear vJ
          try clear yH
          try clear yI
          try clear yJ
          try clear yK
          try clear yL
          try clear yR
          try clear yS
          try clear yT
          try clear yU
          try clear yV
          try clear CX
          try clear CY
          try clear CZ
          try clear C8
          try clear C9
          try clear vK
          try clear vL
          try clear vM
          try clear vN
          try clear vO
          try clear yM
          try clear yN
          try clear yO
          try clear yP
          try clear yQ
          try clear yX
          try clear yY
          try clear yZ
          try clear y8
          try clear y9
          try clear Da
          try clear Db
          try clear Dc
          try clear Df
          try clear Dg
          try clear oM
          try clear oN
          try clear oO
          try clear oP
          try clear oQ
          try clear p2
          try clear p5
          try clear p530
          try clear q5
          try clear q530
          obtain⟨kq,Ag,HA,nA,dA,dh,aD,HB⟩:=hcut;cases kq with
          |zero=>exact absurd HA.out (by simp[ay.j3])
          |succ kj23=>
           have H:=HA.out;clear HA;simp only[ay.j3]at H;have HC31:=ak.mk H;clear H;have IL:wc.cell? ⟨bD,0,none⟩=some (.int .i64 ((au l0 aC).f0)):=(aA aD.out 0).trans rfl;have IQ:wc.cell? ⟨bD,1,none⟩=some (.string ((au l0 aC).f1)):=(aA aD.out 1).trans rfl;have IU:wc.cell? ⟨bD,2,none⟩=some (.string ((au l0 aC).f2)):=(aA aD.out 2).trans rfl;have IV:wc.cell? ⟨bD,3,none⟩=some (.slice dO ((au l0 aC).f3).length dP):=(aA aD.out 3).trans rfl;have IW:wc.cell? ⟨bD,4,none⟩=some (.bool ((au l0 aC).f4)):=(aA aD.out 4).trans rfl;have IX:=aU aD.out 0;have IY:=aU aD.out 1;have IZ:=aU aD.out 2;have I4:=aU aD.out 3;have I5:=aU aD.out 4
           go_upto_if 49 with(fail)
           go_cut [5] (fun v5 wc=>∃(kq:Nat) (mU:List (S34)),ak (ay.j4 kq l0 bQ mU aC lJ ((au l0 aC).f0) ((au l0 aC).f1) ((au l0 aC).f2) ((au l0 aC).f3) ((au l0 aC).f4)=some (r1,r2))∧ak (kq≤kj23)∧ak (Kd.R Kd.string 9 wc w.heap.size (fun _=>True) u4 bQ)∧ak (Kd.R k34 34 wc w.heap.size (fun _=>True) v5 mU)∧ak (wc.heap[bD]?=some (.cells #[.int .i64 ((au l0 aC).f0),.string ((au l0 aC).f1),.string ((au l0 aC).f2),(.slice dO ((au l0 aC).f3).length dP),.bool ((au l0 aC).f4)] 65 (0,0)))∧ak (Below w.heap.size w wc))
           case first=>
            as_aux_lemma=>
             have H:=HC31.out;clear HC31
             by_cases c33:((au l0 aC).f0)=3
             ·rw[if_pos c33]at H
              have Ah:(((au l0 aC).f0)==3)=true:=beq_iff_eq.mpr c33;have c33b1:(((au l0 aC).f0) !=3)=false:=bne_eq_false_iff_eq.mpr c33;clear c33
              (first|rw[Ah] |(simp only[gM,gX];rw[Ah])|skip)
              by_cases c34:Ag.length<1954687338268
              ·rw[if_pos c34]at H
               have LMc34:=ak.mk c34;clear c34;obtain⟨y539,F9⟩:∃y_:List (S34),y_=(Ag++[(⟨(bQ.length:Int),2,(⟨#[]⟩:Bt),((au l0 aC).f2),([] :List (S36))⟩:S34)]):=⟨_,rfl⟩
               replace H:(ay.j4 kj23 l0 bQ y539 aC lJ ((au l0 aC).f0) ((au l0 aC).f1) ((au l0 aC).f2) ((au l0 aC).f3) ((au l0 aC).f4))=some (r1,r2):=by first|(rw[F9];with_reducible exact H)|(have H2_:=(Option.bind_some _ _).symm.trans H;rw[F9];with_reducible exact H2_)|(have H2_:=(Option.bind_some _ _).symm.trans H;with_reducible exact H2_)|with_reducible exact H|(rw[F9];exact H)|exact H
               have Ny539:=ak.mk F9;clear F9;have H':=ak.mk H;clear H;obtain⟨Ao35,co35,eo35⟩:=Kd.bF dA.out;subst eo35;have I6:wc.cell? ⟨bD,0,none⟩=some (.int .i64 ((au l0 aC).f0)):=(aA aD.out 0).trans rfl;have I7:wc.cell? ⟨bD,1,none⟩=some (.string ((au l0 aC).f1)):=(aA aD.out 1).trans rfl;have I8:wc.cell? ⟨bD,2,none⟩=some (.string ((au l0 aC).f2)):=(aA aD.out 2).trans rfl;have I9:wc.cell? ⟨bD,3,none⟩=some (.slice dO ((au l0 aC).f3).length dP):=(aA aD.out 3).trans rfl;have Ja:wc.cell? ⟨bD,4,none⟩=some (.bool ((au l0 aC).f4)):=(aA aD.out 4).trans rfl;have Jb:=aU aD.out 0;have Jc:=aU aD.out 1;have Jd:=aU aD.out 2;have Je:=aU aD.out 3;have Jf:=aU aD.out 4
               go_wp2_with(first|((with_reducible refine fG (b:=.append) (xs:=#[.tmp 50,.tmp 56]) rfl ?_);(try(refine iQ (by rfl) ?_;dsimp only));at_builtin;refine Kd.fZ k34 (w0:=w) w.heap.size rfl (.tmp 50) (.tmp 56) 22 34 (.agg #[(.int .i64 0),(.int .i64 0),(.string ⟨#[]⟩),(.string ⟨#[]⟩),(.slice none 0 0)]) 72 rfl Tryz.underlying22 jy rfl (by decide) (by omega) u5 Ag (⟨(bQ.length:Int),2,(⟨#[]⟩:Bt),((au l0 aC).f2),([] :List (S36))⟩:S34) [.int .i64 (bQ.length:Int),.int .i64 2,.string (⟨#[]⟩:Bt),.string ((au l0 aC).f2),.slice none 0 0] (fun _=>True) (fun k_=>((fun _=>True)) k_∧some k_≠(u5:Value).ownBlock) rfl rfl ?aP (fun _ hk=>hk) ?aF ?aO ?aB ?aS ?aL ?_;(case aP=>exact jE _ _ _ (⟨(bQ.length:Int),2,(⟨#[]⟩:Bt),((au l0 aC).f2),([] :List (S36))⟩:S34) (Kd.iJ _ _ _ _ _));(case aB=>exact(bs eH.out));(case aF=>exact(fun _ _=>trivial));(case aO=>exact(rz dh.out));(case aS=>exact(aJ (bs eH.out)));(case aL=>have:=LMc34.out;omega);intro v540 w37 ho hb hg hat;rw[←Ny539.out]at ho;have HO541:=ak.mk (ho);replace dA:=ak.mk (Kd.mJ (rz dA.out) (Kd.iZ (rz dh.out)) (by decide) hg);replace aD:=ak.mk (iO (g:=bD) (o:=.cells #[.int .i64 ((au l0 aC).f0),.string ((au l0 aC).f1),.string ((au l0 aC).f2),.slice dO ((au l0 aC).f3).length dP,.bool ((au l0 aC).f4)] 65 (0,0)) (kz aD.out) hg (Kd.xY dh.out aD.out (by decide)));replace HB:=ak.mk (hb);clear dh;clear ho hb hg hat))
               go_meet
               case rel=>exact⟨_,(y539),H',⟨by have:=HK1.out;have:=HJ7.out;have:=mR.out;have:=nA.out;first|omega|exact Nat.le_refl _⟩,⟨by(with_reducible repeat(first|apply Kd.aZ|apply Kd.bB|apply Kd.bq));exact dA.out⟩,⟨by(with_reducible repeat(first|apply Kd.aZ|apply Kd.bB|apply Kd.bq));exact HO541.out⟩,⟨by(with_reducible repeat(first|refine cO ?_ _|refine cB ?_ |refine bT ?_ _));exact aD.out⟩,⟨bs eH.out⟩⟩
              ·rw[if_neg c34]at H
               exact absurd H (by simp)
             ·rw[if_neg c33]at H
              have Ah:(((au l0 aC).f0)==3)=false:=beq_eq_false_iff_ne.mpr c33;have c33b1:(((au l0 aC).f0) !=3)=true:=bne_iff_ne.mpr c33
              (first|rw[Ah] |(simp only[gM,gX];rw[Ah])|skip)
              have H':=ak.mk H;clear H;go_wp2
              go_meet
              case rel=>exact⟨_,(Ag),H',⟨by have:=HK1.out;have:=HJ7.out;have:=mR.out;have:=nA.out;first|omega|exact Nat.le_refl _⟩,⟨by(with_reducible repeat(first|apply Kd.aZ|apply Kd.bB|apply Kd.bq));exact dA.out⟩,⟨by(with_reducible repeat(first|apply Kd.aZ|apply Kd.bB|apply Kd.bq));exact dh.out⟩,⟨by(with_reducible repeat(first|refine cO ?_ _|refine cB ?_ |refine bT ?_ _));exact aD.out⟩,⟨bs eH.out⟩⟩
           case rest=>
            clear HC31
            try clear c1
            try clear c2
            try clear p2
            try clear c3
            try clear c5
            try clear p5
            try clear q5
            try clear hx5
            try clear c6
            try clear mo
            try clear c7
            try clear wR
            try clear c11
            try clear mQ
            try clear vD
            try clear c20
            try clear c21
            try clear tO
            try clear BO
            try clear c25
            try clear c33
            try clear Ah
            try clear c33b1
            try clear c34
            try clear vF
            try clear vG
            try clear vH
            try clear vI
            try clear vJ
            try clear yH
            try clear yI
            try clear yJ
            try clear yK
            try clear yL
            try clear yR
            try clear yS
            try clear yT
            try clear yU
            try clear yV
            try clear CX
            try clear CY
            try clear CZ
            try clear C8
            try clear C9
            try clear IL
            try clear IQ
            try clear IU
            try clear IV
            try clear IW
            try clear I6
            try clear I7
            try clear I8
            try clear I9
            try clear Ja
            try clear vK
            try clear vL
            try clear vM
            try clear vN
            try clear vO
            try clear yM
            try clear yN
            try clear yO
            try clear yP
            try clear yQ
            try clear yX
            try clear yY
            try clear yZ
            try clear y8
            try clear y9
            try clear Da
            try clear Db
            try clear Dc
            try clear Df
            try clear Dg
            try clear IX
            try clear IY
            try clear IZ
            try clear I4
            try clear I5
            try clear Jb
            try clear Jc
            try clear Jd
            try clear Je
            try clear Jf
            try clear oM
            try clear oN
            try clear oO
            try clear oP
            try clear oQ
            try clear p2
            try clear p5
            try clear p530
            try clear q5
            try clear q530
            obtain⟨kq,mU,HA,oz,dA,dh,aD,HB⟩:=hcut;cases kq with
            |zero=>exact absurd HA.out (by simp[ay.j4])
            |succ kj30=>
             have H:=HA.out;clear HA;simp only[ay.j4]at H;have HC38:=ak.mk H;clear H
             go_upto_region 11 with(fail)
             go_cut [64] (fun v64 wc=>∃(kq:Nat) (Dh:Bool),v64=.bool Dh∧ak (ay.j5 kq l0 bQ mU aC lJ Dh ((au l0 aC).f0) ((au l0 aC).f1) ((au l0 aC).f2) ((au l0 aC).f3) ((au l0 aC).f4)=some (r1,r2))∧ak (kq≤kj30)∧ak (Kd.R Kd.string 9 wc w.heap.size (fun _=>True) u4 bQ)∧ak (Kd.R k34 34 wc w.heap.size (fun _=>True) u5 mU)∧ak (wc.heap[bD]?=some (.cells #[.int .i64 ((au l0 aC).f0),.string ((au l0 aC).f1),.string ((au l0 aC).f2),(.slice dO ((au l0 aC).f3).length dP),.bool ((au l0 aC).f4)] 65 (0,0)))∧ak (Below w.heap.size w wc))
             case first=>
              as_aux_lemma=>
               have H:=HC38.out;clear HC38
               by_cases c39:((au l0 aC).f0)=1
               ·rw[if_pos c39]at H
                have BR:(((au l0 aC).f0)==1)=true:=beq_iff_eq.mpr c39;have c39b1:(((au l0 aC).f0) !=1)=false:=bne_eq_false_iff_eq.mpr c39;clear c39
                (first|rw[BR] |(simp only[gM,gX];rw[BR])|skip)
                have H':=ak.mk H;clear H;have hcz40_0:wc.cell? ⟨bD,0,none⟩=some (.int .i64 ((au l0 aC).f0)):=(aA aD.out 0).trans rfl;have hcz40_1:wc.cell? ⟨bD,1,none⟩=some (.string ((au l0 aC).f1)):=(aA aD.out 1).trans rfl;have hcz40_2:wc.cell? ⟨bD,2,none⟩=some (.string ((au l0 aC).f2)):=(aA aD.out 2).trans rfl;have hcz40_3:wc.cell? ⟨bD,3,none⟩=some (.slice dO ((au l0 aC).f3).length dP):=(aA aD.out 3).trans rfl;have hcz40_4:wc.cell? ⟨bD,4,none⟩=some (.bool ((au l0 aC).f4)):=(aA aD.out 4).trans rfl;have hfz40_0:=aU aD.out 0;have hfz40_1:=aU aD.out 1;have hfz40_2:=aU aD.out 2;have hfz40_3:=aU aD.out 3;have hfz40_4:=aU aD.out 4;go_wp2
                go_meet
                case rel=>exact⟨_,(!lJ),q'c,H',⟨by have:=HK1.out;have:=HJ7.out;have:=mR.out;have:=nA.out;have:=oz.out;first|omega|exact Nat.le_refl _⟩,⟨by(with_reducible repeat(first|apply Kd.aZ|apply Kd.bB|apply Kd.bq));exact dA.out⟩,⟨by(with_reducible repeat(first|apply Kd.aZ|apply Kd.bB|apply Kd.bq));exact dh.out⟩,⟨by(with_reducible repeat(first|refine cO ?_ _|refine cB ?_ |refine bT ?_ _));exact aD.out⟩,⟨bs eH.out⟩⟩
               ·rw[if_neg c39]at H
                have BR:(((au l0 aC).f0)==1)=false:=beq_eq_false_iff_ne.mpr c39;have c39b1:(((au l0 aC).f0) !=1)=true:=bne_iff_ne.mpr c39
                (first|rw[BR] |(simp only[gM,gX];rw[BR])|skip)
                have H':=ak.mk H;clear H;have hcz41_0:wc.cell? ⟨bD,0,none⟩=some (.int .i64 ((au l0 aC).f0)):=(aA aD.out 0).trans rfl;have hcz41_1:wc.cell? ⟨bD,1,none⟩=some (.string ((au l0 aC).f1)):=(aA aD.out 1).trans rfl;have hcz41_2:wc.cell? ⟨bD,2,none⟩=some (.string ((au l0 aC).f2)):=(aA aD.out 2).trans rfl;have hcz41_3:wc.cell? ⟨bD,3,none⟩=some (.slice dO ((au l0 aC).f3).length dP):=(aA aD.out 3).trans rfl;have hcz41_4:wc.cell? ⟨bD,4,none⟩=some (.bool ((au l0 aC).f4)):=(aA aD.out 4).trans rfl;have hfz41_0:=aU aD.out 0;have hfz41_1:=aU aD.out 1;have hfz41_2:=aU aD.out 2;have hfz41_3:=aU aD.out 3;have hfz41_4:=aU aD.out 4;go_wp2
                go_meet
                case rel=>exact⟨_,(false),q'c,H',⟨by have:=HK1.out;have:=HJ7.out;have:=mR.out;have:=nA.out;have:=oz.out;first|omega|exact Nat.le_refl _⟩,⟨by(with_reducible repeat(first|apply Kd.aZ|apply Kd.bB|apply Kd.bq));exact dA.out⟩,⟨by(with_reducible repeat(first|apply Kd.aZ|apply Kd.bB|apply Kd.bq));exact dh.out⟩,⟨by(with_reducible repeat(first|refine cO ?_ _|refine cB ?_ |refine bT ?_ _));exact aD.out⟩,⟨bs eH.out⟩⟩
             case rest=>
              clear HC38
              try clear c1
              try clear c2
              try clear p2
              try clear c3
              try clear c5
              try clear p5
              try clear q5
              try clear hx5
              try clear c6
              try clear mo
              try clear c7
              try clear wR
              try clear c11
              try clear mQ
              try clear vD
              try clear c20
              try clear c21
              try clear tO
              try clear BO
              try clear c25
              try clear c33
              try clear Ah
              try clear c33b1
              try clear c34
              try clear c39
              try clear BR
              try clear c39b1
              try clear vF
              try clear vG
              try clear vH
              try clear vI
              try clear vJ
              try clear yH
              try clear yI
              try clear yJ
              try clear yK
              try clear yL
              try clear yR
              try clear yS
              try clear yT
              try clear yU
              try clear yV
              try clear CX
              try clear CY
              try clear CZ
              try clear C8
              try clear C9
              try clear IL
              try clear IQ
              try clear IU
              try clear IV
              try clear IW
              try clear I6
              try clear I7
              try clear I8
              try clear I9
              try clear Ja
              try clear hcz40_0
              try clear hcz40_1
              try clear hcz40_2
              try clear hcz40_3
              try clear hcz40_4
              try clear hcz41_0
              try clear hcz41_1
              try clear hcz41_2
              try clear hcz41_3
              try clear hcz41_4
              try clear vK
              try clear vL
              try clear vM
              try clear vN
              try clear vO
              try clear yM
              try clear yN
              try clear yO
              try clear yP
              try clear yQ
              try clear yX
              try clear yY
              try clear yZ
              try clear y8
              try clear y9
              try clear Da
              try clear Db
              try clear Dc
              try clear Df
              try clear Dg
              try clear IX
              try clear IY
              try clear IZ
              try clear I4
              try clear I5
              try clear Jb
              try clear Jc
              try clear Jd
              try clear Je
              try clear Jf
              try clear hfz40_0
              try clear hfz40_1
              try clear hfz40_2
              try clear hfz40_3
              try clear hfz40_4
              try clear hfz41_0
              try clear hfz41_1
              try clear hfz41_2
              try clear hfz41_3
              try clear hfz41_4
              try clear oM
              try clear oN
              try clear oO
              try clear oP
              try clear oQ
              try clear p2
              try clear p5
              try clear p530
              try clear q5
              try clear q530
              obtain⟨kq,Dh,rfl,HA,qm,dA,dh,aD,HB⟩:=hcut;cases kq with
              |zero=>exact absurd HA.out (by simp[ay.j5])
              |succ lu=>
               have H:=HA.out;clear HA;simp only[ay.j5]at H;have HC42:=ak.mk H;clear H
               go_upto_if 64 with(fail)
               go_cut [4,5] (fun v4 v5 wc=>∃(kq:Nat) (l5:List Bt) (dF:List (S34)),ak (ay.j6 kq l0 l5 dF aC lJ ((au l0 aC).f0) ((au l0 aC).f1) ((au l0 aC).f2) ((au l0 aC).f3) ((au l0 aC).f4)=some (r1,r2))∧ak (kq≤lu)∧ak (Kd.R Kd.string 9 wc w.heap.size (fun _=>True) v4 l5)∧ak (Kd.R k34 34 wc w.heap.size (fun _=>True) v5 dF)∧ak (wc.heap[bD]?=some (.cells #[.int .i64 ((au l0 aC).f0),.string ((au l0 aC).f1),.string ((au l0 aC).f2),(.slice dO ((au l0 aC).f3).length dP),.bool ((au l0 aC).f4)] 65 (0,0)))∧ak (Below w.heap.size w wc))
               case first=>
                as_aux_lemma=>
                 have H:=HC42.out;clear HC42
                 by_cases c43:Dh=true
                 ·subst c43
                  have H1:((fD.f lu bQ ((au l0 aC).f1)).bind fun ji=>((bH.f lu ((au l0 aC).f3)).bind fun tF=>(if mU.length<1954687338268 then((some (mU++[(⟨(ji.length:Int),0,((au l0 aC).f1),(⟨#[]⟩:Bt),tF⟩:S34)] :List (S34))).bind fun nX=>((eG.f).bind fun qM=>((aM.f lu qM ((au l0 aC).f1)).bind fun vE=>(if vE=true then(ay.j6 lu l0 ji nX aC lJ ((au l0 aC).f0) ((au l0 aC).f1) ((au l0 aC).f2) ((au l0 aC).f3) ((au l0 aC).f4))else(if ji.length<8796093022208 then(ay.j6 lu l0 (ji++[((au l0 aC).f1)]) nX aC lJ ((au l0 aC).f0) ((au l0 aC).f1) ((au l0 aC).f2) ((au l0 aC).f3) ((au l0 aC).f4))else(none))))))else(none))))=some (r1,r2):=by rw[if_pos rfl]at H;exact H
                  clear H;have H:=H1;clear H1;replace H:=Option.bind_eq_some_iff.mp H;obtain⟨ji,A440,H⟩:=H;replace H:((bH.f lu ((au l0 aC).f3)).bind fun tF=>(if mU.length<1954687338268 then((some (mU++[(⟨(ji.length:Int),0,((au l0 aC).f1),(⟨#[]⟩:Bt),tF⟩:S34)] :List (S34))).bind fun nX=>((eG.f).bind fun qM=>((aM.f lu qM ((au l0 aC).f1)).bind fun vE=>(if vE=true then(ay.j6 lu l0 ji nX aC lJ ((au l0 aC).f0) ((au l0 aC).f1) ((au l0 aC).f2) ((au l0 aC).f3) ((au l0 aC).f4))else(if ji.length<8796093022208 then(ay.j6 lu l0 (ji++[((au l0 aC).f1)]) nX aC lJ ((au l0 aC).f0) ((au l0 aC).f1) ((au l0 aC).f2) ((au l0 aC).f3) ((au l0 aC).f4))else(none))))))else(none)))=some (r1,r2):=H;have A44:=ak.mk A440;clear A440;replace H:=Option.bind_eq_some_iff.mp H;obtain⟨tF,A450,H⟩:=H
                  replace H:(if mU.length<1954687338268 then((some (mU++[(⟨(ji.length:Int),0,((au l0 aC).f1),(⟨#[]⟩:Bt),tF⟩:S34)] :List (S34))).bind fun nX=>((eG.f).bind fun qM=>((aM.f lu qM ((au l0 aC).f1)).bind fun vE=>(if vE=true then(ay.j6 lu l0 ji nX aC lJ ((au l0 aC).f0) ((au l0 aC).f1) ((au l0 aC).f2) ((au l0 aC).f3) ((au l0 aC).f4))else(if ji.length<8796093022208 then(ay.j6 lu l0 (ji++[((au l0 aC).f1)]) nX aC lJ ((au l0 aC).f0) ((au l0 aC).f1) ((au l0 aC).f2) ((au l0 aC).f3) ((au l0 aC).f4))else(none))))))else(none))=some (r1,r2):=H;have A45:=ak.mk A450;clear A450
                  by_cases c46:mU.length<1954687338268
                  ·rw[if_pos c46]at H
                   have LMc46:=ak.mk c46;clear c46;obtain⟨nX,Ga⟩:∃y_:List (S34),y_=(mU++[(⟨(ji.length:Int),0,((au l0 aC).f1),(⟨#[]⟩:Bt),tF⟩:S34)]):=⟨_,rfl⟩
                   replace H:((eG.f).bind fun qM=>((aM.f lu qM ((au l0 aC).f1)).bind fun vE=>(if vE=true then(ay.j6 lu l0 ji nX aC lJ ((au l0 aC).f0) ((au l0 aC).f1) ((au l0 aC).f2) ((au l0 aC).f3) ((au l0 aC).f4))else(if ji.length<8796093022208 then(ay.j6 lu l0 (ji++[((au l0 aC).f1)]) nX aC lJ ((au l0 aC).f0) ((au l0 aC).f1) ((au l0 aC).f2) ((au l0 aC).f3) ((au l0 aC).f4))else(none)))))=some (r1,r2):=by first|(rw[Ga];with_reducible exact H)|(have H2_:=(Option.bind_some _ _).symm.trans H;rw[Ga];with_reducible exact H2_)|(have H2_:=(Option.bind_some _ _).symm.trans H;with_reducible exact H2_)|with_reducible exact H|(rw[Ga];exact H)|exact H
                   have Ny548:=ak.mk Ga;clear Ga;replace H:=Option.bind_eq_some_iff.mp H;obtain⟨qM,A470,H⟩:=H;replace H:((aM.f lu qM ((au l0 aC).f1)).bind fun vE=>(if vE=true then(ay.j6 lu l0 ji nX aC lJ ((au l0 aC).f0) ((au l0 aC).f1) ((au l0 aC).f2) ((au l0 aC).f3) ((au l0 aC).f4))else(if ji.length<8796093022208 then(ay.j6 lu l0 (ji++[((au l0 aC).f1)]) nX aC lJ ((au l0 aC).f0) ((au l0 aC).f1) ((au l0 aC).f2) ((au l0 aC).f3) ((au l0 aC).f4))else(none))))=some (r1,r2):=H;have A47:=ak.mk A470;clear A470;replace H:=Option.bind_eq_some_iff.mp H;obtain⟨vE,A480,H⟩:=H;replace H:(if vE=true then(ay.j6 lu l0 ji nX aC lJ ((au l0 aC).f0) ((au l0 aC).f1) ((au l0 aC).f2) ((au l0 aC).f3) ((au l0 aC).f4))else(if ji.length<8796093022208 then(ay.j6 lu l0 (ji++[((au l0 aC).f1)]) nX aC lJ ((au l0 aC).f0) ((au l0 aC).f1) ((au l0 aC).f2) ((au l0 aC).f3) ((au l0 aC).f4))else(none)))=some (r1,r2):=H;have A48:=ak.mk A480;clear A480
                   by_cases c49:vE=true
                   ·subst c49
                    have H1:(ay.j6 lu l0 ji nX aC lJ ((au l0 aC).f0) ((au l0 aC).f1) ((au l0 aC).f2) ((au l0 aC).f3) ((au l0 aC).f4))=some (r1,r2):=by rw[if_pos rfl]at H;exact H
                    clear H;have H:=H1;clear H1;have H':=ak.mk H;clear H;have hcz50_0:wc.cell? ⟨bD,0,none⟩=some (.int .i64 ((au l0 aC).f0)):=(aA aD.out 0).trans rfl;have hcz50_1:wc.cell? ⟨bD,1,none⟩=some (.string ((au l0 aC).f1)):=(aA aD.out 1).trans rfl;have hcz50_2:wc.cell? ⟨bD,2,none⟩=some (.string ((au l0 aC).f2)):=(aA aD.out 2).trans rfl;have hcz50_3:wc.cell? ⟨bD,3,none⟩=some (.slice dO ((au l0 aC).f3).length dP):=(aA aD.out 3).trans rfl;have hcz50_4:wc.cell? ⟨bD,4,none⟩=some (.bool ((au l0 aC).f4)):=(aA aD.out 4).trans rfl;have hfz50_0:=aU aD.out 0;have hfz50_1:=aU aD.out 1;have hfz50_2:=aU aD.out 2;have hfz50_3:=aU aD.out 3;have hfz50_4:=aU aD.out 4;obtain⟨Ao51,co51,eo51⟩:=Kd.bF dA.out;subst eo51
                    try go_wp2_with(first|((with_reducible refine bC (f:=63) rfl ?_);refine dH (some 68) rfl rfl Tryz.func63 (by kernel_rfl) rfl #[.slice Ao51 bQ.length co51,.string ((au l0 aC).f1)] rfl (by(try simp only[List.map_toArray,List.map_cons,List.map_nil]);first|done|rfl|(simp only[List.length_drop,List.length_take];rfl)) ?_;(with_reducible refine(fD.calls lu _ _ bQ ((au l0 aC).f1) ji _ ?dB ?dD A44.out).mono ?_);(case dB=>exact cz (Kd.aI dA.out).2.2);(case dD=>exact(Kd.aI dA.out).2.1);rintro e w52 ⟨v543,rfl,ho0,hb⟩;refine⟨_,rfl,?_⟩;have gF:=ak.mk (Kd.bM (Kd.dw ho0 (Kd.fu (rz dA.out))) (aJ (bs eH.out)));replace dA:=ak.mk (Kd.bP (rz dA.out) (Kd.cK ho0) hb);replace dh:=ak.mk (Kd.dR (rz dh.out) hb);replace aD:=ak.mk (kF (g:=bD) (o:=.cells #[.int .i64 ((au l0 aC).f0),.string ((au l0 aC).f1),.string ((au l0 aC).f2),.slice dO ((au l0 aC).f3).length dP,.bool ((au l0 aC).f4)] 65 (0,0)) (kz aD.out) hb);replace HB:=ak.mk (aN (bs eH.out) hb);(try clear hb);(try clear hb2);(try clear hk);(try clear hi);(try clear ho0)))
                    replace dA:=ak.mk (Kd.bq dA.out);replace dh:=ak.mk (Kd.bq dh.out);replace gF:=ak.mk (Kd.bq gF.out);replace aD:=ak.mk (cB aD.out);replace HB:=ak.mk (fA HB.out);obtain⟨Ao54,co54,eo54⟩:=Kd.bF gF.out
                    (first|subst eo54|(injection eo54 with f1_ f2_ f3_;have f4_:=f1_.symm;have f5_:=f3_.symm;clear f1_ f2_ f3_;subst f4_;subst f5_))
                    refine jm (n:=12) (S:=fun w'=>w'.cell? ⟨bD,0,none⟩=some (.int .i64 ((au l0 aC).f0))∧w'.cell? ⟨bD,1,none⟩=some (.string ((au l0 aC).f1))∧w'.cell? ⟨bD,2,none⟩=some (.string ((au l0 aC).f2))∧w'.cell? ⟨bD,3,none⟩=some (.slice dO ((au l0 aC).f3).length dP)∧w'.cell? ⟨bD,4,none⟩=some (.bool ((au l0 aC).f4))) (ds:=[]) (fl 12 0) (by kernel_rfl) rfl rfl ⟨(aA aD.out 0).trans rfl,(aA aD.out 1).trans rfl,(aA aD.out 2).trans rfl,(aA aD.out 3).trans rfl,(aA aD.out 4).trans rfl⟩ (fun hHeld=>?_);refine mG ay.tab13 ay.bits13 (fun HT_ HW_=>?_)
                    generalize w52.drew=w53 at dA dh gF aD HB hHeld⊢;refine pw 0 69 (fl 12 1) ?_;refine pw 1 70 (fl 12 2) ?_;refine pw 2 71 (fl 12 3) ?_;refine pw 3 72 (fl 12 4) ?_;refine pw 5 74 (fb 12 47) ?_;refine pt 4 73 (fl 12 6) ?_;refine pt 6 75 (fl 12 7) ?_;refine tH (i:=7) (N:=some 76) (fl 12 8) rfl rfl (pz HT_.out (by kernel_rfl)) (by decide) (fun K hK=>?_);refine nM Tryz.func64 (by kernel_rfl) rfl #[.slice dO ((au l0 aC).f3).length dP] (by rfl) rfl rfl (by(try simp only[List.map_toArray,List.map_cons,List.map_nil]);first|done|rfl|(simp only[List.length_drop,List.length_take];rfl)) ?_
                    with_reducible refine(bH.calls lu _ _ ((au l0 aC).f3) tF _ ?dB ?dD A45.out).mono ?_
                    (case dB=>exact cz (Kd.bS II.out HB.out))
                    (case dD=>exact IJ.out)
                    rintro e w55 ⟨v546,rfl,ho0,hb⟩;refine⟨_,rfl,?_⟩;have Ai:=ak.mk (Kd.bM ho0 (aJ (bs eH.out)));replace dA:=ak.mk (Kd.dR (rz dA.out) hb);replace dh:=ak.mk (Kd.bP (rz dh.out) (Kd.cK ho0) hb);replace gF:=ak.mk (Kd.dR (rz gF.out) hb);replace aD:=ak.mk (kF (g:=bD) (o:=.cells #[.int .i64 ((au l0 aC).f0),.string ((au l0 aC).f1),.string ((au l0 aC).f2),.slice dO ((au l0 aC).f3).length dP,.bool ((au l0 aC).f4)] 65 (0,0)) (kz aD.out) hb);replace HB:=ak.mk (aN (bs eH.out) hb)
                    (try clear hb)
                    (try clear hb2)
                    (try clear hk)
                    (try clear hi)
                    (try clear ho0)
                    obtain⟨Ao56,co56,eo56⟩:=Kd.bF Ai.out
                    (first|subst eo56|(injection eo56 with f1_ f2_ f3_;have f4_:=f1_.symm;have f5_:=f3_.symm;clear f1_ f2_ f3_;subst f4_;subst f5_))
                    refine hK.out _ _ ⟨(aA aD.out 0).trans rfl,(aA aD.out 1).trans rfl,(aA aD.out 2).trans rfl,(aA aD.out 3).trans rfl,(aA aD.out 4).trans rfl⟩ (fun hHeld=>?_);clear hK K;refine pn ?_;refine pw 8 77 (fl 12 9) ?_;refine tH (i:=9) (N:=some 78) (fl 12 10) rfl rfl (pz HT_.out (by kernel_rfl)) (by decide) (fun K hK=>?_);refine value_ (w1:=?_) (v:=?_) (by rfl) rfl ?_ ?_
                    rotate_left 2
                    ·go_simp
                     constructor
                     ·rfl
                     ·rfl
                    refine hK.out _ _ ⟨(aA (bT aD.out _) 0).trans rfl,(aA (bT aD.out _) 1).trans rfl,(aA (bT aD.out _) 2).trans rfl,(aA (bT aD.out _) 3).trans rfl,(aA (bT aD.out _) 4).trans rfl⟩ (fun hHeld=>?_);clear hK K;refine pn ?_;refine tH (i:=10) (N:=some 79) (fl 12 11) rfl rfl (pz HT_.out (by kernel_rfl)) (by decide) (fun K hK=>?_);refine Kd.mH k34 (w0:=w) w.heap.size (by rfl) (.tmp 69) (.tmp 78) 22 34 (.agg #[(.int .i64 0),(.int .i64 0),(.string ⟨#[]⟩),(.string ⟨#[]⟩),(.slice none 0 0)]) 72 rfl Tryz.underlying22 jy rfl (by decide) (by omega) u5 mU (⟨(ji.length:Int),0,((au l0 aC).f1),(⟨#[]⟩:Bt),tF⟩:S34) [.int .i64 (ji.length:Int),.int .i64 0,.string ((au l0 aC).f1),.string (⟨#[]⟩:Bt),.slice Ao56 tF.length co56] (fun _=>True) (fun k_=>((fun _=>True)) k_∧some k_≠(u5:Value).ownBlock) rfl rfl ?aP (fun _ hk=>hk) ?aF ?aO ?aB ?aS ?aL ?_
                    (case aP=>exact jE _ _ _ (⟨(ji.length:Int),0,((au l0 aC).f1),(⟨#[]⟩:Bt),tF⟩:S34) (Kd.dz (Kd.r9 (Ai.out) (Kd.iZ dh.out) (by decide)) (fun k_ hk=>⟨trivial,hk.2⟩)))
                    (case aB=>exact(bs eH.out))
                    (case aF=>exact(fun _ _=>trivial))
                    (case aO=>exact(by(with_reducible repeat(first|apply Kd.aZ|apply Kd.bB|apply Kd.bq));exact Kd.dz dh.out (fun _ hk=>trivial)))
                    (case aS=>exact(aJ (bs eH.out)))
                    (case aL=>have:=LMc46.out;omega)
                    intro v549 w57 ho hb hg hat;rw[←Ny548.out]at ho;have lG:=ak.mk (ho);replace dA:=ak.mk (Kd.mJ (rz dA.out) (Kd.iZ (rz dh.out)) (by decide) hg);replace aD:=ak.mk (iO (g:=bD) (o:=.cells #[.int .i64 ((au l0 aC).f0),.string ((au l0 aC).f1),.string ((au l0 aC).f2),.slice dO ((au l0 aC).f3).length dP,.bool ((au l0 aC).f4)] 65 (0,0)) (kz aD.out) hg (Kd.xY dh.out aD.out (by decide)));replace gF:=ak.mk (Kd.mJ (rz gF.out) (Kd.iZ (rz dh.out)) (by decide) hg);replace HB:=ak.mk (hb);clear dh Ai;clear ho hb hg hat;refine hK.out _ _ ⟨(aA aD.out 0).trans rfl,(aA aD.out 1).trans rfl,(aA aD.out 2).trans rfl,(aA aD.out 3).trans rfl,(aA aD.out 4).trans rfl⟩ (fun hHeld=>?_);clear hK K;refine pn ?_;refine pw 11 5 (fl 12 12) ?_;refine kS (qP HT_.out (by kernel_rfl)) ?_
                    try go_wp2
                    replace dA:=ak.mk (Kd.bq dA.out);replace gF:=ak.mk (Kd.bq gF.out);replace lG:=ak.mk (Kd.bq lG.out);replace aD:=ak.mk (cB aD.out);replace HB:=ak.mk (fA HB.out);refine jm (n:=5) (S:=fun w'=>w'.cell? ⟨bD,0,none⟩=some (.int .i64 ((au l0 aC).f0))∧w'.cell? ⟨bD,1,none⟩=some (.string ((au l0 aC).f1))∧w'.cell? ⟨bD,2,none⟩=some (.string ((au l0 aC).f2))∧w'.cell? ⟨bD,3,none⟩=some (.slice dO ((au l0 aC).f3).length dP)∧w'.cell? ⟨bD,4,none⟩=some (.bool ((au l0 aC).f4))) (ds:=[]) #[false,false,false,false,false] (by kernel_rfl) rfl rfl ⟨(aA aD.out 0).trans rfl,(aA aD.out 1).trans rfl,(aA aD.out 2).trans rfl,(aA aD.out 3).trans rfl,(aA aD.out 4).trans rfl⟩ (fun hHeld=>?_);generalize w57.drew=w58 at dA gF lG aD HB hHeld⊢;refine xP (i:=1) (N:=some 81) (v:=?_) (a':=?_) #[false,true,false,false,false] rfl rfl (by kernel_rfl) (fun _ _ _ h=>h) (Or.inl ⟨by rfl,?_⟩) ?_ ?_
                    rotate_left
                    ·intro w'
                     go_simp
                     with_reducible rfl
                    rotate_left
                    ·simp only[Act.put,List.setIfInBounds_toArray,List.set_cons_zero,List.set_cons_succ,gM,gX]
                     rfl
                    refine BS (i:=2) (N:=some 82) (v:=?_) (a':=?_) #[false,true,true,false,false] rfl rfl (by kernel_rfl) (fun _ _ _ h=>h) (Or.inl ⟨by rfl,?_⟩) hHeld ?_ ?_
                    rotate_left
                    ·rintro w' ⟨s0,s1,s2,s3,s4⟩
                     go_simp
                     with_reducible rfl
                    rotate_left
                    ·simp only[Act.put,List.setIfInBounds_toArray,List.set_cons_zero,List.set_cons_succ,gM,gX]
                     rfl
                    refine tH (i:=0) (N:=some 80) #[true,true,true,false,false] rfl rfl (by kernel_rfl) (by decide) (fun K hK=>?_);refine nM Tryz.func65 (by kernel_rfl) rfl #[] (by rfl) rfl rfl (by(try simp only[List.map_toArray,List.map_cons,List.map_nil]);first|done|rfl|(simp only[List.length_drop,List.length_take];rfl)) ?_
                    with_reducible refine(eG.calls qM _ A47.out).mono ?_
                    rintro e w59 ⟨v552,rfl,ho0,hb⟩;refine⟨_,rfl,?_⟩;have sj:=ak.mk (Kd.bM (Kd.dw (Kd.dw ho0 (Kd.fu (rz dA.out))) (Kd.fu (rz gF.out))) (aJ (bs eH.out)));replace dA:=ak.mk (Kd.bP (rz dA.out) (Kd.cK ho0) hb);replace gF:=ak.mk (Kd.bP (rz gF.out) (Kd.cK ho0) hb);replace lG:=ak.mk (Kd.dR (rz lG.out) hb);replace aD:=ak.mk (kF (g:=bD) (o:=.cells #[.int .i64 ((au l0 aC).f0),.string ((au l0 aC).f1),.string ((au l0 aC).f2),.slice dO ((au l0 aC).f3).length dP,.bool ((au l0 aC).f4)] 65 (0,0)) (kz aD.out) hb);replace HB:=ak.mk (aN (bs eH.out) hb)
                    (try clear hb)
                    (try clear hb2)
                    (try clear hk)
                    (try clear hi)
                    (try clear ho0)
                    obtain⟨Ao60,co60,eo60⟩:=Kd.bF sj.out
                    (first|subst eo60|(injection eo60 with f1_ f2_ f3_;have f4_:=f1_.symm;have f5_:=f3_.symm;clear f1_ f2_ f3_;subst f4_;subst f5_))
                    refine hK.out _ _ ⟨(aA aD.out 0).trans rfl,(aA aD.out 1).trans rfl,(aA aD.out 2).trans rfl,(aA aD.out 3).trans rfl,(aA aD.out 4).trans rfl⟩ (fun hHeld=>?_);clear hK K;refine pn ?_;refine tH (i:=3) (N:=some 83) #[true,true,true,true,false] rfl rfl (by kernel_rfl) (by decide) (fun K hK=>?_);refine nM Tryz.func57 (by kernel_rfl) rfl #[.slice Ao60 qM.length co60,.string ((au l0 aC).f1)] (by rfl) rfl rfl (by(try simp only[List.map_toArray,List.map_cons,List.map_nil]);first|done|rfl|(simp only[List.length_drop,List.length_take];rfl)) ?_
                    with_reducible refine(aM.calls lu _ _ qM ((au l0 aC).f1) true _ ?dB ?dD A48.out).mono ?_
                    (case dB=>exact cz (Kd.aI sj.out).2.2)
                    (case dD=>exact(Kd.aI sj.out).2.1)
                    rintro e w' ⟨rfl,⟨nd,rfl⟩⟩;refine⟨_,rfl,?_⟩;refine hK.out _ _ ⟨(aA aD.out 0).trans rfl,(aA aD.out 1).trans rfl,(aA aD.out 2).trans rfl,(aA aD.out 3).trans rfl,(aA aD.out 4).trans rfl⟩ (fun hHeld=>?_);clear hK K;refine pn ?_;refine xP (i:=4) (N:=some 84) (v:=?_) (a':=?_) #[true,true,true,true,true] rfl rfl (by kernel_rfl) (fun _ _ _ h=>h) (Or.inl ⟨by rfl,?_⟩) ?_ ?_
                    rotate_left
                    ·intro w'
                     go_simp
                     with_reducible rfl
                    rotate_left
                    ·simp only[Act.put,List.setIfInBounds_toArray,List.set_cons_zero,List.set_cons_succ,gM,gX]
                     rfl
                    refine kS (by kernel_rfl) ?_
                    try go_wp2
                    go_meet
                    case rel=>exact⟨_,(ji),(nX),H',⟨by have:=HK1.out;have:=HJ7.out;have:=mR.out;have:=nA.out;have:=oz.out;have:=qm.out;first|omega|exact Nat.le_refl _⟩,⟨by(with_reducible repeat(first|apply Kd.aZ|apply Kd.bB|apply Kd.bq));exact Kd.dz gF.out (fun _ hk=>trivial)⟩,⟨by(with_reducible repeat(first|apply Kd.aZ|apply Kd.bB|apply Kd.bq));exact lG.out⟩,⟨by(with_reducible repeat(first|refine cO ?_ _|refine cB ?_ |refine bT ?_ _));exact aD.out⟩,⟨bs eH.out⟩⟩
                   ·replace c49:=Bool.eq_false_iff.mpr c49
                    subst c49;have H1:(if ji.length<8796093022208 then(ay.j6 lu l0 (ji++[((au l0 aC).f1)]) nX aC lJ ((au l0 aC).f0) ((au l0 aC).f1) ((au l0 aC).f2) ((au l0 aC).f3) ((au l0 aC).f4))else(none))=some (r1,r2):=by rw[if_neg (show¬(false=true) by decide)]at H;first|exact H|(simp only[eq_self]at H⊢;exact H)|(simp only[eq_self,if_true]at H⊢;exact H)
                    clear H;have H:=H1;clear H1
                    by_cases c61:ji.length<8796093022208
                    ·rw[if_pos c61]at H
                     have LMc61:=ak.mk c61;clear c61;obtain⟨y555,Gb⟩:∃y_:List Bt,y_=(ji++[((au l0 aC).f1)]):=⟨_,rfl⟩
                     replace H:(ay.j6 lu l0 y555 nX aC lJ ((au l0 aC).f0) ((au l0 aC).f1) ((au l0 aC).f2) ((au l0 aC).f3) ((au l0 aC).f4))=some (r1,r2):=by first|(rw[Gb];with_reducible exact H)|(have H2_:=(Option.bind_some _ _).symm.trans H;rw[Gb];with_reducible exact H2_)|(have H2_:=(Option.bind_some _ _).symm.trans H;with_reducible exact H2_)|with_reducible exact H|(rw[Gb];exact H)|exact H
                     have Ny555:=ak.mk Gb;clear Gb;have H':=ak.mk H;clear H;have Di:wc.cell? ⟨bD,0,none⟩=some (.int .i64 ((au l0 aC).f0)):=(aA aD.out 0).trans rfl;have Dj:wc.cell? ⟨bD,1,none⟩=some (.string ((au l0 aC).f1)):=(aA aD.out 1).trans rfl;have Dk:wc.cell? ⟨bD,2,none⟩=some (.string ((au l0 aC).f2)):=(aA aD.out 2).trans rfl;have Dl:wc.cell? ⟨bD,3,none⟩=some (.slice dO ((au l0 aC).f3).length dP):=(aA aD.out 3).trans rfl;have Dm:wc.cell? ⟨bD,4,none⟩=some (.bool ((au l0 aC).f4)):=(aA aD.out 4).trans rfl;have Dn:=aU aD.out 0;have Dp:=aU aD.out 1;have Dq:=aU aD.out 2;have Dr:=aU aD.out 3;have Dt:=aU aD.out 4;obtain⟨Ao63,co63,eo63⟩:=Kd.bF dA.out;subst eo63
                     try go_wp2_with(first|((with_reducible refine bC (f:=63) rfl ?_);refine dH (some 68) rfl rfl Tryz.func63 (by kernel_rfl) rfl #[.slice Ao63 bQ.length co63,.string ((au l0 aC).f1)] rfl (by(try simp only[List.map_toArray,List.map_cons,List.map_nil]);first|done|rfl|(simp only[List.length_drop,List.length_take];rfl)) ?_;(with_reducible refine(fD.calls lu _ _ bQ ((au l0 aC).f1) ji _ ?dB ?dD A44.out).mono ?_);(case dB=>exact cz (Kd.aI dA.out).2.2);(case dD=>exact(Kd.aI dA.out).2.1);rintro e w64 ⟨v543,rfl,ho0,hb⟩;refine⟨_,rfl,?_⟩;have gF:=ak.mk (Kd.bM (Kd.dw ho0 (Kd.fu (rz dA.out))) (aJ (bs eH.out)));replace dA:=ak.mk (Kd.bP (rz dA.out) (Kd.cK ho0) hb);replace dh:=ak.mk (Kd.dR (rz dh.out) hb);replace aD:=ak.mk (kF (g:=bD) (o:=.cells #[.int .i64 ((au l0 aC).f0),.string ((au l0 aC).f1),.string ((au l0 aC).f2),.slice dO ((au l0 aC).f3).length dP,.bool ((au l0 aC).f4)] 65 (0,0)) (kz aD.out) hb);replace HB:=ak.mk (aN (bs eH.out) hb);(try clear hb);(try clear hb2);(try clear hk);(try clear hi);(try clear ho0)))
                     replace dA:=ak.mk (Kd.bq dA.out);replace dh:=ak.mk (Kd.bq dh.out);replace gF:=ak.mk (Kd.bq gF.out);replace aD:=ak.mk (cB aD.out);replace HB:=ak.mk (fA HB.out);obtain⟨Ao66,co66,eo66⟩:=Kd.bF gF.out
                     (first|subst eo66|(injection eo66 with f1_ f2_ f3_;have f4_:=f1_.symm;have f5_:=f3_.symm;clear f1_ f2_ f3_;subst f4_;subst f5_))
                     refine jm (n:=12) (S:=fun w'=>w'.cell? ⟨bD,0,none⟩=some (.int .i64 ((au l0 aC).f0))∧w'.cell? ⟨bD,1,none⟩=some (.string ((au l0 aC).f1))∧w'.cell? ⟨bD,2,none⟩=some (.string ((au l0 aC).f2))∧w'.cell? ⟨bD,3,none⟩=some (.slice dO ((au l0 aC).f3).length dP)∧w'.cell? ⟨bD,4,none⟩=some (.bool ((au l0 aC).f4))) (ds:=[]) (fl 12 0) (by kernel_rfl) rfl rfl ⟨(aA aD.out 0).trans rfl,(aA aD.out 1).trans rfl,(aA aD.out 2).trans rfl,(aA aD.out 3).trans rfl,(aA aD.out 4).trans rfl⟩ (fun hHeld=>?_);refine mG ay.tab13 ay.bits13 (fun HT_ HW_=>?_)
                     generalize w64.drew=w65 at dA dh gF aD HB hHeld⊢;refine pw 0 69 (fl 12 1) ?_;refine pw 1 70 (fl 12 2) ?_;refine pw 2 71 (fl 12 3) ?_;refine pw 3 72 (fl 12 4) ?_;refine pw 5 74 (fb 12 47) ?_;refine pt 4 73 (fl 12 6) ?_;refine pt 6 75 (fl 12 7) ?_;refine tH (i:=7) (N:=some 76) (fl 12 8) rfl rfl (pz HT_.out (by kernel_rfl)) (by decide) (fun K hK=>?_);refine nM Tryz.func64 (by kernel_rfl) rfl #[.slice dO ((au l0 aC).f3).length dP] (by rfl) rfl rfl (by(try simp only[List.map_toArray,List.map_cons,List.map_nil]);first|done|rfl|(simp only[List.length_drop,List.length_take];rfl)) ?_
                     with_reducible refine(bH.calls lu _ _ ((au l0 aC).f3) tF _ ?dB ?dD A45.out).mono ?_
                     (case dB=>exact cz (Kd.bS II.out HB.out))
                     (case dD=>exact IJ.out)
                     rintro e w67 ⟨v546,rfl,ho0,hb⟩;refine⟨_,rfl,?_⟩;have Ai:=ak.mk (Kd.bM ho0 (aJ (bs eH.out)));replace dA:=ak.mk (Kd.dR (rz dA.out) hb);replace dh:=ak.mk (Kd.bP (rz dh.out) (Kd.cK ho0) hb);replace gF:=ak.mk (Kd.dR (rz gF.out) hb);replace aD:=ak.mk (kF (g:=bD) (o:=.cells #[.int .i64 ((au l0 aC).f0),.string ((au l0 aC).f1),.string ((au l0 aC).f2),.slice dO ((au l0 aC).f3).length dP,.bool ((au l0 aC).f4)] 65 (0,0)) (kz aD.out) hb);replace HB:=ak.mk (aN (bs eH.out) hb)
                     (try clear hb)
                     (try clear hb2)
                     (try clear hk)
                     (try clear hi)
                     (try clear ho0)
                     obtain⟨Ao68,co68,eo68⟩:=Kd.bF Ai.out
                     (first|subst eo68|(injection eo68 with f1_ f2_ f3_;have f4_:=f1_.symm;have f5_:=f3_.symm;clear f1_ f2_ f3_;subst f4_;subst f5_))
                     refine hK.out _ _ ⟨(aA aD.out 0).trans rfl,(aA aD.out 1).trans rfl,(aA aD.out 2).trans rfl,(aA aD.out 3).trans rfl,(aA aD.out 4).trans rfl⟩ (fun hHeld=>?_);clear hK K;refine pn ?_;refine pw 8 77 (fl 12 9) ?_;refine tH (i:=9) (N:=some 78) (fl 12 10) rfl rfl (pz HT_.out (by kernel_rfl)) (by decide) (fun K hK=>?_);refine value_ (w1:=?_) (v:=?_) (by rfl) rfl ?_ ?_
                     rotate_left 2
                     ·go_simp
                      constructor
                      ·rfl
                      ·rfl
                     refine hK.out _ _ ⟨(aA (bT aD.out _) 0).trans rfl,(aA (bT aD.out _) 1).trans rfl,(aA (bT aD.out _) 2).trans rfl,(aA (bT aD.out _) 3).trans rfl,(aA (bT aD.out _) 4).trans rfl⟩ (fun hHeld=>?_);clear hK K;refine pn ?_;refine tH (i:=10) (N:=some 79) (fl 12 11) rfl rfl (pz HT_.out (by kernel_rfl)) (by decide) (fun K hK=>?_);refine Kd.mH k34 (w0:=w) w.heap.size (by rfl) (.tmp 69) (.tmp 78) 22 34 (.agg #[(.int .i64 0),(.int .i64 0),(.string ⟨#[]⟩),(.string ⟨#[]⟩),(.slice none 0 0)]) 72 rfl Tryz.underlying22 jy rfl (by decide) (by omega) u5 mU (⟨(ji.length:Int),0,((au l0 aC).f1),(⟨#[]⟩:Bt),tF⟩:S34) [.int .i64 (ji.length:Int),.int .i64 0,.string ((au l0 aC).f1),.string (⟨#[]⟩:Bt),.slice Ao68 tF.length co68] (fun _=>True) (fun k_=>((fun _=>True)) k_∧some k_≠(u5:Value).ownBlock) rfl rfl ?aP (fun _ hk=>hk) ?aF ?aO ?aB ?aS ?aL ?_
                     (case aP=>exact jE _ _ _ (⟨(ji.length:Int),0,((au l0 aC).f1),(⟨#[]⟩:Bt),tF⟩:S34) (Kd.dz (Kd.r9 (Ai.out) (Kd.iZ dh.out) (by decide)) (fun k_ hk=>⟨trivial,hk.2⟩)))
                     (case aB=>exact(bs eH.out))
                     (case aF=>exact(fun _ _=>trivial))
                     (case aO=>exact(by(with_reducible repeat(first|apply Kd.aZ|apply Kd.bB|apply Kd.bq));exact Kd.dz dh.out (fun _ hk=>trivial)))
                     (case aS=>exact(aJ (bs eH.out)))
                     (case aL=>have:=LMc46.out;omega)
                     intro v549 w69 ho hb hg hat;rw[←Ny548.out]at ho;have lG:=ak.mk (ho);replace dA:=ak.mk (Kd.mJ (rz dA.out) (Kd.iZ (rz dh.out)) (by decide) hg);replace aD:=ak.mk (iO (g:=bD) (o:=.cells #[.int .i64 ((au l0 aC).f0),.string ((au l0 aC).f1),.string ((au l0 aC).f2),.slice dO ((au l0 aC).f3).length dP,.bool ((au l0 aC).f4)] 65 (0,0)) (kz aD.out) hg (Kd.xY dh.out aD.out (by decide)));replace gF:=ak.mk (Kd.mJ (rz gF.out) (Kd.iZ (rz dh.out)) (by decide) hg);replace HB:=ak.mk (hb);clear dh Ai;clear ho hb hg hat;refine hK.out _ _ ⟨(aA aD.out 0).trans rfl,(aA aD.out 1).trans rfl,(aA aD.out 2).trans rfl,(aA aD.out 3).trans rfl,(aA aD.out 4).trans rfl⟩ (fun hHeld=>?_);clear hK K;refine pn ?_;refine pw 11 5 (fl 12 12) ?_;refine kS (qP HT_.out (by kernel_rfl)) ?_
                     try go_wp2
                     replace dA:=ak.mk (Kd.bq dA.out);replace gF:=ak.mk (Kd.bq gF.out);replace lG:=ak.mk (Kd.bq lG.out);replace aD:=ak.mk (cB aD.out);replace HB:=ak.mk (fA HB.out);refine jm (n:=5) (S:=fun w'=>w'.cell? ⟨bD,0,none⟩=some (.int .i64 ((au l0 aC).f0))∧w'.cell? ⟨bD,1,none⟩=some (.string ((au l0 aC).f1))∧w'.cell? ⟨bD,2,none⟩=some (.string ((au l0 aC).f2))∧w'.cell? ⟨bD,3,none⟩=some (.slice dO ((au l0 aC).f3).length dP)∧w'.cell? ⟨bD,4,none⟩=some (.bool ((au l0 aC).f4))) (ds:=[]) #[false,false,false,false,false] (by kernel_rfl) rfl rfl ⟨(aA aD.out 0).trans rfl,(aA aD.out 1).trans rfl,(aA aD.out 2).trans rfl,(aA aD.out 3).trans rfl,(aA aD.out 4).trans rfl⟩ (fun hHeld=>?_);generalize w69.drew=w70 at dA gF lG aD HB hHeld⊢;refine xP (i:=1) (N:=some 81) (v:=?_) (a':=?_) #[false,true,false,false,false] rfl rfl (by kernel_rfl) (fun _ _ _ h=>h) (Or.inl ⟨by rfl,?_⟩) ?_ ?_
                     rotate_left
                     ·intro w'
                      go_simp
                      with_reducible rfl
                     rotate_left
                     ·simp only[Act.put,List.setIfInBounds_toArray,List.set_cons_zero,List.set_cons_succ,gM,gX]
                      rfl
                     refine BS (i:=2) (N:=some 82) (v:=?_) (a':=?_) #[false,true,true,false,false] rfl rfl (by kernel_rfl) (fun _ _ _ h=>h) (Or.inl ⟨by rfl,?_⟩) hHeld ?_ ?_
                     rotate_left
                     ·rintro w' ⟨s0,s1,s2,s3,s4⟩
                      go_simp
                      with_reducible rfl
                     rotate_left
                     ·simp only[Act.put,List.setIfInBounds_toArray,List.set_cons_zero,List.set_cons_succ,gM,gX]
                      rfl
                     refine tH (i:=0) (N:=some 80) #[true,true,true,false,false] rfl rfl (by kernel_rfl) (by decide) (fun K hK=>?_);refine nM Tryz.func65 (by kernel_rfl) rfl #[] (by rfl) rfl rfl (by(try simp only[List.map_toArray,List.map_cons,List.map_nil]);first|done|rfl|(simp only[List.length_drop,List.length_take];rfl)) ?_
                     with_reducible refine(eG.calls qM _ A47.out).mono ?_
                     rintro e w71 ⟨v552,rfl,ho0,hb⟩;refine⟨_,rfl,?_⟩;have sj:=ak.mk (Kd.bM (Kd.dw (Kd.dw ho0 (Kd.fu (rz dA.out))) (Kd.fu (rz gF.out))) (aJ (bs eH.out)));replace dA:=ak.mk (Kd.bP (rz dA.out) (Kd.cK ho0) hb);replace gF:=ak.mk (Kd.bP (rz gF.out) (Kd.cK ho0) hb);replace lG:=ak.mk (Kd.dR (rz lG.out) hb);replace aD:=ak.mk (kF (g:=bD) (o:=.cells #[.int .i64 ((au l0 aC).f0),.string ((au l0 aC).f1),.string ((au l0 aC).f2),.slice dO ((au l0 aC).f3).length dP,.bool ((au l0 aC).f4)] 65 (0,0)) (kz aD.out) hb);replace HB:=ak.mk (aN (bs eH.out) hb)
                     (try clear hb)
                     (try clear hb2)
                     (try clear hk)
                     (try clear hi)
                     (try clear ho0)
                     obtain⟨Ao72,co72,eo72⟩:=Kd.bF sj.out
                     (first|subst eo72|(injection eo72 with f1_ f2_ f3_;have f4_:=f1_.symm;have f5_:=f3_.symm;clear f1_ f2_ f3_;subst f4_;subst f5_))
                     refine hK.out _ _ ⟨(aA aD.out 0).trans rfl,(aA aD.out 1).trans rfl,(aA aD.out 2).trans rfl,(aA aD.out 3).trans rfl,(aA aD.out 4).trans rfl⟩ (fun hHeld=>?_);clear hK K;refine pn ?_;refine tH (i:=3) (N:=some 83) #[true,true,true,true,false] rfl rfl (by kernel_rfl) (by decide) (fun K hK=>?_);refine nM Tryz.func57 (by kernel_rfl) rfl #[.slice Ao72 qM.length co72,.string ((au l0 aC).f1)] (by rfl) rfl rfl (by(try simp only[List.map_toArray,List.map_cons,List.map_nil]);first|done|rfl|(simp only[List.length_drop,List.length_take];rfl)) ?_
                     with_reducible refine(aM.calls lu _ _ qM ((au l0 aC).f1) false _ ?dB ?dD A48.out).mono ?_
                     (case dB=>exact cz (Kd.aI sj.out).2.2)
                     (case dD=>exact(Kd.aI sj.out).2.1)
                     rintro e w' ⟨rfl,⟨nd,rfl⟩⟩;refine⟨_,rfl,?_⟩;refine hK.out _ _ ⟨(aA aD.out 0).trans rfl,(aA aD.out 1).trans rfl,(aA aD.out 2).trans rfl,(aA aD.out 3).trans rfl,(aA aD.out 4).trans rfl⟩ (fun hHeld=>?_);clear hK K;refine pn ?_;refine xP (i:=4) (N:=some 84) (v:=?_) (a':=?_) #[true,true,true,true,true] rfl rfl (by kernel_rfl) (fun _ _ _ h=>h) (Or.inl ⟨by rfl,?_⟩) ?_ ?_
                     rotate_left
                     ·intro w'
                      go_simp
                      with_reducible rfl
                     rotate_left
                     ·simp only[Act.put,List.setIfInBounds_toArray,List.set_cons_zero,List.set_cons_succ,gM,gX]
                      rfl
                     refine kS (by kernel_rfl) ?_;have Du:w71.cell? ⟨bD,0,none⟩=some (.int .i64 ((au l0 aC).f0)):=(aA aD.out 0).trans rfl;have Dv:w71.cell? ⟨bD,1,none⟩=some (.string ((au l0 aC).f1)):=(aA aD.out 1).trans rfl;have Dw:w71.cell? ⟨bD,2,none⟩=some (.string ((au l0 aC).f2)):=(aA aD.out 2).trans rfl;have Dx:w71.cell? ⟨bD,3,none⟩=some (.slice dO ((au l0 aC).f3).length dP):=(aA aD.out 3).trans rfl;have Dy:w71.cell? ⟨bD,4,none⟩=some (.bool ((au l0 aC).f4)):=(aA aD.out 4).trans rfl;have Dz:=aU aD.out 0;have DC:=aU aD.out 1;have DF:=aU aD.out 2;have DI:=aU aD.out 3;have DJ:=aU aD.out 4
                     try go_wp2_with(first|((with_reducible refine fG (b:=.append) (xs:=#[.tmp 85,.tmp 88]) rfl ?_);(try(refine iQ (by rfl) ?_;dsimp only));at_builtin;refine Kd.fZ Kd.string (w0:=w) w.heap.size rfl (.tmp 85) (.tmp 88) 41 9 (.string ⟨#[]⟩) 16 rfl Tryz.underlying41 xH rfl (by decide) (by omega) (.slice Ao66 ji.length co66) ji ((au l0 aC).f1) [.string ((au l0 aC).f1)] (fun k_=>some k_≠(.slice Ao63 bQ.length co63:Value).ownBlock∧some k_≠(.slice Ao72 qM.length co72:Value).ownBlock) (fun _=>False) rfl rfl ?aP (fun _ hk=>hk.elim) ?aF ?aO ?aB ?aS ?aL ?_;(case aP=>exact rfl);(case aB=>exact(bs eH.out));(case aF=>exact(fun k_ hk=>⟨Kd.fresh' (Kd.fu (rz dA.out)) k_ hk,Kd.fresh' (Kd.fu (rz sj.out)) k_ hk⟩));(case aO=>exact(by(with_reducible repeat(first|apply Kd.aZ|apply Kd.bB|apply Kd.bq));exact Kd.dz gF.out (fun _ hk=>⟨hk.1.2,hk.2⟩)));(case aS=>exact(aJ (bs eH.out)));(case aL=>have:=LMc61.out;omega);intro v556 w74 ho hb hg hat;rw[←Ny555.out]at ho;have HO557:=ak.mk (ho);replace dA:=ak.mk (Kd.lZ (ok:=(fun k_=>some k_≠(.slice Ao72 qM.length co72:Value).ownBlock)) (by(with_reducible repeat(first|apply Kd.aZ|apply Kd.bB|apply Kd.bq));exact Kd.dz dA.out (fun _ hk=>⟨hk.2,hk.1.2⟩)) hg hat);replace aD:=ak.mk (iO (g:=bD) (o:=.cells #[.int .i64 ((au l0 aC).f0),.string ((au l0 aC).f1),.string ((au l0 aC).f2),.slice dO ((au l0 aC).f3).length dP,.bool ((au l0 aC).f4)] 65 (0,0)) (kz aD.out) hg (Kd.xY gF.out aD.out (by decide)));replace lG:=ak.mk (Kd.mJ (rz lG.out) (Kd.iZ (rz gF.out)) (by decide) hg);replace sj:=ak.mk (Kd.lZ (ok:=(fun k_=>some k_≠(.slice Ao63 bQ.length co63:Value).ownBlock)) (by(with_reducible repeat(first|apply Kd.aZ|apply Kd.bB|apply Kd.bq));exact Kd.dz sj.out (fun _ hk=>⟨hk.1.2,hk.2⟩)) hg hat);replace HB:=ak.mk (hb);clear gF;clear ho hb hg hat))
                     go_meet
                     case rel=>exact⟨_,(y555),(nX),H',⟨by have:=HK1.out;have:=HJ7.out;have:=mR.out;have:=nA.out;have:=oz.out;have:=qm.out;first|omega|exact Nat.le_refl _⟩,⟨by(with_reducible repeat(first|apply Kd.aZ|apply Kd.bB|apply Kd.bq));exact Kd.dz HO557.out (fun _ hk=>trivial)⟩,⟨by(with_reducible repeat(first|apply Kd.aZ|apply Kd.bB|apply Kd.bq));exact lG.out⟩,⟨by(with_reducible repeat(first|refine cO ?_ _|refine cB ?_ |refine bT ?_ _));exact aD.out⟩,⟨bs eH.out⟩⟩
                    ·rw[if_neg c61]at H
                     exact absurd H (by simp)
                  ·rw[if_neg c46]at H
                   exact absurd H (by simp)
                 ·replace c43:=Bool.eq_false_iff.mpr c43
                  subst c43;have H1:(ay.j6 lu l0 bQ mU aC lJ ((au l0 aC).f0) ((au l0 aC).f1) ((au l0 aC).f2) ((au l0 aC).f3) ((au l0 aC).f4))=some (r1,r2):=by rw[if_neg (show¬(false=true) by decide)]at H;first|exact H|(simp only[eq_self]at H⊢;exact H)|(simp only[eq_self,if_true]at H⊢;exact H)
                  clear H;have H:=H1;clear H1;have H':=ak.mk H;clear H;go_wp2
                  go_meet
                  case rel=>exact⟨_,(bQ),(mU),H',⟨by have:=HK1.out;have:=HJ7.out;have:=mR.out;have:=nA.out;have:=oz.out;have:=qm.out;first|omega|exact Nat.le_refl _⟩,⟨by(with_reducible repeat(first|apply Kd.aZ|apply Kd.bB|apply Kd.bq));exact dA.out⟩,⟨by(with_reducible repeat(first|apply Kd.aZ|apply Kd.bB|apply Kd.bq));exact dh.out⟩,⟨by(with_reducible repeat(first|refine cO ?_ _|refine cB ?_ |refine bT ?_ _));exact aD.out⟩,⟨bs eH.out⟩⟩
               case rest=>
                clear HC42
                try clear p2
                try clear c4
                try clear c5
                try clear c6
                try clear c43
                try clear c46
                try clear c49
                try clear c53
                try clear c57
                try clear c61
                try clear c63
                try clear c64
                try clear c65
                try clear Di
                try clear Dj
                try clear Dk
                try clear Dl
                try clear Dm
                try clear Du
                try clear Dv
                try clear Dw
                try clear Dx
                try clear Dy
                try clear Dn
                try clear Dp
                try clear Dq
                try clear Dr
                try clear Dt
                try clear Dz
                try clear DC
                try clear DF
                try clear DI
                try clear DJ
                obtain⟨kq,l5,dF,HA,sD,dA,dh,aD,HB⟩:=hcut;cases kq with
                |zero=>exact absurd HA.out (by simp[ay.j6])
                |succ kj41=>
                 have H:=HA.out;clear HA;simp only[ay.j6]at H;have HC75:=ak.mk H;clear H
                 go_upto_region 16 with(fail)
                 go_cut [103] (fun v103 wc=>∃(kq:Nat) (za:Bool),v103=.bool za∧ak (ay.j7 kq l0 l5 dF aC za ((au l0 aC).f0) ((au l0 aC).f1) ((au l0 aC).f2) ((au l0 aC).f3) ((au l0 aC).f4)=some (r1,r2))∧ak (kq≤kj41)∧ak (Kd.R Kd.string 9 wc w.heap.size (fun _=>True) u4 l5)∧ak (Kd.R k34 34 wc w.heap.size (fun _=>True) u5 dF)∧ak (wc.heap[bD]?=some (.cells #[.int .i64 ((au l0 aC).f0),.string ((au l0 aC).f1),.string ((au l0 aC).f2),(.slice dO ((au l0 aC).f3).length dP),.bool ((au l0 aC).f4)] 65 (0,0)))∧ak (Below w.heap.size w wc))
                 case first=>
                  as_aux_lemma=>
                   have H:=HC75.out;clear HC75
                   by_cases c76:((au l0 aC).f0)=2
                   ·rw[if_pos c76]at H
                    have Aj:(((au l0 aC).f0)==2)=true:=beq_iff_eq.mpr c76;have c76b1:(((au l0 aC).f0) !=2)=false:=bne_eq_false_iff_eq.mpr c76;clear c76
                    (first|rw[Aj] |(simp only[gM,gX];rw[Aj])|skip)
                    by_cases c77:lJ=true
                    ·subst c77
                     have H1:(ay.j7 kj41 l0 l5 dF aC false ((au l0 aC).f0) ((au l0 aC).f1) ((au l0 aC).f2) ((au l0 aC).f3) ((au l0 aC).f4))=some (r1,r2):=by rw[if_pos rfl]at H;exact H
                     clear H;have H:=H1;clear H1;have H':=ak.mk H;clear H
                     try go_wp2
                     replace dA:=ak.mk (Kd.bq dA.out);replace dh:=ak.mk (Kd.bq dh.out);replace aD:=ak.mk (cB aD.out);replace HB:=ak.mk (fA HB.out);refine jm (n:=14) (S:=fun w'=>w'.cell? ⟨bD,0,none⟩=some (.int .i64 ((au l0 aC).f0))∧w'.cell? ⟨bD,1,none⟩=some (.string ((au l0 aC).f1))∧w'.cell? ⟨bD,2,none⟩=some (.string ((au l0 aC).f2))∧w'.cell? ⟨bD,3,none⟩=some (.slice dO ((au l0 aC).f3).length dP)∧w'.cell? ⟨bD,4,none⟩=some (.bool ((au l0 aC).f4))) (ds:=[]) (fl 14 0) (by kernel_rfl) rfl rfl ⟨(aA aD.out 0).trans rfl,(aA aD.out 1).trans rfl,(aA aD.out 2).trans rfl,(aA aD.out 3).trans rfl,(aA aD.out 4).trans rfl⟩ (fun hHeld=>?_);refine mG ay.tab16 ay.G8 (fun HT_ HW_=>?_)
                     generalize wc.drew=w78 at dA dh aD HB hHeld⊢;refine pw 0 90 (fl 14 1) ?_;refine pt 1 91 (fl 14 2) ?_;refine pw 2 92 (fl 14 3) ?_;refine pw 3 93 (fl 14 4) ?_;refine pw 4 94 (fl 14 5) ?_;refine pw 5 95 (fl 14 6) ?_;refine pw 6 96 (fl 14 7) ?_;refine pw 7 97 (fl 14 8) ?_;refine pu 8 98 (fl 14 9) ?_;refine pu 9 99 (fl 14 10) ?_;refine pu 10 100 (fl 14 11) ?_;refine pu 11 101 (fl 14 12) ?_;refine pu 12 102 (fl 14 13) ?_;refine pw 13 103 (fl 14 14) ?_;refine kS (qP HT_.out (by kernel_rfl)) ?_
                     try go_wp2
                     go_meet
                     case rel=>exact⟨_,(false),q'c,H',⟨by have:=HK1.out;have:=HJ7.out;have:=mR.out;have:=nA.out;have:=oz.out;have:=qm.out;have:=sD.out;first|omega|exact Nat.le_refl _⟩,⟨by(with_reducible repeat(first|apply Kd.aZ|apply Kd.bB|apply Kd.bq));exact dA.out⟩,⟨by(with_reducible repeat(first|apply Kd.aZ|apply Kd.bB|apply Kd.bq));exact dh.out⟩,⟨by(with_reducible repeat(first|refine cO ?_ _|refine cB ?_ |refine bT ?_ _));exact aD.out⟩,⟨bs eH.out⟩⟩
                    ·replace c77:=Bool.eq_false_iff.mpr c77
                     subst c77;have H1:((eG.f).bind fun t558=>((aM.f kj41 t558 ((au l0 aC).f1)).bind fun t561=>(ay.j7 kj41 l0 l5 dF aC (!t561) ((au l0 aC).f0) ((au l0 aC).f1) ((au l0 aC).f2) ((au l0 aC).f3) ((au l0 aC).f4))))=some (r1,r2):=by rw[if_neg (show¬(false=true) by decide)]at H;first|exact H|(simp only[eq_self]at H⊢;exact H)|(simp only[eq_self,if_true]at H⊢;exact H)
                     clear H;have H:=H1;clear H1;replace H:=Option.bind_eq_some_iff.mp H;obtain⟨t558,A790,H⟩:=H;replace H:((aM.f kj41 t558 ((au l0 aC).f1)).bind fun t561=>(ay.j7 kj41 l0 l5 dF aC (!t561) ((au l0 aC).f0) ((au l0 aC).f1) ((au l0 aC).f2) ((au l0 aC).f3) ((au l0 aC).f4)))=some (r1,r2):=H;have A79:=ak.mk A790;clear A790;replace H:=Option.bind_eq_some_iff.mp H;obtain⟨t561,A800,H⟩:=H;replace H:(ay.j7 kj41 l0 l5 dF aC (!t561) ((au l0 aC).f0) ((au l0 aC).f1) ((au l0 aC).f2) ((au l0 aC).f3) ((au l0 aC).f4))=some (r1,r2):=H;have A80:=ak.mk A800;clear A800;have H':=ak.mk H;clear H
                     try go_wp2
                     replace dA:=ak.mk (Kd.bq dA.out);replace dh:=ak.mk (Kd.bq dh.out);replace aD:=ak.mk (cB aD.out);replace HB:=ak.mk (fA HB.out);refine jm (n:=14) (S:=fun w'=>w'.cell? ⟨bD,0,none⟩=some (.int .i64 ((au l0 aC).f0))∧w'.cell? ⟨bD,1,none⟩=some (.string ((au l0 aC).f1))∧w'.cell? ⟨bD,2,none⟩=some (.string ((au l0 aC).f2))∧w'.cell? ⟨bD,3,none⟩=some (.slice dO ((au l0 aC).f3).length dP)∧w'.cell? ⟨bD,4,none⟩=some (.bool ((au l0 aC).f4))) (ds:=[]) (fl 14 0) (by kernel_rfl) rfl rfl ⟨(aA aD.out 0).trans rfl,(aA aD.out 1).trans rfl,(aA aD.out 2).trans rfl,(aA aD.out 3).trans rfl,(aA aD.out 4).trans rfl⟩ (fun hHeld=>?_);refine mG ay.tab16 ay.G8 (fun HT_ HW_=>?_)
                     generalize wc.drew=w81 at dA dh aD HB hHeld⊢;refine pw 0 90 (fl 14 1) ?_;refine pt 1 91 (fl 14 2) ?_;refine pw 2 92 (fl 14 3) ?_;refine pw 3 93 (fl 14 4) ?_;refine pw 4 94 (fl 14 5) ?_;refine pw 5 95 (fl 14 6) ?_;refine pw 6 96 (fl 14 7) ?_;refine pw 7 97 (fl 14 8) ?_;refine pw 9 99 (fb 14 767) ?_;refine pt 10 100 (fb 14 1791) ?_;refine tH (i:=8) (N:=some 98) (fl 14 11) rfl rfl (pz HT_.out (by kernel_rfl)) (by decide) (fun K hK=>?_);refine nM Tryz.func65 (by kernel_rfl) rfl #[] (by rfl) rfl rfl (by(try simp only[List.map_toArray,List.map_cons,List.map_nil]);first|done|rfl|(simp only[List.length_drop,List.length_take];rfl)) ?_
                     with_reducible refine(eG.calls t558 _ A79.out).mono ?_
                     rintro e w82 ⟨v559,rfl,ho0,hb⟩;refine⟨_,rfl,?_⟩;have HO560:=ak.mk (Kd.bM (Kd.dw ho0 (Kd.fu (rz dA.out))) (aJ (bs eH.out)));replace dA:=ak.mk (Kd.bP (rz dA.out) (Kd.cK ho0) hb);replace dh:=ak.mk (Kd.dR (rz dh.out) hb);replace aD:=ak.mk (kF (g:=bD) (o:=.cells #[.int .i64 ((au l0 aC).f0),.string ((au l0 aC).f1),.string ((au l0 aC).f2),.slice dO ((au l0 aC).f3).length dP,.bool ((au l0 aC).f4)] 65 (0,0)) (kz aD.out) hb);replace HB:=ak.mk (aN (bs eH.out) hb)
                     (try clear hb)
                     (try clear hb2)
                     (try clear hk)
                     (try clear hi)
                     (try clear ho0)
                     obtain⟨Ao83,co83,eo83⟩:=Kd.bF HO560.out
                     (first|subst eo83|(injection eo83 with f1_ f2_ f3_;have f4_:=f1_.symm;have f5_:=f3_.symm;clear f1_ f2_ f3_;subst f4_;subst f5_))
                     refine hK.out _ _ ⟨(aA aD.out 0).trans rfl,(aA aD.out 1).trans rfl,(aA aD.out 2).trans rfl,(aA aD.out 3).trans rfl,(aA aD.out 4).trans rfl⟩ (fun hHeld=>?_);clear hK K;refine pn ?_;refine tH (i:=11) (N:=some 101) (fl 14 12) rfl rfl (pz HT_.out (by kernel_rfl)) (by decide) (fun K hK=>?_);refine nM Tryz.func57 (by kernel_rfl) rfl #[.slice Ao83 t558.length co83,.string ((au l0 aC).f1)] (by rfl) rfl rfl (by(try simp only[List.map_toArray,List.map_cons,List.map_nil]);first|done|rfl|(simp only[List.length_drop,List.length_take];rfl)) ?_
                     with_reducible refine(aM.calls kj41 _ _ t558 ((au l0 aC).f1) t561 _ ?dB ?dD A80.out).mono ?_
                     (case dB=>exact cz (Kd.aI HO560.out).2.2)
                     (case dD=>exact(Kd.aI HO560.out).2.1)
                     rintro e w' ⟨rfl,⟨nd,rfl⟩⟩;refine⟨_,rfl,?_⟩;refine hK.out _ _ ⟨(aA aD.out 0).trans rfl,(aA aD.out 1).trans rfl,(aA aD.out 2).trans rfl,(aA aD.out 3).trans rfl,(aA aD.out 4).trans rfl⟩ (fun hHeld=>?_);clear hK K;refine pn ?_;refine pw 12 102 (fl 14 13) ?_;refine pw 13 103 (fl 14 14) ?_;refine kS (qP HT_.out (by kernel_rfl)) ?_
                     try go_wp2
                     go_meet
                     case rel=>exact⟨_,(!t561),q'c,H',⟨by have:=HK1.out;have:=HJ7.out;have:=mR.out;have:=nA.out;have:=oz.out;have:=qm.out;have:=sD.out;first|omega|exact Nat.le_refl _⟩,⟨by(with_reducible repeat(first|apply Kd.aZ|apply Kd.bB|apply Kd.bq));exact Kd.dz dA.out (fun _ hk=>trivial)⟩,⟨by(with_reducible repeat(first|apply Kd.aZ|apply Kd.bB|apply Kd.bq));exact dh.out⟩,⟨by(with_reducible repeat(first|refine cO ?_ _|refine cB ?_ |refine bT ?_ _));exact aD.out⟩,⟨bs eH.out⟩⟩
                   ·rw[if_neg c76]at H
                    have Aj:(((au l0 aC).f0)==2)=false:=beq_eq_false_iff_ne.mpr c76;have c76b1:(((au l0 aC).f0) !=2)=true:=bne_iff_ne.mpr c76
                    (first|rw[Aj] |(simp only[gM,gX];rw[Aj])|skip)
                    have H':=ak.mk H;clear H
                    try go_wp2
                    replace dA:=ak.mk (Kd.bq dA.out);replace dh:=ak.mk (Kd.bq dh.out);replace aD:=ak.mk (cB aD.out);replace HB:=ak.mk (fA HB.out);refine jm (n:=14) (S:=fun w'=>w'.cell? ⟨bD,0,none⟩=some (.int .i64 ((au l0 aC).f0))∧w'.cell? ⟨bD,1,none⟩=some (.string ((au l0 aC).f1))∧w'.cell? ⟨bD,2,none⟩=some (.string ((au l0 aC).f2))∧w'.cell? ⟨bD,3,none⟩=some (.slice dO ((au l0 aC).f3).length dP)∧w'.cell? ⟨bD,4,none⟩=some (.bool ((au l0 aC).f4))) (ds:=[]) (fl 14 0) (by kernel_rfl) rfl rfl ⟨(aA aD.out 0).trans rfl,(aA aD.out 1).trans rfl,(aA aD.out 2).trans rfl,(aA aD.out 3).trans rfl,(aA aD.out 4).trans rfl⟩ (fun hHeld=>?_);refine mG ay.tab16 ay.G8 (fun HT_ HW_=>?_)
                    generalize wc.drew=w84 at dA dh aD HB hHeld⊢;refine pw 0 90 (fl 14 1) ?_;refine pt 1 91 (fl 14 2) ?_;refine pw 2 92 (fl 14 3) ?_;refine pw 3 93 (fl 14 4) ?_;refine pu 4 94 (fl 14 5) ?_;refine pu 5 95 (fl 14 6) ?_;refine pw 6 96 (fl 14 7) ?_;refine pw 7 97 (fl 14 8) ?_;refine pu 8 98 (fl 14 9) ?_;refine pu 9 99 (fl 14 10) ?_;refine pu 10 100 (fl 14 11) ?_;refine pu 11 101 (fl 14 12) ?_;refine pu 12 102 (fl 14 13) ?_;refine pw 13 103 (fl 14 14) ?_;refine kS (qP HT_.out (by kernel_rfl)) ?_
                    try go_wp2
                    go_meet
                    case rel=>exact⟨_,(false),q'c,H',⟨by have:=HK1.out;have:=HJ7.out;have:=mR.out;have:=nA.out;have:=oz.out;have:=qm.out;have:=sD.out;first|omega|exact Nat.le_refl _⟩,⟨by(with_reducible repeat(first|apply Kd.aZ|apply Kd.bB|apply Kd.bq));exact dA.out⟩,⟨by(with_reducible repeat(first|apply Kd.aZ|apply Kd.bB|apply Kd.bq));exact dh.out⟩,⟨by(with_reducible repeat(first|refine cO ?_ _|refine cB ?_ |refine bT ?_ _));exact aD.out⟩,⟨bs eH.out⟩⟩
                 case rest=>
                  clear HC75
                  try clear p2
                  try clear c4
                  try clear c5
                  try clear c6
                  try clear c7
                  try clear c43
                  try clear c46
                  try clear c49
                  try clear c53
                  try clear c57
                  try clear c61
                  try clear c63
                  try clear c64
                  try clear c65
                  try clear c76
                  try clear Aj
                  try clear c76b1
                  try clear c77
                  try clear Di
                  try clear Dj
                  try clear Dk
                  try clear Dl
                  try clear Dm
                  try clear Du
                  try clear Dv
                  try clear Dw
                  try clear Dx
                  try clear Dy
                  try clear Dn
                  try clear Dp
                  try clear Dq
                  try clear Dr
                  try clear Dt
                  try clear Dz
                  try clear DC
                  try clear DF
                  try clear DI
                  try clear DJ
                  try clear p2
                  obtain⟨kq,za,rfl,HA,vP,dA,dh,aD,HB⟩:=hcut;cases kq with
                  |zero=>exact absurd HA.out (by simp[ay.j7])
                  |succ vQ=>
                   have H:=HA.out;clear HA;simp only[ay.j7]at H
                   by_cases c85:za=true
                   ·subst c85
                    have H1:((bZ.f vQ l5 ((au l0 aC).f1)).bind fun Af=>(if Af.2=true then(ay.j8 vQ l0 Af.1 dF aC false)else(ay.j8 vQ l0 Af.1 dF aC (((au l0 aC).f1).toList==([112] :List UInt8)))))=some (r1,r2):=by rw[if_pos rfl]at H;exact H
                    clear H;have H:=H1;clear H1;replace H:=Option.bind_eq_some_iff.mp H;obtain⟨⟨kN,t565⟩,A860,H⟩:=H;replace H:(if t565=true then(ay.j8 vQ l0 kN dF aC false)else(ay.j8 vQ l0 kN dF aC (((au l0 aC).f1).toList==([112] :List UInt8))))=some (r1,r2):=H;have A86:=ak.mk A860;clear A860;have HC87:=ak.mk H;clear H;have hcz88_0:wc.cell? ⟨bD,0,none⟩=some (.int .i64 ((au l0 aC).f0)):=(aA aD.out 0).trans rfl;have hcz88_1:wc.cell? ⟨bD,1,none⟩=some (.string ((au l0 aC).f1)):=(aA aD.out 1).trans rfl;have hcz88_2:wc.cell? ⟨bD,2,none⟩=some (.string ((au l0 aC).f2)):=(aA aD.out 2).trans rfl;have hcz88_3:wc.cell? ⟨bD,3,none⟩=some (.slice dO ((au l0 aC).f3).length dP):=(aA aD.out 3).trans rfl;have hcz88_4:wc.cell? ⟨bD,4,none⟩=some (.bool ((au l0 aC).f4)):=(aA aD.out 4).trans rfl;have hfz88_0:=aU aD.out 0;have hfz88_1:=aU aD.out 1;have hfz88_2:=aU aD.out 2;have hfz88_3:=aU aD.out 3;have hfz88_4:=aU aD.out 4;obtain⟨Ao89,co89,eo89⟩:=Kd.bF dA.out;subst eo89
                    go_upto_region 19 with(first|((with_reducible refine bC (f:=66) rfl ?_);refine dH (some 108) rfl rfl Tryz.func66 (by kernel_rfl) rfl #[.slice Ao89 l5.length co89,.string ((au l0 aC).f1)] rfl (by(try simp only[List.map_toArray,List.map_cons,List.map_nil]);first|done|rfl|(simp only[List.length_drop,List.length_take];rfl)) ?_;(with_reducible refine(bZ.calls vQ (fun k_=>some k_=(.slice Ao89 l5.length co89:Value).ownBlock) (.slice Ao89 l5.length co89) l5 ((au l0 aC).f1) kN t565 w _ ?dB ?dD A86.out).mono ?_);(case dB=>repeat(first|(with_reducible first|exact HB.out|apply gu|apply eP|apply fA|refine aW ?_ eH.out)|exact HB.out));(case dD=>exact Kd.CG rfl dA.out);rintro e w90 ⟨v563,rfl,ho0,hb,hkp⟩;refine⟨_,rfl,?_⟩;have HO564:=ak.mk (Kd.dz (ok':=fun k_=>True) ho0 (fun k_ hk_=>trivial));replace dh:=ak.mk (Kd.dz (ok':=fun k_=>True) (Kd.IK ((Kd.r9 dh.out (Kd.iZ dA.out) (by decide))) hkp (fun k_ hk_ hs_=>(hk_.2) hs_)) (fun k_ hk_=>trivial));replace aD:=ak.mk (F8 (kz aD.out) hkp (fun hs_=>(fun e_=>(Kd.xY dA.out aD.out (by decide)) e_) hs_));replace HB:=ak.mk (hb);clear dA;(try clear hb);(try clear hkp);(try clear ho0)))
                    (try simp only[Act.put,List.setIfInBounds_toArray,List.set_cons_zero,List.set_cons_succ])
                    go_cut [118] (fun v118 wc=>∃(kq:Nat) (ze:Bool),v118=.bool ze∧ak (ay.j8 kq l0 kN dF aC ze=some (r1,r2))∧ak (kq≤vQ)∧ak (Kd.R Kd.string 9 wc w.heap.size (fun _=>True) v563 kN)∧ak (Kd.R k34 34 wc w.heap.size (fun _=>True) u5 dF)∧ak (wc.heap[bD]?=some (.cells #[.int .i64 ((au l0 aC).f0),.string ((au l0 aC).f1),.string ((au l0 aC).f2),(.slice dO ((au l0 aC).f3).length dP),.bool ((au l0 aC).f4)] 65 (0,0)))∧ak (Below w.heap.size w wc))
                    case first=>
                     as_aux_lemma=>
                      have H:=HC87.out;clear HC87
                      by_cases c91:t565=true
                      ·subst c91
                       have H1:(ay.j8 vQ l0 kN dF aC false)=some (r1,r2):=by rw[if_pos rfl]at H;exact H
                       clear H;have H:=H1;clear H1;have H':=ak.mk H;clear H;go_wp2
                       go_meet
                       case rel=>exact⟨_,(false),q'c,H',⟨by have:=HK1.out;have:=HJ7.out;have:=mR.out;have:=nA.out;have:=oz.out;have:=qm.out;have:=sD.out;have:=vP.out;first|omega|exact Nat.le_refl _⟩,⟨by(with_reducible repeat(first|apply Kd.aZ|apply Kd.bB|apply Kd.bq));exact HO564.out⟩,⟨by(with_reducible repeat(first|apply Kd.aZ|apply Kd.bB|apply Kd.bq));exact dh.out⟩,⟨by(with_reducible repeat(first|refine cO ?_ _|refine cB ?_ |refine bT ?_ _));exact aD.out⟩,⟨bs eH.out⟩⟩
                      ·replace c91:=Bool.eq_false_iff.mpr c91
                       subst c91;have H1:(ay.j8 vQ l0 kN dF aC (((au l0 aC).f1).toList==([112] :List UInt8)))=some (r1,r2):=by rw[if_neg (show¬(false=true) by decide)]at H;first|exact H|(simp only[eq_self]at H⊢;exact H)|(simp only[eq_self,if_true]at H⊢;exact H)
                       clear H;have H:=H1;clear H1;have H':=ak.mk H;clear H;have hcz92_0:w90.cell? ⟨bD,0,none⟩=some (.int .i64 ((au l0 aC).f0)):=(aA aD.out 0).trans rfl;have hcz92_1:w90.cell? ⟨bD,1,none⟩=some (.string ((au l0 aC).f1)):=(aA aD.out 1).trans rfl;have hcz92_2:w90.cell? ⟨bD,2,none⟩=some (.string ((au l0 aC).f2)):=(aA aD.out 2).trans rfl;have hcz92_3:w90.cell? ⟨bD,3,none⟩=some (.slice dO ((au l0 aC).f3).length dP):=(aA aD.out 3).trans rfl;have hcz92_4:w90.cell? ⟨bD,4,none⟩=some (.bool ((au l0 aC).f4)):=(aA aD.out 4).trans rfl;have hfz92_0:=aU aD.out 0;have hfz92_1:=aU aD.out 1;have hfz92_2:=aU aD.out 2;have hfz92_3:=aU aD.out 3;have hfz92_4:=aU aD.out 4;go_wp2
                       go_meet
                       case rel=>exact⟨_,((((au l0 aC).f1).toList==([112] :List UInt8))),q'c,H',⟨by have:=HK1.out;have:=HJ7.out;have:=mR.out;have:=nA.out;have:=oz.out;have:=qm.out;have:=sD.out;have:=vP.out;first|omega|exact Nat.le_refl _⟩,⟨by(with_reducible repeat(first|apply Kd.aZ|apply Kd.bB|apply Kd.bq));exact HO564.out⟩,⟨by(with_reducible repeat(first|apply Kd.aZ|apply Kd.bB|apply Kd.bq));exact dh.out⟩,⟨by(with_reducible repeat(first|refine cO ?_ _|refine cB ?_ |refine bT ?_ _));exact aD.out⟩,⟨bs eH.out⟩⟩
                    case rest=>
                     clear HC87
                     try clear p2
                     try clear c4
                     try clear c5
                     try clear c6
                     try clear c7
                     try clear c8
                     try clear c9
                     try clear c43
                     try clear c46
                     try clear c49
                     try clear c53
                     try clear c57
                     try clear c61
                     try clear c63
                     try clear c64
                     try clear c65
                     try clear c66
                     try clear c76
                     try clear Aj
                     try clear c76b1
                     try clear c77
                     try clear c85
                     try clear c91
                     try clear Di
                     try clear Dj
                     try clear Dk
                     try clear Dl
                     try clear Dm
                     try clear Du
                     try clear Dv
                     try clear Dw
                     try clear Dx
                     try clear Dy
                     try clear hcz88_0
                     try clear hcz88_1
                     try clear hcz88_2
                     try clear hcz88_3
                     try clear hcz88_4
                     try clear hcz92_0
                     try clear hcz92_1
                     try clear hcz92_2
                     try clear hcz92_3
                     try clear hcz92_4
                     try clear Dn
                     try clear Dp
                     try clear Dq
                     try clear Dr
                     try clear Dt
                     try clear Dz
                     try clear DC
                     try clear DF
                     try clear DI
                     try clear DJ
                     try clear hfz88_0
                     try clear hfz88_1
                     try clear hfz88_2
                     try clear hfz88_3
                     try clear hfz88_4
                     try clear hfz92_0
                     try clear hfz92_1
                     try clear hfz92_2
                     try clear hfz92_3
                     try clear hfz92_4
                     try clear p2
                     obtain⟨kq,ze,rfl,HA,HJ86,dA,dh,aD,HB⟩:=hcut;cases kq with
                     |zero=>exact absurd HA.out (by simp[ay.j8])
                     |succ yw=>
                      have H:=HA.out;clear HA;simp only[ay.j8]at H
                      by_cases c93:ze=true
                      ·subst c93
                       have H1:(if dF.length<1954687338268 then((some (dF++[(⟨(kN.length:Int),0,(⟨#[112]⟩:Bt),(⟨#[]⟩:Bt),([] :List (S36))⟩:S34)] :List (S34))).bind fun ig=>(if(ig.length:Int)>4096 then(some (([] :List (S34)),2))else(if(ig.length:Int)>0 then(if 0≤(wrap64 ((ig.length:Int) - 1))then(if(wrap64 ((ig.length:Int) - 1))<(ig.length:Int)then(if((bJ ig (wrap64 ((ig.length:Int) - 1))).f0)≥60 then(some (([] :List (S34)),2))else(ay.l0 yw l0 kN ig (wrap64 (aC+1))))else(none))else(none))else(ay.l0 yw l0 kN ig (wrap64 (aC+1))))))else(none))=some (r1,r2):=by rw[if_pos rfl]at H;exact H
                       clear H;have H:=H1;clear H1
                       by_cases c94:dF.length<1954687338268
                       ·rw[if_pos c94]at H
                        have LMc94:=ak.mk c94;clear c94;obtain⟨ig,Gc⟩:∃y_:List (S34),y_=(dF++[(⟨(kN.length:Int),0,(⟨#[112]⟩:Bt),(⟨#[]⟩:Bt),([] :List (S36))⟩:S34)]):=⟨_,rfl⟩
                        replace H:(if(ig.length:Int)>4096 then(some (([] :List (S34)),2))else(if(ig.length:Int)>0 then(if 0≤(wrap64 ((ig.length:Int) - 1))then(if(wrap64 ((ig.length:Int) - 1))<(ig.length:Int)then(if((bJ ig (wrap64 ((ig.length:Int) - 1))).f0)≥60 then(some (([] :List (S34)),2))else(ay.l0 yw l0 kN ig (wrap64 (aC+1))))else(none))else(none))else(ay.l0 yw l0 kN ig (wrap64 (aC+1)))))=some (r1,r2):=by first|(rw[Gc];with_reducible exact H)|(have H2_:=(Option.bind_some _ _).symm.trans H;rw[Gc];with_reducible exact H2_)|(have H2_:=(Option.bind_some _ _).symm.trans H;with_reducible exact H2_)|with_reducible exact H|(rw[Gc];exact H)|exact H
                        have Ny566:=ak.mk Gc;clear Gc
                        by_cases c95:(ig.length:Int)>4096
                        ·rw[if_pos c95]at H
                         have c95b0:decide (4096<(ig.length:Int))=true:=decide_eq_true c95;have c95b1:decide (4096<ig.length)=true:=decide_eq_true (by omega);clear c95;simp only[Option.some.injEq,Prod.mk.injEq]at H;obtain⟨rfl,rfl⟩:=H;obtain⟨Ao96,co96,eo96⟩:=Kd.bF dA.out;subst eo96
                         go_wp2_with(first|((with_reducible refine fG (b:=.append) (xs:=#[.tmp 119,.tmp 123]) rfl ?_);(try(refine iQ (by rfl) ?_;dsimp only));at_builtin;refine Kd.fZ k34 (w0:=w) w.heap.size rfl (.tmp 119) (.tmp 123) 22 34 (.agg #[(.int .i64 0),(.int .i64 0),(.string ⟨#[]⟩),(.string ⟨#[]⟩),(.slice none 0 0)]) 72 rfl Tryz.underlying22 jy rfl (by decide) (by omega) u5 dF (⟨(kN.length:Int),0,(⟨#[112]⟩:Bt),(⟨#[]⟩:Bt),([] :List (S36))⟩:S34) [.int .i64 (kN.length:Int),.int .i64 0,.string (⟨#[112]⟩:Bt),.string (⟨#[]⟩:Bt),.slice none 0 0] (fun _=>True) (fun k_=>((fun _=>True)) k_∧some k_≠(u5:Value).ownBlock) rfl rfl ?aP (fun _ hk=>hk) ?aF ?aO ?aB ?aS ?aL ?_;(case aP=>exact jE _ _ _ (⟨(kN.length:Int),0,(⟨#[112]⟩:Bt),(⟨#[]⟩:Bt),([] :List (S36))⟩:S34) (Kd.iJ _ _ _ _ _));(case aB=>exact(bs eH.out));(case aF=>exact(fun _ _=>trivial));(case aO=>exact(rz dh.out));(case aS=>exact(aJ (bs eH.out)));(case aL=>have:=LMc94.out;omega);intro v567 w97 ho hb hg hat;rw[←Ny566.out]at ho;have nZ:=ak.mk (ho);replace dA:=ak.mk (Kd.mJ (rz dA.out) (Kd.iZ (rz dh.out)) (by decide) hg);replace aD:=ak.mk (iO (g:=bD) (o:=.cells #[.int .i64 ((au l0 aC).f0),.string ((au l0 aC).f1),.string ((au l0 aC).f2),.slice dO ((au l0 aC).f3).length dP,.bool ((au l0 aC).f4)] 65 (0,0)) (kz aD.out) hg (Kd.xY dh.out aD.out (by decide)));replace HB:=ak.mk (hb);clear dh;clear ho hb hg hat;obtain⟨Ao98,co98,eo98⟩:=Kd.bF nZ.out;subst eo98))
                         go_ret2
                         exact⟨_,by first|rfl|(simp[aQ,aT]<;>rfl)|(simp[*,aQ,aT]<;>rfl),by first|exact Kd.iJ _ _ _ _ _|exact Kd.uU _ _ _ _ _|exact Kd.uV _ _ _ _ _|exact Kd.uW _ _ _ _ _|exact Kd.uX _ _ _ _ _,bs eH.out⟩
                        ·rw[if_neg c95]at H
                         have c95b0:decide (4096<(ig.length:Int))=false:=decide_eq_false c95;have c95b1:decide (4096<ig.length)=false:=decide_eq_false (by omega);clear c95
                         by_cases c99:(ig.length:Int)>0
                         ·rw[if_pos c99]at H
                          have c99b0:decide (0<(ig.length:Int))=true:=decide_eq_true c99;have c99b1:decide (0<ig.length)=true:=decide_eq_true (by omega);clear c99;obtain⟨kU,DK⟩:∃j_:Int,(wrap64 ((ig.length:Int) - 1))=j_:=⟨_,rfl⟩
                          replace H:(if 0≤(kU)then(if(kU)<(ig.length:Int)then(if((bJ ig (kU)).f0)≥60 then(some (([] :List (S34)),2))else(ay.l0 yw l0 kN ig (wrap64 (aC+1))))else(none))else(none))=some (r1,r2):=by first|(rw[DK]at H;exact H)|(simp only[DK]at H⊢;exact H)
                          have hji100w:(IntKind.i64.wrap ((ig.length:Int) - 1))=kU:=(gM _).trans DK
                          by_cases c101:0≤(kU)
                          ·rw[if_pos c101]at H
                           have c101b0:decide (0≤(kU))=true:=decide_eq_true c101;clear c101
                           by_cases c102:(kU)<(ig.length:Int)
                           ·rw[if_pos c102]at H
                            have c102b0:decide ((kU)<(ig.length:Int))=true:=decide_eq_true c102;clear c102
                            by_cases c103:((bJ ig (kU)).f0)≥60
                            ·rw[if_pos c103]at H
                             have c103b0:decide (60≤((bJ ig (kU)).f0))=true:=decide_eq_true c103;clear c103;simp only[Option.some.injEq,Prod.mk.injEq]at H;obtain⟨rfl,rfl⟩:=H;obtain⟨Ao104,co104,eo104⟩:=Kd.bF dA.out;subst eo104
                             go_wp2_with(first|((with_reducible refine fG (b:=.append) (xs:=#[.tmp 119,.tmp 123]) rfl ?_);(try(refine iQ (by rfl) ?_;dsimp only));at_builtin;refine Kd.fZ k34 (w0:=w) w.heap.size rfl (.tmp 119) (.tmp 123) 22 34 (.agg #[(.int .i64 0),(.int .i64 0),(.string ⟨#[]⟩),(.string ⟨#[]⟩),(.slice none 0 0)]) 72 rfl Tryz.underlying22 jy rfl (by decide) (by omega) u5 dF (⟨(kN.length:Int),0,(⟨#[112]⟩:Bt),(⟨#[]⟩:Bt),([] :List (S36))⟩:S34) [.int .i64 (kN.length:Int),.int .i64 0,.string (⟨#[112]⟩:Bt),.string (⟨#[]⟩:Bt),.slice none 0 0] (fun _=>True) (fun k_=>((fun _=>True)) k_∧some k_≠(u5:Value).ownBlock) rfl rfl ?aP (fun _ hk=>hk) ?aF ?aO ?aB ?aS ?aL ?_;(case aP=>exact jE _ _ _ (⟨(kN.length:Int),0,(⟨#[112]⟩:Bt),(⟨#[]⟩:Bt),([] :List (S36))⟩:S34) (Kd.iJ _ _ _ _ _));(case aB=>exact(bs eH.out));(case aF=>exact(fun _ _=>trivial));(case aO=>exact(rz dh.out));(case aS=>exact(aJ (bs eH.out)));(case aL=>have:=LMc94.out;omega);intro v567 w105 ho hb hg hat;rw[←Ny566.out]at ho;have nZ:=ak.mk (ho);replace dA:=ak.mk (Kd.mJ (rz dA.out) (Kd.iZ (rz dh.out)) (by decide) hg);replace aD:=ak.mk (iO (g:=bD) (o:=.cells #[.int .i64 ((au l0 aC).f0),.string ((au l0 aC).f1),.string ((au l0 aC).f2),.slice dO ((au l0 aC).f3).length dP,.bool ((au l0 aC).f4)] 65 (0,0)) (kz aD.out) hg (Kd.xY dh.out aD.out (by decide)));replace HB:=ak.mk (hb);clear dh;clear ho hb hg hat;obtain⟨Ao106,co106,eo106⟩:=Kd.bF nZ.out;subst eo106;have p569:0≤((kU):Int):=q'b;have q569:(kU)<(ig.length:Int):=q'b;obtain⟨ad569,A569_4,c569_4,e569,hx569_0,hx569_1,hx569_2,hx569_3,DL,vR,vS⟩:=qH (Kd.aI nZ.out).2.2 (kU) p569 q569;cases e569;obtain⟨ce569,G9,He,Ak⟩:=Kd.BU nZ.out z34 (kU) p569 (by first|exact q569|exact q'b|(have e_:=(Kd.aI nZ.out).1;omega));obtain⟨ve569_4,rfl,qQ⟩:=jA He;have l6:=Ak 4 _ rfl;rw[gW _ _ 4 (by omega)]at l6;replace l6:=Option.some.inj (l6.symm.trans DL);rw[l6]at qQ;have HL569_4:=ak.mk (show Kd.R k36 36 _ _ _ _ ((bJ ig (kU)).f4)from qQ);clear l6 qQ;clear Ak G9;have HR569_4:=ak.mk vS;have HC569_4:=ak.mk vR;clear vS vR;replace p569:=eq_true p569;replace q569:=eq_true q569))
                             go_ret2
                             exact⟨_,by first|rfl|(simp[aQ,aT]<;>rfl)|(simp only[←DK];first|rfl|(simp[aQ,aT]<;>rfl))|(simp[*,aQ,aT]<;>rfl),by first|exact Kd.iJ _ _ _ _ _|exact Kd.uU _ _ _ _ _|exact Kd.uV _ _ _ _ _|exact Kd.uW _ _ _ _ _|exact Kd.uX _ _ _ _ _,bs eH.out⟩
                            ·rw[if_neg c103]at H
                             have c103b0:decide (60≤((bJ ig (kU)).f0))=false:=decide_eq_false c103;clear c103;have H':=ak.mk H;clear H;obtain⟨Ao107,co107,eo107⟩:=Kd.bF dA.out;subst eo107
                             go_wp2_with(first|((with_reducible refine fG (b:=.append) (xs:=#[.tmp 119,.tmp 123]) rfl ?_);(try(refine iQ (by rfl) ?_;dsimp only));at_builtin;refine Kd.fZ k34 (w0:=w) w.heap.size rfl (.tmp 119) (.tmp 123) 22 34 (.agg #[(.int .i64 0),(.int .i64 0),(.string ⟨#[]⟩),(.string ⟨#[]⟩),(.slice none 0 0)]) 72 rfl Tryz.underlying22 jy rfl (by decide) (by omega) u5 dF (⟨(kN.length:Int),0,(⟨#[112]⟩:Bt),(⟨#[]⟩:Bt),([] :List (S36))⟩:S34) [.int .i64 (kN.length:Int),.int .i64 0,.string (⟨#[112]⟩:Bt),.string (⟨#[]⟩:Bt),.slice none 0 0] (fun _=>True) (fun k_=>((fun _=>True)) k_∧some k_≠(u5:Value).ownBlock) rfl rfl ?aP (fun _ hk=>hk) ?aF ?aO ?aB ?aS ?aL ?_;(case aP=>exact jE _ _ _ (⟨(kN.length:Int),0,(⟨#[112]⟩:Bt),(⟨#[]⟩:Bt),([] :List (S36))⟩:S34) (Kd.iJ _ _ _ _ _));(case aB=>exact(bs eH.out));(case aF=>exact(fun _ _=>trivial));(case aO=>exact(rz dh.out));(case aS=>exact(aJ (bs eH.out)));(case aL=>have:=LMc94.out;omega);intro v567 w108 ho hb hg hat;rw[←Ny566.out]at ho;have nZ:=ak.mk (ho);replace dA:=ak.mk (Kd.mJ (rz dA.out) (Kd.iZ (rz dh.out)) (by decide) hg);replace aD:=ak.mk (iO (g:=bD) (o:=.cells #[.int .i64 ((au l0 aC).f0),.string ((au l0 aC).f1),.string ((au l0 aC).f2),.slice dO ((au l0 aC).f3).length dP,.bool ((au l0 aC).f4)] 65 (0,0)) (kz aD.out) hg (Kd.xY dh.out aD.out (by decide)));replace HB:=ak.mk (hb);clear dh;clear ho hb hg hat;obtain⟨Ao109,co109,eo109⟩:=Kd.bF nZ.out;subst eo109;have p569:0≤((kU):Int):=q'b;have q569:(kU)<(ig.length:Int):=q'b;obtain⟨ad569,A569_4,c569_4,e569,hx569_0,hx569_1,hx569_2,hx569_3,DL,vR,vS⟩:=qH (Kd.aI nZ.out).2.2 (kU) p569 q569;cases e569;obtain⟨ce569,G9,He,Ak⟩:=Kd.BU nZ.out z34 (kU) p569 (by first|exact q569|exact q'b|(have e_:=(Kd.aI nZ.out).1;omega));obtain⟨ve569_4,rfl,qQ⟩:=jA He;have l6:=Ak 4 _ rfl;rw[gW _ _ 4 (by omega)]at l6;replace l6:=Option.some.inj (l6.symm.trans DL);rw[l6]at qQ;have HL569_4:=ak.mk (show Kd.R k36 36 _ _ _ _ ((bJ ig (kU)).f4)from qQ);clear l6 qQ;clear Ak G9;have HR569_4:=ak.mk vS;have HC569_4:=ak.mk vR;clear vS vR;replace p569:=eq_true p569;replace q569:=eq_true q569))
                             go_roundg yw
                             case measure=>have:=HK1.out;have:=HJ7.out;have:=mR.out;have:=nA.out;have:=oz.out;have:=qm.out;have:=sD.out;have:=vP.out;have:=HJ86.out;omega
                             case rel=>exact⟨(kN),(ig),(wrap64 (aC+1)),q'c,H',⟨by have:=HK1.out;have:=HJ7.out;have:=mR.out;have:=nA.out;have:=oz.out;have:=qm.out;have:=sD.out;have:=vP.out;have:=HJ86.out;omega⟩,⟨by(with_reducible repeat(first|apply Kd.aZ|apply Kd.bB|apply Kd.bq));exact dA.out⟩,⟨by(with_reducible repeat(first|apply Kd.aZ|apply Kd.bB|apply Kd.bq));exact nZ.out⟩,⟨bs eH.out⟩⟩
                           ·rw[if_neg c102]at H
                            exact absurd H (by simp)
                          ·rw[if_neg c101]at H
                           exact absurd H (by simp)
                         ·rw[if_neg c99]at H
                          have c99b0:decide (0<(ig.length:Int))=false:=decide_eq_false c99;have c99b1:decide (0<ig.length)=false:=decide_eq_false (by omega);clear c99;have H':=ak.mk H;clear H;obtain⟨Ao110,co110,eo110⟩:=Kd.bF dA.out;subst eo110
                          go_wp2_with(first|((with_reducible refine fG (b:=.append) (xs:=#[.tmp 119,.tmp 123]) rfl ?_);(try(refine iQ (by rfl) ?_;dsimp only));at_builtin;refine Kd.fZ k34 (w0:=w) w.heap.size rfl (.tmp 119) (.tmp 123) 22 34 (.agg #[(.int .i64 0),(.int .i64 0),(.string ⟨#[]⟩),(.string ⟨#[]⟩),(.slice none 0 0)]) 72 rfl Tryz.underlying22 jy rfl (by decide) (by omega) u5 dF (⟨(kN.length:Int),0,(⟨#[112]⟩:Bt),(⟨#[]⟩:Bt),([] :List (S36))⟩:S34) [.int .i64 (kN.length:Int),.int .i64 0,.string (⟨#[112]⟩:Bt),.string (⟨#[]⟩:Bt),.slice none 0 0] (fun _=>True) (fun k_=>((fun _=>True)) k_∧some k_≠(u5:Value).ownBlock) rfl rfl ?aP (fun _ hk=>hk) ?aF ?aO ?aB ?aS ?aL ?_;(case aP=>exact jE _ _ _ (⟨(kN.length:Int),0,(⟨#[112]⟩:Bt),(⟨#[]⟩:Bt),([] :List (S36))⟩:S34) (Kd.iJ _ _ _ _ _));(case aB=>exact(bs eH.out));(case aF=>exact(fun _ _=>trivial));(case aO=>exact(rz dh.out));(case aS=>exact(aJ (bs eH.out)));(case aL=>have:=LMc94.out;omega);intro v567 w111 ho hb hg hat;rw[←Ny566.out]at ho;have nZ:=ak.mk (ho);replace dA:=ak.mk (Kd.mJ (rz dA.out) (Kd.iZ (rz dh.out)) (by decide) hg);replace aD:=ak.mk (iO (g:=bD) (o:=.cells #[.int .i64 ((au l0 aC).f0),.string ((au l0 aC).f1),.string ((au l0 aC).f2),.slice dO ((au l0 aC).f3).length dP,.bool ((au l0 aC).f4)] 65 (0,0)) (kz aD.out) hg (Kd.xY dh.out aD.out (by decide)));replace HB:=ak.mk (hb);clear dh;clear ho hb hg hat;obtain⟨Ao112,co112,eo112⟩:=Kd.bF nZ.out;subst eo112))
                          go_roundg yw
                          case measure=>have:=HK1.out;have:=HJ7.out;have:=mR.out;have:=nA.out;have:=oz.out;have:=qm.out;have:=sD.out;have:=vP.out;have:=HJ86.out;omega
                          case rel=>exact⟨(kN),(ig),(wrap64 (aC+1)),q'c,H',⟨by have:=HK1.out;have:=HJ7.out;have:=mR.out;have:=nA.out;have:=oz.out;have:=qm.out;have:=sD.out;have:=vP.out;have:=HJ86.out;omega⟩,⟨by(with_reducible repeat(first|apply Kd.aZ|apply Kd.bB|apply Kd.bq));exact dA.out⟩,⟨by(with_reducible repeat(first|apply Kd.aZ|apply Kd.bB|apply Kd.bq));exact nZ.out⟩,⟨bs eH.out⟩⟩
                       ·rw[if_neg c94]at H
                        exact absurd H (by simp)
                      ·replace c93:=Bool.eq_false_iff.mpr c93
                       subst c93;have H1:(if(dF.length:Int)>4096 then(some (([] :List (S34)),2))else(if(dF.length:Int)>0 then(if 0≤(wrap64 ((dF.length:Int) - 1))then(if(wrap64 ((dF.length:Int) - 1))<(dF.length:Int)then(if((bJ dF (wrap64 ((dF.length:Int) - 1))).f0)≥60 then(some (([] :List (S34)),2))else(ay.l0 yw l0 kN dF (wrap64 (aC+1))))else(none))else(none))else(ay.l0 yw l0 kN dF (wrap64 (aC+1)))))=some (r1,r2):=by rw[if_neg (show¬(false=true) by decide)]at H;first|exact H|(simp only[eq_self]at H⊢;exact H)|(simp only[eq_self,if_true]at H⊢;exact H)
                       clear H;have H:=H1;clear H1
                       by_cases c113:(dF.length:Int)>4096
                       ·rw[if_pos c113]at H
                        have c113b0:decide (4096<(dF.length:Int))=true:=decide_eq_true c113;have c113b1:decide (4096<dF.length)=true:=decide_eq_true (by omega);clear c113;simp only[Option.some.injEq,Prod.mk.injEq]at H;obtain⟨rfl,rfl⟩:=H;obtain⟨Ao114,co114,eo114⟩:=Kd.bF dh.out;subst eo114;go_wp2
                        go_ret2
                        exact⟨_,by first|rfl|(simp[aQ,aT]<;>rfl)|(simp[*,aQ,aT]<;>rfl),by first|exact Kd.iJ _ _ _ _ _|exact Kd.uU _ _ _ _ _|exact Kd.uV _ _ _ _ _|exact Kd.uW _ _ _ _ _|exact Kd.uX _ _ _ _ _,bs eH.out⟩
                       ·rw[if_neg c113]at H
                        have c113b0:decide (4096<(dF.length:Int))=false:=decide_eq_false c113;have c113b1:decide (4096<dF.length)=false:=decide_eq_false (by omega);clear c113
                        by_cases c115:(dF.length:Int)>0
                        ·rw[if_pos c115]at H
                         have c115b0:decide (0<(dF.length:Int))=true:=decide_eq_true c115;have c115b1:decide (0<dF.length)=true:=decide_eq_true (by omega);clear c115;obtain⟨kV,DN⟩:∃j_:Int,(wrap64 ((dF.length:Int) - 1))=j_:=⟨_,rfl⟩
                         replace H:(if 0≤(kV)then(if(kV)<(dF.length:Int)then(if((bJ dF (kV)).f0)≥60 then(some (([] :List (S34)),2))else(ay.l0 yw l0 kN dF (wrap64 (aC+1))))else(none))else(none))=some (r1,r2):=by first|(rw[DN]at H;exact H)|(simp only[DN]at H⊢;exact H)
                         have hji116w:(IntKind.i64.wrap ((dF.length:Int) - 1))=kV:=(gM _).trans DN
                         by_cases c117:0≤(kV)
                         ·rw[if_pos c117]at H
                          have c117b0:decide (0≤(kV))=true:=decide_eq_true c117;clear c117
                          by_cases c118:(kV)<(dF.length:Int)
                          ·rw[if_pos c118]at H
                           have c118b0:decide ((kV)<(dF.length:Int))=true:=decide_eq_true c118;clear c118
                           by_cases c119:((bJ dF (kV)).f0)≥60
                           ·rw[if_pos c119]at H
                            have c119b0:decide (60≤((bJ dF (kV)).f0))=true:=decide_eq_true c119;clear c119;simp only[Option.some.injEq,Prod.mk.injEq]at H;obtain⟨rfl,rfl⟩:=H;obtain⟨Ao120,co120,eo120⟩:=Kd.bF dh.out;subst eo120;have p570:0≤((kV):Int):=q'b;have q570:(kV)<(dF.length:Int):=q'b;obtain⟨ad570,A570_4,c570_4,e570,hx570_0,hx570_1,hx570_2,hx570_3,DR,vT,vU⟩:=qH (Kd.aI dh.out).2.2 (kV) p570 q570;cases e570;obtain⟨ce570,Hf,Hg,Al⟩:=Kd.BU dh.out z34 (kV) p570 (by first|exact q570|exact q'b|(have e_:=(Kd.aI dh.out).1;omega));obtain⟨ve570_4,rfl,qR⟩:=jA Hg;have l7:=Al 4 _ rfl;rw[gW _ _ 4 (by omega)]at l7;replace l7:=Option.some.inj (l7.symm.trans DR);rw[l7]at qR;have HL570_4:=ak.mk (show Kd.R k36 36 _ _ _ _ ((bJ dF (kV)).f4)from qR);clear l7 qR;clear Al Hf;have HR570_4:=ak.mk vU;have HC570_4:=ak.mk vT;clear vU vT;replace p570:=eq_true p570;replace q570:=eq_true q570;go_wp2
                            go_ret2
                            exact⟨_,by first|rfl|(simp[aQ,aT]<;>rfl)|(simp only[←DN];first|rfl|(simp[aQ,aT]<;>rfl))|(simp[*,aQ,aT]<;>rfl),by first|exact Kd.iJ _ _ _ _ _|exact Kd.uU _ _ _ _ _|exact Kd.uV _ _ _ _ _|exact Kd.uW _ _ _ _ _|exact Kd.uX _ _ _ _ _,bs eH.out⟩
                           ·rw[if_neg c119]at H
                            have c119b0:decide (60≤((bJ dF (kV)).f0))=false:=decide_eq_false c119;clear c119;have H':=ak.mk H;clear H;obtain⟨Ao121,co121,eo121⟩:=Kd.bF dh.out;subst eo121;have p570:0≤((kV):Int):=q'b;have q570:(kV)<(dF.length:Int):=q'b;obtain⟨ad570,A570_4,c570_4,e570,hx570_0,hx570_1,hx570_2,hx570_3,DR,vT,vU⟩:=qH (Kd.aI dh.out).2.2 (kV) p570 q570;cases e570;obtain⟨ce570,Hf,Hg,Al⟩:=Kd.BU dh.out z34 (kV) p570 (by first|exact q570|exact q'b|(have e_:=(Kd.aI dh.out).1;omega));obtain⟨ve570_4,rfl,qR⟩:=jA Hg;have l7:=Al 4 _ rfl;rw[gW _ _ 4 (by omega)]at l7;replace l7:=Option.some.inj (l7.symm.trans DR);rw[l7]at qR;have HL570_4:=ak.mk (show Kd.R k36 36 _ _ _ _ ((bJ dF (kV)).f4)from qR);clear l7 qR;clear Al Hf;have HR570_4:=ak.mk vU;have HC570_4:=ak.mk vT;clear vU vT;replace p570:=eq_true p570;replace q570:=eq_true q570;go_wp2
                            go_roundg yw
                            case measure=>have:=HK1.out;have:=HJ7.out;have:=mR.out;have:=nA.out;have:=oz.out;have:=qm.out;have:=sD.out;have:=vP.out;have:=HJ86.out;omega
                            case rel=>exact⟨(kN),(dF),(wrap64 (aC+1)),q'c,H',⟨by have:=HK1.out;have:=HJ7.out;have:=mR.out;have:=nA.out;have:=oz.out;have:=qm.out;have:=sD.out;have:=vP.out;have:=HJ86.out;omega⟩,⟨by(with_reducible repeat(first|apply Kd.aZ|apply Kd.bB|apply Kd.bq));exact dA.out⟩,⟨by(with_reducible repeat(first|apply Kd.aZ|apply Kd.bB|apply Kd.bq));exact dh.out⟩,⟨bs eH.out⟩⟩
                          ·rw[if_neg c118]at H
                           exact absurd H (by simp)
                         ·rw[if_neg c117]at H
                          exact absurd H (by simp)
                        ·rw[if_neg c115]at H
                         have c115b0:decide (0<(dF.length:Int))=false:=decide_eq_false c115;have c115b1:decide (0<dF.length)=false:=decide_eq_false (by omega);clear c115;have H':=ak.mk H;clear H;obtain⟨Ao122,co122,eo122⟩:=Kd.bF dh.out;subst eo122;go_wp2
                         go_roundg yw
                         case measure=>have:=HK1.out;have:=HJ7.out;have:=mR.out;have:=nA.out;have:=oz.out;have:=qm.out;have:=sD.out;have:=vP.out;have:=HJ86.out;omega
                         case rel=>exact⟨(kN),(dF),(wrap64 (aC+1)),q'c,H',⟨by have:=HK1.out;have:=HJ7.out;have:=mR.out;have:=nA.out;have:=oz.out;have:=qm.out;have:=sD.out;have:=vP.out;have:=HJ86.out;omega⟩,⟨by(with_reducible repeat(first|apply Kd.aZ|apply Kd.bB|apply Kd.bq));exact dA.out⟩,⟨by(with_reducible repeat(first|apply Kd.aZ|apply Kd.bB|apply Kd.bq));exact dh.out⟩,⟨bs eH.out⟩⟩
                   ·replace c85:=Bool.eq_false_iff.mpr c85
                    subst c85;have H1:(if(dF.length:Int)>4096 then(some (([] :List (S34)),2))else(if(dF.length:Int)>0 then(if 0≤(wrap64 ((dF.length:Int) - 1))then(if(wrap64 ((dF.length:Int) - 1))<(dF.length:Int)then(if((bJ dF (wrap64 ((dF.length:Int) - 1))).f0)≥60 then(some (([] :List (S34)),2))else(ay.l0 vQ l0 l5 dF (wrap64 (aC+1))))else(none))else(none))else(ay.l0 vQ l0 l5 dF (wrap64 (aC+1)))))=some (r1,r2):=by rw[if_neg (show¬(false=true) by decide)]at H;first|exact H|(simp only[eq_self]at H⊢;exact H)|(simp only[eq_self,if_true]at H⊢;exact H)
                    clear H;have H:=H1;clear H1
                    by_cases c123:(dF.length:Int)>4096
                    ·rw[if_pos c123]at H
                     have c123b0:decide (4096<(dF.length:Int))=true:=decide_eq_true c123;have c123b1:decide (4096<dF.length)=true:=decide_eq_true (by omega);clear c123;simp only[Option.some.injEq,Prod.mk.injEq]at H;obtain⟨rfl,rfl⟩:=H;obtain⟨Ao124,co124,eo124⟩:=Kd.bF dh.out;subst eo124;go_wp2
                     go_ret2
                     exact⟨_,by first|rfl|(simp[aQ,aT]<;>rfl)|(simp[*,aQ,aT]<;>rfl),by first|exact Kd.iJ _ _ _ _ _|exact Kd.uU _ _ _ _ _|exact Kd.uV _ _ _ _ _|exact Kd.uW _ _ _ _ _|exact Kd.uX _ _ _ _ _,bs eH.out⟩
                    ·rw[if_neg c123]at H
                     have c123b0:decide (4096<(dF.length:Int))=false:=decide_eq_false c123;have c123b1:decide (4096<dF.length)=false:=decide_eq_false (by omega);clear c123
                     by_cases c125:(dF.length:Int)>0
                     ·rw[if_pos c125]at H
                      have c125b0:decide (0<(dF.length:Int))=true:=decide_eq_true c125;have c125b1:decide (0<dF.length)=true:=decide_eq_true (by omega);clear c125;obtain⟨kW,DT⟩:∃j_:Int,(wrap64 ((dF.length:Int) - 1))=j_:=⟨_,rfl⟩
                      replace H:(if 0≤(kW)then(if(kW)<(dF.length:Int)then(if((bJ dF (kW)).f0)≥60 then(some (([] :List (S34)),2))else(ay.l0 vQ l0 l5 dF (wrap64 (aC+1))))else(none))else(none))=some (r1,r2):=by first|(rw[DT]at H;exact H)|(simp only[DT]at H⊢;exact H)
                      have hji126w:(IntKind.i64.wrap ((dF.length:Int) - 1))=kW:=(gM _).trans DT
                      by_cases c127:0≤(kW)
                      ·rw[if_pos c127]at H
                       have c127b0:decide (0≤(kW))=true:=decide_eq_true c127;clear c127
                       by_cases c128:(kW)<(dF.length:Int)
                       ·rw[if_pos c128]at H
                        have c128b0:decide ((kW)<(dF.length:Int))=true:=decide_eq_true c128;clear c128
                        by_cases c129:((bJ dF (kW)).f0)≥60
                        ·rw[if_pos c129]at H
                         have c129b0:decide (60≤((bJ dF (kW)).f0))=true:=decide_eq_true c129;clear c129;simp only[Option.some.injEq,Prod.mk.injEq]at H;obtain⟨rfl,rfl⟩:=H;obtain⟨Ao130,co130,eo130⟩:=Kd.bF dh.out;subst eo130;have p571:0≤((kW):Int):=q'b;have q571:(kW)<(dF.length:Int):=q'b;obtain⟨ad571,A571_4,c571_4,e571,hx571_0,hx571_1,hx571_2,hx571_3,DU,vV,vW⟩:=qH (Kd.aI dh.out).2.2 (kW) p571 q571;cases e571;obtain⟨ce571,Hl,Ho,Am⟩:=Kd.BU dh.out z34 (kW) p571 (by first|exact q571|exact q'b|(have e_:=(Kd.aI dh.out).1;omega));obtain⟨ve571_4,rfl,qU⟩:=jA Ho;have l9:=Am 4 _ rfl;rw[gW _ _ 4 (by omega)]at l9;replace l9:=Option.some.inj (l9.symm.trans DU);rw[l9]at qU;have HL571_4:=ak.mk (show Kd.R k36 36 _ _ _ _ ((bJ dF (kW)).f4)from qU);clear l9 qU;clear Am Hl;have HR571_4:=ak.mk vW;have HC571_4:=ak.mk vV;clear vW vV;replace p571:=eq_true p571;replace q571:=eq_true q571;go_wp2
                         go_ret2
                         exact⟨_,by first|rfl|(simp[aQ,aT]<;>rfl)|(simp only[←DT];first|rfl|(simp[aQ,aT]<;>rfl))|(simp[*,aQ,aT]<;>rfl),by first|exact Kd.iJ _ _ _ _ _|exact Kd.uU _ _ _ _ _|exact Kd.uV _ _ _ _ _|exact Kd.uW _ _ _ _ _|exact Kd.uX _ _ _ _ _,bs eH.out⟩
                        ·rw[if_neg c129]at H
                         have c129b0:decide (60≤((bJ dF (kW)).f0))=false:=decide_eq_false c129;clear c129;have H':=ak.mk H;clear H;obtain⟨Ao131,co131,eo131⟩:=Kd.bF dh.out;subst eo131;have p571:0≤((kW):Int):=q'b;have q571:(kW)<(dF.length:Int):=q'b;obtain⟨ad571,A571_4,c571_4,e571,hx571_0,hx571_1,hx571_2,hx571_3,DU,vV,vW⟩:=qH (Kd.aI dh.out).2.2 (kW) p571 q571;cases e571;obtain⟨ce571,Hl,Ho,Am⟩:=Kd.BU dh.out z34 (kW) p571 (by first|exact q571|exact q'b|(have e_:=(Kd.aI dh.out).1;omega));obtain⟨ve571_4,rfl,qU⟩:=jA Ho;have l9:=Am 4 _ rfl;rw[gW _ _ 4 (by omega)]at l9;replace l9:=Option.some.inj (l9.symm.trans DU);rw[l9]at qU;have HL571_4:=ak.mk (show Kd.R k36 36 _ _ _ _ ((bJ dF (kW)).f4)from qU);clear l9 qU;clear Am Hl;have HR571_4:=ak.mk vW;have HC571_4:=ak.mk vV;clear vW vV;replace p571:=eq_true p571;replace q571:=eq_true q571;go_wp2
                         go_roundg vQ
                         case measure=>have:=HK1.out;have:=HJ7.out;have:=mR.out;have:=nA.out;have:=oz.out;have:=qm.out;have:=sD.out;have:=vP.out;omega
                         case rel=>exact⟨(l5),(dF),(wrap64 (aC+1)),q'c,H',⟨by have:=HK1.out;have:=HJ7.out;have:=mR.out;have:=nA.out;have:=oz.out;have:=qm.out;have:=sD.out;have:=vP.out;omega⟩,⟨by(with_reducible repeat(first|apply Kd.aZ|apply Kd.bB|apply Kd.bq));exact dA.out⟩,⟨by(with_reducible repeat(first|apply Kd.aZ|apply Kd.bB|apply Kd.bq));exact dh.out⟩,⟨bs eH.out⟩⟩
                       ·rw[if_neg c128]at H
                        exact absurd H (by simp)
                      ·rw[if_neg c127]at H
                       exact absurd H (by simp)
                     ·rw[if_neg c125]at H
                      have c125b0:decide (0<(dF.length:Int))=false:=decide_eq_false c125;have c125b1:decide (0<dF.length)=false:=decide_eq_false (by omega);clear c125;have H':=ak.mk H;clear H;obtain⟨Ao132,co132,eo132⟩:=Kd.bF dh.out;subst eo132;go_wp2
                      go_roundg vQ
                      case measure=>have:=HK1.out;have:=HJ7.out;have:=mR.out;have:=nA.out;have:=oz.out;have:=qm.out;have:=sD.out;have:=vP.out;omega
                      case rel=>exact⟨(l5),(dF),(wrap64 (aC+1)),q'c,H',⟨by have:=HK1.out;have:=HJ7.out;have:=mR.out;have:=nA.out;have:=oz.out;have:=qm.out;have:=sD.out;have:=vP.out;omega⟩,⟨by(with_reducible repeat(first|apply Kd.aZ|apply Kd.bB|apply Kd.bq));exact dA.out⟩,⟨by(with_reducible repeat(first|apply Kd.aZ|apply Kd.bB|apply Kd.bq));exact dh.out⟩,⟨bs eH.out⟩⟩
    ·rw[if_neg c7]at H
     exact absurd H (by simp)
   ·rw[if_neg c6]at H
    have mo:decide (aC<(l0.length:Int))=false:=decide_eq_false c6;clear c6;simp only[Option.some.injEq,Prod.mk.injEq]at H;obtain⟨rfl,rfl⟩:=H;go_wp2
    go_ret2
    exact⟨_,by first|rfl|(simp[aQ,aT]<;>rfl)|(simp[*,aQ,aT]<;>rfl),by(with_reducible repeat(first|apply Kd.aZ|apply Kd.bB|apply Kd.bq));exact dh.out,bz⟩
end Go.Proofs.aj.W7
