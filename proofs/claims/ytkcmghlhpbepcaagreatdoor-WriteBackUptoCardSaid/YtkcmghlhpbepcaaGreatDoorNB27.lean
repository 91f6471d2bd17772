/- Lemmas and walks, part 27. -/
import Derived.Shelf.Unicode.ValidAny
import Derived.Test.YtkcmghlhpbepcaaGreatDoorNB13
set_option linter.unusedVariables false
set_option linter.unusedSimpArgs false
set_option maxHeartbeats 8000000
set_option maxRecDepth 100000
namespace Go.Proofs.aj.W7
open Go.RowKit Go.Proofs Go.Proofs.YtkcmghlhpbepcaaGreatDoor
def wrB(b:Bool)(a:Bt):Option Bt:=if a.data.toList.length≤1000000000 then some ⟨(wrL b a.data.toList).toArray⟩else none
theorem Kz{b:Bool}{a r:Bt}(h:wrB b a=some r):∃l:List UInt8,a=⟨l.toArray⟩∧l.length≤1000000000∧r=⟨(wrL b l).toArray⟩:=by
 unfold wrB at h
 split at h
 ·rename_i hl
  exact⟨a.data.toList,by simp,hl,(Option.some.inj h).symm⟩
 ·cases h
def rD.f(a0:Bt):Option Bt:=wrB true a0
theorem rD.calls(a0 r:Bt)(w:World)(h:rD.f a0=some r):
 Calls Tryz.prog 176 #[.string a0] w fun e w'=>e=.returned (.string r)∧Below w.heap.size w w':=by
 obtain⟨l,rfl,hl,rfl⟩:=Kz h;exact value_c l hl w
def uD.f(a0:Bt):Option Bt:=wrB false a0
theorem uD.calls(a0 r:Bt)(w:World)(h:uD.f a0=some r):
 Calls Tryz.prog 136 #[.string a0] w fun e w'=>e=.returned (.string r)∧Below w.heap.size w w':=by
 obtain⟨l,rfl,hl,rfl⟩:=Kz h;exact text_c l hl w
end Go.Proofs.aj.W7
namespace Go.Proofs.YtkcmghlhpbepcaaGreatDoor
open Go.RowKit Go.Proofs
def Rq:Go.Shelf.Ren:=⟨fun|196=>139|259=>177|n=>n,fun|0=>0|3=>3|4=>4|5=>5|9=>9|12=>12|46=>140|53=>160|119=>136|138=>138|139=>139|n=>n,fun|3=>0|4=>1|n=>n⟩
theorem Fu:Go.Proofs.Lays.n196 Tryz.prog Rq:={
 mixed:=by kernel_rfl
 f196:=Tryz.func139.trans (congrArg some (by kernel_rfl))
 f259:=Tryz.func177.trans (congrArg some (by kernel_rfl))
 t0:=Tryz.underlying0
 a0:=Tryz.isAgg0
 z0:=Tryz.sizeOf0
 v0:=Tryz.zeroValue0
 t3:=Tryz.underlying3
 a3:=Tryz.isAgg3
 z3:=Tryz.sizeOf3
 v3:=Tryz.zeroValue3
 t4:=Tryz.underlying4
 a4:=Tryz.isAgg4
 z4:=Tryz.sizeOf4
 v4:=Tryz.zeroValue4
 t5:=Tryz.underlying5
 a5:=Tryz.isAgg5
 z5:=Tryz.sizeOf5
 v5:=Tryz.zeroValue5
 t9:=Tryz.underlying9
 a9:=Tryz.isAgg9
 z9:=Tryz.sizeOf9
 v9:=Tryz.zeroValue9
 t12:=Tryz.underlying12
 a12:=Tryz.isAgg12
 z12:=Tryz.sizeOf12
 v12:=Tryz.zeroValue12
 t46:=Tryz.underlying140
 a46:=Tryz.isAgg140
 z46:=Tryz.sizeOf140
 v46:=Tryz.zeroValue140
 t53:=Tryz.underlying160
 a53:=Tryz.isAgg160
 z53:=Tryz.sizeOf160
 v53:=Tryz.zeroValue160
 t119:=Tryz.underlying136
 a119:=Tryz.isAgg136
 z119:=Tryz.sizeOf136
 t138:=Tryz.underlying138
 a138:=Tryz.isAgg138
 z138:=Tryz.sizeOf138
 v138:=Tryz.zeroValue138
 t139:=Tryz.underlying139
 a139:=Tryz.isAgg139
 z139:=Tryz.sizeOf139
 v139:=Tryz.zeroValue139
 g3:=by kernel_rfl
 g4:=by kernel_rfl }
theorem valid_c(s:Bt)(w:World)(hs:s.size≤9223372036854775807)(hT:Lib.Utf8Tabs 0 1 w):
 Calls Tryz.prog 139 #[.string s] w fun e w'=>e=.returned (.bool (Lib.validD s.data.toList))∧Below w.heap.size w w':=Any.utf8_ValidString Fu s w hs hT
end Go.Proofs.YtkcmghlhpbepcaaGreatDoor
namespace Go.Proofs.YtkcmghlhpbepcaaGreatDoor
abbrev Er:=Std
theorem Er.below{w w':Go.World}(h:Er w)(hb:Go.RowKit.Below w.heap.size w w'):Er w':=Std.below h hb
end Go.Proofs.YtkcmghlhpbepcaaGreatDoor
namespace Go.Proofs.aj.W7
open Go.RowKit Go.Proofs.ah.aD Go.Proofs.ah.bJ Go.Proofs.ah.bW
attribute [local go_sem] dB dD dR dS bZ cu dF dG
def dY.l0:Nat→Bt→List (S36)→Int→Int→Option (Bt)
 |0,_,_,_,_=>none
 |k+1,x3,x10,x11,x12=>if x12<x11 then(if 0≤x12 then(if x12<(x10.length:Int)then(if 1+((bq x10 x12).f0).size≤9223372036854775807 then(if((⟨#[32]⟩:Bt)++((bq x10 x12).f0)).size+2≤9223372036854775807 then((rD.f ((bq x10 x12).f1)).bind fun uO=>(if(((⟨#[32]⟩:Bt)++((bq x10 x12).f0))++(⟨#[61,34]⟩:Bt)).size+uO.size≤9223372036854775807 then(if((((⟨#[32]⟩:Bt)++((bq x10 x12).f0))++(⟨#[61,34]⟩:Bt))++uO).size+1≤9223372036854775807 then(if x3.size+(((((⟨#[32]⟩:Bt)++((bq x10 x12).f0))++(⟨#[61,34]⟩:Bt))++uO)++(⟨#[34]⟩:Bt)).size≤9223372036854775807 then(dY.l0 k (x3++(((((⟨#[32]⟩:Bt)++((bq x10 x12).f0))++(⟨#[61,34]⟩:Bt))++uO)++(⟨#[34]⟩:Bt))) x10 x11 (wrap64 (x12+1)))else(none))else(none))else(none)))else(none))else(none))else(none))else(none))else(if x3.size+1≤9223372036854775807 then(some (x3++(⟨#[62]⟩:Bt)))else(none))
def dY.f(k:Nat)(dO dz:Int)(bV dL:Bt)(bA:List (S36)):Option (Bt):=if 1+bV.size≤9223372036854775807 then(dY.l0 k ((⟨#[60]⟩:Bt)++bV) bA (bA.length:Int) 0)else(none)
def dY.T5:Bool×List (List Nat×List Nat):=(true,[([],[]),([],[]),([1],[1]),([2],[2]),([3],[3]),([],[]),([5],[5]),([6],[6]),([4,7],[4,7]),([8],[8]),([0,9],[0,9]),([10,7,0,1,2,3,4,5,6,7,8,9,10],[0,10])])
def dY.B5:List Nat:=[0,0,2,6,14,0,32,96,254,510,1023,2047]
theorem dY.tab5:tQ .any (opsOf Tryz.f137 5)=dY.T5:=by kernel_rfl
theorem dY.bits5:AO dY.T5.2 dY.B5=true:=by kernel_rfl
theorem dY.calls(k:Nat)(dO dz:Int)(bV dL:Bt)(iC:Option Addr)(eP:Nat)(bA:List (S36))(r:Bt)(w:World)(xW:Kd.C k36 w iC bA.length bA)(xX:bA.length≤eP)(h:dY.f k dO dz bV dL bA=some r):
 Calls Tryz.prog 137 #[.agg #[.int .i64 dO,.int .i64 dz,.string bV,.string dL,.slice iC bA.length eP]] w fun e w'=>e=.returned (.string r)∧Below w.heap.size w w':=by
 have hu34:=Tryz.underlying34;have hu36:=Tryz.underlying36;have xY:=ak.mk xW;have K9:=ak.mk xX;clear xW xX;have HB:=ak.mk (Below.refl w.heap.size w);have H:(if 1+bV.size≤9223372036854775807 then(dY.l0 k ((⟨#[60]⟩:Bt)++bV) bA (bA.length:Int) 0)else(none))=some r:=h;clear h
 by_cases c2:1+bV.size≤9223372036854775807
 ·rw[if_pos c2]at H
  have Di:=eq_true c2;have c2b1:decide (1+bV.size≤9223372036854775807)=true:=decide_eq_true c2
  try have c2b2:(9223372036854775807<1+bV.size)=False:=eq_false (Nat.not_lt.2 c2)
  have H':=ak.mk H;clear H;go_enter Tryz.func137,Tryz.ntmps137
  go_wp2_with(first|((with_reducible refine cO (N:=1) rfl ?_);refine eH ?hg (N:=1) ?hd (cs:=#[.int .i64 dO,.int .i64 dz,.string bV,.string dL,.slice iC bA.length eP]) (t:=34) ?hr ?_;(case hd=>rfl);(case hg=>rfl);(case hr=>first|(go_simp;done)|(go_simp;rfl));intro rG hg w3 fP hb;have kU:=ak.mk (fP);have GW586:=ak.mk ((by rw[hg];exact(aR bz):w.heap.size≤rG));have CJ:=ak.mk ((by rw[hg];exact(aR bz):w.heap.size≤rG));replace HB:=ak.mk (aG bz hb);clear hb fP hg;have hcz4_0:w3.cell? ⟨rG,0,none⟩=some (.int .i64 dO):=(aC kU.out 0).trans rfl;have hcz4_1:w3.cell? ⟨rG,1,none⟩=some (.int .i64 dz):=(aC kU.out 1).trans rfl;have hcz4_2:w3.cell? ⟨rG,2,none⟩=some (.string bV):=(aC kU.out 2).trans rfl;have hcz4_3:w3.cell? ⟨rG,3,none⟩=some (.string dL):=(aC kU.out 3).trans rfl;have hcz4_4:w3.cell? ⟨rG,4,none⟩=some (.slice iC bA.length eP):=(aC kU.out 4).trans rfl;have hfz4_0:=ay kU.out 0;have hfz4_1:=ay kU.out 1;have hfz4_2:=ay kU.out 2;have hfz4_3:=ay kU.out 3;have hfz4_4:=ay kU.out 4))
  go_loopg [3,12] k (fun kq v3 v12 w'=>∃(nT:Bt) (gL:Int),v3=.string nT∧v12=.int .i64 gL∧ak (dY.l0 kq nT bA (bA.length:Int) gL=some r)∧ak (kq≤k)∧ak (w'.heap[rG]?=some (.cells #[.int .i64 dO,.int .i64 dz,.string bV,.string dL,(.slice iC bA.length eP)] 34 (0,0)))∧ak (Below w.heap.size w w'))
  case atStart=>exact⟨((⟨#[60]⟩:Bt)++bV),(0),q'c,q'c,H',⟨Nat.le_refl _⟩,⟨by(with_reducible repeat(first|refine aT ?_ _|refine aY ?_ |refine aU ?_ _));exact kU.out⟩,⟨bs CJ.out⟩⟩
  case round=>
   clear H'
   try clear c1
   try clear c2
   try clear Di
   try clear c2b1
   try clear c2b2
   try clear p2
   try clear hcz4_0
   try clear hcz4_1
   try clear hcz4_2
   try clear hcz4_3
   try clear hcz4_4
   try clear hfz4_0
   try clear hfz4_1
   try clear hfz4_2
   try clear hfz4_3
   try clear hfz4_4
   obtain⟨nT,gL,rfl,rfl,HA,HK1,kU,HB⟩:=hrel;cases gk with
   |zero=>exact absurd HA.out (by simp[dY.l0])
   |succ k1=>
    have H:=HA.out;clear HA;simp only[dY.l0]at H
    by_cases c5:gL<(bA.length:Int)
    ·rw[if_pos c5]at H
     have uJ:decide (gL<(bA.length:Int))=true:=decide_eq_true c5;clear c5
     by_cases c6:0≤gL
     ·rw[if_pos c6]at H
      have zL:decide (0≤gL)=true:=decide_eq_true c6;clear c6
      by_cases c7:gL<(bA.length:Int)
      ·rw[if_pos c7]at H
       have c7b0:decide (gL<(bA.length:Int))=true:=decide_eq_true c7;clear c7
       by_cases c8:1+((bq bA gL).f0).size≤9223372036854775807
       ·rw[if_pos c8]at H
        have xU:=eq_true c8;have c8b1:decide (1+((bq bA gL).f0).size≤9223372036854775807)=true:=decide_eq_true c8
        try have c8b2:(9223372036854775807<1+((bq bA gL).f0).size)=False:=eq_false (Nat.not_lt.2 c8)
        by_cases c9:((⟨#[32]⟩:Bt)++((bq bA gL).f0)).size+2≤9223372036854775807
        ·rw[if_pos c9]at H
         have c9b0:=eq_true c9;have c9b1:decide (((⟨#[32]⟩:Bt)++((bq bA gL).f0)).size+2≤9223372036854775807)=true:=decide_eq_true c9
         try have c9b2:(9223372036854775807<((⟨#[32]⟩:Bt)++((bq bA gL).f0)).size+2)=False:=eq_false (Nat.not_lt.2 c9)
         try have c9b3:=c9b2
         try simp only[ByteArray.size_append,(show∀a:UInt8,(ByteArray.mk #[a]).size=1 from fun _=>rfl),(show∀a b:UInt8,(ByteArray.mk #[a,b]).size=2 from fun _ _=>rfl),(show∀a b c:UInt8,(ByteArray.mk #[a,b,c]).size=3 from fun _ _ _=>rfl),(show∀a b c d:UInt8,(ByteArray.mk #[a,b,c,d]).size=4 from fun _ _ _ _=>rfl),(show∀a b c d e:UInt8,(ByteArray.mk #[a,b,c,d,e]).size=5 from fun _ _ _ _ _=>rfl),(show∀a b c d e f:UInt8,(ByteArray.mk #[a,b,c,d,e,f]).size=6 from fun _ _ _ _ _ _=>rfl)]at c9b3
         replace H:=Option.bind_eq_some_iff.mp H;obtain⟨uO,A100,H⟩:=H;replace H:(if(((⟨#[32]⟩:Bt)++((bq bA gL).f0))++(⟨#[61,34]⟩:Bt)).size+uO.size≤9223372036854775807 then(if((((⟨#[32]⟩:Bt)++((bq bA gL).f0))++(⟨#[61,34]⟩:Bt))++uO).size+1≤9223372036854775807 then(if nT.size+(((((⟨#[32]⟩:Bt)++((bq bA gL).f0))++(⟨#[61,34]⟩:Bt))++uO)++(⟨#[34]⟩:Bt)).size≤9223372036854775807 then(dY.l0 k1 (nT++(((((⟨#[32]⟩:Bt)++((bq bA gL).f0))++(⟨#[61,34]⟩:Bt))++uO)++(⟨#[34]⟩:Bt))) bA (bA.length:Int) (wrap64 (gL+1)))else(none))else(none))else(none))=some r:=H;have A10:=ak.mk A100;clear A100
         by_cases c11:(((⟨#[32]⟩:Bt)++((bq bA gL).f0))++(⟨#[61,34]⟩:Bt)).size+uO.size≤9223372036854775807
         ·rw[if_pos c11]at H
          have c11b0:=eq_true c11;have c11b1:decide ((((⟨#[32]⟩:Bt)++((bq bA gL).f0))++(⟨#[61,34]⟩:Bt)).size+uO.size≤9223372036854775807)=true:=decide_eq_true c11
          try have c11b2:(9223372036854775807<(((⟨#[32]⟩:Bt)++((bq bA gL).f0))++(⟨#[61,34]⟩:Bt)).size+uO.size)=False:=eq_false (Nat.not_lt.2 c11)
          try have c11b3:=c11b2
          try simp only[ByteArray.size_append,(show∀a:UInt8,(ByteArray.mk #[a]).size=1 from fun _=>rfl),(show∀a b:UInt8,(ByteArray.mk #[a,b]).size=2 from fun _ _=>rfl),(show∀a b c:UInt8,(ByteArray.mk #[a,b,c]).size=3 from fun _ _ _=>rfl),(show∀a b c d:UInt8,(ByteArray.mk #[a,b,c,d]).size=4 from fun _ _ _ _=>rfl),(show∀a b c d e:UInt8,(ByteArray.mk #[a,b,c,d,e]).size=5 from fun _ _ _ _ _=>rfl),(show∀a b c d e f:UInt8,(ByteArray.mk #[a,b,c,d,e,f]).size=6 from fun _ _ _ _ _ _=>rfl)]at c11b3
          by_cases c12:((((⟨#[32]⟩:Bt)++((bq bA gL).f0))++(⟨#[61,34]⟩:Bt))++uO).size+1≤9223372036854775807
          ·rw[if_pos c12]at H
           have AJ:=eq_true c12;have Ld:decide (((((⟨#[32]⟩:Bt)++((bq bA gL).f0))++(⟨#[61,34]⟩:Bt))++uO).size+1≤9223372036854775807)=true:=decide_eq_true c12
           try have c12b2:(9223372036854775807<((((⟨#[32]⟩:Bt)++((bq bA gL).f0))++(⟨#[61,34]⟩:Bt))++uO).size+1)=False:=eq_false (Nat.not_lt.2 c12)
           try have c12b3:=c12b2
           try simp only[ByteArray.size_append,(show∀a:UInt8,(ByteArray.mk #[a]).size=1 from fun _=>rfl),(show∀a b:UInt8,(ByteArray.mk #[a,b]).size=2 from fun _ _=>rfl),(show∀a b c:UInt8,(ByteArray.mk #[a,b,c]).size=3 from fun _ _ _=>rfl),(show∀a b c d:UInt8,(ByteArray.mk #[a,b,c,d]).size=4 from fun _ _ _ _=>rfl),(show∀a b c d e:UInt8,(ByteArray.mk #[a,b,c,d,e]).size=5 from fun _ _ _ _ _=>rfl),(show∀a b c d e f:UInt8,(ByteArray.mk #[a,b,c,d,e,f]).size=6 from fun _ _ _ _ _ _=>rfl)]at c12b3
           by_cases c13:nT.size+(((((⟨#[32]⟩:Bt)++((bq bA gL).f0))++(⟨#[61,34]⟩:Bt))++uO)++(⟨#[34]⟩:Bt)).size≤9223372036854775807
           ·rw[if_pos c13]at H
            have uH:=eq_true c13;have EA:decide (nT.size+(((((⟨#[32]⟩:Bt)++((bq bA gL).f0))++(⟨#[61,34]⟩:Bt))++uO)++(⟨#[34]⟩:Bt)).size≤9223372036854775807)=true:=decide_eq_true c13
            try have c13b2:(9223372036854775807<nT.size+(((((⟨#[32]⟩:Bt)++((bq bA gL).f0))++(⟨#[61,34]⟩:Bt))++uO)++(⟨#[34]⟩:Bt)).size)=False:=eq_false (Nat.not_lt.2 c13)
            try have c13b3:=c13b2
            try simp only[ByteArray.size_append,(show∀a:UInt8,(ByteArray.mk #[a]).size=1 from fun _=>rfl),(show∀a b:UInt8,(ByteArray.mk #[a,b]).size=2 from fun _ _=>rfl),(show∀a b c:UInt8,(ByteArray.mk #[a,b,c]).size=3 from fun _ _ _=>rfl),(show∀a b c d:UInt8,(ByteArray.mk #[a,b,c,d]).size=4 from fun _ _ _ _=>rfl),(show∀a b c d e:UInt8,(ByteArray.mk #[a,b,c,d,e]).size=5 from fun _ _ _ _ _=>rfl),(show∀a b c d e f:UInt8,(ByteArray.mk #[a,b,c,d,e,f]).size=6 from fun _ _ _ _ _ _=>rfl)]at c13b3
            have H':=ak.mk H;clear H;have p587:0≤(gL:Int):=q'b;have q587:gL<(bA.length:Int):=q'b;obtain⟨Lf,e587,Jm,Jo⟩:=lY xY.out gL p587 q587;cases e587;replace Jm:=(HB.out.cell (World.block_lt_of_cell? w _ Jm)).trans Jm;replace Jo:=(HB.out.cell (World.block_lt_of_cell? w _ Jo)).trans Jo;replace p587:=eq_true p587;replace q587:=eq_true q587
            try go_wp2_with(first|((with_reducible refine cO (N:=5) rfl ?_);refine eH ?hg (N:=5) ?hd (cs:=#[.string (⟨#[]⟩:Bt),.string (⟨#[]⟩:Bt)]) (t:=36) ?hr ?_;(case hd=>rfl);(case hg=>rfl);(case hr=>first|(go_simp;done)|(go_simp;rfl));intro o7 hg w14 fP hb;have o8:=ak.mk (fP);have GW588:=ak.mk ((by rw[hg];exact(aR (bs CJ.out)):w.heap.size≤o7));have GE588:=ak.mk ((by rw[hg];exact(aR (bs CJ.out)):w.heap.size≤o7));have Cc:=ak.mk ((by rw[hg];exact Nat.ne_of_lt (gZ (g:=rG) (o:=.cells #[.int .i64 dO,.int .i64 dz,.string bV,.string dL,.slice (some Lf) bA.length eP] 34 (0,0)) (kz kU.out)):rG≠o7));have Rb:=ak.mk ((by rw[hg];exact Nat.ne_of_gt (gZ (g:=rG) (o:=.cells #[.int .i64 dO,.int .i64 dz,.string bV,.string dL,.slice (some Lf) bA.length eP] 34 (0,0)) (kz kU.out)):o7≠rG));replace kU:=ak.mk (dK (g:=rG) (o:=.cells #[.int .i64 dO,.int .i64 dz,.string bV,.string dL,.slice (some Lf) bA.length eP] 34 (0,0)) (kz kU.out) hb);replace HB:=ak.mk (aG (bs CJ.out) hb);clear hb fP hg;have hnb15:=Rb.out;have hnc15:=Cc.out;have wG:w14.cell? ⟨o7,0,none⟩=some (.string (⟨#[]⟩:Bt)):=(aC o8.out 0).trans rfl;have wH:w14.cell? ⟨o7,1,none⟩=some (.string (⟨#[]⟩:Bt)):=(aC o8.out 1).trans rfl;have wI:=ay o8.out 0;have wJ:=ay o8.out 1))
            have n0_:ak (((w14.setCell ⟨o7,0,none⟩ (.string ((bq bA gL).f0))).setCell ⟨o7,1,none⟩ (.string ((bq bA gL).f1))).heap[rG]?=some (.cells #[.int .i64 dO,.int .i64 dz,.string bV,.string dL,.slice (some Lf) bA.length eP] 34 (0,0))):=⟨by(with_reducible repeat(first|refine aT ?_ _|refine aY ?_ |refine aU ?_ _));refine mE ?_ Cc.out _;(with_reducible repeat(first|refine aT ?_ _|refine aY ?_ |refine aU ?_ _));refine mE ?_ Cc.out _;(with_reducible repeat(first|refine aT ?_ _|refine aY ?_ |refine aU ?_ _));exact kU.out⟩;have n1_:ak (((w14.setCell ⟨o7,0,none⟩ (.string ((bq bA gL).f0))).setCell ⟨o7,1,none⟩ (.string ((bq bA gL).f1))).heap[o7]?=some (.cells #[.string ((bq bA gL).f0),.string ((bq bA gL).f1)] 36 (0,0))):=⟨by(with_reducible repeat(first|refine aT ?_ _|refine aY ?_ |refine aU ?_ _));refine bU (cs:=#[.string ((bq bA gL).f0),.string (⟨#[]⟩:Bt)]) ?_ 1 _ rfl;(with_reducible repeat(first|refine aT ?_ _|refine aY ?_ |refine aU ?_ _));refine bU (cs:=#[.string (⟨#[]⟩:Bt),.string (⟨#[]⟩:Bt)]) ?_ 0 _ rfl;(with_reducible repeat(first|refine aT ?_ _|refine aY ?_ |refine aU ?_ _));exact o8.out⟩
            have n2_:ak (Below w.heap.size w ((w14.setCell ⟨o7,0,none⟩ (.string ((bq bA gL).f0))).setCell ⟨o7,1,none⟩ (.string ((bq bA gL).f1)))):=⟨by repeat(first|(with_reducible first|exact HB.out|apply bY|apply bE|apply dn|refine aH ?_ CJ.out|refine aH ?_ GE588.out)|exact HB.out)⟩
            (try clear kU)
            (try clear o8)
            (try clear HB)
            generalize ((w14.setCell ⟨o7,0,none⟩ (.string ((bq bA gL).f0))).setCell ⟨o7,1,none⟩ (.string ((bq bA gL).f1)))=w17 at n0_ n1_ n2_⊢;have kU:=n0_;have o8:=n1_;have HB:=n2_;clear n0_ n1_ n2_;replace kU:=ak.mk (aY kU.out);replace o8:=ak.mk (aY o8.out);replace HB:=ak.mk (dn HB.out);refine vE (n:=12) (S:=fun w'=>w'.cell? ⟨o7,0,none⟩=some (.string ((bq bA gL).f0))∧w'.cell? ⟨o7,1,none⟩=some (.string ((bq bA gL).f1))) (ds:=[]) (fl 12 0) (by kernel_rfl) rfl rfl ⟨(aC o8.out 0).trans rfl,(aC o8.out 1).trans rfl⟩ (fun hHeld=>?_);refine Rf dY.tab5 dY.bits5 (fun HT_ HW_=>?_)
            generalize w17.drew=w18 at kU o8 HB hHeld⊢;refine pw 0 16 (fl 12 1) ?_;refine pw 1 17 (fl 12 2) ?_;refine pw 5 21 (fb 12 35) ?_;refine pt 2 18 (fb 12 39) ?_;refine pw 3 19 (fb 12 47) ?_;refine pw 4 20 (fl 12 6) ?_;refine pt 6 22 (fl 12 7) ?_;refine one_ (i:=7) (N:=some 23) (fl 12 8) rfl rfl (one_of HT_.out (by kernel_rfl)) (by decide) (fun K hK=>?_);refine Gl Tryz.func176 (by kernel_rfl) rfl #[.string ((bq bA gL).f1)] (by rfl) rfl rfl q'a ?_
            with_reducible refine(rD.calls ((bq bA gL).f1) uO _ A10.out).mono ?_
            rintro e w19 ⟨rfl,hb⟩;refine⟨_,rfl,?_⟩;replace kU:=ak.mk (dK (g:=rG) (o:=.cells #[.int .i64 dO,.int .i64 dz,.string bV,.string dL,.slice (some Lf) bA.length eP] 34 (0,0)) (kz kU.out) hb);replace o8:=ak.mk (dK (g:=o7) (o:=.cells #[.string ((bq bA gL).f0),.string ((bq bA gL).f1)] 36 (0,0)) (kz o8.out) hb);replace HB:=ak.mk (aG (by repeat(first|(with_reducible first|exact HB.out|apply bY|apply bE|apply dn|refine aH ?_ CJ.out|refine aH ?_ GE588.out)|exact HB.out)) hb)
            (try clear hb)
            (try clear hb2)
            (try clear hk)
            (try clear hi)
            refine hK.out _ _ ⟨(aC o8.out 0).trans rfl,(aC o8.out 1).trans rfl⟩ (fun hHeld=>?_);clear hK K;refine pn ?_;refine pw 8 24 (fl 12 9) ?_;refine pw 9 25 (fl 12 10) ?_;refine pw 10 26 (fl 12 11) ?_;refine pw 11 3 (fl 12 12) ?_;refine Aj (done_of HT_.out (by kernel_rfl)) ?_
            try go_wp2
            go_roundg k1
            case measure=>have:=HK1.out;omega
            case rel=>exact⟨(nT++(((((⟨#[32]⟩:Bt)++((bq bA gL).f0))++(⟨#[61,34]⟩:Bt))++uO)++(⟨#[34]⟩:Bt))),(wrap64 (gL+1)),q'c,q'c,H',⟨by have:=HK1.out;omega⟩,⟨by(with_reducible repeat(first|refine aT ?_ _|refine aY ?_ |refine aU ?_ _));exact kU.out⟩,⟨by repeat(first|(with_reducible first|exact HB.out|apply bY|apply bE|apply dn|refine aH ?_ CJ.out|refine aH ?_ GE588.out)|exact HB.out)⟩⟩
           ·rw[if_neg c13]at H
            exact absurd H (by simp)
          ·rw[if_neg c12]at H
           exact absurd H (by simp)
         ·rw[if_neg c11]at H
          exact absurd H (by simp)
        ·rw[if_neg c9]at H
         exact absurd H (by simp)
       ·rw[if_neg c8]at H
        exact absurd H (by simp)
      ·rw[if_neg c7]at H
       exact absurd H (by simp)
     ·rw[if_neg c6]at H
      exact absurd H (by simp)
    ·rw[if_neg c5]at H
     have uJ:decide (gL<(bA.length:Int))=false:=decide_eq_false c5;clear c5
     by_cases c20:nT.size+1≤9223372036854775807
     ·rw[if_pos c20]at H
      have c20b0:=eq_true c20;have c20b1:decide (nT.size+1≤9223372036854775807)=true:=decide_eq_true c20
      try have c20b2:(9223372036854775807<nT.size+1)=False:=eq_false (Nat.not_lt.2 c20)
      obtain rfl:=Option.some.inj H;go_wp2;go_ret;exact⟨by first|rfl|(simp[aJ,aM]<;>rfl)|(simp[*,aJ,aM]<;>rfl),bs CJ.out⟩
     ·rw[if_neg c20]at H
      exact absurd H (by simp)
 ·rw[if_neg c2]at H
  exact absurd H (by simp)
def kY.f(k:Nat)(a0:Bt):Option (Bool):=(bB.f k a0 (([(⟨#[105,102,114,97,109,101]⟩:Bt),(⟨#[110,111,101,109,98,101,100]⟩:Bt),(⟨#[110,111,102,114,97,109,101,115]⟩:Bt),(⟨#[115,99,114,105,112,116]⟩:Bt),(⟨#[115,116,121,108,101]⟩:Bt),(⟨#[120,109,112]⟩:Bt)] :List Bt))).bind fun t372=>(some t372)
theorem kY.calls(k:Nat)(a0:Bt)(r:Bool)(w:World)(h:kY.f k a0=some r):
 Calls Tryz.prog 32 #[.string a0] w fun e w'=>e=.returned (.bool r)∧Below w.heap.size w w':=by
 have HB:=ak.mk (Below.refl w.heap.size w);have H:((bB.f k a0 (([(⟨#[105,102,114,97,109,101]⟩:Bt),(⟨#[110,111,101,109,98,101,100]⟩:Bt),(⟨#[110,111,102,114,97,109,101,115]⟩:Bt),(⟨#[115,99,114,105,112,116]⟩:Bt),(⟨#[115,116,121,108,101]⟩:Bt),(⟨#[120,109,112]⟩:Bt)] :List Bt))).bind fun t372=>(some t372))=some r:=h;clear h;obtain⟨y369,Lb⟩:∃y_:List Bt,y_=(([(⟨#[105,102,114,97,109,101]⟩:Bt),(⟨#[110,111,101,109,98,101,100]⟩:Bt),(⟨#[110,111,102,114,97,109,101,115]⟩:Bt),(⟨#[115,99,114,105,112,116]⟩:Bt),(⟨#[115,116,121,108,101]⟩:Bt),(⟨#[120,109,112]⟩:Bt)] :List Bt)):=⟨_,rfl⟩
 replace H:((bB.f k a0 y369).bind fun t372=>(some t372))=some r:=by first|(rw[Lb];with_reducible exact H)|(have H2_:=(Option.bind_some _ _).symm.trans H;rw[Lb];with_reducible exact H2_)|(have H2_:=(Option.bind_some _ _).symm.trans H;with_reducible exact H2_)|with_reducible exact H|(rw[Lb];exact H)|exact H
 have Ny369:=ak.mk Lb;clear Lb;replace H:=Option.bind_eq_some_iff.mp H;obtain⟨t372,A20,H⟩:=H;replace H:(some t372)=some r:=H;have A2:=ak.mk A20;clear A20;obtain rfl:=Option.some.inj H;go_enter Tryz.func32,Tryz.ntmps32
 go_wp2_with(first|((with_reducible refine cO (N:=4) rfl ?_);refine Kd.jR Kd.string _ 9 ?hg (N:=4) ?hd (xs:=([(⟨#[105,102,114,97,109,101]⟩:Bt),(⟨#[110,111,101,109,98,101,100]⟩:Bt),(⟨#[110,111,102,114,97,109,101,115]⟩:Bt),(⟨#[115,99,114,105,112,116]⟩:Bt),(⟨#[115,116,121,108,101]⟩:Bt),(⟨#[120,109,112]⟩:Bt)] :List Bt)) (inner:=[.string (⟨#[105,102,114,97,109,101]⟩:Bt),.string (⟨#[110,111,101,109,98,101,100]⟩:Bt),.string (⟨#[110,111,102,114,97,109,101,115]⟩:Bt),.string (⟨#[115,99,114,105,112,116]⟩:Bt),.string (⟨#[115,116,121,108,101]⟩:Bt),.string (⟨#[120,109,112]⟩:Bt)]) (ok:=fun _=>True) (okp:=fun _=>True) ?hr ?hp (fun _ hk=>hk) trivial (Below.refl _ _) (Nat.le_refl _) (by simp) ?_;(case hd=>rfl);(case hg=>rfl);(case hr=>first|(go_simp;done)|(go_simp;rfl));(case hp=>exact(bM.one (show Kd.M Kd.string _ _ _ (⟨#[105,102,114,97,109,101]⟩:Bt) [.string (⟨#[105,102,114,97,109,101]⟩:Bt)]from rfl) (bM.one (show Kd.M Kd.string _ _ _ (⟨#[110,111,101,109,98,101,100]⟩:Bt) [.string (⟨#[110,111,101,109,98,101,100]⟩:Bt)]from rfl) (bM.one (show Kd.M Kd.string _ _ _ (⟨#[110,111,102,114,97,109,101,115]⟩:Bt) [.string (⟨#[110,111,102,114,97,109,101,115]⟩:Bt)]from rfl) (bM.one (show Kd.M Kd.string _ _ _ (⟨#[115,99,114,105,112,116]⟩:Bt) [.string (⟨#[115,99,114,105,112,116]⟩:Bt)]from rfl) (bM.one (show Kd.M Kd.string _ _ _ (⟨#[115,116,121,108,101]⟩:Bt) [.string (⟨#[115,116,121,108,101]⟩:Bt)]from rfl) (bM.one (show Kd.M Kd.string _ _ _ (⟨#[120,109,112]⟩:Bt) [.string (⟨#[120,109,112]⟩:Bt)]from rfl) (bM.none _ _))))))));intro v370 w3 ho4 hb hg_ fJ;clear hg_ fJ;(first|rw[←Ny369.out]at ho4|(simp only[Int.reduceToNat]at ho4;rw[←Ny369.out]at ho4));have HO371:=ak.mk (Kd.eB ho4 (aR bz));replace HB:=ak.mk (aG bz hb);clear hb ho4;obtain⟨Ao5,co5,eo5⟩:=Kd.dI HO371.out;subst eo5)|((with_reducible refine aZ (f:=81) rfl ?_);refine dJ (some 5) rfl rfl Tryz.func81 (by kernel_rfl) rfl #[.string a0,.slice Ao5 y369.length co5] rfl q'a ?_;(with_reducible refine(bB.calls k a0 _ _ y369 t372 _ ?cZ ?dH A2.out).mono ?_);(case cZ=>exact cz (Kd.bK HO371.out).2.2);(case dH=>exact(Kd.bK HO371.out).2.1);rintro e w' ⟨rfl,⟨nd,rfl⟩⟩;refine⟨_,rfl,?_⟩))
 go_ret;exact⟨by first|rfl|(simp[aJ,aM]<;>rfl)|(simp[*,aJ,aM]<;>rfl),bz⟩
end Go.Proofs.aj.W7
