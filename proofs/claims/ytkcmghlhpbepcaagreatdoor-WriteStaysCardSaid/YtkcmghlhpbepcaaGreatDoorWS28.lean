/- Lemmas and walks, part 28. -/
import Derived.Shelf.Unicode.ValidAny
import Derived.Test.YtkcmghlhpbepcaaGreatDoorWS27
set_option linter.unusedVariables false
set_option linter.unusedSimpArgs false
set_option maxHeartbeats 8000000
set_option maxRecDepth 100000
namespace Go.Proofs.YtkcmghlhpbepcaaGreatDoor
open Go.RowKit Go.Proofs
def RU:Go.Shelf.Ren:=⟨fun|196=>139|259=>177|n=>n,fun|0=>0|3=>3|4=>4|5=>5|9=>9|12=>12|46=>140|53=>160|119=>136|138=>138|139=>139|n=>n,fun|3=>0|4=>1|n=>n⟩
theorem FE:Go.Proofs.Lays.n196 Tryz.prog RU:={
 mixed:=by kernel_rfl
 f196:=Tryz.func139.trans (congrArg some (by kernel_rfl))
 f259:=Tryz.func177.trans (congrArg some (by kernel_rfl))
 t0:=Tryz.underlying0
 a0:=Tryz.isAgg0
 z0:=Tryz.sizeOf0
 v0:=Tryz.zeroValue0
 t3:=Tryz.underlying3
 a3:=Tryz.isAgg3
 z3:=Tryz.sizeOf3
 v3:=Tryz.zeroValue3
 t4:=Tryz.underlying4
 a4:=Tryz.isAgg4
 z4:=Tryz.sizeOf4
 v4:=Tryz.zeroValue4
 t5:=Tryz.underlying5
 a5:=Tryz.isAgg5
 z5:=Tryz.sizeOf5
 v5:=Tryz.zeroValue5
 t9:=Tryz.underlying9
 a9:=Tryz.isAgg9
 z9:=Tryz.sizeOf9
 v9:=Tryz.zeroValue9
 t12:=Tryz.underlying12
 a12:=Tryz.isAgg12
 z12:=Tryz.sizeOf12
 v12:=Tryz.zeroValue12
 t46:=Tryz.underlying140
 a46:=Tryz.isAgg140
 z46:=Tryz.sizeOf140
 v46:=Tryz.zeroValue140
 t53:=Tryz.underlying160
 a53:=Tryz.isAgg160
 z53:=Tryz.sizeOf160
 v53:=Tryz.zeroValue160
 t119:=Tryz.underlying136
 a119:=Tryz.isAgg136
 z119:=Tryz.sizeOf136
 t138:=Tryz.underlying138
 a138:=Tryz.isAgg138
 z138:=Tryz.sizeOf138
 v138:=Tryz.zeroValue138
 t139:=Tryz.underlying139
 a139:=Tryz.isAgg139
 z139:=Tryz.sizeOf139
 v139:=Tryz.zeroValue139
 g3:=by kernel_rfl
 g4:=by kernel_rfl }
theorem valid_c(s:Bt)(w:World)(hs:s.size≤9223372036854775807)(hT:Lib.Utf8Tabs 0 1 w):
 Calls Tryz.prog 139 #[.string s] w fun e w'=>e=.returned (.bool (Lib.validD s.data.toList))∧Below w.heap.size w w':=Any.utf8_ValidString FE s w hs hT
end Go.Proofs.YtkcmghlhpbepcaaGreatDoor
namespace Go.Proofs.YtkcmghlhpbepcaaGreatDoor
abbrev ED:=Std
theorem ED.below{w w':Go.World}(h:ED w)(hb:Go.RowKit.Below w.heap.size w w'):ED w':=Std.below h hb
end Go.Proofs.YtkcmghlhpbepcaaGreatDoor
namespace Go.Proofs.aj.W7
open Go.RowKit Go.Proofs.ah.aD Go.Proofs.ah.bG Go.Proofs.ah.bR
attribute [local go_sem] dD dF dV dW bU bV dG dH
def d9.l0:Nat→Bt→List (S36)→Int→Int→Option (Bt)
 |0,_,_,_,_=>none
 |k+1,x3,x10,x11,x12=>if x12<x11 then(if 0≤x12 then(if x12<(x10.length:Int)then(if 1+((bg x10 x12).f0).size≤9223372036854775807 then(if((⟨#[32]⟩:Bt)++((bg x10 x12).f0)).size+2≤9223372036854775807 then((rE.f ((bg x10 x12).f1)).bind fun uy=>(if(((⟨#[32]⟩:Bt)++((bg x10 x12).f0))++(⟨#[61,34]⟩:Bt)).size+uy.size≤9223372036854775807 then(if((((⟨#[32]⟩:Bt)++((bg x10 x12).f0))++(⟨#[61,34]⟩:Bt))++uy).size+1≤9223372036854775807 then(if x3.size+(((((⟨#[32]⟩:Bt)++((bg x10 x12).f0))++(⟨#[61,34]⟩:Bt))++uy)++(⟨#[34]⟩:Bt)).size≤9223372036854775807 then(d9.l0 k (x3++(((((⟨#[32]⟩:Bt)++((bg x10 x12).f0))++(⟨#[61,34]⟩:Bt))++uy)++(⟨#[34]⟩:Bt))) x10 x11 (wrap64 (x12+1)))else(none))else(none))else(none)))else(none))else(none))else(none))else(none))else(if x3.size+1≤9223372036854775807 then(some (x3++(⟨#[62]⟩:Bt)))else(none))
def d9.f(k:Nat)(dP dw:Int)(bQ dM:Bt)(bA:List (S36)):Option (Bt):=if 1+bQ.size≤9223372036854775807 then(d9.l0 k ((⟨#[60]⟩:Bt)++bQ) bA (bA.length:Int) 0)else(none)
def d9.T5:Bool×List (List Nat×List Nat):=(true,[([],[]),([],[]),([1],[1]),([2],[2]),([3],[3]),([],[]),([5],[5]),([6],[6]),([4,7],[4,7]),([8],[8]),([0,9],[0,9]),([10,7,0,1,2,3,4,5,6,7,8,9,10],[0,10])])
def d9.B5:List Nat:=[0,0,2,6,14,0,32,96,254,510,1023,2047]
theorem d9.tab5:sZ .any (opsOf Tryz.f137 5)=d9.T5:=by kernel_rfl
theorem d9.bits5:AP d9.T5.2 d9.B5=true:=by kernel_rfl
theorem d9.calls(k:Nat)(dP dw:Int)(bQ dM:Bt)(iD:Option Addr)(eX:Nat)(bA:List (S36))(r:Bt)(w:World)(xS:Kd.C k36 w iD bA.length bA)(xU:bA.length≤eX)(h:d9.f k dP dw bQ dM bA=some r):
 Calls Tryz.prog 137 #[.agg #[.int .i64 dP,.int .i64 dw,.string bQ,.string dM,.slice iD bA.length eX]] w fun e w'=>e=.returned (.string r)∧Below w.heap.size w w':=by
 have hu34:=Tryz.underlying34;have hu36:=Tryz.underlying36;have xV:=ak.mk xS;have LG:=ak.mk xU;clear xS xU;have HB:=ak.mk (Below.refl w.heap.size w);have H:(if 1+bQ.size≤9223372036854775807 then(d9.l0 k ((⟨#[60]⟩:Bt)++bQ) bA (bA.length:Int) 0)else(none))=some r:=h;clear h
 by_cases c2:1+bQ.size≤9223372036854775807
 ·rw[if_pos c2]at H
  have Dz:=eq_true c2;have c2b1:decide (1+bQ.size≤9223372036854775807)=true:=decide_eq_true c2
  try have c2b2:(9223372036854775807<1+bQ.size)=False:=eq_false (Nat.not_lt.2 c2)
  have H':=ak.mk H;clear H;go_enter Tryz.func137,Tryz.ntmps137
  go_wp2_with(first|((with_reducible refine cu (N:=1) rfl ?_);refine eT ?hg (N:=1) ?hd (cs:=#[.int .i64 dP,.int .i64 dw,.string bQ,.string dM,.slice iD bA.length eX]) (t:=34) ?hr ?_;(case hd=>rfl);(case hg=>rfl);(case hr=>first|(go_simp;done)|(go_simp;rfl));intro rH hg w3 fU hb;have kX:=ak.mk (fU);have GW586:=ak.mk ((by rw[hg];exact(aU bz):w.heap.size≤rH));have Df:=ak.mk ((by rw[hg];exact(aU bz):w.heap.size≤rH));replace HB:=ak.mk (aG bz hb);clear hb fU hg;have hcz4_0:w3.cell? ⟨rH,0,none⟩=some (.int .i64 dP):=(aC kX.out 0).trans rfl;have hcz4_1:w3.cell? ⟨rH,1,none⟩=some (.int .i64 dw):=(aC kX.out 1).trans rfl;have hcz4_2:w3.cell? ⟨rH,2,none⟩=some (.string bQ):=(aC kX.out 2).trans rfl;have hcz4_3:w3.cell? ⟨rH,3,none⟩=some (.string dM):=(aC kX.out 3).trans rfl;have hcz4_4:w3.cell? ⟨rH,4,none⟩=some (.slice iD bA.length eX):=(aC kX.out 4).trans rfl;have hfz4_0:=ay kX.out 0;have hfz4_1:=ay kX.out 1;have hfz4_2:=ay kX.out 2;have hfz4_3:=ay kX.out 3;have hfz4_4:=ay kX.out 4))
  go_loopg [3,12] k (fun kq v3 v12 w'=>∃(wL:Bt) (gK:Int),v3=.string wL∧v12=.int .i64 gK∧ak (d9.l0 kq wL bA (bA.length:Int) gK=some r)∧ak (kq≤k)∧ak (w'.heap[rH]?=some (.cells #[.int .i64 dP,.int .i64 dw,.string bQ,.string dM,(.slice iD bA.length eX)] 34 (0,0)))∧ak (Below w.heap.size w w'))
  case atStart=>exact⟨((⟨#[60]⟩:Bt)++bQ),(0),q'c,q'c,H',⟨Nat.le_refl _⟩,⟨by(with_reducible repeat(first|refine aV ?_ _|refine aY ?_ |refine aW ?_ _));exact kX.out⟩,⟨bs Df.out⟩⟩
  case round=>
   clear H'
   try clear c1
   try clear c2
   try clear Dz
   try clear c2b1
   try clear c2b2
   try clear p2
   try clear hcz4_0
   try clear hcz4_1
   try clear hcz4_2
   try clear hcz4_3
   try clear hcz4_4
   try clear hfz4_0
   try clear hfz4_1
   try clear hfz4_2
   try clear hfz4_3
   try clear hfz4_4
   obtain⟨wL,gK,rfl,rfl,HA,HK1,kX,HB⟩:=hrel;cases gk with
   |zero=>exact absurd HA.out (by simp[d9.l0])
   |succ k1=>
    have H:=HA.out;clear HA;simp only[d9.l0]at H
    by_cases c5:gK<(bA.length:Int)
    ·rw[if_pos c5]at H
     have xD:decide (gK<(bA.length:Int))=true:=decide_eq_true c5;clear c5
     by_cases c6:0≤gK
     ·rw[if_pos c6]at H
      have AA:decide (0≤gK)=true:=decide_eq_true c6;clear c6
      by_cases c7:gK<(bA.length:Int)
      ·rw[if_pos c7]at H
       have c7b0:decide (gK<(bA.length:Int))=true:=decide_eq_true c7;clear c7
       by_cases c8:1+((bg bA gK).f0).size≤9223372036854775807
       ·rw[if_pos c8]at H
        have zh:=eq_true c8;have c8b1:decide (1+((bg bA gK).f0).size≤9223372036854775807)=true:=decide_eq_true c8
        try have c8b2:(9223372036854775807<1+((bg bA gK).f0).size)=False:=eq_false (Nat.not_lt.2 c8)
        by_cases c9:((⟨#[32]⟩:Bt)++((bg bA gK).f0)).size+2≤9223372036854775807
        ·rw[if_pos c9]at H
         have c9b0:=eq_true c9;have c9b1:decide (((⟨#[32]⟩:Bt)++((bg bA gK).f0)).size+2≤9223372036854775807)=true:=decide_eq_true c9
         try have c9b2:(9223372036854775807<((⟨#[32]⟩:Bt)++((bg bA gK).f0)).size+2)=False:=eq_false (Nat.not_lt.2 c9)
         try have c9b3:=c9b2
         try simp only[ByteArray.size_append,(show∀a:UInt8,(ByteArray.mk #[a]).size=1 from fun _=>rfl),(show∀a b:UInt8,(ByteArray.mk #[a,b]).size=2 from fun _ _=>rfl),(show∀a b c:UInt8,(ByteArray.mk #[a,b,c]).size=3 from fun _ _ _=>rfl),(show∀a b c d:UInt8,(ByteArray.mk #[a,b,c,d]).size=4 from fun _ _ _ _=>rfl),(show∀a b c d e:UInt8,(ByteArray.mk #[a,b,c,d,e]).size=5 from fun _ _ _ _ _=>rfl),(show∀a b c d e f:UInt8,(ByteArray.mk #[a,b,c,d,e,f]).size=6 from fun _ _ _ _ _ _=>rfl)]at c9b3
         replace H:=Option.bind_eq_some_iff.mp H;obtain⟨uy,A100,H⟩:=H;replace H:(if(((⟨#[32]⟩:Bt)++((bg bA gK).f0))++(⟨#[61,34]⟩:Bt)).size+uy.size≤9223372036854775807 then(if((((⟨#[32]⟩:Bt)++((bg bA gK).f0))++(⟨#[61,34]⟩:Bt))++uy).size+1≤9223372036854775807 then(if wL.size+(((((⟨#[32]⟩:Bt)++((bg bA gK).f0))++(⟨#[61,34]⟩:Bt))++uy)++(⟨#[34]⟩:Bt)).size≤9223372036854775807 then(d9.l0 k1 (wL++(((((⟨#[32]⟩:Bt)++((bg bA gK).f0))++(⟨#[61,34]⟩:Bt))++uy)++(⟨#[34]⟩:Bt))) bA (bA.length:Int) (wrap64 (gK+1)))else(none))else(none))else(none))=some r:=H;have A10:=ak.mk A100;clear A100
         by_cases c11:(((⟨#[32]⟩:Bt)++((bg bA gK).f0))++(⟨#[61,34]⟩:Bt)).size+uy.size≤9223372036854775807
         ·rw[if_pos c11]at H
          have c11b0:=eq_true c11;have c11b1:decide ((((⟨#[32]⟩:Bt)++((bg bA gK).f0))++(⟨#[61,34]⟩:Bt)).size+uy.size≤9223372036854775807)=true:=decide_eq_true c11
          try have c11b2:(9223372036854775807<(((⟨#[32]⟩:Bt)++((bg bA gK).f0))++(⟨#[61,34]⟩:Bt)).size+uy.size)=False:=eq_false (Nat.not_lt.2 c11)
          try have c11b3:=c11b2
          try simp only[ByteArray.size_append,(show∀a:UInt8,(ByteArray.mk #[a]).size=1 from fun _=>rfl),(show∀a b:UInt8,(ByteArray.mk #[a,b]).size=2 from fun _ _=>rfl),(show∀a b c:UInt8,(ByteArray.mk #[a,b,c]).size=3 from fun _ _ _=>rfl),(show∀a b c d:UInt8,(ByteArray.mk #[a,b,c,d]).size=4 from fun _ _ _ _=>rfl),(show∀a b c d e:UInt8,(ByteArray.mk #[a,b,c,d,e]).size=5 from fun _ _ _ _ _=>rfl),(show∀a b c d e f:UInt8,(ByteArray.mk #[a,b,c,d,e,f]).size=6 from fun _ _ _ _ _ _=>rfl)]at c11b3
          by_cases c12:((((⟨#[32]⟩:Bt)++((bg bA gK).f0))++(⟨#[61,34]⟩:Bt))++uy).size+1≤9223372036854775807
          ·rw[if_pos c12]at H
           have AL:=eq_true c12;have LM:decide (((((⟨#[32]⟩:Bt)++((bg bA gK).f0))++(⟨#[61,34]⟩:Bt))++uy).size+1≤9223372036854775807)=true:=decide_eq_true c12
           try have c12b2:(9223372036854775807<((((⟨#[32]⟩:Bt)++((bg bA gK).f0))++(⟨#[61,34]⟩:Bt))++uy).size+1)=False:=eq_false (Nat.not_lt.2 c12)
           try have c12b3:=c12b2
           try simp only[ByteArray.size_append,(show∀a:UInt8,(ByteArray.mk #[a]).size=1 from fun _=>rfl),(show∀a b:UInt8,(ByteArray.mk #[a,b]).size=2 from fun _ _=>rfl),(show∀a b c:UInt8,(ByteArray.mk #[a,b,c]).size=3 from fun _ _ _=>rfl),(show∀a b c d:UInt8,(ByteArray.mk #[a,b,c,d]).size=4 from fun _ _ _ _=>rfl),(show∀a b c d e:UInt8,(ByteArray.mk #[a,b,c,d,e]).size=5 from fun _ _ _ _ _=>rfl),(show∀a b c d e f:UInt8,(ByteArray.mk #[a,b,c,d,e,f]).size=6 from fun _ _ _ _ _ _=>rfl)]at c12b3
           by_cases c13:wL.size+(((((⟨#[32]⟩:Bt)++((bg bA gK).f0))++(⟨#[61,34]⟩:Bt))++uy)++(⟨#[34]⟩:Bt)).size≤9223372036854775807
           ·rw[if_pos c13]at H
            have uh:=eq_true c13;have EL:decide (wL.size+(((((⟨#[32]⟩:Bt)++((bg bA gK).f0))++(⟨#[61,34]⟩:Bt))++uy)++(⟨#[34]⟩:Bt)).size≤9223372036854775807)=true:=decide_eq_true c13
            try have c13b2:(9223372036854775807<wL.size+(((((⟨#[32]⟩:Bt)++((bg bA gK).f0))++(⟨#[61,34]⟩:Bt))++uy)++(⟨#[34]⟩:Bt)).size)=False:=eq_false (Nat.not_lt.2 c13)
            try have c13b3:=c13b2
            try simp only[ByteArray.size_append,(show∀a:UInt8,(ByteArray.mk #[a]).size=1 from fun _=>rfl),(show∀a b:UInt8,(ByteArray.mk #[a,b]).size=2 from fun _ _=>rfl),(show∀a b c:UInt8,(ByteArray.mk #[a,b,c]).size=3 from fun _ _ _=>rfl),(show∀a b c d:UInt8,(ByteArray.mk #[a,b,c,d]).size=4 from fun _ _ _ _=>rfl),(show∀a b c d e:UInt8,(ByteArray.mk #[a,b,c,d,e]).size=5 from fun _ _ _ _ _=>rfl),(show∀a b c d e f:UInt8,(ByteArray.mk #[a,b,c,d,e,f]).size=6 from fun _ _ _ _ _ _=>rfl)]at c13b3
            have H':=ak.mk H;clear H;have p587:0≤(gK:Int):=q'b;have q587:gK<(bA.length:Int):=q'b;obtain⟨LQ,e587,JR,JU⟩:=l7 xV.out gK p587 q587;cases e587;replace JR:=(HB.out.cell (World.block_lt_of_cell? w _ JR)).trans JR;replace JU:=(HB.out.cell (World.block_lt_of_cell? w _ JU)).trans JU;replace p587:=eq_true p587;replace q587:=eq_true q587
            try go_wp2_with(first|((with_reducible refine cu (N:=5) rfl ?_);refine eT ?hg (N:=5) ?hd (cs:=#[.string (⟨#[]⟩:Bt),.string (⟨#[]⟩:Bt)]) (t:=36) ?hr ?_;(case hd=>rfl);(case hg=>rfl);(case hr=>first|(go_simp;done)|(go_simp;rfl));intro pz hg w14 fU hb;have pE:=ak.mk (fU);have GW588:=ak.mk ((by rw[hg];exact(aU (bs Df.out)):w.heap.size≤pz));have GE588:=ak.mk ((by rw[hg];exact(aU (bs Df.out)):w.heap.size≤pz));have Ct:=ak.mk ((by rw[hg];exact Nat.ne_of_lt (gW (g:=rH) (o:=.cells #[.int .i64 dP,.int .i64 dw,.string bQ,.string dM,.slice (some LQ) bA.length eX] 34 (0,0)) (kz kX.out)):rH≠pz));have Ry:=ak.mk ((by rw[hg];exact Nat.ne_of_gt (gW (g:=rH) (o:=.cells #[.int .i64 dP,.int .i64 dw,.string bQ,.string dM,.slice (some LQ) bA.length eX] 34 (0,0)) (kz kX.out)):pz≠rH));replace kX:=ak.mk (dI (g:=rH) (o:=.cells #[.int .i64 dP,.int .i64 dw,.string bQ,.string dM,.slice (some LQ) bA.length eX] 34 (0,0)) (kz kX.out) hb);replace HB:=ak.mk (aG (bs Df.out) hb);clear hb fU hg;have hnb15:=Ry.out;have hnc15:=Ct.out;have wF:w14.cell? ⟨pz,0,none⟩=some (.string (⟨#[]⟩:Bt)):=(aC pE.out 0).trans rfl;have wG:w14.cell? ⟨pz,1,none⟩=some (.string (⟨#[]⟩:Bt)):=(aC pE.out 1).trans rfl;have wH:=ay pE.out 0;have wI:=ay pE.out 1))
            have n0_:ak (((w14.setCell ⟨pz,0,none⟩ (.string ((bg bA gK).f0))).setCell ⟨pz,1,none⟩ (.string ((bg bA gK).f1))).heap[rH]?=some (.cells #[.int .i64 dP,.int .i64 dw,.string bQ,.string dM,.slice (some LQ) bA.length eX] 34 (0,0))):=⟨by(with_reducible repeat(first|refine aV ?_ _|refine aY ?_ |refine aW ?_ _));refine mG ?_ Ct.out _;(with_reducible repeat(first|refine aV ?_ _|refine aY ?_ |refine aW ?_ _));refine mG ?_ Ct.out _;(with_reducible repeat(first|refine aV ?_ _|refine aY ?_ |refine aW ?_ _));exact kX.out⟩;have n1_:ak (((w14.setCell ⟨pz,0,none⟩ (.string ((bg bA gK).f0))).setCell ⟨pz,1,none⟩ (.string ((bg bA gK).f1))).heap[pz]?=some (.cells #[.string ((bg bA gK).f0),.string ((bg bA gK).f1)] 36 (0,0))):=⟨by(with_reducible repeat(first|refine aV ?_ _|refine aY ?_ |refine aW ?_ _));refine bT (cs:=#[.string ((bg bA gK).f0),.string (⟨#[]⟩:Bt)]) ?_ 1 _ rfl;(with_reducible repeat(first|refine aV ?_ _|refine aY ?_ |refine aW ?_ _));refine bT (cs:=#[.string (⟨#[]⟩:Bt),.string (⟨#[]⟩:Bt)]) ?_ 0 _ rfl;(with_reducible repeat(first|refine aV ?_ _|refine aY ?_ |refine aW ?_ _));exact pE.out⟩
            have n2_:ak (Below w.heap.size w ((w14.setCell ⟨pz,0,none⟩ (.string ((bg bA gK).f0))).setCell ⟨pz,1,none⟩ (.string ((bg bA gK).f1)))):=⟨by repeat(first|(with_reducible first|exact HB.out|apply bY|apply bE|apply dh|refine aH ?_ Df.out|refine aH ?_ GE588.out)|exact HB.out)⟩
            (try clear kX)
            (try clear pE)
            (try clear HB)
            generalize ((w14.setCell ⟨pz,0,none⟩ (.string ((bg bA gK).f0))).setCell ⟨pz,1,none⟩ (.string ((bg bA gK).f1)))=w17 at n0_ n1_ n2_⊢;have kX:=n0_;have pE:=n1_;have HB:=n2_;clear n0_ n1_ n2_;replace kX:=ak.mk (aY kX.out);replace pE:=ak.mk (aY pE.out);replace HB:=ak.mk (dh HB.out);refine uT (n:=12) (S:=fun w'=>w'.cell? ⟨pz,0,none⟩=some (.string ((bg bA gK).f0))∧w'.cell? ⟨pz,1,none⟩=some (.string ((bg bA gK).f1))) (ds:=[]) (fl 12 0) (by kernel_rfl) rfl rfl ⟨(aC pE.out 0).trans rfl,(aC pE.out 1).trans rfl⟩ (fun hHeld=>?_);refine Rz d9.tab5 d9.bits5 (fun HT_ HW_=>?_)
            generalize w17.drew=w18 at kX pE HB hHeld⊢;refine pw 0 16 (fl 12 1) ?_;refine pw 1 17 (fl 12 2) ?_;refine pw 5 21 (fb 12 35) ?_;refine pt 2 18 (fb 12 39) ?_;refine pw 3 19 (fb 12 47) ?_;refine pw 4 20 (fl 12 6) ?_;refine pt 6 22 (fl 12 7) ?_;refine one_ (i:=7) (N:=some 23) (fl 12 8) rfl rfl (one_of HT_.out (by kernel_rfl)) (by decide) (fun K hK=>?_);refine GI Tryz.func176 (by kernel_rfl) rfl #[.string ((bg bA gK).f1)] (by rfl) rfl rfl q'a ?_
            with_reducible refine(rE.calls ((bg bA gK).f1) uy _ A10.out).mono ?_
            rintro e w19 ⟨rfl,hb⟩;refine⟨_,rfl,?_⟩;replace kX:=ak.mk (dI (g:=rH) (o:=.cells #[.int .i64 dP,.int .i64 dw,.string bQ,.string dM,.slice (some LQ) bA.length eX] 34 (0,0)) (kz kX.out) hb);replace pE:=ak.mk (dI (g:=pz) (o:=.cells #[.string ((bg bA gK).f0),.string ((bg bA gK).f1)] 36 (0,0)) (kz pE.out) hb);replace HB:=ak.mk (aG (by repeat(first|(with_reducible first|exact HB.out|apply bY|apply bE|apply dh|refine aH ?_ Df.out|refine aH ?_ GE588.out)|exact HB.out)) hb)
            (try clear hb)
            (try clear hb2)
            (try clear hk)
            (try clear hi)
            refine hK.out _ _ ⟨(aC pE.out 0).trans rfl,(aC pE.out 1).trans rfl⟩ (fun hHeld=>?_);clear hK K;refine pn ?_;refine pw 8 24 (fl 12 9) ?_;refine pw 9 25 (fl 12 10) ?_;refine pw 10 26 (fl 12 11) ?_;refine pw 11 3 (fl 12 12) ?_;refine Aj (done_of HT_.out (by kernel_rfl)) ?_
            try go_wp2
            go_roundg k1
            case measure=>have:=HK1.out;omega
            case rel=>exact⟨(wL++(((((⟨#[32]⟩:Bt)++((bg bA gK).f0))++(⟨#[61,34]⟩:Bt))++uy)++(⟨#[34]⟩:Bt))),(wrap64 (gK+1)),q'c,q'c,H',⟨by have:=HK1.out;omega⟩,⟨by(with_reducible repeat(first|refine aV ?_ _|refine aY ?_ |refine aW ?_ _));exact kX.out⟩,⟨by repeat(first|(with_reducible first|exact HB.out|apply bY|apply bE|apply dh|refine aH ?_ Df.out|refine aH ?_ GE588.out)|exact HB.out)⟩⟩
           ·rw[if_neg c13]at H
            exact absurd H (by simp)
          ·rw[if_neg c12]at H
           exact absurd H (by simp)
         ·rw[if_neg c11]at H
          exact absurd H (by simp)
        ·rw[if_neg c9]at H
         exact absurd H (by simp)
       ·rw[if_neg c8]at H
        exact absurd H (by simp)
      ·rw[if_neg c7]at H
       exact absurd H (by simp)
     ·rw[if_neg c6]at H
      exact absurd H (by simp)
    ·rw[if_neg c5]at H
     have xD:decide (gK<(bA.length:Int))=false:=decide_eq_false c5;clear c5
     by_cases c20:wL.size+1≤9223372036854775807
     ·rw[if_pos c20]at H
      have c20b0:=eq_true c20;have c20b1:decide (wL.size+1≤9223372036854775807)=true:=decide_eq_true c20
      try have c20b2:(9223372036854775807<wL.size+1)=False:=eq_false (Nat.not_lt.2 c20)
      obtain rfl:=Option.some.inj H;go_wp2;go_ret;exact⟨by first|rfl|(simp[aJ,aM]<;>rfl)|(simp[*,aJ,aM]<;>rfl),bs Df.out⟩
     ·rw[if_neg c20]at H
      exact absurd H (by simp)
 ·rw[if_neg c2]at H
  exact absurd H (by simp)
def kZ.f(k:Nat)(a0:Bt):Option (Bool):=(bH.f k a0 (([(⟨#[105,102,114,97,109,101]⟩:Bt),(⟨#[110,111,101,109,98,101,100]⟩:Bt),(⟨#[110,111,102,114,97,109,101,115]⟩:Bt),(⟨#[115,99,114,105,112,116]⟩:Bt),(⟨#[115,116,121,108,101]⟩:Bt),(⟨#[120,109,112]⟩:Bt)] :List Bt))).bind fun t372=>(some t372)
theorem kZ.calls(k:Nat)(a0:Bt)(r:Bool)(w:World)(h:kZ.f k a0=some r):
 Calls Tryz.prog 32 #[.string a0] w fun e w'=>e=.returned (.bool r)∧Below w.heap.size w w':=by
 have HB:=ak.mk (Below.refl w.heap.size w);have H:((bH.f k a0 (([(⟨#[105,102,114,97,109,101]⟩:Bt),(⟨#[110,111,101,109,98,101,100]⟩:Bt),(⟨#[110,111,102,114,97,109,101,115]⟩:Bt),(⟨#[115,99,114,105,112,116]⟩:Bt),(⟨#[115,116,121,108,101]⟩:Bt),(⟨#[120,109,112]⟩:Bt)] :List Bt))).bind fun t372=>(some t372))=some r:=h;clear h;obtain⟨y369,LJ⟩:∃y_:List Bt,y_=(([(⟨#[105,102,114,97,109,101]⟩:Bt),(⟨#[110,111,101,109,98,101,100]⟩:Bt),(⟨#[110,111,102,114,97,109,101,115]⟩:Bt),(⟨#[115,99,114,105,112,116]⟩:Bt),(⟨#[115,116,121,108,101]⟩:Bt),(⟨#[120,109,112]⟩:Bt)] :List Bt)):=⟨_,rfl⟩
 replace H:((bH.f k a0 y369).bind fun t372=>(some t372))=some r:=by first|(rw[LJ];with_reducible exact H)|(have H2_:=(Option.bind_some _ _).symm.trans H;rw[LJ];with_reducible exact H2_)|(have H2_:=(Option.bind_some _ _).symm.trans H;with_reducible exact H2_)|with_reducible exact H|(rw[LJ];exact H)|exact H
 have Ny369:=ak.mk LJ;clear LJ;replace H:=Option.bind_eq_some_iff.mp H;obtain⟨t372,A20,H⟩:=H;replace H:(some t372)=some r:=H;have A2:=ak.mk A20;clear A20;obtain rfl:=Option.some.inj H;go_enter Tryz.func32,Tryz.ntmps32
 go_wp2_with(first|((with_reducible refine cu (N:=4) rfl ?_);refine Kd.kr Kd.string _ 9 ?hg (N:=4) ?hd (xs:=([(⟨#[105,102,114,97,109,101]⟩:Bt),(⟨#[110,111,101,109,98,101,100]⟩:Bt),(⟨#[110,111,102,114,97,109,101,115]⟩:Bt),(⟨#[115,99,114,105,112,116]⟩:Bt),(⟨#[115,116,121,108,101]⟩:Bt),(⟨#[120,109,112]⟩:Bt)] :List Bt)) (inner:=[.string (⟨#[105,102,114,97,109,101]⟩:Bt),.string (⟨#[110,111,101,109,98,101,100]⟩:Bt),.string (⟨#[110,111,102,114,97,109,101,115]⟩:Bt),.string (⟨#[115,99,114,105,112,116]⟩:Bt),.string (⟨#[115,116,121,108,101]⟩:Bt),.string (⟨#[120,109,112]⟩:Bt)]) (ok:=fun _=>True) (okp:=fun _=>True) ?hr ?hp (fun _ hk=>hk) trivial (Below.refl _ _) (Nat.le_refl _) (by simp) ?_;(case hd=>rfl);(case hg=>rfl);(case hr=>first|(go_simp;done)|(go_simp;rfl));(case hp=>exact(bJ.one (show Kd.M Kd.string _ _ _ (⟨#[105,102,114,97,109,101]⟩:Bt) [.string (⟨#[105,102,114,97,109,101]⟩:Bt)]from rfl) (bJ.one (show Kd.M Kd.string _ _ _ (⟨#[110,111,101,109,98,101,100]⟩:Bt) [.string (⟨#[110,111,101,109,98,101,100]⟩:Bt)]from rfl) (bJ.one (show Kd.M Kd.string _ _ _ (⟨#[110,111,102,114,97,109,101,115]⟩:Bt) [.string (⟨#[110,111,102,114,97,109,101,115]⟩:Bt)]from rfl) (bJ.one (show Kd.M Kd.string _ _ _ (⟨#[115,99,114,105,112,116]⟩:Bt) [.string (⟨#[115,99,114,105,112,116]⟩:Bt)]from rfl) (bJ.one (show Kd.M Kd.string _ _ _ (⟨#[115,116,121,108,101]⟩:Bt) [.string (⟨#[115,116,121,108,101]⟩:Bt)]from rfl) (bJ.one (show Kd.M Kd.string _ _ _ (⟨#[120,109,112]⟩:Bt) [.string (⟨#[120,109,112]⟩:Bt)]from rfl) (bJ.none _ _))))))));intro v370 w3 ho4 hb hg_ fP;clear hg_ fP;(first|rw[←Ny369.out]at ho4|(simp only[Int.reduceToNat]at ho4;rw[←Ny369.out]at ho4));have HO371:=ak.mk (Kd.dR ho4 (aU bz));replace HB:=ak.mk (aG bz hb);clear hb ho4;obtain⟨Ao5,co5,eo5⟩:=Kd.cK HO371.out;subst eo5)|((with_reducible refine aZ (f:=81) rfl ?_);refine dO (some 5) rfl rfl Tryz.func81 (by kernel_rfl) rfl #[.string a0,.slice Ao5 y369.length co5] rfl q'a ?_;(with_reducible refine(bH.calls k a0 _ _ y369 t372 _ ?dz ?dA A2.out).mono ?_);(case dz=>exact cz (Kd.bq HO371.out).2.2);(case dA=>exact(Kd.bq HO371.out).2.1);rintro e w' ⟨rfl,⟨nd,rfl⟩⟩;refine⟨_,rfl,?_⟩))
 go_ret;exact⟨by first|rfl|(simp[aJ,aM]<;>rfl)|(simp[*,aJ,aM]<;>rfl),bz⟩
end Go.Proofs.aj.W7
