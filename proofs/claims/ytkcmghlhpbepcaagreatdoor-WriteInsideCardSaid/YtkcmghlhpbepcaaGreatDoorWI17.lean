/- Lemmas and walks, part 17. -/
import Derived.Test.YtkcmghlhpbepcaaGreatDoorWI16
import Derived.Laws.EntriesVeiled
set_option linter.unusedVariables false
set_option linter.unusedSimpArgs false
set_option maxHeartbeats 8000000
set_option maxRecDepth 100000
namespace Go.Proofs.aj.W7
open Go.RowKit ah.aD ah.bH ah.bU
attribute [local go_sem] dB dD dW dX bZ cu dF dG
def eO.l0:Nat→Bt→List (S36)→Int→Int→Option (Bt)
 |0,_,_,_,_=>none
 |k+1,x3,x10,x11,x12=>if x12<x11 then(if 0≤x12 then(if x12<(x10.length:Int)then(if 1+((bD x10 x12).f0).size≤9223372036854775807 then(if((⟨#[32]⟩:Bt)++((bD x10 x12).f0)).size+2≤9223372036854775807 then((tu.f ((bD x10 x12).f1)).bind fun DN=>(if(((⟨#[32]⟩:Bt)++((bD x10 x12).f0))++(⟨#[61,34]⟩:Bt)).size+DN.size≤9223372036854775807 then(if((((⟨#[32]⟩:Bt)++((bD x10 x12).f0))++(⟨#[61,34]⟩:Bt))++DN).size+1≤9223372036854775807 then(if x3.size+(((((⟨#[32]⟩:Bt)++((bD x10 x12).f0))++(⟨#[61,34]⟩:Bt))++DN)++(⟨#[34]⟩:Bt)).size≤9223372036854775807 then(eO.l0 k (x3++(((((⟨#[32]⟩:Bt)++((bD x10 x12).f0))++(⟨#[61,34]⟩:Bt))++DN)++(⟨#[34]⟩:Bt))) x10 x11 (wrap64 (x12+1)))else(none))else(none))else(none)))else(none))else(none))else(none))else(none))else(if x3.size+1≤9223372036854775807 then(some (x3++(⟨#[62]⟩:Bt)))else(none))
def eO.f(k:Nat)(eD dV:Int)(dH eu:Bt)(bG:List (S36)):Option (Bt):=if 1+dH.size≤9223372036854775807 then(eO.l0 k ((⟨#[60]⟩:Bt)++dH) bG (bG.length:Int) 0)else(none)
def eO.T5:Bool×List (List Nat×List Nat):=(true,[([],[]),([],[]),([1],[1]),([2],[2]),([3],[3]),([],[]),([5],[5]),([6],[6]),([4,7],[4,7]),([8],[8]),([0,9],[0,9]),([10,7,0,1,2,3,4,5,6,7,8,9,10],[0,10])])
def eO.B5:List Nat:=[0,0,2,6,14,0,32,96,254,510,1023,2047]
theorem eO.tab5:tH .any (opsOf Tryz.f137 5)=eO.T5:=by kernel_rfl
theorem eO.bits5:yc eO.T5.2 eO.B5=true:=by kernel_rfl
theorem eO.calls(k:Nat)(eD dV:Int)(dH eu:Bt)(iT:Option Addr)(fM:Nat)(bG:List (S36))(r:Bt)(w:World)(zh:Kd.C k36 w iT bG.length bG)(zi:bG.length≤fM)(h:eO.f k eD dV dH eu bG=some r):
 Calls Tryz.prog 137 #[.agg #[.int .i64 eD,.int .i64 dV,.string dH,.string eu,.slice iT bG.length fM]] w fun e w'=>e=.returned (.string r)∧Below w.heap.size w w':=by
 have hu34:=Tryz.underlying34;have hu36:=Tryz.underlying36;have zl:=ak.mk zh;have ND:=ak.mk zi;clear zh zi;have HB:=ak.mk (Below.refl w.heap.size w);have H:(if 1+dH.size≤9223372036854775807 then(eO.l0 k ((⟨#[60]⟩:Bt)++dH) bG (bG.length:Int) 0)else(none))=some r:=h;clear h
 by_cases c2:1+dH.size≤9223372036854775807
 ·rw[if_pos c2]at H
  have EU:=eq_true c2;have c2b1:=decide_eq_true c2
  try have c2b2:(9223372036854775807<1+dH.size)=False:=eq_false (Nat.not_lt.2 c2)
  have H':=ak.mk H;clear H;go_enter Tryz.func137,Tryz.ntmps137
  go_wp2_with(first|((with_reducible refine cB (N:=1) rfl ?_);refine fH ?hg (N:=1) ?hd (cs:=#[.int .i64 eD,.int .i64 dV,.string dH,.string eu,.slice iT bG.length fM]) (t:=34) ?hr ?_;(case hd=>rfl);(case hg=>rfl);(case hr=>first|(go_simp;done)|(go_simp;rfl));intro tJ hg w3 gG hb;have lX:=ak.mk (gG);have GW586:=ak.mk ((by rw[hg];exact(aU bz):w.heap.size≤tJ));have Ew:=ak.mk ((by rw[hg];exact(aU bz):w.heap.size≤tJ));replace HB:=ak.mk (aG bz hb);clear hb gG hg;have hcz4_0:w3.cell? ⟨tJ,0,none⟩=some (.int .i64 eD):=(aC lX.out 0).trans rfl;have hcz4_1:w3.cell? ⟨tJ,1,none⟩=some (.int .i64 dV):=(aC lX.out 1).trans rfl;have hcz4_2:w3.cell? ⟨tJ,2,none⟩=some (.string dH):=(aC lX.out 2).trans rfl;have hcz4_3:w3.cell? ⟨tJ,3,none⟩=some (.string eu):=(aC lX.out 3).trans rfl;have hcz4_4:w3.cell? ⟨tJ,4,none⟩=some (.slice iT bG.length fM):=(aC lX.out 4).trans rfl;have hfz4_0:=ay lX.out 0;have hfz4_1:=ay lX.out 1;have hfz4_2:=ay lX.out 2;have hfz4_3:=ay lX.out 3;have hfz4_4:=ay lX.out 4))
  go_loopg [3,12] k (fun kq v3 v12 w'=>∃(DL:Bt) (jG:Int),v3=.string DL∧v12=.int .i64 jG∧ak (eO.l0 kq DL bG (bG.length:Int) jG=some r)∧ak (kq≤k)∧ak (w'.heap[tJ]?=some (.cells #[.int .i64 eD,.int .i64 dV,.string dH,.string eu,(.slice iT bG.length fM)] 34 (0,0)))∧ak (Below w.heap.size w w'))
  case atStart=>exact⟨((⟨#[60]⟩:Bt)++dH),(0),q'c,q'c,H',⟨Nat.le_refl _⟩,⟨kz lX.out⟩,⟨bs Ew.out⟩⟩
  case round=>
   clear H'
   try clear c1
   try clear c2
   try clear EU
   try clear c2b1
   try clear c2b2
   try clear p2
   try clear hcz4_0
   try clear hcz4_1
   try clear hcz4_2
   try clear hcz4_3
   try clear hcz4_4
   try clear hfz4_0
   try clear hfz4_1
   try clear hfz4_2
   try clear hfz4_3
   try clear hfz4_4
   obtain⟨DL,jG,rfl,rfl,HA,HK1,lX,HB⟩:=hrel;cases gk with
   |zero=>exact absurd HA.out (by simp[eO.l0])
   |succ k1=>
    have H:=HA.out;clear HA;simp only[eO.l0]at H
    by_cases c5:jG<(bG.length:Int)
    ·rw[if_pos c5]at H
     have tX:=decide_eq_true c5;clear c5
     by_cases c6:0≤jG
     ·rw[if_pos c6]at H
      have AO:=decide_eq_true c6;clear c6
      by_cases c7:jG<(bG.length:Int)
      ·rw[if_pos c7]at H
       have GI:=decide_eq_true c7;clear c7
       by_cases c8:1+((bD bG jG).f0).size≤9223372036854775807
       ·rw[if_pos c8]at H
        have yZ:=eq_true c8;have c8b1:=decide_eq_true c8
        try have c8b2:(9223372036854775807<1+((bD bG jG).f0).size)=False:=eq_false (Nat.not_lt.2 c8)
        by_cases c9:((⟨#[32]⟩:Bt)++((bD bG jG).f0)).size+2≤9223372036854775807
        ·rw[if_pos c9]at H
         have GY:=eq_true c9;have c9b1:=decide_eq_true c9
         try have c9b2:(9223372036854775807<((⟨#[32]⟩:Bt)++((bD bG jG).f0)).size+2)=False:=eq_false (Nat.not_lt.2 c9)
         try have c9b3:=c9b2
         try simp only[ByteArray.size_append,(show∀a:UInt8,(ByteArray.mk #[a]).size=1 from fun _=>rfl),(show∀a b:UInt8,(ByteArray.mk #[a,b]).size=2 from fun _ _=>rfl),(show∀a b c:UInt8,(ByteArray.mk #[a,b,c]).size=3 from fun _ _ _=>rfl),(show∀a b c d:UInt8,(ByteArray.mk #[a,b,c,d]).size=4 from fun _ _ _ _=>rfl),(show∀a b c d e:UInt8,(ByteArray.mk #[a,b,c,d,e]).size=5 from fun _ _ _ _ _=>rfl),(show∀a b c d e f:UInt8,(ByteArray.mk #[a,b,c,d,e,f]).size=6 from fun _ _ _ _ _ _=>rfl)]at c9b3
         replace H:=Option.bind_eq_some_iff.mp H;obtain⟨DN,A100,H⟩:=H
         try dsimp only at H
         have A10:=ak.mk A100;clear A100
         by_cases c11:(((⟨#[32]⟩:Bt)++((bD bG jG).f0))++(⟨#[61,34]⟩:Bt)).size+DN.size≤9223372036854775807
         ·rw[if_pos c11]at H
          have c11b0:=eq_true c11;have c11b1:=decide_eq_true c11
          try have c11b2:(9223372036854775807<(((⟨#[32]⟩:Bt)++((bD bG jG).f0))++(⟨#[61,34]⟩:Bt)).size+DN.size)=False:=eq_false (Nat.not_lt.2 c11)
          try have c11b3:=c11b2
          try simp only[ByteArray.size_append,(show∀a:UInt8,(ByteArray.mk #[a]).size=1 from fun _=>rfl),(show∀a b:UInt8,(ByteArray.mk #[a,b]).size=2 from fun _ _=>rfl),(show∀a b c:UInt8,(ByteArray.mk #[a,b,c]).size=3 from fun _ _ _=>rfl),(show∀a b c d:UInt8,(ByteArray.mk #[a,b,c,d]).size=4 from fun _ _ _ _=>rfl),(show∀a b c d e:UInt8,(ByteArray.mk #[a,b,c,d,e]).size=5 from fun _ _ _ _ _=>rfl),(show∀a b c d e f:UInt8,(ByteArray.mk #[a,b,c,d,e,f]).size=6 from fun _ _ _ _ _ _=>rfl)]at c11b3
          by_cases c12:((((⟨#[32]⟩:Bt)++((bD bG jG).f0))++(⟨#[61,34]⟩:Bt))++DN).size+1≤9223372036854775807
          ·rw[if_pos c12]at H
           have Cb:=eq_true c12;have NS:=decide_eq_true c12
           try have c12b2:(9223372036854775807<((((⟨#[32]⟩:Bt)++((bD bG jG).f0))++(⟨#[61,34]⟩:Bt))++DN).size+1)=False:=eq_false (Nat.not_lt.2 c12)
           try have c12b3:=c12b2
           try simp only[ByteArray.size_append,(show∀a:UInt8,(ByteArray.mk #[a]).size=1 from fun _=>rfl),(show∀a b:UInt8,(ByteArray.mk #[a,b]).size=2 from fun _ _=>rfl),(show∀a b c:UInt8,(ByteArray.mk #[a,b,c]).size=3 from fun _ _ _=>rfl),(show∀a b c d:UInt8,(ByteArray.mk #[a,b,c,d]).size=4 from fun _ _ _ _=>rfl),(show∀a b c d e:UInt8,(ByteArray.mk #[a,b,c,d,e]).size=5 from fun _ _ _ _ _=>rfl),(show∀a b c d e f:UInt8,(ByteArray.mk #[a,b,c,d,e,f]).size=6 from fun _ _ _ _ _ _=>rfl)]at c12b3
           by_cases c13:DL.size+(((((⟨#[32]⟩:Bt)++((bD bG jG).f0))++(⟨#[61,34]⟩:Bt))++DN)++(⟨#[34]⟩:Bt)).size≤9223372036854775807
           ·rw[if_pos c13]at H
            have vX:=eq_true c13;have GJ:=decide_eq_true c13
            try have c13b2:(9223372036854775807<DL.size+(((((⟨#[32]⟩:Bt)++((bD bG jG).f0))++(⟨#[61,34]⟩:Bt))++DN)++(⟨#[34]⟩:Bt)).size)=False:=eq_false (Nat.not_lt.2 c13)
            try have c13b3:=c13b2
            try simp only[ByteArray.size_append,(show∀a:UInt8,(ByteArray.mk #[a]).size=1 from fun _=>rfl),(show∀a b:UInt8,(ByteArray.mk #[a,b]).size=2 from fun _ _=>rfl),(show∀a b c:UInt8,(ByteArray.mk #[a,b,c]).size=3 from fun _ _ _=>rfl),(show∀a b c d:UInt8,(ByteArray.mk #[a,b,c,d]).size=4 from fun _ _ _ _=>rfl),(show∀a b c d e:UInt8,(ByteArray.mk #[a,b,c,d,e]).size=5 from fun _ _ _ _ _=>rfl),(show∀a b c d e f:UInt8,(ByteArray.mk #[a,b,c,d,e,f]).size=6 from fun _ _ _ _ _ _=>rfl)]at c13b3
            have H':=ak.mk H;clear H;have p587:0≤(jG:Int):=q'b;have q587:jG<(bG.length:Int):=q'b;obtain⟨NU,e587,LA,LB⟩:=ni zl.out jG p587 q587;cases e587;replace LA:=(HB.out.cell (World.block_lt_of_cell? w _ LA)).trans LA;replace LB:=(HB.out.cell (World.block_lt_of_cell? w _ LB)).trans LB;replace p587:=eq_true p587;replace q587:=eq_true q587
            try go_wp2_with(first|((with_reducible refine cB (N:=5) rfl ?_);refine fH ?hg (N:=5) ?hd (cs:=#[.string (⟨#[]⟩:Bt),.string (⟨#[]⟩:Bt)]) (t:=36) ?hr ?_;(case hd=>rfl);(case hg=>rfl);(case hr=>first|(go_simp;done)|(go_simp;rfl));intro qD hg w14 gG hb;have qE:=ak.mk (gG);have GW588:=ak.mk ((by rw[hg];exact(aU (bs Ew.out)):w.heap.size≤qD));have GE588:=ak.mk ((by rw[hg];exact(aU (bs Ew.out)):w.heap.size≤qD));have DR:=ak.mk ((by rw[hg];exact Nat.ne_of_lt (iK (g:=tJ) (o:=.cells #[.int .i64 eD,.int .i64 dV,.string dH,.string eu,.slice (some NU) bG.length fM] 34 (0,0)) (kz lX.out)):tJ≠qD));have Uq:=ak.mk ((by rw[hg];exact Nat.ne_of_gt (iK (g:=tJ) (o:=.cells #[.int .i64 eD,.int .i64 dV,.string dH,.string eu,.slice (some NU) bG.length fM] 34 (0,0)) (kz lX.out)):qD≠tJ));replace lX:=ak.mk (dK (g:=tJ) (o:=.cells #[.int .i64 eD,.int .i64 dV,.string dH,.string eu,.slice (some NU) bG.length fM] 34 (0,0)) (kz lX.out) hb);replace HB:=ak.mk (aG (bs Ew.out) hb);clear hb gG hg;have hnb15:=Uq.out;have hnc15:=DR.out;have uF:w14.cell? ⟨qD,0,none⟩=some (.string (⟨#[]⟩:Bt)):=(aC qE.out 0).trans rfl;have uG:w14.cell? ⟨qD,1,none⟩=some (.string (⟨#[]⟩:Bt)):=(aC qE.out 1).trans rfl;have uH:=ay qE.out 0;have uI:=ay qE.out 1))
            have n0_:ak (((w14.setCell ⟨qD,0,none⟩ (.string ((bD bG jG).f0))).setCell ⟨qD,1,none⟩ (.string ((bD bG jG).f1))).heap[tJ]?=some (.cells #[.int .i64 eD,.int .i64 dV,.string dH,.string eu,.slice (some NU) bG.length fM] 34 (0,0))):=⟨by(with_reducible repeat(first|refine aY ?_ _|refine bq ?_ |refine aZ ?_ _));refine nG ?_ DR.out _;(with_reducible repeat(first|refine aY ?_ _|refine bq ?_ |refine aZ ?_ _));refine nG ?_ DR.out _;(with_reducible repeat(first|refine aY ?_ _|refine bq ?_ |refine aZ ?_ _));exact lX.out⟩;have n1_:ak (((w14.setCell ⟨qD,0,none⟩ (.string ((bD bG jG).f0))).setCell ⟨qD,1,none⟩ (.string ((bD bG jG).f1))).heap[qD]?=some (.cells #[.string ((bD bG jG).f0),.string ((bD bG jG).f1)] 36 (0,0))):=⟨by(with_reducible repeat(first|refine aY ?_ _|refine bq ?_ |refine aZ ?_ _));refine bQ (cs:=#[.string ((bD bG jG).f0),.string (⟨#[]⟩:Bt)]) ?_ 1 _ rfl;(with_reducible repeat(first|refine aY ?_ _|refine bq ?_ |refine aZ ?_ _));refine bQ (cs:=#[.string (⟨#[]⟩:Bt),.string (⟨#[]⟩:Bt)]) ?_ 0 _ rfl;(with_reducible repeat(first|refine aY ?_ _|refine bq ?_ |refine aZ ?_ _));exact qE.out⟩
            have n2_:ak (Below w.heap.size w ((w14.setCell ⟨qD,0,none⟩ (.string ((bD bG jG).f0))).setCell ⟨qD,1,none⟩ (.string ((bD bG jG).f1)))):=⟨by repeat(first|(with_reducible first|exact HB.out|apply dn|apply bE|apply bX|refine aH ?_ Ew.out|refine aH ?_ GE588.out)|exact HB.out)⟩
            (try clear lX)
            (try clear qE)
            (try clear HB)
            generalize ((w14.setCell ⟨qD,0,none⟩ (.string ((bD bG jG).f0))).setCell ⟨qD,1,none⟩ (.string ((bD bG jG).f1)))=w17 at n0_ n1_ n2_⊢;have lX:=n0_;have qE:=n1_;have HB:=n2_;clear n0_ n1_ n2_;replace lX:=ak.mk (bq lX.out);replace qE:=ak.mk (bq qE.out);replace HB:=ak.mk (bX HB.out);refine oV (n:=12) (S:=fun w'=>w'.cell? ⟨qD,0,none⟩=some (.string ((bD bG jG).f0))∧w'.cell? ⟨qD,1,none⟩=some (.string ((bD bG jG).f1))) (ds:=[]) (fl 12 0) (by kernel_rfl) rfl rfl ⟨(aC qE.out 0).trans rfl,(aC qE.out 1).trans rfl⟩ (fun hHeld=>?_);refine qM eO.tab5 eO.bits5 (fun HT_ HW_=>?_)
            generalize w17.drew=w18 at lX qE HB hHeld⊢;refine pw 0 16 (fl 12 1) ?_;refine pw 1 17 (fl 12 2) ?_;refine pw 5 21 (fb 12 35) ?_;refine pt 2 18 (fb 12 39) ?_;refine pw 3 19 (fb 12 47) ?_;refine pw 4 20 (fl 12 6) ?_;refine pt 6 22 (fl 12 7) ?_;refine Ac (i:=7) (N:=some 23) (fl 12 8) rfl rfl (qj HT_.out (by kernel_rfl)) (by decide) (fun K hK=>?_);refine pX Tryz.func176 (by kernel_rfl) rfl #[.string ((bD bG jG).f1)] (by rfl) rfl rfl q'a ?_
            with_reducible refine(tu.calls ((bD bG jG).f1) DN _ A10.out).mono ?_
            rintro e w19 ⟨rfl,hb⟩;refine⟨_,rfl,?_⟩;replace lX:=ak.mk (dK (g:=tJ) (o:=.cells #[.int .i64 eD,.int .i64 dV,.string dH,.string eu,.slice (some NU) bG.length fM] 34 (0,0)) (kz lX.out) hb);replace qE:=ak.mk (dK (g:=qD) (o:=.cells #[.string ((bD bG jG).f0),.string ((bD bG jG).f1)] 36 (0,0)) (kz qE.out) hb);replace HB:=ak.mk (aG (by repeat(first|(with_reducible first|exact HB.out|apply dn|apply bE|apply bX|refine aH ?_ Ew.out|refine aH ?_ GE588.out)|exact HB.out)) hb)
            (try clear hb)
            (try clear hb2)
            (try clear hk)
            (try clear hi)
            refine hK.out _ _ ⟨(aC qE.out 0).trans rfl,(aC qE.out 1).trans rfl⟩ (fun hHeld=>?_);clear hK K;refine pn ?_;refine pw 8 24 (fl 12 9) ?_;refine pw 9 25 (fl 12 10) ?_;refine pw 10 26 (fl 12 11) ?_;refine pw 11 3 (fl 12 12) ?_;refine sW (yg HT_.out (by kernel_rfl)) ?_
            try go_wp2
            go_roundg k1
            case measure=>have:=HK1.out;omega
            case rel=>exact⟨(DL++(((((⟨#[32]⟩:Bt)++((bD bG jG).f0))++(⟨#[61,34]⟩:Bt))++DN)++(⟨#[34]⟩:Bt))),(wrap64 (jG+1)),q'c,q'c,H',⟨lz HK1.out⟩,⟨kz lX.out⟩,⟨by repeat(first|(with_reducible first|exact HB.out|apply dn|apply bE|apply bX|refine aH ?_ Ew.out|refine aH ?_ GE588.out)|exact HB.out)⟩⟩
           ·rw[if_neg c13]at H
            exact absurd H (by simp)
          ·rw[if_neg c12]at H
           exact absurd H (by simp)
         ·rw[if_neg c11]at H
          exact absurd H (by simp)
        ·rw[if_neg c9]at H
         exact absurd H (by simp)
       ·rw[if_neg c8]at H
        exact absurd H (by simp)
      ·rw[if_neg c7]at H
       exact absurd H (by simp)
     ·rw[if_neg c6]at H
      exact absurd H (by simp)
    ·rw[if_neg c5]at H
     have tX:=decide_eq_false c5;clear c5
     by_cases c20:DL.size+1≤9223372036854775807
     ·rw[if_pos c20]at H
      have c20b0:=eq_true c20;have c20b1:=decide_eq_true c20
      try have c20b2:(9223372036854775807<DL.size+1)=False:=eq_false (Nat.not_lt.2 c20)
      obtain rfl:=Option.some.inj H;go_wp2;go_ret;exact⟨by first|rfl|(simp[aI,aJ]<;>rfl)|(simp[*,aI,aJ]<;>rfl),bs Ew.out⟩
     ·rw[if_neg c20]at H
      exact absurd H (by simp)
 ·rw[if_neg c2]at H
  exact absurd H (by simp)
def l7.f(k:Nat)(a0:Bt):Option (Bool):=(bN.f k a0 (([(⟨#[105,102,114,97,109,101]⟩:Bt),(⟨#[110,111,101,109,98,101,100]⟩:Bt),(⟨#[110,111,102,114,97,109,101,115]⟩:Bt),(⟨#[115,99,114,105,112,116]⟩:Bt),(⟨#[115,116,121,108,101]⟩:Bt),(⟨#[120,109,112]⟩:Bt)] :List Bt))).bind fun t372=>(some t372)
theorem l7.calls(k:Nat)(a0:Bt)(r:Bool)(w:World)(h:l7.f k a0=some r):
 Calls Tryz.prog 32 #[.string a0] w fun e w'=>e=.returned (.bool r)∧Below w.heap.size w w':=by
 have HB:=ak.mk (Below.refl w.heap.size w);have H:((bN.f k a0 (([(⟨#[105,102,114,97,109,101]⟩:Bt),(⟨#[110,111,101,109,98,101,100]⟩:Bt),(⟨#[110,111,102,114,97,109,101,115]⟩:Bt),(⟨#[115,99,114,105,112,116]⟩:Bt),(⟨#[115,116,121,108,101]⟩:Bt),(⟨#[120,109,112]⟩:Bt)] :List Bt))).bind fun t372=>(some t372))=some r:=h;clear h;obtain⟨y369,NH⟩:∃y_:List Bt,y_=(([(⟨#[105,102,114,97,109,101]⟩:Bt),(⟨#[110,111,101,109,98,101,100]⟩:Bt),(⟨#[110,111,102,114,97,109,101,115]⟩:Bt),(⟨#[115,99,114,105,112,116]⟩:Bt),(⟨#[115,116,121,108,101]⟩:Bt),(⟨#[120,109,112]⟩:Bt)] :List Bt)):=⟨_,rfl⟩
 replace H:((bN.f k a0 y369).bind fun t372=>(some t372))=some r:=by first|(rw[NH];with_reducible exact H)|(have H2_:=(Option.bind_some _ _).symm.trans H;rw[NH];with_reducible exact H2_)|(have H2_:=(Option.bind_some _ _).symm.trans H;with_reducible exact H2_)|with_reducible exact H|(rw[NH];exact H)|exact H
 have Ny369:=ak.mk NH;clear NH;replace H:=Option.bind_eq_some_iff.mp H;obtain⟨t372,A20,H⟩:=H
 try dsimp only at H
 have A2:=ak.mk A20;clear A20;obtain rfl:=Option.some.inj H;go_enter Tryz.func32,Tryz.ntmps32
 go_wp2_with(first|((with_reducible refine cB (N:=4) rfl ?_);refine Kd.kg Kd.string _ 9 ?hg (N:=4) ?hd (xs:=([(⟨#[105,102,114,97,109,101]⟩:Bt),(⟨#[110,111,101,109,98,101,100]⟩:Bt),(⟨#[110,111,102,114,97,109,101,115]⟩:Bt),(⟨#[115,99,114,105,112,116]⟩:Bt),(⟨#[115,116,121,108,101]⟩:Bt),(⟨#[120,109,112]⟩:Bt)] :List Bt)) (inner:=[.string (⟨#[105,102,114,97,109,101]⟩:Bt),.string (⟨#[110,111,101,109,98,101,100]⟩:Bt),.string (⟨#[110,111,102,114,97,109,101,115]⟩:Bt),.string (⟨#[115,99,114,105,112,116]⟩:Bt),.string (⟨#[115,116,121,108,101]⟩:Bt),.string (⟨#[120,109,112]⟩:Bt)]) (ok:=fun _=>True) (okp:=fun _=>True) ?hr ?hp (fun _ hk=>hk) trivial (Below.refl _ _) (Nat.le_refl _) (by simp) ?_;(case hd=>rfl);(case hg=>rfl);(case hr=>first|(go_simp;done)|(go_simp;rfl));(case hp=>exact(bM.one (show Kd.M Kd.string _ _ _ (⟨#[105,102,114,97,109,101]⟩:Bt) [.string (⟨#[105,102,114,97,109,101]⟩:Bt)]from rfl) (bM.one (show Kd.M Kd.string _ _ _ (⟨#[110,111,101,109,98,101,100]⟩:Bt) [.string (⟨#[110,111,101,109,98,101,100]⟩:Bt)]from rfl) (bM.one (show Kd.M Kd.string _ _ _ (⟨#[110,111,102,114,97,109,101,115]⟩:Bt) [.string (⟨#[110,111,102,114,97,109,101,115]⟩:Bt)]from rfl) (bM.one (show Kd.M Kd.string _ _ _ (⟨#[115,99,114,105,112,116]⟩:Bt) [.string (⟨#[115,99,114,105,112,116]⟩:Bt)]from rfl) (bM.one (show Kd.M Kd.string _ _ _ (⟨#[115,116,121,108,101]⟩:Bt) [.string (⟨#[115,116,121,108,101]⟩:Bt)]from rfl) (bM.one (show Kd.M Kd.string _ _ _ (⟨#[120,109,112]⟩:Bt) [.string (⟨#[120,109,112]⟩:Bt)]from rfl) (bM.none _ _))))))));intro v370 w3 ho4 hb hg_ gq;clear hg_ gq;(first|rw[←Ny369.out]at ho4|(simp only[Int.reduceToNat]at ho4;rw[←Ny369.out]at ho4));have HO371:=ak.mk (Kd.dU ho4 (aU bz));replace HB:=ak.mk (aG bz hb);clear hb ho4;obtain⟨Ao5,co5,eo5⟩:=Kd.cK HO371.out;subst eo5)|((with_reducible refine bC (f:=81) rfl ?_);refine eG (some 5) rfl rfl Tryz.func81 (by kernel_rfl) rfl #[.string a0,.slice Ao5 y369.length co5] rfl q'a ?_;(with_reducible refine(bN.calls k a0 _ _ y369 t372 _ ?dI ?dJ A2.out).mono ?_);(case dI=>exact cz (Kd.bg HO371.out).2.2);(case dJ=>exact(Kd.bg HO371.out).2.1);rintro e w' ⟨rfl,⟨nd,rfl⟩⟩;refine⟨_,rfl,?_⟩))
 go_ret;exact⟨by first|rfl|(simp[aI,aJ]<;>rfl)|(simp[*,aI,aJ]<;>rfl),bz⟩
end Go.Proofs.aj.W7
namespace Go.Proofs.aj.W7
open Go.RowKit Go.Shelf Go.Proofs YtkcmghlhpbepcaaGreatDoor
def catM(f:Nat→Option Txt):List Nat→Option Txt
 | []=>some []
 |j::js=>(f j).bind fun a=>(catM f js).bind fun b=>some (a++b)
theorem Ul{f:Nat→Option Txt}{j:Nat}{js:List Nat}{r:Txt}(h:catM f (j::js)=some r):∃a b,f j=some a∧catM f js=some b∧r=a++b:=by
 simp only[catM]at h;obtain⟨a,ha,h⟩:=Option.bind_eq_some_iff.1 h;obtain⟨b,hb,h⟩:=Option.bind_eq_some_iff.1 h;exact⟨a,b,ha,hb,(Option.some.inj h).symm⟩
def yU(xs:List Rw):Nat→Bool→Nat→Option Txt
 |0,_,_=>none
 |d+1,raw,k=>
  if k<xs.length then
   if(au xs k).f1=1 then(if raw then some (au xs k).f3.data.toList else(vV.f (au xs k).f3).map (·.data.toList))
   else if(au xs k).f1=2 then some (([60,33,45,45]++(au xs k).f3.data.toList)++[45,45,62])
   else if(au xs k).f1=0 then
    (eO.f ((au xs k).f4.length+1) (au xs k).f0 (au xs k).f1 (au xs k).f2 (au xs k).f3 (au xs k).f4).bind fun o=>
      (gU.f 100 (au xs k).f2).bind fun v=>
        if v then some o.data.toList
        else(l7.f 100 (au xs k).f2).bind fun r=>(catM (yU xs d r) (kQ xs k)).bind fun t=>some ((o.data.toList++t)++(([60,47]++(au xs k).f2.data.toList)++[62]))
   else some []
  else none
def fW(s:Nat):Value:=.func (.func 133) #[] #[.pointer (some ⟨s,0,none⟩),.pointer (some ⟨s+1+1,0,none⟩)]
def fN(s:Nat):Value:=.func (.func 134) #[] #[.pointer (some ⟨s,0,none⟩),.pointer (some ⟨s+1,0,none⟩),.pointer (some ⟨s+1+1+1,0,none⟩)]
structure Env (w0:World) (V:Value) (acc:Txt) (W:World):Prop where
 bld:Lib.IsBuilderF 106 5 w0.heap.size (w0.heap.size+1) (Lib.byteCells acc) W
 below:Below w0.heap.size w0 W
 bl:Boxed W w0.heap.size 22 V
 bn:Boxed W (w0.heap.size+1+1) 107 (fN w0.heap.size)
 bw:Boxed W (w0.heap.size+1+1+1) 107 (fW w0.heap.size)
theorem Env.step{w0 W W':World}{V:Value}{acc:Txt}(h:Env w0 V acc W)(hb:Below W.heap.size W W'):Env w0 V acc W':=
 ⟨vP h.bld hb,bB h.below h.below.size hb,(hb.block _ h.bl.lt).trans h.bl,(hb.block _ h.bn.lt).trans h.bn,(hb.block _ h.bw.lt).trans h.bw⟩
theorem Env.wrote{w0 W W':World}{V:Value}{acc acc':Txt}(h:Env w0 V acc W)(hI:Lib.IsBuilderF 106 5 w0.heap.size (w0.heap.size+1) (Lib.byteCells acc') W')(hb:Below w0.heap.size W W')(hk:Lib.OthersKept 5 (some (w0.heap.size+1)) W W'):Env w0 V acc' W':=
 ⟨hI,h.below.trans hb,hk _ _ h.bl (fun e=>by have:=Option.some.inj e;omega) (by intro c fz e;cases e),hk _ _ h.bn (fun e=>by have:=Option.some.inj e;omega) (by intro c fz e;cases e),hk _ _ h.bw (fun e=>by have:=Option.some.inj e;omega) (by intro c fz e;cases e)⟩
theorem nT{e:TypeId}{b:Option Nat}{a w w':World}(h:Lib.OthersKept e b a w)(hb:Below w.heap.size w w'):Lib.OthersKept e b a w':=fun k o hk h1 h2=>by
 have h3:=h k o hk h1 h2;exact(hb.block k (Array.getElem?_eq_some_iff.1 h3).1).trans h3
theorem zK(B b:Nat)(acc:List UInt8)(s:Bt)(w:World)(h:Lib.IsBuilderF 106 5 B b (Lib.byteCells acc) w)(hlen:acc.length+s.data.toList.length≤140737488355328)(hBw:B≤w.heap.size):
 Calls Tryz.prog 135 #[.pointer (some ⟨b,0,none⟩),.string s] w fun e w'=>(∃n,e=.returned (.tuple #[.int .i64 n,.nilIface]))∧(Lib.IsBuilderF 106 5 B b (Lib.byteCells (acc++s.data.toList)) w'∧Below B w w'∧Lib.OthersKept 5 (some b) w w'):=by
 have e:s=⟨s.data.toList.toArray⟩:=by simp
 rw[e];exact(wL B b acc s.data.toList w h hlen hBw).mono (fun e w' h=>⟨⟨_,h.1⟩,h.2⟩)
def NodeC(w0:World)(V:Value)(raw:Bool)(f:Nat→Option Txt)(j:Nat):Prop:=
 ∀(acc out:Txt) (W:World),Env w0 V acc W→f j=some out→acc.length+out.length≤140737488355328→
  Calls Tryz.prog 134 #[.int .i64 j,.bool raw,.pointer (some ⟨w0.heap.size,0,none⟩),.pointer (some ⟨w0.heap.size+1,0,none⟩),.pointer (some ⟨w0.heap.size+1+1+1,0,none⟩)] W fun e W'=>
   e=.returned (.tuple #[])∧Env w0 V (acc++out) W'∧Below w0.heap.size W W'∧Lib.OthersKept 5 (some (w0.heap.size+1)) W W'
theorem row_kept{w0 W W':World}{v:Value}{ks:List Int}{base:Nat}(hR:(ah.aD.Kd.int .i64).R 3 W base (fun _=>True) v ks)(hb:w0.heap.size+1<base)(hk:Lib.OthersKept 5 (some (w0.heap.size+1)) W W'):
 (ah.aD.Kd.int .i64).R 3 W' base (fun _=>True) v ks:=by
 refine ah.aD.Kd.gM (ah.aD.Kd.PN (ah.aD.Kd.p9 hR) ?_) (fun _ _=>trivial);rintro k ⟨_,hbk,hlt,q,hq,cells,hc⟩ _;rw[hc];refine hk k _ hc (fun e=>by have:=Option.some.inj e;omega) ?_;intro c fz e;have hq2:q=3:=by simpa [ah.aD.Kd.int,ah.aD.Kd.scalar]using hq
 subst hq2;cases e
theorem M6(A:Option Addr)(c:Nat)(xs:List Rw)(hcap:xs.length≤c)(w0:World)(hr:k34.C w0 A xs.length xs)(raw:Bool)(f:Nat→Option Txt)(k:Int)(hn:∀j∈kQ xs k,NodeC w0 (.slice A xs.length c) raw f j)(hsz:xs.length * 8≤140737488355328)
 (acc out:Txt) (W:World) (hE:Env w0 (.slice A xs.length c) acc W) (hf:catM f (kQ xs k)=some out) (hlen:acc.length+out.length≤140737488355328):
 Calls Tryz.prog 133 #[.int .i64 k,.bool raw,.pointer (some ⟨w0.heap.size,0,none⟩),.pointer (some ⟨w0.heap.size+1+1,0,none⟩)] W fun e W'=>
  e=.returned (.tuple #[])∧Env w0 (.slice A xs.length c) (acc++out) W'∧Below w0.heap.size W W'∧Lib.OthersKept 5 (some (w0.heap.size+1)) W W':=by
 have c0:=hE.bl.cell;have hn2:=Lib.hid hn;clear hn;have hks:=Lib.hid (fun(W:World) (hW:Below w0.heap.size w0 W)=>pE.calls A c xs k _ W (ah.aD.Kd.bT hr hW) hcap (by unfold pE.f;rw[if_pos hsz]));go_enter Tryz.func133,Tryz.ntmps133
 go_wp2_with(go_at_call 96;((with_reducible refine(hks.out _ hE.below).mono ?_);rintro e W1 ⟨v,rfl,hR,hb1⟩;obtain⟨A1,c1,rfl⟩:=ah.aD.Kd.cK hR))
 have hbase:w0.heap.size+1<W.heap.size:=by have:=hE.bn.lt;omega
 have hE1:=hE.step hb1;have hB1:Below w0.heap.size W W1:=hb1.mono hE.below.size;have hK1:Lib.OthersKept 5 (some (w0.heap.size+1)) W W1:=nT (Lib.OthersKept.refl _ _ W) hb1
 have hkl:(kQ xs k).length≤xs.length:=by
  by_cases hi:k= -1∨0≤k∧k<xs.length
  ·exact kids_len xs k hi
  ·have hz:kQ xs k=[]:=by
    unfold kQ;rw[if_neg (fun e=>hi (.inl e)),if_neg (fun e=>hi (.inr e))]
   rw[hz];exact Nat.zero_le _
 simp only[List.length_map]at hR⊢;generalize kQ xs k=ks at *
 go_loopw [12] (fun vi wr=>∃(i:Nat) (a r:Txt),vi=.int .i64 i∧i≤ks.length∧Hid (catM f (ks.drop i)=some r)∧Hid (a++r=acc++out)∧Env w0 (.slice A xs.length c) a wr∧Below w0.heap.size W wr∧Lib.OthersKept 5 (some (w0.heap.size+1)) W wr∧(ah.aD.Kd.int .i64).R 3 wr W.heap.size (fun _=>True) (.slice A1 ks.length c1) (ks.map (fun x:Nat=>(x:Int)))) (fun vi _=>ks.length - (intOf vi).toNat)
 case atStart=>exact⟨0,acc,out,rfl,Nat.zero_le _,hf,rfl,hE1,hB1,hK1,hR⟩
 case round=>
  obtain⟨i,a,r,rfl,hi,hcat,hacc,hEr,hBr,hKr,hRr⟩:=hrel;have c2:=hEr.bn.cell;unfold fN at c2
  by_cases hlt:i<ks.length
  ·obtain⟨g,cap,hv,-,-,-⟩:=ah.aD.Kd.Gp hRr (by simp;omega)
   simp only[Value.slice.injEq,List.length_map,true_and]at hv;obtain⟨rfl,rfl⟩:=hv;obtain⟨z0,-⟩:=ah.aD.Kd.QX (0:Int) hRr i (by omega) (by omega);have hd:ah.aD.ET (0:Int) (ks.map (fun x:Nat=>(x:Int))) i=((ks[i] :Nat):Int):=by simp[ah.aD.ET,hlt]
   rw[hd]at z0;simp only[Int.toNat_natCast]at z0;have hcat2:=hcat.out;rw[List.drop_eq_getElem_cons hlt]at hcat2;obtain⟨a1,r1,hf1,hr1,rfl⟩:=Ul hcat2;have vO:=hacc.out;have hll:=congrArg List.length vO;simp only[List.length_append]at hll;have hnc:=Lib.hid (hn2.out ks[i] (List.getElem_mem hlt) a a1 wr hEr hf1 (by omega));have hr1':=Lib.hid hr1;have hacc3:Hid ((a++a1)++r1=acc++out):=Lib.hid (by rw[List.append_assoc];exact vO);clear hcat hcat2 hr1 hacc vO hf1 hd hn2 hll;generalize ks[i]=j at *
   go_wp2_with(go_at_call 134;((with_reducible refine hnc.out.mono ?_);rintro e W2 ⟨rfl,hE2,hB2,hK2⟩))
   exact⟨⟨i+1,a++a1,r1,rfl,by omega,hr1',hacc3,hE2,hBr.trans hB2,Lib.OthersKept.trans hKr hK2,row_kept hRr hbase hK2⟩,by simp[intOf];omega⟩
  ·have hr0:a=acc++out:=by
    have h1:=hcat.out;rw[List.drop_of_length_le (by omega)]at h1;have h2:r=[]:=(Option.some.inj h1).symm;rw[←hacc.out,h2,List.append_nil]
   subst hr0;clear hcat hacc hf;go_wp2;go_end0;exact⟨rfl,hEr,hBr,hKr⟩
theorem kidsW_gt(xs:List Rw)(t:Nat):∀(d j:Nat),xs.length - j≤d→∀m∈kE xs t j,j≤m:=by
 intro d
 induction d with
 |zero=>
  intro j hd m hm;rw[kE,dif_neg (by omega)]at hm;cases hm
 |succ d ih=>
  intro j hd m hm
  by_cases h:j<t∧j<xs.length
  ·rw[kE,dif_pos h]at hm
   have hgt:=lg xs j
   rcases List.mem_cons.1 hm with rfl|hm
   ·exact Nat.le_refl _
   ·have:=ih (fK xs j) (by omega) m hm
    omega
  ·rw[kE,dif_neg h]at hm
   cases hm
theorem QY(xs:List Rw)(k:Nat)(hk:k<xs.length)(j:Nat)(hj:j∈kQ xs (k:Int)):k<j:=by
 rw[vU (.inr ⟨by omega,by omega⟩)]at hj;have h1:=kidsW_gt xs _ _ _ (Nat.le_refl _) j hj;have h2:BO (k:Int)=k+1:=by unfold BO;rw[if_neg (by omega)];rfl
 omega
theorem qX(a:Bt):a.size=a.data.toList.length:=(Array.length_toList).symm
theorem kU(a b:Bt):(a++b).data.toList=a.data.toList++b.data.toList:=by simp
theorem yV{w0 W W1 W2:World}{V:Value}{acc acc':Txt}(hE:Env w0 V acc W)(hE1:Env w0 V acc W1)(hb1:Below w0.heap.size W W1)(hk1:Lib.OthersKept 5 (some (w0.heap.size+1)) W W1)
 (hI:Lib.IsBuilderF 106 5 w0.heap.size (w0.heap.size+1) (Lib.byteCells acc') W2) (hb:Below w0.heap.size W1 W2) (hk:Lib.OthersKept 5 (some (w0.heap.size+1)) W1 W2):Env w0 V acc' W2∧Below w0.heap.size W W2∧Lib.OthersKept 5 (some (w0.heap.size+1)) W W2:=
 ⟨hE1.wrote hI hb hk,hb1.trans hb,Lib.OthersKept.trans hk1 hk⟩
theorem PO{w0 W W':World}{b:Nat}{cs:Array Value}(h:W.heap[b]?=some (.cells cs 34 (0,0)))(hb:w0.heap.size+1<b)(hk:Lib.OthersKept 5 (some (w0.heap.size+1)) W W'):W'.heap[b]?=some (.cells cs 34 (0,0)):=
 hk _ _ h (fun e=>by have:=Option.some.inj e;omega) (by intro c fz e;cases e)
theorem node_c(A:Option Addr)(c:Nat)(xs:List Rw)(hcap:xs.length≤c)(w0:World)(hr:k34.C w0 A xs.length xs)(hsz:xs.length * 8≤140737488355328):
 ∀(d:Nat) (raw:Bool) (k:Nat),xs.length - k≤d→NodeC w0 (.slice A xs.length c) raw (yU xs d raw) k:=by
 intro d
 induction d with
 |zero=>
  intro raw k hd acc out W hE hf;cases hf
 |succ d ih=>
  intro raw k hd acc out W hE hf hlen;simp only[yU]at hf
  by_cases hk:k<xs.length
  ·rw[if_pos hk]at hf
   have c0:=hE.bl.cell;have hbw:=hE.below;obtain⟨g,o,A4,c4,rfl,z0,z1,z2,z3,z4,l4,hat⟩:=wS (ah.aD.Kd.bT hr hbw) k hk;have hrd:au xs k=xs[k]:=by simp[au,hk]
   rw[hrd]at hf;have hkd:∀r:Bool,∀j∈kQ xs k,NodeC w0 (.slice (some ⟨g,o,none⟩) xs.length c) r (yU xs d r) j:=fun r j hj=>ih r j (by have:=QY xs k hk j hj;omega)
   generalize xs[k]=x at *;obtain⟨xd,xk,xn,xt,xa⟩:=x;simp only at z0 z1 z2 z3 z4 l4 hat hf;have hnt:=bP W #[.int .i64 xd,.int .i64 xk,.string xn,.string xt,.slice A4 xa.length c4] 34;have hE1:=hE.step ((Below.refl _ W).alloc (Nat.le_refl _) (.cells #[.int .i64 xd,.int .i64 xk,.string xn,.string xt,.slice A4 xa.length c4] 34));obtain⟨⟨p0,p1,p2,p3,p4⟩,p5⟩:=aW hnt;have hbA:Below w0.heap.size W (W.alloc (.cells #[.int .i64 xd,.int .i64 xk,.string xn,.string xt,.slice A4 xa.length c4] 34)):=(Below.refl _ W).alloc hbw.size _;have hkA:Lib.OthersKept 5 (some (w0.heap.size+1)) W (W.alloc (.cells #[.int .i64 xd,.int .i64 xk,.string xn,.string xt,.slice A4 xa.length c4] 34)):=Lib.OthersKept.alloc (Lib.OthersKept.refl _ _ W) _;have hs1:w0.heap.size+1<W.heap.size:=by have:=hE.bn.lt;omega
   by_cases k1:xk=1
   ·subst k1
    rw[if_pos rfl]at hf;cases raw with
    |true=>
     rw[if_pos rfl]at hf;obtain rfl:=Option.some.inj hf;clear hf;go_enter Tryz.func134,Tryz.ntmps134
     go_wp2_with(go_at_call 135;((with_reducible refine(zK _ _ acc xt _ hE1.bld (by omega) (by have:=hE1.below.size;omega)).mono ?_);rintro e W2 ⟨⟨n2,rfl⟩,hI2,hb2,hk2⟩))
     go_end0;exact⟨rfl,yV hE hE1 hbA hkA hI2 hb2 hk2⟩
    |false=>
     rw[if_neg (by decide)]at hf;obtain⟨t,ht,rfl⟩:=Option.map_eq_some_iff.1 hf;clear hf;have htx:=Lib.hid (fun W=>vV.calls xt t W ht);go_enter Tryz.func134,Tryz.ntmps134
     go_wp2_with(first
      |(go_at_call 136;((with_reducible refine(htx.out _).mono ?_);rintro e W2 ⟨rfl,hb2⟩;have hE2:=hE1.step hb2;have hB2:=hbA.trans (hb2.mono hE1.below.size);have hK2:=nT hkA hb2))
      |(go_at_call 135;((with_reducible refine(zK _ _ acc t _ hE2.bld (by omega) (by have:=hE2.below.size;omega)).mono ?_);rintro e W3 ⟨⟨n3,rfl⟩,hI3,hb3,hk3⟩)))
     go_end0;exact⟨rfl,yV hE hE2 hB2 hK2 hI3 hb3 hk3⟩
   ·rw[if_neg k1]at hf
    by_cases k2:xk=2
    ·subst k2
     rw[if_pos rfl]at hf;obtain rfl:=Option.some.inj hf;clear hf;simp only[List.length_append,List.length_cons,List.length_nil]at hlen;have hxs:=qX xt;have e0:((⟨#[60,33,45,45]⟩:Bt)++xt).size=4+xt.size:=ByteArray.size_append;have a1:decide (4+xt.size≤9223372036854775807)=true:=decide_eq_true (by omega);have a2:(9223372036854775807<4+xt.size)=False:=eq_false (by omega);have a3:decide (((⟨#[60,33,45,45]⟩:Bt)++xt).size+3≤9223372036854775807)=true:=decide_eq_true (by omega);have a4:(9223372036854775807<((⟨#[60,33,45,45]⟩:Bt)++xt).size+3)=False:=eq_false (by omega);have a5:(9223372036854775807<4+xt.size+3)=False:=eq_false (by omega);have a6:(4+xt.size≤9223372036854775807)=True:=eq_true (by omega);have a7:(((⟨#[60,33,45,45]⟩:Bt)++xt).size+3≤9223372036854775807)=True:=eq_true (by omega);have a8:(4+xt.size+3≤9223372036854775807)=True:=eq_true (by omega);have a9:decide (4+xt.size+3≤9223372036854775807)=true:=decide_eq_true (by omega);clear hxs e0
     have hm:=Lib.hid (fun(W:World) (h:Env w0 (.slice (some ⟨g,o,none⟩) xs.length c) acc W)=>zK _ _ acc (((⟨#[60,33,45,45]⟩:Bt)++xt)++(⟨#[45,45,62]⟩:Bt)) W h.bld (by rw[kU,kU,List.length_append,List.length_append];show _+((4+_)+3)≤_;omega) h.below.size);go_enter Tryz.func134,Tryz.ntmps134
     go_wp2_with(go_at_call 135;((with_reducible refine(hm.out _ hE1).mono ?_);rintro e W2 ⟨⟨n2,rfl⟩,hI2,hb2,hk2⟩))
     go_end0;refine⟨rfl,yV hE hE1 hbA hkA ?_ hb2 hk2⟩;rw[kU,kU]at hI2;exact hI2
    ·rw[if_neg k2]at hf
     by_cases k0:xk=0
     ·subst k0
      rw[if_pos rfl]at hf;obtain⟨ot,hot,hf⟩:=Option.bind_eq_some_iff.1 hf;obtain⟨vd,hvd,hf⟩:=Option.bind_eq_some_iff.1 hf;have hop:=Lib.hid (fun(W:World) (hW:Below w0.heap.size w0 W) (h4:k36.C W A4 xa.length xa)=>eO.calls (xa.length+1) xd 0 xn xt A4 c4 xa ot W h4 l4 hot);have hvo:=Lib.hid (fun W=>gU.calls 100 xn vd W hvd);have hat1:=ah.aD.Kd.bT hat ((Below.refl _ W).alloc (Nat.le_refl _) (.cells #[.int .i64 xd,.int .i64 0,.string xn,.string xt,.slice A4 xa.length c4] 34));cases vd with
      |true=>
       rw[if_pos rfl]at hf;obtain rfl:=Option.some.inj hf;clear hf;go_enter Tryz.func134,Tryz.ntmps134
       go_wp2_with(first
        |(go_at_call 137;((with_reducible refine(hop.out _ hE1.below hat1).mono ?_);rintro e W2 ⟨rfl,hb2⟩;have hE2:=hE1.step hb2;have hB2:=hbA.trans (hb2.mono hE1.below.size);have hK2:=nT hkA hb2;have hn2:=aT hnt hb2))
        |(go_at_call 135;((with_reducible refine(zK _ _ acc ot _ hE2.bld (by omega) (by have:=hE2.below.size;omega)).mono ?_);rintro e W3 ⟨⟨n3,rfl⟩,hI3,hb3,hk3⟩;obtain⟨hE3,hB3,hK3⟩:=yV hE hE2 hB2 hK2 hI3 hb3 hk3;have hn3:=PO hn2 hs1 hk3;obtain⟨⟨q0,q1,q2,q3,q4⟩,q5⟩:=aW hn3))
        |(go_at_call 31;((with_reducible refine(hvo.out _).mono ?_);rintro e W4 ⟨rfl,hb4⟩)))
       go_end0;exact⟨rfl,hE3.step hb4,hB3.trans (hb4.mono hE3.below.size),nT hK3 hb4⟩
      |false=>
       rw[if_neg (by decide)]at hf;obtain⟨rw0,hrw,hf⟩:=Option.bind_eq_some_iff.1 hf;obtain⟨t,htt,hf⟩:=Option.bind_eq_some_iff.1 hf;obtain rfl:=Option.some.inj hf;clear hf;simp only[List.length_append,List.length_cons,List.length_nil]at hlen;have hxs:=qX xn;have e0:((⟨#[60,47]⟩:Bt)++xn).size=2+xn.size:=ByteArray.size_append;have a1:decide (2+xn.size≤9223372036854775807)=true:=decide_eq_true (by omega);have a2:(9223372036854775807<2+xn.size)=False:=eq_false (by omega);have a3:decide (((⟨#[60,47]⟩:Bt)++xn).size+1≤9223372036854775807)=true:=decide_eq_true (by omega);have a4:(9223372036854775807<((⟨#[60,47]⟩:Bt)++xn).size+1)=False:=eq_false (by omega);have a5:(9223372036854775807<2+xn.size+1)=False:=eq_false (by omega);have a6:(2+xn.size≤9223372036854775807)=True:=eq_true (by omega);have a7:(((⟨#[60,47]⟩:Bt)++xn).size+1≤9223372036854775807)=True:=eq_true (by omega);have a8:(2+xn.size+1≤9223372036854775807)=True:=eq_true (by omega);have a9:decide (2+xn.size+1≤9223372036854775807)=true:=decide_eq_true (by omega);clear hxs e0
       have hra:=Lib.hid (fun W=>l7.calls 100 xn rw0 W hrw);have hwi:=Lib.hid (fun(W:World) (h:Env w0 (.slice (some ⟨g,o,none⟩) xs.length c) (acc++ot.data.toList) W)=>M6 (some ⟨g,o,none⟩) c xs hcap w0 hr rw0 (yU xs d rw0) k (hkd rw0) hsz (acc++ot.data.toList) t W h htt (by rw[List.length_append];omega));have hm:=Lib.hid (fun(W:World) (h:Env w0 (.slice (some ⟨g,o,none⟩) xs.length c) ((acc++ot.data.toList)++t) W)=>zK _ _ ((acc++ot.data.toList)++t) (((⟨#[60,47]⟩:Bt)++xn)++(⟨#[62]⟩:Bt)) W h.bld (by rw[kU,kU,List.length_append,List.length_append,List.length_append,List.length_append];show _+((2+_)+1)≤_;omega) h.below.size);clear hkd ih htt;go_enter Tryz.func134,Tryz.ntmps134
       go_wp2_with(first
        |(go_at_call 137;((with_reducible refine(hop.out _ hE1.below hat1).mono ?_);rintro e W2 ⟨rfl,hb2⟩;have hE2:=hE1.step hb2;have hB2:=hbA.trans (hb2.mono hE1.below.size);have hK2:=nT hkA hb2;have hn2:=aT hnt hb2))
        |(go_at_call 135;((with_reducible refine(zK _ _ acc ot _ hE2.bld (by omega) (by have:=hE2.below.size;omega)).mono ?_);rintro e W3 ⟨⟨n3,rfl⟩,hI3,hb3,hk3⟩;obtain⟨hE3,hB3,hK3⟩:=yV hE hE2 hB2 hK2 hI3 hb3 hk3;have hn3:=PO hn2 hs1 hk3;obtain⟨⟨q0,q1,q2,q3,q4⟩,q5⟩:=aW hn3))
        |(go_at_call 31;((with_reducible refine(hvo.out _).mono ?_);rintro e W4 ⟨rfl,hb4⟩;have hE4:=hE3.step hb4;have hB4:=hB3.trans (hb4.mono hE3.below.size);have hK4:=nT hK3 hb4;have hn4:=aT hn3 hb4;obtain⟨⟨r0,r1,r2,r3,r4⟩,r5⟩:=aW hn4;have hw4:=hE4.bw.cell;unfold fW at hw4;have hbd:Below W4.heap.size W4 W4.drew:=ah.aD.cZ (Below.refl _ _);have hE4d:=hE4.step hbd;have hB4d:=hB4.trans (hbd.mono hE4.below.size);have hK4d:=nT hK4 hbd;have hn4d:=aT hn4 hbd)))
       go_region_with (first
        |(go_at_call 32;((with_reducible refine(hra.out _).mono ?_);rintro e W5 ⟨rfl,hb5⟩;have hE5:=hE4d.step hb5;have hB5:=hB4d.trans (hb5.mono hE4d.below.size);have hK5:=nT hK4d hb5;have hn5:=aT hn4d hb5;have hw5:=hE5.bw.cell;unfold fW at hw5;obtain⟨⟨t0,t1,t2,t3,t4⟩,t5⟩:=aW hn5))
        |(go_at_call 133;((with_reducible refine(hwi.out _ hE5).mono ?_);rintro e W6 ⟨rfl,hE6,hb6,hk6⟩;have hn6:=PO hn5 hs1 hk6;obtain⟨⟨s0,s1,s2,s3,s4⟩,s5⟩:=aW hn6)))
       go_wp2_with(go_at_call 135;((with_reducible refine(hm.out _ hE6).mono ?_);rintro e W7 ⟨⟨n7,rfl⟩,hI7,hb7,hk7⟩))
       all_goals(
        go_end0;have hE7:=hE6.wrote hI7 hb7 hk7;have e7:((acc++ot.data.toList)++t)++((((⟨#[60,47]⟩:Bt)++xn)++(⟨#[62]⟩:Bt)).data.toList)=acc++(ot.data.toList++t++60::47::(xn.data.toList++[62])):=by simp
        rw[e7]at hE7;exact⟨rfl,hE7,(hB5.trans hb6).trans hb7,Lib.OthersKept.trans (Lib.OthersKept.trans hK5 hk6) hk7⟩)
     ·rw[if_neg k0]at hf
      obtain rfl:=Option.some.inj hf;go_enter Tryz.func134,Tryz.ntmps134;go_wp2;go_end0;exact⟨rfl,hE1,hbA,hkA⟩
  ·rw[if_neg hk]at hf
   cases hf
def Ky(l0:List Rw)(i:Int):Option Bool:=if 0≤i then(if i<l0.length then l7.f 100 (au l0 i).f2 else none)else if i= -1 then some false else none
def gJ.f(l0:List Rw)(i:Int):Option Bt:=
 if l0.length * 8≤140737488355328 then(Ky l0 i).bind fun r=>(catM (yU l0 l0.length r) (kQ l0 i)).bind fun t=>if t.length≤140737488355328 then some ⟨t.toArray⟩else none
 else none
theorem gJ.calls(A:Option Addr)(c:Nat)(xs:List Rw)(i:Int)(res:Bt)(w:World)(hr:k34.C w A xs.length xs)(hcap:xs.length≤c)(h:gJ.f xs i=some res)(hS:Gw w):
 Calls Tryz.prog 90 #[.slice A xs.length c,.int .i64 i] w fun e w'=>e=.returned (.string res)∧Below w.heap.size w w':=by
 unfold gJ.f at h
 by_cases hsz:xs.length * 8≤140737488355328
 ·rw[if_pos hsz]at h
  obtain⟨r,hraw,h⟩:=Option.bind_eq_some_iff.1 h;obtain⟨t,ht,h⟩:=Option.bind_eq_some_iff.1 h
  by_cases hlen:t.length≤140737488355328
  ·rw[if_pos hlen]at h
   obtain rfl:=Option.some.inj h
   have hE:Env w (.slice A xs.length c) [] ((((w.alloc (.cells #[.slice A xs.length c] 22)).alloc (.cells #[.pointer none,.slice none 0 0] 106)).alloc (.cells #[.func (.func 134) #[] #[.pointer (some ⟨w.heap.size,0,none⟩),.pointer (some ⟨w.heap.size+1,0,none⟩),.pointer (some ⟨w.heap.size+1+1+1,0,none⟩)]] 107)).alloc (.cells #[.func (.func 133) #[] #[.pointer (some ⟨w.heap.size,0,none⟩),.pointer (some ⟨w.heap.size+1+1,0,none⟩)]] 107)):=by
    refine⟨?_,((((Below.refl _ w).alloc (Nat.le_refl _) _).alloc (by simp) _).alloc (by simp;omega) _).alloc (by simp;omega) _,(((Boxed.new w 22 (.slice A xs.length c)).alloc _).alloc _).alloc _,?_,?_⟩
    ·have h:=E8 w.heap.size (w.alloc (.cells #[.slice A xs.length c] 22)) (by simp)
     rw[World.size_alloc]at h;exact(h.alloc _).alloc _
    ·have h:=Boxed.new ((w.alloc (.cells #[.slice A xs.length c] 22)).alloc (.cells #[.pointer none,.slice none 0 0] 106)) 107 (fN w.heap.size)
     rw[World.size_alloc,World.size_alloc]at h;exact h.alloc _
    ·have h:=Boxed.new (((w.alloc (.cells #[.slice A xs.length c] 22)).alloc (.cells #[.pointer none,.slice none 0 0] 106)).alloc (.cells #[.func (.func 134) #[] #[.pointer (some ⟨w.heap.size,0,none⟩),.pointer (some ⟨w.heap.size+1,0,none⟩),.pointer (some ⟨w.heap.size+1+1+1,0,none⟩)]] 107)) 107 (fW w.heap.size)
     rw[World.size_alloc,World.size_alloc,World.size_alloc]at h;exact h
   go_enter Tryz.func90,Tryz.ntmps90;go_wp2
   revert hE
   generalize ((((w.alloc (.cells #[.slice A xs.length c] 22)).alloc (.cells #[.pointer none,.slice none 0 0] 106)).alloc (.cells #[.func (.func 134) #[] #[.pointer (some ⟨w.heap.size,0,none⟩),.pointer (some ⟨w.heap.size+1,0,none⟩),.pointer (some ⟨w.heap.size+1+1+1,0,none⟩)]] 107)).alloc (.cells #[.func (.func 133) #[] #[.pointer (some ⟨w.heap.size,0,none⟩),.pointer (some ⟨w.heap.size+1+1,0,none⟩)]] 107))=W;intro hE;have hbd:Below W.heap.size W W.drew:=ah.aD.cZ (Below.refl _ _);have hEd:=hE.step hbd;have hl0:=hEd.bl.cell;have hw0:=hEd.bw.cell;unfold fW at hw0;have hw9:=hE.bw.cell;have hl9:=hE.bl.cell;unfold fW at hw9;have hwi:=Lib.hid (fun(W:World) (h:Env w (.slice A xs.length c) [] W)=>M6 A c xs hcap w hr r (yU xs xs.length r) i (fun j hj=>node_c A c xs hcap w hr hsz xs.length r j (by omega)) hsz [] t W h ht (by simpa using hlen));unfold Ky at hraw
   by_cases hi:0≤i
   ·rw[if_pos hi]at hraw
    by_cases hl:i<xs.length
    ·rw[if_pos hl]at hraw
     obtain⟨m,rfl⟩:∃m:Nat,i=m:=⟨i.toNat,by omega⟩
     have hm:m<xs.length:=by omega
     obtain⟨g,o,A4,c4,rfl,z0,z1,z2,z3,z4,l4,hat⟩:=wS (ah.aD.Kd.bT hr hEd.below) m hm;have hrd:au xs m=xs[m]:=by simp[au,hm]
     rw[hrd]at hraw;generalize xs[m]=x at *;obtain⟨xd,xk,xn,xt,xa⟩:=x;simp only at z0 z1 z2 z3 z4 l4 hat hraw;have hra:=Lib.hid (fun W=>l7.calls 100 xn r W hraw)
     go_region_with (first
      |(go_at_call 32;((with_reducible refine(hra.out _).mono ?_);rintro e W5 ⟨rfl,hb5⟩;have hE5:=hEd.step hb5;have hw5:=hE5.bw.cell;unfold fW at hw5))
      |(go_at_call 133;((with_reducible refine(hwi.out _ hE5).mono ?_);rintro e W6 ⟨rfl,hE6,hb6,hk6⟩)))
     all_goals(
      have hI6:=hE6.bld;rw[List.nil_append]at hI6;have hz6:=hE6.below.size;have hst:=Lib.hid (Tryz.Builder_String_any_k _ _ _ _ hI6 (by omega))
      go_wp2_with(go_at_call 138;((with_reducible refine hst.out.mono ?_);rintro e W7 ⟨rfl,_,hb7,_⟩))
      go_ret;exact⟨rfl,hE6.below.trans hb7⟩)
    ·rw[if_neg hl]at hraw
     cases hraw
   ·rw[if_neg hi]at hraw
    by_cases hi1:i= -1
    ·subst hi1
     rw[if_pos rfl]at hraw;obtain rfl:=Option.some.inj hraw;clear hraw
     first
      |go_region_with (go_at_call 133;((with_reducible refine(hwi.out _ hEd).mono ?_);rintro e W6 ⟨rfl,hE6,hb6,hk6⟩))
      |fail
     all_goals(
      have hI6:=hE6.bld;rw[List.nil_append]at hI6;have hz6:=hE6.below.size;have hst:=Lib.hid (Tryz.Builder_String_any_k _ _ _ _ hI6 (by omega))
      go_wp2_with(go_at_call 138;((with_reducible refine hst.out.mono ?_);rintro e W7 ⟨rfl,_,hb7,_⟩))
      go_ret;exact⟨rfl,hE6.below.trans hb7⟩)
    ·rw[if_neg hi1]at hraw
     cases hraw
  ·rw[if_neg hlen]at h
   cases h
 ·rw[if_neg hsz]at h
  cases h
end Go.Proofs.aj.W7
namespace Go.Proofs.aj.W7
open Go.RowKit ah.aD ah.bH ah.bU
attribute [local go_sem] dB dD dW dX bZ cu dF dG
def gF.f(k:Nat)(l0:List (S34))(a1:Int):Option (Bt):=if a1=(-1)then((gJ.f l0 a1).bind fun t596=>(some t596))else(if a1<0 then(some (⟨#[]⟩:Bt))else(if a1≥(l0.length:Int)then(some (⟨#[]⟩:Bt))else(if 0≤a1 then(if a1<(l0.length:Int)then(if((au l0 a1).f1)=0 then((gU.f k ((au l0 a1).f2)).bind fun t599=>(if t599=true then(some (⟨#[]⟩:Bt))else((gJ.f l0 a1).bind fun t600=>(some t600))))else(some (⟨#[]⟩:Bt)))else(none))else(none))))
theorem gF.calls(k:Nat)(A0:Option Addr)(c0:Nat)(l0:List (S34))(a1:Int)(r:Bt)(w:World)(hr0:Kd.C k34 w A0 l0.length l0)(hc0:l0.length≤c0)(h:gF.f k l0 a1=some r)(hS_:YtkcmghlhpbepcaaGreatDoor.Std w):
 Calls Tryz.prog 43 #[.slice A0 l0.length c0,.int .i64 a1] w fun e w'=>e=.returned (.string r)∧Below w.heap.size w w':=by
 have HS_:=ak.mk hS_;clear hS_;have HR0:=ak.mk hr0;have HC0:=ak.mk hc0;clear hr0 hc0;have HB:=ak.mk (Below.refl w.heap.size w);have H:(if a1=(-1)then((gJ.f l0 a1).bind fun t596=>(some t596))else(if a1<0 then(some (⟨#[]⟩:Bt))else(if a1≥(l0.length:Int)then(some (⟨#[]⟩:Bt))else(if 0≤a1 then(if a1<(l0.length:Int)then(if((au l0 a1).f1)=0 then((gU.f k ((au l0 a1).f2)).bind fun t599=>(if t599=true then(some (⟨#[]⟩:Bt))else((gJ.f l0 a1).bind fun t600=>(some t600))))else(some (⟨#[]⟩:Bt)))else(none))else(none)))))=some r:=h;clear h
 by_cases c3:a1=(-1)
 ·rw[if_pos c3]at H
  have oD:=beq_iff_eq.mpr c3;have AL:=bne_eq_false_iff_eq.mpr c3;clear c3;replace H:=Option.bind_eq_some_iff.mp H;obtain⟨t596,A40,H⟩:=H
  try dsimp only at H
  have A4:=ak.mk A40;clear A40;obtain rfl:=Option.some.inj H;go_enter Tryz.func43,Tryz.ntmps43
  go_wp2_with(first|((with_reducible refine bC (f:=90) rfl ?_);refine eG (some 35) rfl rfl Tryz.func90 (by kernel_rfl) rfl #[.slice A0 l0.length c0,.int .i64 a1] rfl q'a ?_;(with_reducible refine(gJ.calls _ _ l0 a1 t596 _ ?dI ?dJ A4.out (YtkcmghlhpbepcaaGreatDoor.Std.below HS_.out bz)).mono ?_);(case dI=>repeat(first|exact HR0.out|(with_reducible refine Kd.eH ?_ _)|(with_reducible refine Kd.eP ?_ _)|(with_reducible refine Kd.fA ?_)));(case dJ=>exact HC0.out);rintro e w5 ⟨rfl,hb⟩;refine⟨_,rfl,?_⟩;replace HB:=ak.mk (aG bz hb);(try clear hb);(try clear hb2);(try clear hk);(try clear hi)))
  go_ret;exact⟨by first|rfl|(simp[aI,aJ]<;>rfl)|(simp[*,aI,aJ]<;>rfl),bz⟩
 ·rw[if_neg c3]at H
  have oD:=beq_eq_false_iff_ne.mpr c3;have AL:=bne_iff_ne.mpr c3
  by_cases c6:a1<0
  ·rw[if_pos c6]at H
   have AO:=decide_eq_true c6;clear c6;obtain rfl:=Option.some.inj H;go_enter Tryz.func43,Tryz.ntmps43;go_wp2;go_ret;exact⟨by first|rfl|(simp[aI,aJ]<;>rfl)|(simp[*,aI,aJ]<;>rfl),bz⟩
  ·rw[if_neg c6]at H
   have AO:=decide_eq_false c6;clear c6
   by_cases c7:a1≥(l0.length:Int)
   ·rw[if_pos c7]at H
    have GI:=decide_eq_true c7;clear c7;obtain rfl:=Option.some.inj H;go_enter Tryz.func43,Tryz.ntmps43;go_wp2;go_ret;exact⟨by first|rfl|(simp[aI,aJ]<;>rfl)|(simp[*,aI,aJ]<;>rfl),bz⟩
   ·rw[if_neg c7]at H
    have GI:=decide_eq_false c7;clear c7
    by_cases c8:0≤a1
    ·rw[if_pos c8]at H
     have yZ:=decide_eq_true c8;clear c8
     by_cases c9:a1<(l0.length:Int)
     ·rw[if_pos c9]at H
      have GY:=decide_eq_true c9;clear c9
      by_cases c10:((au l0 a1).f1)=0
      ·rw[if_pos c10]at H
       have Er:=beq_iff_eq.mpr c10;have c10b1:=bne_eq_false_iff_eq.mpr c10;clear c10;replace H:=Option.bind_eq_some_iff.mp H;obtain⟨t599,A110,H⟩:=H
       try dsimp only at H
       have A11:=ak.mk A110;clear A110
       by_cases c12:t599=true
       ·subst c12
        rw[if_pos rfl]at H
        try dsimp only at H
        obtain rfl:=Option.some.inj H;have GZ:0≤(a1:Int):=q'b;have G5:a1<(l0.length:Int):=q'b;obtain⟨NW,A597_4,c597_4,e597,RU,RV,RX,RY,FM,uK,uL⟩:=iM HR0.out a1 GZ G5;cases e597;have RZ:=ak.mk uL;have R3:=ak.mk uK;clear uL uK;replace GZ:=eq_true GZ;replace G5:=eq_true G5;have p598:0≤(a1:Int):=q'b;have q598:a1<(l0.length:Int):=q'b;obtain⟨ad598,A598_4,c598_4,e598,hx598_0,hx598_1,hx598_2,hx598_3,LC,Ce,Cg⟩:=iM HR0.out a1 p598 q598;obtain rfl:NW=ad598:=(by injection e598);have HR598_4:=ak.mk Cg;have HC598_4:=ak.mk Ce;clear Cg Ce;replace p598:=eq_true p598;replace q598:=eq_true q598;have ea_:=Option.some.inj (FM.symm.trans LC);injection ea_ with ea_ en_ ec_
        subst ea_;subst ec_;clear en_;go_enter Tryz.func43,Tryz.ntmps43
        go_wp2_with(first|(go_at_call 31;(with_reducible refine(gU.calls k ((au l0 a1).f2) true _ A11.out).mono ?_);rintro e w13 ⟨rfl,hb⟩;replace HB:=ak.mk (aG bz hb);(try clear hb);(try clear hb2);(try clear hk);(try clear hi)))
        go_ret;exact⟨by first|rfl|(simp[aI,aJ]<;>rfl)|(simp[*,aI,aJ]<;>rfl),bz⟩
       ·replace c12:=Bool.eq_false_iff.mpr c12
        subst c12;have H1:((gJ.f l0 a1).bind fun t600=>(some t600))=some r:=by rw[if_neg (show¬(false=true) by decide)]at H;first|exact H|(simp only[eq_self]at H⊢;exact H)|(simp only[eq_self,if_true]at H⊢;exact H)
        clear H;have H:=H1;clear H1;replace H:=Option.bind_eq_some_iff.mp H;obtain⟨t600,A140,H⟩:=H
        try dsimp only at H
        have A14:=ak.mk A140;clear A140;obtain rfl:=Option.some.inj H;have GZ:0≤(a1:Int):=q'b;have G5:a1<(l0.length:Int):=q'b;obtain⟨NW,A597_4,c597_4,e597,RU,RV,RX,RY,FM,uK,uL⟩:=iM HR0.out a1 GZ G5;cases e597;have RZ:=ak.mk uL;have R3:=ak.mk uK;clear uL uK;replace GZ:=eq_true GZ;replace G5:=eq_true G5;have p598:0≤(a1:Int):=q'b;have q598:a1<(l0.length:Int):=q'b;obtain⟨ad598,A598_4,c598_4,e598,hx598_0,hx598_1,hx598_2,hx598_3,LC,Ce,Cg⟩:=iM HR0.out a1 p598 q598;obtain rfl:NW=ad598:=(by injection e598);have HR598_4:=ak.mk Cg;have HC598_4:=ak.mk Ce;clear Cg Ce;replace p598:=eq_true p598;replace q598:=eq_true q598;have ea_:=Option.some.inj (FM.symm.trans LC);injection ea_ with ea_ en_ ec_
        subst ea_;subst ec_;clear en_;go_enter Tryz.func43,Tryz.ntmps43
        go_wp2_with(first|(go_at_call 31;(with_reducible refine(gU.calls k ((au l0 a1).f2) false _ A11.out).mono ?_);rintro e w15 ⟨rfl,hb⟩;replace HB:=ak.mk (aG bz hb);(try clear hb);(try clear hb2);(try clear hk);(try clear hi))|((with_reducible refine bC (f:=90) rfl ?_);refine eG (some 35) rfl rfl Tryz.func90 (by kernel_rfl) rfl #[.slice (some NW) l0.length c0,.int .i64 a1] rfl q'a ?_;(with_reducible refine(gJ.calls _ _ l0 a1 t600 _ ?dI ?dJ A14.out (YtkcmghlhpbepcaaGreatDoor.Std.below HS_.out bz)).mono ?_);(case dI=>exact cz (Kd.bT HR0.out HB.out));(case dJ=>exact HC0.out);rintro e w16 ⟨rfl,hb⟩;refine⟨_,rfl,?_⟩;replace HB:=ak.mk (aG bz hb);(try clear hb);(try clear hb2);(try clear hk);(try clear hi)))
        go_ret;exact⟨by first|rfl|(simp[aI,aJ]<;>rfl)|(simp[*,aI,aJ]<;>rfl),bz⟩
      ·rw[if_neg c10]at H
       have Er:=beq_eq_false_iff_ne.mpr c10;have c10b1:=bne_iff_ne.mpr c10;obtain rfl:=Option.some.inj H;have GZ:0≤(a1:Int):=q'b;have G5:a1<(l0.length:Int):=q'b;obtain⟨NW,A597_4,c597_4,e597,RU,RV,RX,RY,FM,uK,uL⟩:=iM HR0.out a1 GZ G5;cases e597;have RZ:=ak.mk uL;have R3:=ak.mk uK;clear uL uK;replace GZ:=eq_true GZ;replace G5:=eq_true G5;go_enter Tryz.func43,Tryz.ntmps43;go_wp2;go_ret;exact⟨by first|rfl|(simp[aI,aJ]<;>rfl)|(simp[*,aI,aJ]<;>rfl),bz⟩
     ·rw[if_neg c9]at H
      exact absurd H (by simp)
    ·rw[if_neg c8]at H
     exact absurd H (by simp)
def DT.f:Option (List Bt):=some (([(⟨#[105,102,114,97,109,101]⟩:Bt),(⟨#[110,111,101,109,98,101,100]⟩:Bt),(⟨#[110,111,102,114,97,109,101,115]⟩:Bt),(⟨#[115,99,114,105,112,116]⟩:Bt),(⟨#[115,116,121,108,101]⟩:Bt),(⟨#[120,109,112]⟩:Bt)] :List Bt))
end Go.Proofs.aj.W7
