/- Lemmas and walks, part 10. -/
import Derived.Test.YtkcmghlhpbepcaaGreatDoorNB9
set_option linter.unusedVariables false
set_option linter.unusedSimpArgs false
set_option maxHeartbeats 8000000
set_option maxRecDepth 100000
namespace Go.Proofs.aj.W7
open Go.RowKit Go.Proofs.ah.aD Go.Proofs.ah.bH Go.Proofs.ah.bV
attribute [local go_sem] dA dB dP dQ bY bZ dD dF
def bM.j0:Nat→ByteArray→ByteArray→Bool→Option (List ByteArray)
 |0,_,_,_=>none
 |k+1,x0,x3,x4=>if x4=true then(some (([x0] :List ByteArray)))else(if x3.toList=([100,100] :List UInt8)then(some (([(⟨#[100,100]⟩:ByteArray),(⟨#[100,116]⟩:ByteArray)] :List ByteArray)))else(if x3.toList=([100,116] :List UInt8)then(some (([(⟨#[100,100]⟩:ByteArray),(⟨#[100,116]⟩:ByteArray)] :List ByteArray)))else(if x3.toList=([111,112,116,103,114,111,117,112] :List UInt8)then(some (([(⟨#[111,112,116,103,114,111,117,112]⟩:ByteArray),(⟨#[111,112,116,105,111,110]⟩:ByteArray)] :List ByteArray)))else(if x3.toList=([116,114] :List UInt8)then(some (([(⟨#[116,100]⟩:ByteArray),(⟨#[116,104]⟩:ByteArray),(⟨#[116,114]⟩:ByteArray)] :List ByteArray)))else(if x3.toList=([116,100] :List UInt8)then(some (([(⟨#[116,100]⟩:ByteArray),(⟨#[116,104]⟩:ByteArray)] :List ByteArray)))else(if x3.toList=([116,104] :List UInt8)then(some (([(⟨#[116,100]⟩:ByteArray),(⟨#[116,104]⟩:ByteArray)] :List ByteArray)))else((dX.f k x0).bind fun t155=>(if t155=true then(some (([(⟨#[116,98,111,100,121]⟩:ByteArray),(⟨#[116,100]⟩:ByteArray),(⟨#[116,102,111,111,116]⟩:ByteArray),(⟨#[116,104]⟩:ByteArray),(⟨#[116,104,101,97,100]⟩:ByteArray),(⟨#[116,114]⟩:ByteArray)] :List ByteArray)))else((gu.f k x0).bind fun t159=>(if t159=true then(some (([(⟨#[112]⟩:ByteArray)] :List ByteArray)))else(some ([] :List ByteArray))))))))))))
def bM.f(k:Nat)(a0:ByteArray):Option (List ByteArray):=if a0.toList=([108,105] :List UInt8)then(bM.j0 k a0 a0 (a0.toList==([108,105] :List UInt8)))else(bM.j0 k a0 a0 (a0.toList==([111,112,116,105,111,110] :List UInt8)))
theorem bM.Eb:∀k,(∀y0 y1 y2,LeO (bM.j0 k y0 y1 y2) (bM.j0 (k+1) y0 y1 y2))
 |0=>fun _ _ _ r h=>by simp[bM.j0]at h
 |k+1=>by
  have ih0:=bM.Eb k
  ·intro y0 y1 y2
   unfold bM.j0
   repeat' first
   |(with_reducible exact ih0 _ _ _)
   |(with_reducible exact gu.mono _ _)
   |(with_reducible exact dX.mono _ _)
   |(with_reducible exact LeO.refl _)
   |(with_reducible exact LeO.none _)
   |(with_reducible refine LeO.ite ?_ ?_)
   |(with_reducible refine LeO.bind ?_ (fun _=>?_))
   |exact ih0 _ _ _
   |exact gu.mono _ _
   |exact dX.mono _ _
   |exact LeO.none _
   |refine LeO.ite ?_ ?_
   |refine LeO.bind ?_ (fun _=>?_)
theorem bM.mono:∀a0 k,LeO (bM.f k a0) (bM.f (k+1) a0):=by
 intro a0 k;have ih0:=bM.Eb k;unfold bM.f
 repeat' first
  |(with_reducible exact ih0 _ _ _)
  |(with_reducible exact gu.mono _ _)
  |(with_reducible exact dX.mono _ _)
  |(with_reducible exact LeO.refl _)
  |(with_reducible exact LeO.none _)
  |(with_reducible refine LeO.ite ?_ ?_)
  |(with_reducible refine LeO.bind ?_ (fun _=>?_))
  |exact ih0 _ _ _
  |exact gu.mono _ _
  |exact dX.mono _ _
  |exact LeO.none _
  |refine LeO.ite ?_ ?_
  |refine LeO.bind ?_ (fun _=>?_)
theorem bM.calls(k:Nat)(a0:ByteArray)(r:List ByteArray)(w:World)(h:bM.f k a0=some r):
 Calls Tryz.prog 35 #[.string a0] w fun e w'=>∃v0_:Value,e=.returned (v0_)∧Kd.R Kd.string 9 w' w.heap.size (fun _=>True) v0_ r∧Below w.heap.size w w':=by
 have HB:=ak.mk (Below.refl w.heap.size w);have H:(if a0.toList=([108,105] :List UInt8)then(bM.j0 k a0 a0 (a0.toList==([108,105] :List UInt8)))else(bM.j0 k a0 a0 (a0.toList==([111,112,116,105,111,110] :List UInt8))))=some r:=h;clear h;have HC2:=ak.mk H;clear H;go_enter Tryz.func35,Tryz.ntmps35
 go_upto_if 4 with(fail)
 go_cut [4] (fun v4 wc=>∃(kq:Nat) (dZ:Bool),v4=.bool dZ∧ak (bM.j0 kq a0 a0 dZ=some r)∧ak (kq≤k)∧ak (Below w.heap.size w wc))
 case first=>
  have H:=HC2.out;clear HC2
  by_cases c3:a0.toList=([108,105] :List UInt8)
  ·rw[if_pos c3]at H
   have nC:(a0.toList==([108,105] :List UInt8))=true:=beq_iff_eq.mpr c3;have zi:(a0.toList !=([108,105] :List UInt8))=false:=bne_eq_false_iff_eq.mpr c3;clear c3
   (first|rw[nC] |(simp only[oD,oF];rw[nC])|skip)
   have H':=ak.mk H;clear H;go_wp2
   go_meet
   case rel=>exact⟨_,((a0.toList==([108,105] :List UInt8))),q'c,H',⟨by first|omega|exact Nat.le_refl _⟩,⟨bz⟩⟩
  ·rw[if_neg c3]at H
   have nC:(a0.toList==([108,105] :List UInt8))=false:=beq_eq_false_iff_ne.mpr c3;have zi:(a0.toList !=([108,105] :List UInt8))=true:=bne_iff_ne.mpr c3
   (first|rw[nC] |(simp only[oD,oF];rw[nC])|skip)
   have H':=ak.mk H;clear H;go_wp2
   go_meet
   case rel=>exact⟨_,((a0.toList==([111,112,116,105,111,110] :List UInt8))),q'c,H',⟨by first|omega|exact Nat.le_refl _⟩,⟨bz⟩⟩
 case rest=>
  clear HC2
  try clear p2
  try clear c3
  try clear nC
  try clear zi
  obtain⟨kq,dZ,rfl,HA,HJ1,HB⟩:=hcut;cases kq with
  |zero=>exact absurd HA.out (by simp[bM.j0])
  |succ kj1=>
   have H:=HA.out;clear HA;simp only[bM.j0]at H
   by_cases c4:dZ=true
   ·subst c4
    have H1:(some (([a0] :List ByteArray)))=some r:=by rw[if_pos rfl]at H;exact H
    clear H;have H:=H1;clear H1;obtain⟨y134,J7⟩:∃y_:List ByteArray,y_=(([a0] :List ByteArray)):=⟨_,rfl⟩
    replace H:(some y134)=some r:=by first|(rw[J7];with_reducible exact H)|(have H2_:=(Option.bind_some _ _).symm.trans H;rw[J7];with_reducible exact H2_)|(have H2_:=(Option.bind_some _ _).symm.trans H;with_reducible exact H2_)|with_reducible exact H|(rw[J7];exact H)|exact H
    have Ny134:=ak.mk J7;clear J7;obtain rfl:=Option.some.inj H
    go_wp2_with(first|((with_reducible refine cB (N:=19) rfl ?_);refine Kd.jN Kd.string _ 9 ?hg (N:=19) ?hd (xs:=([a0] :List ByteArray)) (inner:=[.string a0]) (ok:=fun _=>True) (okp:=fun _=>True) ?hr ?hp (fun _ hk=>hk) trivial (Below.refl _ _) (Nat.le_refl _) (by simp) ?_;(case hd=>rfl);(case hg=>rfl);(case hr=>first|(go_simp;done)|(go_simp;rfl));(case hp=>exact(bK.one (show Kd.M Kd.string _ _ _ a0 [.string a0]from rfl) (bK.none _ _)));intro v135 w5 ho6 hb hg_ fH;clear hg_ fH;(first|rw[←Ny134.out]at ho6|(simp only[Int.reduceToNat]at ho6;rw[←Ny134.out]at ho6));have n0_:=ak.mk (Kd.d9 ho6 (aR bz));have n1_:=ak.mk (aG bz hb);clear HB;have HO136:=n0_;have HB:=n1_;clear n0_ n1_;clear hb ho6))
    go_ret;exact⟨_,by first|rfl|(simp[aJ,aM]<;>rfl)|(simp[*,aJ,aM]<;>rfl),by(with_reducible repeat(first|apply Kd.fq|apply Kd.fT|apply Kd.fG));exact HO136.out,bz⟩
   ·replace c4:=Bool.eq_false_iff.mpr c4
    subst c4
    have H1:(if a0.toList=([100,100] :List UInt8)then(some (([(⟨#[100,100]⟩:ByteArray),(⟨#[100,116]⟩:ByteArray)] :List ByteArray)))else(if a0.toList=([100,116] :List UInt8)then(some (([(⟨#[100,100]⟩:ByteArray),(⟨#[100,116]⟩:ByteArray)] :List ByteArray)))else(if a0.toList=([111,112,116,103,114,111,117,112] :List UInt8)then(some (([(⟨#[111,112,116,103,114,111,117,112]⟩:ByteArray),(⟨#[111,112,116,105,111,110]⟩:ByteArray)] :List ByteArray)))else(if a0.toList=([116,114] :List UInt8)then(some (([(⟨#[116,100]⟩:ByteArray),(⟨#[116,104]⟩:ByteArray),(⟨#[116,114]⟩:ByteArray)] :List ByteArray)))else(if a0.toList=([116,100] :List UInt8)then(some (([(⟨#[116,100]⟩:ByteArray),(⟨#[116,104]⟩:ByteArray)] :List ByteArray)))else(if a0.toList=([116,104] :List UInt8)then(some (([(⟨#[116,100]⟩:ByteArray),(⟨#[116,104]⟩:ByteArray)] :List ByteArray)))else((dX.f kj1 a0).bind fun t155=>(if t155=true then(some (([(⟨#[116,98,111,100,121]⟩:ByteArray),(⟨#[116,100]⟩:ByteArray),(⟨#[116,102,111,111,116]⟩:ByteArray),(⟨#[116,104]⟩:ByteArray),(⟨#[116,104,101,97,100]⟩:ByteArray),(⟨#[116,114]⟩:ByteArray)] :List ByteArray)))else((gu.f kj1 a0).bind fun t159=>(if t159=true then(some (([(⟨#[112]⟩:ByteArray)] :List ByteArray)))else(some ([] :List ByteArray))))))))))))=some r:=by rw[if_neg (show¬(false=true) by decide)]at H;first|exact H|(simp only[eq_self]at H⊢;exact H)|(simp only[eq_self,if_true]at H⊢;exact H)
    clear H;have H:=H1;clear H1
    by_cases c7:a0.toList=([100,100] :List UInt8)
    ·rw[if_pos c7]at H
     have c7b0:(a0.toList==([100,100] :List UInt8))=true:=beq_iff_eq.mpr c7;have c7b1:(a0.toList !=([100,100] :List UInt8))=false:=bne_eq_false_iff_eq.mpr c7;clear c7;obtain⟨y137,J8⟩:∃y_:List ByteArray,y_=(([(⟨#[100,100]⟩:ByteArray),(⟨#[100,116]⟩:ByteArray)] :List ByteArray)):=⟨_,rfl⟩
     replace H:(some y137)=some r:=by first|(rw[J8];with_reducible exact H)|(have H2_:=(Option.bind_some _ _).symm.trans H;rw[J8];with_reducible exact H2_)|(have H2_:=(Option.bind_some _ _).symm.trans H;with_reducible exact H2_)|with_reducible exact H|(rw[J8];exact H)|exact H
     have Ny137:=ak.mk J8;clear J8;obtain rfl:=Option.some.inj H
     go_wp2_with(first|((with_reducible refine cB (N:=20) rfl ?_);refine Kd.jN Kd.string _ 9 ?hg (N:=20) ?hd (xs:=([(⟨#[100,100]⟩:ByteArray),(⟨#[100,116]⟩:ByteArray)] :List ByteArray)) (inner:=[.string (⟨#[100,100]⟩:ByteArray),.string (⟨#[100,116]⟩:ByteArray)]) (ok:=fun _=>True) (okp:=fun _=>True) ?hr ?hp (fun _ hk=>hk) trivial (Below.refl _ _) (Nat.le_refl _) (by simp) ?_;(case hd=>rfl);(case hg=>rfl);(case hr=>first|(go_simp;done)|(go_simp;rfl));(case hp=>exact(bK.one (show Kd.M Kd.string _ _ _ (⟨#[100,100]⟩:ByteArray) [.string (⟨#[100,100]⟩:ByteArray)]from rfl) (bK.one (show Kd.M Kd.string _ _ _ (⟨#[100,116]⟩:ByteArray) [.string (⟨#[100,116]⟩:ByteArray)]from rfl) (bK.none _ _))));intro v138 w8 ho9 hb hg_ fH;clear hg_ fH;(first|rw[←Ny137.out]at ho9|(simp only[Int.reduceToNat]at ho9;rw[←Ny137.out]at ho9));have n0_:=ak.mk (Kd.d9 ho9 (aR bz));have n1_:=ak.mk (aG bz hb);clear HB;have HO139:=n0_;have HB:=n1_;clear n0_ n1_;clear hb ho9))
     go_ret;exact⟨_,by first|rfl|(simp[aJ,aM]<;>rfl)|(simp[*,aJ,aM]<;>rfl),by(with_reducible repeat(first|apply Kd.fq|apply Kd.fT|apply Kd.fG));exact HO139.out,bz⟩
    ·rw[if_neg c7]at H
     have c7b0:(a0.toList==([100,100] :List UInt8))=false:=beq_eq_false_iff_ne.mpr c7;have c7b1:(a0.toList !=([100,100] :List UInt8))=true:=bne_iff_ne.mpr c7
     by_cases c10:a0.toList=([100,116] :List UInt8)
     ·rw[if_pos c10]at H
      have FT:(a0.toList==([100,116] :List UInt8))=true:=beq_iff_eq.mpr c10;have c10b1:(a0.toList !=([100,116] :List UInt8))=false:=bne_eq_false_iff_eq.mpr c10;clear c10;obtain⟨y140,J9⟩:∃y_:List ByteArray,y_=(([(⟨#[100,100]⟩:ByteArray),(⟨#[100,116]⟩:ByteArray)] :List ByteArray)):=⟨_,rfl⟩
      replace H:(some y140)=some r:=by first|(rw[J9];with_reducible exact H)|(have H2_:=(Option.bind_some _ _).symm.trans H;rw[J9];with_reducible exact H2_)|(have H2_:=(Option.bind_some _ _).symm.trans H;with_reducible exact H2_)|with_reducible exact H|(rw[J9];exact H)|exact H
      have Ny140:=ak.mk J9;clear J9;obtain rfl:=Option.some.inj H
      go_wp2_with(first|((with_reducible refine cB (N:=20) rfl ?_);refine Kd.jN Kd.string _ 9 ?hg (N:=20) ?hd (xs:=([(⟨#[100,100]⟩:ByteArray),(⟨#[100,116]⟩:ByteArray)] :List ByteArray)) (inner:=[.string (⟨#[100,100]⟩:ByteArray),.string (⟨#[100,116]⟩:ByteArray)]) (ok:=fun _=>True) (okp:=fun _=>True) ?hr ?hp (fun _ hk=>hk) trivial (Below.refl _ _) (Nat.le_refl _) (by simp) ?_;(case hd=>rfl);(case hg=>rfl);(case hr=>first|(go_simp;done)|(go_simp;rfl));(case hp=>exact(bK.one (show Kd.M Kd.string _ _ _ (⟨#[100,100]⟩:ByteArray) [.string (⟨#[100,100]⟩:ByteArray)]from rfl) (bK.one (show Kd.M Kd.string _ _ _ (⟨#[100,116]⟩:ByteArray) [.string (⟨#[100,116]⟩:ByteArray)]from rfl) (bK.none _ _))));intro v141 w11 ho12 hb hg_ fH;clear hg_ fH;(first|rw[←Ny140.out]at ho12|(simp only[Int.reduceToNat]at ho12;rw[←Ny140.out]at ho12));have n0_:=ak.mk (Kd.d9 ho12 (aR bz));have n1_:=ak.mk (aG bz hb);clear HB;have HO142:=n0_;have HB:=n1_;clear n0_ n1_;clear hb ho12))
      go_ret;exact⟨_,by first|rfl|(simp[aJ,aM]<;>rfl)|(simp[*,aJ,aM]<;>rfl),by(with_reducible repeat(first|apply Kd.fq|apply Kd.fT|apply Kd.fG));exact HO142.out,bz⟩
     ·rw[if_neg c10]at H
      have FT:(a0.toList==([100,116] :List UInt8))=false:=beq_eq_false_iff_ne.mpr c10;have c10b1:(a0.toList !=([100,116] :List UInt8))=true:=bne_iff_ne.mpr c10
      by_cases c13:a0.toList=([111,112,116,103,114,111,117,112] :List UInt8)
      ·rw[if_pos c13]at H
       have tY:(a0.toList==([111,112,116,103,114,111,117,112] :List UInt8))=true:=beq_iff_eq.mpr c13;have Ec:(a0.toList !=([111,112,116,103,114,111,117,112] :List UInt8))=false:=bne_eq_false_iff_eq.mpr c13;clear c13;obtain⟨y143,Ka⟩:∃y_:List ByteArray,y_=(([(⟨#[111,112,116,103,114,111,117,112]⟩:ByteArray),(⟨#[111,112,116,105,111,110]⟩:ByteArray)] :List ByteArray)):=⟨_,rfl⟩
       replace H:(some y143)=some r:=by first|(rw[Ka];with_reducible exact H)|(have H2_:=(Option.bind_some _ _).symm.trans H;rw[Ka];with_reducible exact H2_)|(have H2_:=(Option.bind_some _ _).symm.trans H;with_reducible exact H2_)|with_reducible exact H|(rw[Ka];exact H)|exact H
       have Ny143:=ak.mk Ka;clear Ka;obtain rfl:=Option.some.inj H
       go_wp2_with(first|((with_reducible refine cB (N:=21) rfl ?_);refine Kd.jN Kd.string _ 9 ?hg (N:=21) ?hd (xs:=([(⟨#[111,112,116,103,114,111,117,112]⟩:ByteArray),(⟨#[111,112,116,105,111,110]⟩:ByteArray)] :List ByteArray)) (inner:=[.string (⟨#[111,112,116,103,114,111,117,112]⟩:ByteArray),.string (⟨#[111,112,116,105,111,110]⟩:ByteArray)]) (ok:=fun _=>True) (okp:=fun _=>True) ?hr ?hp (fun _ hk=>hk) trivial (Below.refl _ _) (Nat.le_refl _) (by simp) ?_;(case hd=>rfl);(case hg=>rfl);(case hr=>first|(go_simp;done)|(go_simp;rfl));(case hp=>exact(bK.one (show Kd.M Kd.string _ _ _ (⟨#[111,112,116,103,114,111,117,112]⟩:ByteArray) [.string (⟨#[111,112,116,103,114,111,117,112]⟩:ByteArray)]from rfl) (bK.one (show Kd.M Kd.string _ _ _ (⟨#[111,112,116,105,111,110]⟩:ByteArray) [.string (⟨#[111,112,116,105,111,110]⟩:ByteArray)]from rfl) (bK.none _ _))));intro v144 w14 Ed hb hg_ fH;clear hg_ fH;(first|rw[←Ny143.out]at Ed|(simp only[Int.reduceToNat]at Ed;rw[←Ny143.out]at Ed));have n0_:=ak.mk (Kd.d9 Ed (aR bz));have n1_:=ak.mk (aG bz hb);clear HB;have HO145:=n0_;have HB:=n1_;clear n0_ n1_;clear hb Ed))
       go_ret;exact⟨_,by first|rfl|(simp[aJ,aM]<;>rfl)|(simp[*,aJ,aM]<;>rfl),by(with_reducible repeat(first|apply Kd.fq|apply Kd.fT|apply Kd.fG));exact HO145.out,bz⟩
      ·rw[if_neg c13]at H
       have tY:(a0.toList==([111,112,116,103,114,111,117,112] :List UInt8))=false:=beq_eq_false_iff_ne.mpr c13;have Ec:(a0.toList !=([111,112,116,103,114,111,117,112] :List UInt8))=true:=bne_iff_ne.mpr c13
       by_cases c16:a0.toList=([116,114] :List UInt8)
       ·rw[if_pos c16]at H
        have c16b0:(a0.toList==([116,114] :List UInt8))=true:=beq_iff_eq.mpr c16;have c16b1:(a0.toList !=([116,114] :List UInt8))=false:=bne_eq_false_iff_eq.mpr c16;clear c16;obtain⟨y146,Ke⟩:∃y_:List ByteArray,y_=(([(⟨#[116,100]⟩:ByteArray),(⟨#[116,104]⟩:ByteArray),(⟨#[116,114]⟩:ByteArray)] :List ByteArray)):=⟨_,rfl⟩
        replace H:(some y146)=some r:=by first|(rw[Ke];with_reducible exact H)|(have H2_:=(Option.bind_some _ _).symm.trans H;rw[Ke];with_reducible exact H2_)|(have H2_:=(Option.bind_some _ _).symm.trans H;with_reducible exact H2_)|with_reducible exact H|(rw[Ke];exact H)|exact H
        have Ny146:=ak.mk Ke;clear Ke;obtain rfl:=Option.some.inj H
        go_wp2_with(first|((with_reducible refine cB (N:=22) rfl ?_);refine Kd.jN Kd.string _ 9 ?hg (N:=22) ?hd (xs:=([(⟨#[116,100]⟩:ByteArray),(⟨#[116,104]⟩:ByteArray),(⟨#[116,114]⟩:ByteArray)] :List ByteArray)) (inner:=[.string (⟨#[116,100]⟩:ByteArray),.string (⟨#[116,104]⟩:ByteArray),.string (⟨#[116,114]⟩:ByteArray)]) (ok:=fun _=>True) (okp:=fun _=>True) ?hr ?hp (fun _ hk=>hk) trivial (Below.refl _ _) (Nat.le_refl _) (by simp) ?_;(case hd=>rfl);(case hg=>rfl);(case hr=>first|(go_simp;done)|(go_simp;rfl));(case hp=>exact(bK.one (show Kd.M Kd.string _ _ _ (⟨#[116,100]⟩:ByteArray) [.string (⟨#[116,100]⟩:ByteArray)]from rfl) (bK.one (show Kd.M Kd.string _ _ _ (⟨#[116,104]⟩:ByteArray) [.string (⟨#[116,104]⟩:ByteArray)]from rfl) (bK.one (show Kd.M Kd.string _ _ _ (⟨#[116,114]⟩:ByteArray) [.string (⟨#[116,114]⟩:ByteArray)]from rfl) (bK.none _ _)))));intro v147 w17 wK hb hg_ fH;clear hg_ fH;(first|rw[←Ny146.out]at wK|(simp only[Int.reduceToNat]at wK;rw[←Ny146.out]at wK));have n0_:=ak.mk (Kd.d9 wK (aR bz));have n1_:=ak.mk (aG bz hb);clear HB;have HO148:=n0_;have HB:=n1_;clear n0_ n1_;clear hb wK))
        go_ret;exact⟨_,by first|rfl|(simp[aJ,aM]<;>rfl)|(simp[*,aJ,aM]<;>rfl),by(with_reducible repeat(first|apply Kd.fq|apply Kd.fT|apply Kd.fG));exact HO148.out,bz⟩
       ·rw[if_neg c16]at H
        have c16b0:(a0.toList==([116,114] :List UInt8))=false:=beq_eq_false_iff_ne.mpr c16;have c16b1:(a0.toList !=([116,114] :List UInt8))=true:=bne_iff_ne.mpr c16
        by_cases c19:a0.toList=([116,100] :List UInt8)
        ·rw[if_pos c19]at H
         have Ee:(a0.toList==([116,100] :List UInt8))=true:=beq_iff_eq.mpr c19;have c19b1:(a0.toList !=([116,100] :List UInt8))=false:=bne_eq_false_iff_eq.mpr c19;clear c19;obtain⟨y149,Kg⟩:∃y_:List ByteArray,y_=(([(⟨#[116,100]⟩:ByteArray),(⟨#[116,104]⟩:ByteArray)] :List ByteArray)):=⟨_,rfl⟩
         replace H:(some y149)=some r:=by first|(rw[Kg];with_reducible exact H)|(have H2_:=(Option.bind_some _ _).symm.trans H;rw[Kg];with_reducible exact H2_)|(have H2_:=(Option.bind_some _ _).symm.trans H;with_reducible exact H2_)|with_reducible exact H|(rw[Kg];exact H)|exact H
         have Ny149:=ak.mk Kg;clear Kg;obtain rfl:=Option.some.inj H
         go_wp2_with(first|((with_reducible refine cB (N:=23) rfl ?_);refine Kd.jN Kd.string _ 9 ?hg (N:=23) ?hd (xs:=([(⟨#[116,100]⟩:ByteArray),(⟨#[116,104]⟩:ByteArray)] :List ByteArray)) (inner:=[.string (⟨#[116,100]⟩:ByteArray),.string (⟨#[116,104]⟩:ByteArray)]) (ok:=fun _=>True) (okp:=fun _=>True) ?hr ?hp (fun _ hk=>hk) trivial (Below.refl _ _) (Nat.le_refl _) (by simp) ?_;(case hd=>rfl);(case hg=>rfl);(case hr=>first|(go_simp;done)|(go_simp;rfl));(case hp=>exact(bK.one (show Kd.M Kd.string _ _ _ (⟨#[116,100]⟩:ByteArray) [.string (⟨#[116,100]⟩:ByteArray)]from rfl) (bK.one (show Kd.M Kd.string _ _ _ (⟨#[116,104]⟩:ByteArray) [.string (⟨#[116,104]⟩:ByteArray)]from rfl) (bK.none _ _))));intro v150 w20 Bt hb hg_ fH;clear hg_ fH;(first|rw[←Ny149.out]at Bt|(simp only[Int.reduceToNat]at Bt;rw[←Ny149.out]at Bt));have n0_:=ak.mk (Kd.d9 Bt (aR bz));have n1_:=ak.mk (aG bz hb);clear HB;have HO151:=n0_;have HB:=n1_;clear n0_ n1_;clear hb Bt))
         go_ret;exact⟨_,by first|rfl|(simp[aJ,aM]<;>rfl)|(simp[*,aJ,aM]<;>rfl),by(with_reducible repeat(first|apply Kd.fq|apply Kd.fT|apply Kd.fG));exact HO151.out,bz⟩
        ·rw[if_neg c19]at H
         have Ee:(a0.toList==([116,100] :List UInt8))=false:=beq_eq_false_iff_ne.mpr c19;have c19b1:(a0.toList !=([116,100] :List UInt8))=true:=bne_iff_ne.mpr c19
         by_cases c22:a0.toList=([116,104] :List UInt8)
         ·rw[if_pos c22]at H
          have c22b0:(a0.toList==([116,104] :List UInt8))=true:=beq_iff_eq.mpr c22;have c22b1:(a0.toList !=([116,104] :List UInt8))=false:=bne_eq_false_iff_eq.mpr c22;clear c22;obtain⟨y152,hy152⟩:∃y_:List ByteArray,y_=(([(⟨#[116,100]⟩:ByteArray),(⟨#[116,104]⟩:ByteArray)] :List ByteArray)):=⟨_,rfl⟩
          replace H:(some y152)=some r:=by first|(rw[hy152];with_reducible exact H)|(have H2_:=(Option.bind_some _ _).symm.trans H;rw[hy152];with_reducible exact H2_)|(have H2_:=(Option.bind_some _ _).symm.trans H;with_reducible exact H2_)|with_reducible exact H|(rw[hy152];exact H)|exact H
          have Ny152:=ak.mk hy152;clear hy152;obtain rfl:=Option.some.inj H
          go_wp2_with(first|((with_reducible refine cB (N:=23) rfl ?_);refine Kd.jN Kd.string _ 9 ?hg (N:=23) ?hd (xs:=([(⟨#[116,100]⟩:ByteArray),(⟨#[116,104]⟩:ByteArray)] :List ByteArray)) (inner:=[.string (⟨#[116,100]⟩:ByteArray),.string (⟨#[116,104]⟩:ByteArray)]) (ok:=fun _=>True) (okp:=fun _=>True) ?hr ?hp (fun _ hk=>hk) trivial (Below.refl _ _) (Nat.le_refl _) (by simp) ?_;(case hd=>rfl);(case hg=>rfl);(case hr=>first|(go_simp;done)|(go_simp;rfl));(case hp=>exact(bK.one (show Kd.M Kd.string _ _ _ (⟨#[116,100]⟩:ByteArray) [.string (⟨#[116,100]⟩:ByteArray)]from rfl) (bK.one (show Kd.M Kd.string _ _ _ (⟨#[116,104]⟩:ByteArray) [.string (⟨#[116,104]⟩:ByteArray)]from rfl) (bK.none _ _))));intro v153 w23 ho24 hb hg_ fH;clear hg_ fH;(first|rw[←Ny152.out]at ho24|(simp only[Int.reduceToNat]at ho24;rw[←Ny152.out]at ho24));have n0_:=ak.mk (Kd.d9 ho24 (aR bz));have n1_:=ak.mk (aG bz hb);clear HB;have HO154:=n0_;have HB:=n1_;clear n0_ n1_;clear hb ho24))
          go_ret;exact⟨_,by first|rfl|(simp[aJ,aM]<;>rfl)|(simp[*,aJ,aM]<;>rfl),by(with_reducible repeat(first|apply Kd.fq|apply Kd.fT|apply Kd.fG));exact HO154.out,bz⟩
         ·rw[if_neg c22]at H
          have c22b0:(a0.toList==([116,104] :List UInt8))=false:=beq_eq_false_iff_ne.mpr c22;have c22b1:(a0.toList !=([116,104] :List UInt8))=true:=bne_iff_ne.mpr c22;replace H:=Option.bind_eq_some_iff.mp H;obtain⟨t155,A250,H⟩:=H;replace H:(if t155=true then(some (([(⟨#[116,98,111,100,121]⟩:ByteArray),(⟨#[116,100]⟩:ByteArray),(⟨#[116,102,111,111,116]⟩:ByteArray),(⟨#[116,104]⟩:ByteArray),(⟨#[116,104,101,97,100]⟩:ByteArray),(⟨#[116,114]⟩:ByteArray)] :List ByteArray)))else((gu.f kj1 a0).bind fun t159=>(if t159=true then(some (([(⟨#[112]⟩:ByteArray)] :List ByteArray)))else(some ([] :List ByteArray)))))=some r:=H;have A25:=ak.mk A250;clear A250
          by_cases c26:t155=true
          ·subst c26
           have H1:(some (([(⟨#[116,98,111,100,121]⟩:ByteArray),(⟨#[116,100]⟩:ByteArray),(⟨#[116,102,111,111,116]⟩:ByteArray),(⟨#[116,104]⟩:ByteArray),(⟨#[116,104,101,97,100]⟩:ByteArray),(⟨#[116,114]⟩:ByteArray)] :List ByteArray)))=some r:=by rw[if_pos rfl]at H;exact H
           clear H;have H:=H1;clear H1;obtain⟨y156,Kh⟩:∃y_:List ByteArray,y_=(([(⟨#[116,98,111,100,121]⟩:ByteArray),(⟨#[116,100]⟩:ByteArray),(⟨#[116,102,111,111,116]⟩:ByteArray),(⟨#[116,104]⟩:ByteArray),(⟨#[116,104,101,97,100]⟩:ByteArray),(⟨#[116,114]⟩:ByteArray)] :List ByteArray)):=⟨_,rfl⟩
           replace H:(some y156)=some r:=by first|(rw[Kh];with_reducible exact H)|(have H2_:=(Option.bind_some _ _).symm.trans H;rw[Kh];with_reducible exact H2_)|(have H2_:=(Option.bind_some _ _).symm.trans H;with_reducible exact H2_)|with_reducible exact H|(rw[Kh];exact H)|exact H
           have Ny156:=ak.mk Kh;clear Kh;obtain rfl:=Option.some.inj H
           go_wp2_with(first|((with_reducible refine aZ (f:=82) rfl ?_);refine dI (some 25) rfl rfl Tryz.func82 (by kernel_rfl) rfl #[.string a0] rfl q'a ?_;(with_reducible refine(dX.calls kj1 a0 true _ A25.out).mono ?_);rintro e w27 ⟨rfl,hb⟩;refine⟨_,rfl,?_⟩;have n0_:=ak.mk (aG bz hb);clear HB;have HB:=n0_;clear n0_;(try clear hb);(try clear hb2);(try clear hk);(try clear hi))|((with_reducible refine cB (N:=26) rfl ?_);refine Kd.jN Kd.string _ 9 ?hg (N:=26) ?hd (xs:=([(⟨#[116,98,111,100,121]⟩:ByteArray),(⟨#[116,100]⟩:ByteArray),(⟨#[116,102,111,111,116]⟩:ByteArray),(⟨#[116,104]⟩:ByteArray),(⟨#[116,104,101,97,100]⟩:ByteArray),(⟨#[116,114]⟩:ByteArray)] :List ByteArray)) (inner:=[.string (⟨#[116,98,111,100,121]⟩:ByteArray),.string (⟨#[116,100]⟩:ByteArray),.string (⟨#[116,102,111,111,116]⟩:ByteArray),.string (⟨#[116,104]⟩:ByteArray),.string (⟨#[116,104,101,97,100]⟩:ByteArray),.string (⟨#[116,114]⟩:ByteArray)]) (ok:=fun _=>True) (okp:=fun _=>True) ?hr ?hp (fun _ hk=>hk) trivial (Below.refl _ _) (Nat.le_refl _) (by simp) ?_;(case hd=>rfl);(case hg=>rfl);(case hr=>first|(go_simp;done)|(go_simp;rfl));(case hp=>exact(bK.one (show Kd.M Kd.string _ _ _ (⟨#[116,98,111,100,121]⟩:ByteArray) [.string (⟨#[116,98,111,100,121]⟩:ByteArray)]from rfl) (bK.one (show Kd.M Kd.string _ _ _ (⟨#[116,100]⟩:ByteArray) [.string (⟨#[116,100]⟩:ByteArray)]from rfl) (bK.one (show Kd.M Kd.string _ _ _ (⟨#[116,102,111,111,116]⟩:ByteArray) [.string (⟨#[116,102,111,111,116]⟩:ByteArray)]from rfl) (bK.one (show Kd.M Kd.string _ _ _ (⟨#[116,104]⟩:ByteArray) [.string (⟨#[116,104]⟩:ByteArray)]from rfl) (bK.one (show Kd.M Kd.string _ _ _ (⟨#[116,104,101,97,100]⟩:ByteArray) [.string (⟨#[116,104,101,97,100]⟩:ByteArray)]from rfl) (bK.one (show Kd.M Kd.string _ _ _ (⟨#[116,114]⟩:ByteArray) [.string (⟨#[116,114]⟩:ByteArray)]from rfl) (bK.none _ _))))))));intro v157 w28 ho29 hb hg_ fH;clear hg_ fH;(first|rw[←Ny156.out]at ho29|(simp only[Int.reduceToNat]at ho29;rw[←Ny156.out]at ho29));have n0_:=ak.mk (Kd.d9 ho29 (aR bz));have n1_:=ak.mk (aG bz hb);clear HB;have HO158:=n0_;have HB:=n1_;clear n0_ n1_;clear hb ho29))
           go_ret;exact⟨_,by first|rfl|(simp[aJ,aM]<;>rfl)|(simp[*,aJ,aM]<;>rfl),by(with_reducible repeat(first|apply Kd.fq|apply Kd.fT|apply Kd.fG));exact HO158.out,bz⟩
          ·replace c26:=Bool.eq_false_iff.mpr c26
           subst c26;have H1:((gu.f kj1 a0).bind fun t159=>(if t159=true then(some (([(⟨#[112]⟩:ByteArray)] :List ByteArray)))else(some ([] :List ByteArray))))=some r:=by rw[if_neg (show¬(false=true) by decide)]at H;first|exact H|(simp only[eq_self]at H⊢;exact H)|(simp only[eq_self,if_true]at H⊢;exact H)
           clear H;have H:=H1;clear H1;replace H:=Option.bind_eq_some_iff.mp H;obtain⟨t159,A300,H⟩:=H;replace H:(if t159=true then(some (([(⟨#[112]⟩:ByteArray)] :List ByteArray)))else(some ([] :List ByteArray)))=some r:=H;have A30:=ak.mk A300;clear A300
           by_cases c31:t159=true
           ·subst c31
            have H1:(some (([(⟨#[112]⟩:ByteArray)] :List ByteArray)))=some r:=by rw[if_pos rfl]at H;exact H
            clear H;have H:=H1;clear H1;obtain⟨y160,hy160⟩:∃y_:List ByteArray,y_=(([(⟨#[112]⟩:ByteArray)] :List ByteArray)):=⟨_,rfl⟩
            replace H:(some y160)=some r:=by first|(rw[hy160];with_reducible exact H)|(have H2_:=(Option.bind_some _ _).symm.trans H;rw[hy160];with_reducible exact H2_)|(have H2_:=(Option.bind_some _ _).symm.trans H;with_reducible exact H2_)|with_reducible exact H|(rw[hy160];exact H)|exact H
            have Ny160:=ak.mk hy160;clear hy160;obtain rfl:=Option.some.inj H
            go_wp2_with(first|((with_reducible refine aZ (f:=82) rfl ?_);refine dI (some 25) rfl rfl Tryz.func82 (by kernel_rfl) rfl #[.string a0] rfl q'a ?_;(with_reducible refine(dX.calls kj1 a0 false _ A25.out).mono ?_);rintro e w32 ⟨rfl,hb⟩;refine⟨_,rfl,?_⟩;have n0_:=ak.mk (aG bz hb);clear HB;have HB:=n0_;clear n0_;(try clear hb);(try clear hb2);(try clear hk);(try clear hi))|((with_reducible refine aZ (f:=83) rfl ?_);refine dI (some 28) rfl rfl Tryz.func83 (by kernel_rfl) rfl #[.string a0] rfl q'a ?_;(with_reducible refine(gu.calls kj1 a0 true _ A30.out).mono ?_);rintro e w33 ⟨rfl,hb⟩;refine⟨_,rfl,?_⟩;have n0_:=ak.mk (aG bz hb);clear HB;have HB:=n0_;clear n0_;(try clear hb);(try clear hb2);(try clear hk);(try clear hi))|((with_reducible refine cB (N:=29) rfl ?_);refine Kd.jN Kd.string _ 9 ?hg (N:=29) ?hd (xs:=([(⟨#[112]⟩:ByteArray)] :List ByteArray)) (inner:=[.string (⟨#[112]⟩:ByteArray)]) (ok:=fun _=>True) (okp:=fun _=>True) ?hr ?hp (fun _ hk=>hk) trivial (Below.refl _ _) (Nat.le_refl _) (by simp) ?_;(case hd=>rfl);(case hg=>rfl);(case hr=>first|(go_simp;done)|(go_simp;rfl));(case hp=>exact(bK.one (show Kd.M Kd.string _ _ _ (⟨#[112]⟩:ByteArray) [.string (⟨#[112]⟩:ByteArray)]from rfl) (bK.none _ _)));intro v161 w34 ho35 hb hg_ fH;clear hg_ fH;(first|rw[←Ny160.out]at ho35|(simp only[Int.reduceToNat]at ho35;rw[←Ny160.out]at ho35));have n0_:=ak.mk (Kd.d9 ho35 (aR bz));have n1_:=ak.mk (aG bz hb);clear HB;have HO162:=n0_;have HB:=n1_;clear n0_ n1_;clear hb ho35))
            go_ret;exact⟨_,by first|rfl|(simp[aJ,aM]<;>rfl)|(simp[*,aJ,aM]<;>rfl),by(with_reducible repeat(first|apply Kd.fq|apply Kd.fT|apply Kd.fG));exact HO162.out,bz⟩
           ·replace c31:=Bool.eq_false_iff.mpr c31
            subst c31;have H1:(some ([] :List ByteArray))=some r:=by rw[if_neg (show¬(false=true) by decide)]at H;first|exact H|(simp only[eq_self]at H⊢;exact H)|(simp only[eq_self,if_true]at H⊢;exact H)
            clear H;have H:=H1;clear H1;obtain rfl:=Option.some.inj H
            go_wp2_with(first|((with_reducible refine aZ (f:=82) rfl ?_);refine dI (some 25) rfl rfl Tryz.func82 (by kernel_rfl) rfl #[.string a0] rfl q'a ?_;(with_reducible refine(dX.calls kj1 a0 false _ A25.out).mono ?_);rintro e w36 ⟨rfl,hb⟩;refine⟨_,rfl,?_⟩;have n0_:=ak.mk (aG bz hb);clear HB;have HB:=n0_;clear n0_;(try clear hb);(try clear hb2);(try clear hk);(try clear hi))|((with_reducible refine aZ (f:=83) rfl ?_);refine dI (some 28) rfl rfl Tryz.func83 (by kernel_rfl) rfl #[.string a0] rfl q'a ?_;(with_reducible refine(gu.calls kj1 a0 false _ A30.out).mono ?_);rintro e w37 ⟨rfl,hb⟩;refine⟨_,rfl,?_⟩;have n0_:=ak.mk (aG bz hb);clear HB;have HB:=n0_;clear n0_;(try clear hb);(try clear hb2);(try clear hk);(try clear hi)))
            go_ret;exact⟨_,by first|rfl|(simp[aJ,aM]<;>rfl)|(simp[*,aJ,aM]<;>rfl),by first|exact Kd.ni _ _ _ _ _|exact Kd.N_nil _ _ _ _ _|exact Kd.V_nil _ _ _ _ _|exact Kd.Q_nil _ _ _ _ _|exact Kd.S_nil _ _ _ _ _,bz⟩
end Go.Proofs.aj.W7
