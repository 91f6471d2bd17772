/- Lemmas and walks, part 29. -/
import Derived.Test.YtkcmghlhpbepcaaGreatDoorWI28
set_option linter.unusedVariables false
set_option linter.unusedSimpArgs false
set_option maxHeartbeats 8000000
set_option maxRecDepth 100000
namespace Go.Proofs.aj.W7
open Go.RowKit ah.aD ah.bH ah.bU
attribute [local go_sem] dB dD dW dX bZ cu dF dG
def qJ.f(a0 a1:Bt):Option ((List (S34))):=some (([(⟨0,0,a0,(⟨#[]⟩:Bt),([] :List (S36))⟩:S34),(⟨1,1,(⟨#[]⟩:Bt),a1,([] :List (S36))⟩:S34)] :List (S34)))
theorem qJ.calls(a0 a1:Bt)(r:List (S34))(w:World)(h:qJ.f a0 a1=some r):
 Calls Tryz.prog 46 #[.string a0,.string a1] w fun e w'=>∃v0_:Value,e=.returned (v0_)∧Kd.R k34 34 w' w.heap.size (fun _=>True) v0_ r∧Below w.heap.size w w':=by
 have hu34:=Tryz.underlying34;have HB:=ak.mk (Below.refl w.heap.size w);have H:(some (([(⟨0,0,a0,(⟨#[]⟩:Bt),([] :List (S36))⟩:S34),(⟨1,1,(⟨#[]⟩:Bt),a1,([] :List (S36))⟩:S34)] :List (S34))))=some r:=h;clear h;obtain⟨y593,NV⟩:∃y_:List (S34),y_=(([(⟨0,0,a0,(⟨#[]⟩:Bt),([] :List (S36))⟩:S34),(⟨1,1,(⟨#[]⟩:Bt),a1,([] :List (S36))⟩:S34)] :List (S34))):=⟨_,rfl⟩
 replace H:(some y593)=some r:=by first|(rw[NV];with_reducible exact H)|(have H2_:=(Option.bind_some _ _).symm.trans H;rw[NV];with_reducible exact H2_)|(have H2_:=(Option.bind_some _ _).symm.trans H;with_reducible exact H2_)|with_reducible exact H|(rw[NV];exact H)|exact H
 have Ny593:=ak.mk NV;clear NV;obtain rfl:=Option.some.inj H;go_enter Tryz.func46,Tryz.ntmps46
 go_wp2_with(first|((with_reducible refine cB (N:=9) rfl ?_);refine Kd.kg k34 _ 34 ?hg (N:=9) ?hd (xs:=([(⟨0,0,a0,(⟨#[]⟩:Bt),([] :List (S36))⟩:S34),(⟨1,1,(⟨#[]⟩:Bt),a1,([] :List (S36))⟩:S34)] :List (S34))) (inner:=[.int .i64 0,.int .i64 0,.string a0,.string (⟨#[]⟩:Bt),.slice none 0 0,.int .i64 1,.int .i64 1,.string (⟨#[]⟩:Bt),.string a1,.slice none 0 0]) (ok:=fun _=>True) (okp:=fun _=>True) ?hr ?hp (fun _ hk=>hk) trivial (Below.refl _ _) (Nat.le_refl _) (by simp) ?_;(case hd=>rfl);(case hg=>rfl);(case hr=>first|(go_simp;done)|(go_simp;rfl));(case hp=>exact(bM.c5 (show Kd.M k34 _ _ _ (⟨0,0,a0,(⟨#[]⟩:Bt),([] :List (S36))⟩:S34) [.int .i64 0,.int .i64 0,.string a0,.string (⟨#[]⟩:Bt),.slice none 0 0]from(wP _ _ _ (⟨0,0,a0,(⟨#[]⟩:Bt),([] :List (S36))⟩:S34) (Kd.oz _ _ _ _ _))) (bM.c5 (show Kd.M k34 _ _ _ (⟨1,1,(⟨#[]⟩:Bt),a1,([] :List (S36))⟩:S34) [.int .i64 1,.int .i64 1,.string (⟨#[]⟩:Bt),.string a1,.slice none 0 0]from(wP _ _ _ (⟨1,1,(⟨#[]⟩:Bt),a1,([] :List (S36))⟩:S34) (Kd.oz _ _ _ _ _))) (bM.none _ _))));intro v594 w3 ho4 hb hg_ gq;clear hg_ gq;(first|rw[←Ny593.out]at ho4|(simp only[Int.reduceToNat]at ho4;rw[←Ny593.out]at ho4));have HO595:=ak.mk (Kd.dU ho4 (aU bz));replace HB:=ak.mk (aG bz hb);clear hb ho4))
 go_ret;exact⟨_,by first|rfl|(simp[aI,aJ]<;>rfl)|(simp[*,aI,aJ]<;>rfl),by(with_reducible repeat(first|apply Kd.eZ|apply Kd.fG|apply Kd.dR));exact HO595.out,bz⟩
end Go.Proofs.aj.W7
namespace Go.Proofs.aj.W7
open Go.RowKit Go.Proofs YtkcmghlhpbepcaaGreatDoor ah.aD
abbrev aP:Bt:=⟨#[112]⟩
abbrev aS:Bt:=⟨#[115,99,114,105,112,116]⟩
abbrev aAB:Bt:=⟨#[97,60,98]⟩
abbrev aASB:Bt:=⟨#[97,60,47,98]⟩
abbrev aBR:Bt:=⟨#[98,114]⟩
abbrev aA:Bt:=⟨#[97]⟩
abbrev a0:Bt:=⟨#[]⟩
def oneR(a b:Bt):List Rw:=[⟨0,0,a,a0,[]⟩,⟨1,1,a0,b,[]⟩]
def ppR:List Rw:=[⟨0,0,aP,a0,[]⟩,⟨1,0,aP,a0,[]⟩]
def brR:List Rw:=[⟨0,0,aBR,a0,[⟨aA,⟨#[34]⟩⟩]⟩,⟨0,2,a0,⟨#[99]⟩,[]⟩]
theorem f1:nU.f (oneR aP aAB)=some ⟨#[60,112,62,97,38,108,116,59,98,60,47,112,62]⟩:=by kernel_rfl
theorem f2:nU.f (oneR aS aAB)=some ⟨#[60,115,99,114,105,112,116,62,97,60,98,60,47,115,99,114,105,112,116,62]⟩:=by kernel_rfl
theorem f3:gF.f 100 (oneR aP aAB) 0=some ⟨#[97,38,108,116,59,98]⟩:=by kernel_rfl
theorem f4:nU.f brR=some ⟨#[60,98,114,32,97,61,34,38,113,117,111,116,59,34,62,60,33,45,45,99,45,45,62]⟩:=by kernel_rfl
theorem g1:dL.f 200 (oneR aP aAB)=some true:=by kernel_rfl
theorem g2:dL.f 200 (oneR aS aAB)=some true:=by kernel_rfl
theorem g3:dL.f 200 (oneR aS aASB)=some false:=by kernel_rfl
theorem g4:dL.f 200 ppR=some false:=by kernel_rfl
theorem g5:dL.f 200 (oneR aBR aA)=some false:=by kernel_rfl
theorem one_c(a b:Bt)(w:World):Calls Tryz.prog 46 #[.string a,.string b] w fun e w'=>∃A c,e=.returned (.slice A 2 c)∧2≤c∧k34.C w' A 2 (oneR a b)∧Below w.heap.size w w':=by
 refine(qJ.calls a b (oneR a b) w rfl).mono ?_;rintro e w' ⟨v,rfl,hR,hb⟩;obtain⟨A,c,rfl,hc,hC⟩:=Kd.Fa hR;exact⟨A,c,rfl,hc,hC,hb⟩
abbrev ppO:Obj:=.cells #[.int .i64 0,.int .i64 0,.string aP,.string a0,.slice none 0 0,.int .i64 1,.int .i64 0,.string aP,.string a0,.slice none 0 0] 34
abbrev brA:Obj:=.cells #[.string aA,.string ⟨#[34]⟩] 36
abbrev brO(b:Nat):Obj:=.cells #[.int .i64 0,.int .i64 0,.string aBR,.string a0,.slice (some ⟨b,0,none⟩) 1 1,.int .i64 0,.int .i64 2,.string a0,.string ⟨#[99]⟩,.slice none 0 0] 34
theorem nilC(W:World):k36.C W none 0 []:=⟨rfl,by omega,fun h=>by omega⟩
abbrev ppV:List Value:=[.int .i64 0,.int .i64 0,.string aP,.string a0,.slice none 0 0,.int .i64 1,.int .i64 0,.string aP,.string a0,.slice none 0 0]
theorem pp_C(w:World):k34.C (w.alloc ppO) (some ⟨w.heap.size,0,none⟩) 2 ppR:=by
 have ho:(w.alloc ppO).ownsRow w.heap.size 34 5 (.slice (some ⟨w.heap.size,0,none⟩) 2 2) 2 ppV:=⟨rfl,.inr ⟨w.heap.size,2,_,rfl,Nat.le_refl _,bP w _ _,Nat.le_refl _,by unfold maxLen;omega,rfl,rfl⟩⟩;have hr:bM (k34.K (w.alloc ppO)) 5 ppR ppV:=bM.c5 (Kz _ ⟨0,0,aP,a0,[]⟩ (Nat.le_refl _) (nilC _)) (bM.c5 (Kz _ ⟨1,0,aP,a0,[]⟩ (Nat.le_refl _) (nilC _)) (bM.none _ _));obtain⟨A,c,e,h⟩:=qY ho hr rfl;cases e;exact h
abbrev brV(b:Nat):List Value:=[.int .i64 0,.int .i64 0,.string aBR,.string a0,.slice (some ⟨b,0,none⟩) 1 1,.int .i64 0,.int .i64 2,.string a0,.string ⟨#[99]⟩,.slice none 0 0]
theorem at_C(w:World):k36.C (w.alloc brA) (some ⟨w.heap.size,0,none⟩) 1 [⟨aA,⟨#[34]⟩⟩]:=by
 have ho:(w.alloc brA).ownsRow w.heap.size 36 2 (.slice (some ⟨w.heap.size,0,none⟩) 1 1) 1 [.string aA,.string ⟨#[34]⟩]:=⟨rfl,.inr ⟨w.heap.size,1,_,rfl,Nat.le_refl _,bP w _ _,Nat.le_refl _,by unfold maxLen;omega,rfl,rfl⟩⟩;have hr:bM (k36.K (w.alloc brA)) 2 [(⟨aA,⟨#[34]⟩⟩:S36)] [.string aA,.string ⟨#[34]⟩]:=bM.c2 (k36_mk _ ⟨aA,⟨#[34]⟩⟩) (bM.none _ _);obtain⟨A,c,e,h⟩:=qY ho hr rfl;cases e;exact h
theorem br_C(w:World):k34.C ((w.alloc brA).alloc (brO w.heap.size)) (some ⟨w.heap.size+1,0,none⟩) 2 brR:=by
 have hn:=bP (w.alloc brA) #[.int .i64 0,.int .i64 0,.string aBR,.string a0,.slice (some ⟨w.heap.size,0,none⟩) 1 1,.int .i64 0,.int .i64 2,.string a0,.string ⟨#[99]⟩,.slice none 0 0] 34;rw[World.size_alloc]at hn;have ho:((w.alloc brA).alloc (brO w.heap.size)).ownsRow 0 34 5 (.slice (some ⟨w.heap.size+1,0,none⟩) 2 2) 2 (brV w.heap.size):=⟨rfl,.inr ⟨w.heap.size+1,2,_,rfl,Nat.zero_le _,hn,Nat.le_refl _,by unfold maxLen;omega,rfl,rfl⟩⟩;have hr:bM (k34.K ((w.alloc brA).alloc (brO w.heap.size))) 5 brR (brV w.heap.size):=bM.c5 (Kz _ ⟨0,0,aBR,a0,[⟨aA,⟨#[34]⟩⟩]⟩ (Nat.le_refl _) (Kd.eH (at_C w) _)) (bM.c5 (Kz _ ⟨0,2,a0,⟨#[99]⟩,[]⟩ (Nat.le_refl _) (nilC _)) (bM.none _ _));obtain⟨A,c,e,h⟩:=qY ho hr rfl;cases e;exact h
theorem fixed_c(w:World)(hS:Gw w):Calls Tryz.prog 16 #[] w fun e w'=>e=.returned (.bool true)∧Below w.heap.size w w':=by
 have hpp:=pp_C w;have HB:=(Below.refl w.heap.size w).alloc (Nat.le_refl _) ppO;have HP:=Below.refl (w.alloc ppO).heap.size (w.alloc ppO);go_enter Tryz.func16,Tryz.ntmps16
 go_wp2_with(first
  |(go_at_call 46;((with_reducible refine(one_c _ _ _).mono ?_);rintro e w1 ⟨A1,c1,rfl,hc1,hC1,hb1⟩;have HBn:=YtkcmghlhpbepcaaGreatDoor.bB HB HB.size hb1;have HPn:=YtkcmghlhpbepcaaGreatDoor.bB HP HP.size hb1;clear HB HP;have HB:=HBn;have HP:=HPn;clear HBn HPn))
  |(go_at_call 42;((first|refine(nU.calls A1 c1 _ _ _ hC1 hc1 f1 (hS.below HB)).mono ?_ |refine(nU.calls A1 c1 _ _ _ hC1 hc1 f2 (hS.below HB)).mono ?_);rintro e w2 ⟨rfl,hb2⟩;have HBn:=YtkcmghlhpbepcaaGreatDoor.bB HB HB.size hb2;have HPn:=YtkcmghlhpbepcaaGreatDoor.bB HP HP.size hb2;clear HB HP;have HB:=HBn;have HP:=HPn;clear HBn HPn))
  |(go_at_call 43;((refine(gF.calls 100 A1 c1 _ 0 _ _ hC1 hc1 f3 (hS.below HB)).mono ?_);rintro e w3 ⟨rfl,hb3⟩;have HBn:=YtkcmghlhpbepcaaGreatDoor.bB HB HB.size hb3;have HPn:=YtkcmghlhpbepcaaGreatDoor.bB HP HP.size hb3;clear HB HP;have HB:=HBn;have HP:=HPn;clear HBn HPn))
  |(go_at_call 42;(have HBm:=(HB.alloc HB.size brA).alloc (by rw[World.size_alloc];exact Nat.le_succ_of_le HB.size) (brO w3.heap.size);have HPm:=(HP.alloc HP.size brA).alloc (Nat.le_trans HP.size (by rw[World.size_alloc w3];exact Nat.le_succ _)) (brO w3.heap.size);(refine(nU.calls (some ⟨w3.heap.size+1,0,none⟩) 2 brR _ _ (br_C w3) (by decide) f4 (hS.below HBm)).mono ?_);rintro e w4 ⟨rfl,hb4⟩;have HBn:=YtkcmghlhpbepcaaGreatDoor.bB HBm HBm.size hb4;have HPn:=YtkcmghlhpbepcaaGreatDoor.bB HPm HPm.size hb4;clear HB HP HBm HPm;have HB:=HBn;have HP:=HPn;clear HBn HPn))
  |(go_at_call 17;((first|refine(dL.calls 200 A1 c1 _ _ _ hC1 hc1 g1 (hS.below HB)).mono ?_ |refine(dL.calls 200 A1 c1 _ _ _ hC1 hc1 g2 (hS.below HB)).mono ?_ |refine(dL.calls 200 A1 c1 _ _ _ hC1 hc1 g3 (hS.below HB)).mono ?_ |refine(dL.calls 200 A1 c1 _ _ _ hC1 hc1 g5 (hS.below HB)).mono ?_ |refine(dL.calls 200 (some ⟨w.heap.size,0,none⟩) 2 _ _ _ (Kd.bT hpp HP) (by decide) g4 (hS.below HB)).mono ?_);rintro e w5 ⟨rfl,hb5⟩;have HBn:=YtkcmghlhpbepcaaGreatDoor.bB HB HB.size hb5;have HPn:=YtkcmghlhpbepcaaGreatDoor.bB HP HP.size hb5;clear HB HP;have HB:=HBn;have HP:=HPn;clear HBn HPn)))
 go_ret;exact⟨rfl,HB⟩
def eX.f:Option Bool:=some true
theorem eX.calls(r:Bool)(w:World)(h:eX.f=some r)(hS_:Gw w):Calls Tryz.prog 16 #[] w fun e w'=>e=.returned (.bool r)∧Below w.heap.size w w':=by
 obtain rfl:=Option.some.inj h;exact fixed_c w hS_
end Go.Proofs.aj.W7
namespace Go.Proofs.aj.W7
open Go.RowKit ah.aD ah.bH ah.bU
attribute [local go_sem] dB dD dW dX bZ cu dF dG
end Go.Proofs.aj.W7
namespace Go.Proofs.aj.W7
open Go.RowKit Go.Proofs aj YtkcmghlhpbepcaaGreatDoor ah.aD YtkcmghlhpbepcaaGreatDoor.Ch
theorem opA_len(op:List Bt)(x:Rw):(opA (op.take x.f0.toNat) x).length≤x.f0.toNat+1:=by
 unfold opA
 split
 ·rw[List.length_append,List.length_take,List.length_singleton];omega
 ·rw[List.length_take];omega
theorem Gb:∀(r:List Rw) (op:List Bt) (out:List Rw),RowsFit r op out→∀j,(h:j<r.length)→
 (r[j].f1=0∨r[j].f1=1∨r[j].f1=2)∧0≤r[j].f0∧r[j].f0≤op.length+j∧∀i,(e:i+1=j)→r[j].f0≤r[i].f0+1
 | [],_,_,_,j,h=>by simp at h
 |x::r,op,out,hf,0,h=>⟨hf.1.kind,hf.1.lo,by have:=hf.1.hi;simpa using this,fun i e=>by omega⟩
 |x::r,op,out,hf,j+1,h=>by
  have hl:=opA_len op x;have hlo:=hf.1.lo;have hhi:=hf.1.hi;have hj:j<r.length:=by simpa using h
  obtain⟨a,b,c,d⟩:=Gb r _ _ hf.2 j hj;refine⟨a,b,by simp only[List.getElem_cons_succ];omega,fun i e=>?_⟩;obtain rfl:i=j:=by omega
  cases i with
  |zero=>simp only[List.getElem_cons_succ,List.getElem_cons_zero];omega
  |succ i=>exact d i rfl
theorem U9{xs:List Rw}(h:RowsFit xs [] []):QA xs:=by
 intro j hj;obtain⟨a,b,c,d⟩:=Gb xs [] [] h j hj;have hr:=nJ xs j hj;refine⟨by rw[hr];exact a,by rw[lI xs j hj];exact b,by rw[lI xs j hj];simpa using c,fun h0=>?_⟩;rw[lI xs j hj,lI xs (j - 1) (by omega)];exact d (j - 1) (by omega)
def enN(n:Bt):Nat:=n.data.toList.length+3
def mR(x:Rw):Nat:=wt (mP x)+if x.f1=0 then enN x.f2 else 0
def mS(l:List Rw):Nat:=(l.map mR).sum
theorem yJ(a b:List Rw):mS (a++b)=mS a+mS b:=by simp[mS]
theorem Bw(x:Rw):mS [x]=mR x:=by simp[mS]
def enS(l:List Bt):Nat:=(l.map enN).sum
theorem Vd(op:List Bt)(k:Nat):enS op=enS (op.take k)+enS (op.drop k):=by
 unfold enS
 conv=>lhs;rw[←List.take_append_drop k op]
 rw[List.map_append,List.sum_append]
theorem end_len(b:Bool)(n:Bt):(oG b (endP n)).length=enN n:=by
 unfold endP oG enN;simp[jR,dY,mY]
theorem I5:∀(m:List Bt) (b:Bool) (L:List Tok),(eY b (m.map endP++L)).length≤enS m+max (eY false L).length (eY b L).length
 | [],b,L=>by simp[enS];omega
 |n::m,b,L=>by
  have h:=I5 m (sj (endP n)) L;have e:sj (endP n)=false:=by simp[sj,endP]
  rw[e]at h;rw[List.map_cons,List.cons_append,eY,List.length_append,end_len,e];have e2:enS (n::m)=enN n+enS m:=by simp[enS]
  omega
theorem IL:∀(r:List Rw) (op:List Bt) (b:Bool),(eY b (kT r op)).length≤mS r+enS op
 | [],op,b=>by
   have h:=I5 op.reverse b [];have e:enS op.reverse=enS op:=by simp[enS]
   rw[List.append_nil]at h;rw[kT];have e2:mS []=0:=rfl;have e3:∀c,(eY c []).length=0:=fun _=>rfl
   rw[e3,e3]at h;omega
 |x::r,op,b=>by
  have hs:=Vd op x.f0.toNat
  have h1:∀c,(eY c (mP x::kT r (opA (op.take x.f0.toNat) x))).length≤mS (x::r)+enS (op.take x.f0.toNat):=by
   intro c;have h2:=IL r (opA (op.take x.f0.toNat) x) (sj (mP x));have h3:=tokW_le c (mP x)
   have h4:enS (opA (op.take x.f0.toNat) x)≤enS (op.take x.f0.toNat)+if x.f1=0 then enN x.f2 else 0:=by
    unfold opA
    split
    ·rename_i hc
     rw[if_pos hc.1];simp[enS]
    ·omega
   have e:mS (x::r)=mR x+mS r:=by simp[mS]
   rw[eY,List.length_append,e];unfold mR;omega
  have h5:=I5 (op.drop x.f0.toNat).reverse b (mP x::kT r (opA (op.take x.f0.toNat) x));have e:enS (op.drop x.f0.toNat).reverse=enS (op.drop x.f0.toNat):=by simp[enS]
  have h6:=h1 false;have h7:=h1 b;rw[kT];omega
theorem Ke(a b:List (Txt×Txt)):dY (a++b)=dY a++dY b:=by simp[dY]
theorem Ef:∀(l out:List At),(dY ((qC out l).map lV)).length≤(dY (out.map lV)).length+(dY (l.map lV)).length
 | [],out=>by simp[qC]
 |a::r,out=>by
  have e:dY ((a::r).map lV)=dY ([a].map lV)++dY (r.map lV):=by rw[←Ke];rfl
  rw[qC,e,List.length_append]
  split
  ·have:=Ef r out
   omega
  ·have:=Ef r (out++[a])
   rw[List.map_append,Ke,List.length_append]at this;omega
theorem el_m(d:Int)(nm:Bt)(l:List At):mR ⟨d,0,nm,⟨#[]⟩,l⟩=2 * nm.data.toList.length+(dY (l.map lV)).length+5:=by
 unfold mR mP;simp only[if_true];rw[OC];simp[jR,mY,enN];omega
theorem tx_m(d:Int)(s:Bt):mR ⟨d,1,⟨#[]⟩,s,[]⟩=6 * s.data.toList.length:=by simp[mR,mP,wt]
theorem QH(x:Rw)(h:x.f1=1):mR x=6 * x.f3.data.toList.length:=by
 unfold mR mP;rw[h];simp[wt]
theorem nt_m(d:Int)(s:Bt):mR ⟨d,2,⟨#[]⟩,s,[]⟩=s.data.toList.length+7:=by
 unfold mR mP;simp only;rw[if_neg (by decide),if_neg (by decide),if_neg (by decide),wt_k3];simp
theorem step_m(t:Tok)(op:List Bt)(out:List Rw)(ht:lZ t)(hb:(gI op out (kZ t)).2.2=false):3 * mS (gI op out (kZ t)).2.1≤3 * mS out+7 * wt t:=by
 have hsame:3 * mS out≤3 * mS out+7 * wt t:=by omega
 have hk:=ht.le;have hk0:=ht.ge
 rcases(show t.kind=0∨t.kind=1∨t.kind=2∨t.kind=3∨t.kind=4 from by omega)with k|k|k|k|k
 ·obtain⟨kd,nm,l,d,sf⟩:=t
  simp only at k;subst k;have e:gI op out (kZ ⟨0,nm,l,d,sf⟩)=(op,aj.W7.gT op out false ⟨d.toArray⟩):=by simp[gI,kZ]
  rw[e]at hb⊢;have hw:wt ⟨0,nm,l,d,sf⟩=6 * d.length:=by simp[wt]
  rw[hw];unfold aj.W7.gT at hb⊢
  by_cases e1:(⟨d.toArray⟩:Bt).data.toList=[]
  ·rw[if_pos e1];simp only;omega
  rw[if_neg e1]at hb⊢;cases hj:nu op out with
  |false=>
   rw[hj,if_neg (by decide)]at hb;rw[if_neg (by decide)];show 3 * mS (kN op out false ⟨0,1,⟨#[]⟩,⟨d.toArray⟩,[]⟩).1≤_;rw[yH hb,yJ,Bw,tx_m];show 3 * (mS out+6 * d.length)≤_;omega
  |true=>
   rw[if_pos rfl];unfold nu at hj;cases hL:out.getLast? with
   |none=>rw[hL]at hj;cases hj
   |some y=>
    rw[hL]at hj;simp only[Bool.and_eq_true,decide_eq_true_eq]at hj;have hpos:0<out.length:=by cases out with|nil=>cases hL|cons a l=>simp
    have hr:=CX out hpos;rw[hL]at hr;rw[←Option.some.inj hr];obtain⟨pre,rfl⟩:=List.getLast?_eq_some_iff.1 hL;have e2:(pre++[y]).set ((pre++[y]).length - 1) (vQ y ⟨d.toArray⟩)=pre++[vQ y ⟨d.toArray⟩]:=by simp
    show 3 * mS ((pre++[y]).set ((pre++[y]).length - 1) (vQ y ⟨d.toArray⟩))≤_;rw[e2,yJ,yJ,Bw,Bw]
    have h1:mR (vQ y ⟨d.toArray⟩)=mR y+6 * d.length:=by
     rw[QH y hj.1,QH (vQ y ⟨d.toArray⟩) hj.1];have e3:(y.f3++(⟨d.toArray⟩:Bt)).data.toList=y.f3.data.toList++d:=Io _ _;show 6 * (y.f3++(⟨d.toArray⟩:Bt)).data.toList.length=_;rw[e3,List.length_append];omega
    rw[h1];omega
 ·obtain⟨kd,nm,l,d,sf⟩:=t
  simp only at k;subst k;have hd:=(ht.tag (.inl rfl)).2;simp only at hd;subst hd;rw[Dc]at hb⊢
  have hw:wt ⟨1,nm,l,[],sf⟩=nm.length+(dY l).length+(mY sf).length+2:=by
   rw[OC];simp[jR];omega
  unfold kP at hb⊢
  by_cases e1:(⟨nm.toArray⟩:Bt).data.toList=[]
  ·rw[if_pos e1];exact hsame
  rw[if_neg e1]at hb⊢;have hne:0<nm.length:=List.length_pos_iff.2 e1;cases e2:mo ⟨nm.toArray⟩with
  |true=>rw[if_pos rfl];exact hsame
  |false=>
   rw[e2,if_neg (by decide)]at hb;rw[if_neg (by decide)];show 3 * mS (kN (gH op ⟨nm.toArray⟩) out false ⟨0,0,⟨nm.toArray⟩,⟨#[]⟩,ny (l.map pairT)⟩).1≤_;rw[yH hb,yJ,Bw,el_m,hw];have h3:=Ef (l.map pairT) [];rw[Gx]at h3;have h3:(dY ((ny (l.map pairT)).map lV)).length≤(dY l).length:=by simpa [dY,ny]using h3
   show 3 * (mS out+(2 * nm.length+(dY ((ny (l.map pairT)).map lV)).length+5))≤_;omega
 ·obtain⟨kd,nm,l,d,sf⟩:=t
  simp only at k;subst k;have e:gI op out (kZ ⟨2,nm,l,d,sf⟩)=aj.W7.iL op out false ⟨nm.toArray⟩:=by simp[gI,kZ]
  rw[e]at hb⊢;have hd:=(ht.tag (.inr rfl)).2;have hat:=ht.start (by simp);simp only at hd hat;obtain⟨rfl,rfl⟩:=hat;subst hd
  have hw:wt ⟨2,nm,[],[],false⟩=nm.length+3:=by
   rw[wt_k2];simp[jR,dY,mY]
  rw[hw]at hsame⊢;unfold aj.W7.iL at hb⊢
  by_cases e1:(⟨nm.toArray⟩:Bt).data.toList=[]
  ·rw[if_pos e1];exact hsame
  rw[if_neg e1]at hb⊢
  by_cases e2:mo ⟨nm.toArray⟩=true
  ·rw[if_pos e2];exact hsame
  rw[if_neg e2]at hb⊢
  by_cases e3:jq ⟨nm.toArray⟩=true
  ·rw[if_pos e3];exact hsame
  rw[if_neg e3]at hb⊢
  by_cases e4:0≤dS op [⟨nm.toArray⟩] (zZ ⟨nm.toArray⟩) op.length
  ·rw[if_pos e4];exact hsame
  rw[if_neg e4]at hb⊢
  by_cases e5:(⟨nm.toArray⟩:Bt).data.toList=[112]
  ·rw[if_pos e5]at hb⊢
   show 3 * mS (kN op out false ⟨0,0,⟨nm.toArray⟩,⟨#[]⟩,[]⟩).1≤_;rw[yH hb,yJ,Bw,el_m];have e6:nm=[112]:=e5;subst e6;show 3 * (mS out+(2 * 1+0+5))≤3 * mS out+7 * (1+3);omega
  ·rw[if_neg e5];exact hsame
 ·obtain⟨kd,nm,l,d,sf⟩:=t
  simp only at k;subst k;have hn:=ht.other (by simp) (by simp);have hat:=ht.start (by simp);simp only at hn hat;obtain⟨rfl,rfl⟩:=hat;subst hn;rw[TK]at hb⊢
  have hw:wt ⟨3,[],[],d,false⟩=d.length+7:=by
   rw[wt_k3];simp
  rw[hw];show 3 * mS (kN op out false ⟨0,2,⟨#[]⟩,⟨d.toArray⟩,[]⟩).1≤_;rw[yH hb,yJ,Bw,nt_m];show 3 * (mS out+(d.length+7))≤_;omega
 ·obtain⟨kd,nm,l,d,sf⟩:=t
  simp only at k;subst k;have e:gI op out (kZ ⟨4,nm,l,d,sf⟩)=(op,out,false):=by simp[gI,kZ]
  rw[e];exact hsame
theorem QG:∀(L:List Tok) (op:List Bt) (out o:List Rw),(∀t∈L,lZ t)→jQ (L.map kZ) op out=some o→3 * mS o≤3 * mS out+7 * wts L
 | [],op,out,o,_,h=>by
   obtain rfl:=Option.some.inj h;omega
 |t::L,op,out,o,ht,h=>by
  obtain⟨hb,h2⟩:=ng h;have h3:=step_m t op out (ht t (by simp)) hb;have h4:=QG L _ _ o (fun x hx=>ht x (by simp[hx])) h2;rw[CU];omega
theorem TQ{α:Type}(f:α→Nat)(M:Nat):∀(l:List α),(∀x∈l,f x≤M)→(l.map f).sum≤l.length * M
 | [],_=>by simp
 |x::l,h=>by
  have h1:=h x (by simp);have h2:=TQ f M l (fun y hy=>h y (by simp[hy]));rw[List.map_cons,List.sum_cons,List.length_cons,Nat.add_mul];omega
theorem Ms(s nm:Txt)(hs:s.length≤500)(o:List Rw)(h:jQ (uY s nm) [] []=some o)(hR:Rows o)(hB:∃op,Built op o (oL (uY s nm))∧∀x∈o,x.f4.length≤80 * s.length):
 (Bg (kT o [])).length≤65536∧SizeQ o∧(∀x∈o,x.f3.size≤40000)∧o.length≤4096:=by
 obtain⟨op,hb,ha⟩:=hB;have h1:=tQ s;have h2:=D5 (j5 s) nm;have h3:=QG (inL (j5 s) nm) [] [] o (Mi _ _) h;have h4:=IL o [] false;have h5:=(Bj s nm (by omega)).1;have h6:∀x∈o,x.f3.size≤40000:=fun x hx=>by have:=hb.size x hx;omega
 have e0:mS []=0:=rfl;have e1:enS []=0:=rfl
 have Mw:∀x∈o,own x≤3000000:=by
  intro x hx;have h7:=(hR.base x hx).sz;have h8:=h6 x hx;have hz:x.f3.data.toList.length=x.f3.size:=Array.length_toList
  have h9:x.f4.flatMap atT=dY (x.f4.map lV):=by
   unfold dY;rw[List.flatMap_map]
   congr 1
   funext a
   simp[atT,lV]
  unfold own tagT;rw[h9];simp only[List.length_append,List.length_cons,List.length_nil];omega
 refine⟨by unfold Bg;omega,⟨by have:=hb.len;omega,fun k hk=>by have:=Mw o[k] (List.getElem_mem hk);omega,?_,fun x hx=>by have:=ha x hx;omega⟩,h6,hb.len⟩;have h7:=TQ own 3000000 o Mw;have h8:=hb.len;have h9:o.length * 3000000≤4096 * 3000000:=Nat.mul_le_mul_right _ h8;unfold zF;rw[List.drop_zero];omega
theorem Pg:∀ {xs:List Rw},zD xs→∀m,(h:m<xs.length)→F5 xs[m] (xs.drop (m+1))
 | [],_,m,h=>by simp at h
 |x::r,hg,0,_=>hg.1
 |x::r,hg,m+1,h=>Pg hg.2 m (by simpa using h)
theorem O9(s nm:Bt)(L:List Tok)(o:List Rw)(hz:s.size≤65536)(hc:Cln s.data.toList)(hL:inL s.data.toList nm.data.toList=L)(hS:oL (L.map kZ)≤9223372036854775807)(ha:∀t∈L.map kZ,t.f3.length≤1000000)(ht:jQ (L.map kZ) [] []=some o):ko.f s nm=some (o,0):=by
 have hl:s.data.toList.length=s.size:=Array.length_toList;unfold ko.f;rw[if_neg (by omega)];unfold mh.f;rw[if_pos (by omega),Option.bind_some,UJ hc];unfold ru.f;have hq:(⟨s.data.toList.toArray⟩:Bt).size=s.size:=by show(List.toArray s.data.toList).size=_;simp
 rw[if_pos (by omega),Option.bind_some];have e:inL (⟨s.data.toList.toArray⟩:Bt).data.toList nm.data.toList=L:=hL;show(lM.f ((inL (⟨s.data.toList.toArray⟩:Bt).data.toList nm.data.toList).map kZ)).bind _=_;rw[e,tree_f _ hS ha,ht];rfl
def sh(D:Nat)(x:Rw):Rw:=⟨x.f0 - D,x.f1,x.f2,x.f3,x.f4⟩
theorem Mr{α:Type}(a b:List α)(i:Nat):(a++b).drop (a.length+i)=b.drop i:=by rw[←List.drop_drop,List.drop_left]
theorem TL{α:Type}(a b:List α)(i:Nat):(a++b).take (a.length+i)=a++b.take i:=by rw[List.take_append,List.take_of_length_le (by omega),Nat.add_sub_cancel_left]
theorem sh_nat{D:Nat}{x:Rw}(h:(D:Int)≤x.f0):x.f0.toNat=D+(sh D x).f0.toNat:=by
 show x.f0.toNat=D+(x.f0 - D).toNat;omega
theorem opA_sh(a b:List Bt)(D:Nat)(x:Rw):opA (a++b) x=a++opA b (sh D x):=by
 unfold opA;show(if x.f1=0∧jq x.f2=false then _ else _)=a++(if x.f1=0∧jq x.f2=false then b++[x.f2]else b)
 split
 ·rw[List.append_assoc]
 ·rfl
theorem Pb{D:Nat}{op0:List Bt}(h0:op0.length=D):∀(r:List Rw) (op:List Bt),(∀x∈r,(D:Int)≤x.f0)→emitC D r (op0++op)=kT (r.map (sh D)) op
 | [],op,_=>by
   have:=Mr op0 op 0;rw[h0]at this;rw[emitC,List.map_nil,kT];rw[Nat.add_zero]at this;rw[this,List.drop_zero]
 |x::r,op,h=>by
  have hx:=sh_nat (h x (by simp));have e1:(op0++op).drop x.f0.toNat=op.drop (sh D x).f0.toNat:=by rw[hx,←h0];exact Mr _ _ _
  have e2:(op0++op).take x.f0.toNat=op0++op.take (sh D x).f0.toNat:=by rw[hx,←h0];exact TL _ _ _
  rw[emitC,List.map_cons,kT,e1,e2,opA_sh _ _ D,Pb h0 r _ (fun y hy=>h y (by simp[hy]))];rfl
def Ahead(D:Nat)(out out':List Rw):Prop:=out'.length≤out.length∧∀y',out'.getLast? =some y'→∃y,out.getLast? =some y∧y.f1=y'.f1∧y.f0=y'.f0+D
theorem fit_sh{D:Nat}{op0:List Bt}(h0:op0.length=D):∀(r:List Rw) (op:List Bt) (out out':List Rw),(∀x∈r,(D:Int)≤x.f0)→RowsFit r (op0++op) out→Ahead D out out'→RowsFit (r.map (sh D)) op out'
 | [],_,_,_,_,_,_=>trivial
 |x::r,op,out,out',h,hf,ha=>by
  have hD:=h x (by simp);have hx:=sh_nat hD;have e2:(op0++op).take x.f0.toNat=op0++op.take (sh D x).f0.toNat:=by rw[hx,←h0];exact TL _ _ _
  obtain⟨f1,f2⟩:=hf;rw[e2]at f2;rw[opA_sh _ _ D]at f2;have hhi:=f1.hi;rw[List.length_append,h0]at hhi;have hdeep:=f1.deep;have es:(sh D x).f0=x.f0 - D:=rfl;have htl:(op.take (sh D x).f0.toNat).length=(sh D x).f0.toNat:=by rw[List.length_take];omega
  refine⟨⟨by omega,by omega,by omega,by have:=f1.len;have:=ha.1;omega,f1.kind,fun k=>?_,f1.no,fun k=>?_⟩,?_⟩
  ·obtain⟨a1,a2,a3,a4,a5⟩:=f1.el k
   rw[e2]at a3;have:=Qv x.f2 (op0++op.take (sh D x).f0.toNat) D (by rw[List.length_append];omega) a3;have e3:=Mr op0 (op.take (sh D x).f0.toNat) 0;rw[h0,Nat.add_zero,List.drop_zero]at e3;rw[e3]at this;exact⟨a1,a2,this,a4,a5⟩
  ·obtain⟨a1,a2⟩:=f1.text k
   refine⟨a1,?_⟩;cases hj:nu (op.take (sh D x).f0.toNat) out' with
   |false=>rfl
   |true=>
    exfalso
    unfold nu at hj;cases hL:out'.getLast? with
    |none=>rw[hL]at hj;cases hj
    |some y'=>
     rw[hL]at hj;simp only[Bool.and_eq_true,decide_eq_true_eq]at hj;obtain⟨y,g1,g2,g3⟩:=ha.2 y' hL;rw[e2]at a2;unfold nu at a2;rw[g1]at a2;simp only[Bool.and_eq_false_iff,decide_eq_false_iff_not,List.length_append]at a2
     rcases a2 with a2|a2
     ·exact a2 (by rw[g2];exact hj.1)
     ·exact a2 (by omega)
  ·refine fit_sh h0 r _ (out++[x]) (out'++[sh D x]) (fun y hy=>h y (by simp[hy])) f2 ⟨?_,fun y' hy'=>?_⟩
   ·rw[List.length_append,List.length_append];have:=ha.1;simp;omega
   ·rw[List.getLast?_append]at hy'
    simp only[List.getLast?_singleton,Option.some_or,Option.some.injEq]at hy';subst hy';refine⟨x,by rw[List.getLast?_append];rfl,rfl,by omega⟩
theorem Ga:∀(a b:List Rw) (op:List Bt) (out:List Rw),RowsFit (a++b) op out→RowsFit a op out∧RowsFit b (qF a op) (out++a)
 | [],b,op,out,h=>⟨trivial,by rw[List.append_nil];exact h⟩
 |x::a,b,op,out,h=>by
  obtain⟨i1,i2⟩:=Ga a b _ _ h.2;exact⟨⟨h.1,i1⟩,by rw[List.append_assoc]at i2;exact i2⟩
theorem Pf:∀(out:List Rw) (x:Rw) (op:List Bt),qF (out++[x]) op=opA ((qF out op).take x.f0.toNat) x
 | [],x,op=>rfl
 |y::r,x,op=>Pf r x _
theorem TM:∀(a b:List Rw),Inn (a++b)→Inn b
 | [],_,h=>h
 |_::a,b,h=>TM a b h.2
theorem TN{D:Nat}{d:Int}:∀ {r:List Rw},Shut d r→Shut (d - D) (r.map (sh D))
 | [],_=>trivial
 |z::r,h=>by
  have h:z.f0≤d:=h;show z.f0 - D≤d - D;omega
theorem inn_sh(D:Nat):∀(r:List Rw),Inn r→Inn (r.map (sh D))
 | [],_=>trivial
 |x::r,h=>by
  refine⟨fun k g=>?_,inn_sh D r h.2⟩;obtain⟨hv,hin⟩:=h.1 k g;refine⟨hv,?_⟩
  rcases hin with g1|⟨y,r',rfl,g1,g2,g3,g4⟩
  ·exact .inl (TN g1)
  ·exact .inr ⟨sh D y,r'.map (sh D),rfl,g1,by show y.f0 - D=x.f0 - D+1;omega,g3,TN g4⟩
theorem base_sh{D:Nat}{x:Rw}(h:sG x):sG (sh D x):=⟨h.start,h.note,⟨h.cln.name,h.cln.data,h.cln.attrs⟩,h.sz⟩
theorem mS_sh(D:Nat):∀(r:List Rw),mS (r.map (sh D))=mS r
 | []=>rfl
 |x::r=>by
  have e1:mS ((x::r).map (sh D))=mR (sh D x)+mS (r.map (sh D)):=by simp[mS]
  have e2:mS (x::r)=mR x+mS r:=by simp[mS]
  rw[e1,e2,mS_sh D r];rfl
theorem rs_60:∀l:Txt,rsB l=true→(60:UInt8)∉l∧(kX l=true→kV l=false):=by
 have key:∀l∈Ep++GD,(60:UInt8)∉l∧(kX l=true→kV l=false):=by
  intro l hl
  revert l
  decide +kernel
 intro l h;refine key l ?_;unfold rsB kX kV inB at h;rw[Bool.or_eq_true,List.contains_iff_mem,List.contains_iff_mem]at h;exact List.mem_append.2 h
theorem O5(s:Txt)(hs:s.length≤500)(o:List Rw)(h:jQ (uY s []) [] []=some o)(k:Nat)(hk:k<o.length)(h0:o[k].f1=0)(K:Nat)(hK:100≤K):
 ∃T,gF.f K o (k:Int)=some T∧ko.f T o[k].f2=some ((iq o (k+1) (fK o k)).map (sh (o[k].f0.toNat+1)),0):=by
 obtain⟨hf,hg,hB⟩:=parsed s [] (by omega) o h;have hi:inL (j5 s) []=cutL (j5 s):=by unfold inL;rw[if_neg (by decide)];rfl
 have hR:=hg (by rw[hi];exact cut_good _);obtain⟨z1,z2,z3,z4⟩:=Ms s [] hs o h hR hB
 have hm0:3 * mS o≤7 * wts (inL (j5 s) []):=by
  have:=QG (inL (j5 s) []) [] [] o (Mi _ _) h;have e0:mS []=0:=rfl;omega
 have hready:=tQ s;have hwt:=D5 (j5 s) [];have hp:=U9 hf;have hgood:=Ee o hR.inn hR.base;have hget:=Gb o [] [] hf k hk;have hgt:=lg o k;have hle:=oP o k hk
 have hin:∀m,k<m→m<fK o k→(hm:m<o.length)→o[k].f0<o[m].f0:=by
  intro m a b hm;have:=F6 o k m a b hm
  rwa [lI o k hk,lI o m hm]at this
 have hsub:∀x∈iq o (k+1) (fK o k),((o[k].f0.toNat+1:Nat):Int)≤x.f0:=by
  intro x hx;obtain⟨m,hm,a,b,rfl⟩:=pR _ _ _ (Nat.le_refl _) hle hx;have:=hin m (by omega) b hm;omega
 have hmem:∀x∈iq o (k+1) (fK o k),x∈o:=by
  intro x hx;obtain⟨m,hm,a,b,rfl⟩:=pR _ _ _ (Nat.le_refl _) hle hx;exact List.getElem_mem hm
 have hsplit:o.drop (k+1)=iq o (k+1) (fK o k)++o.drop (fK o k):=by
  unfold iq;have:=(List.take_append_drop (fK o k - (k+1)) (o.drop (k+1))).symm;rw[List.drop_drop,show k+1+(fK o k - (k+1))=fK o k from by omega]at this;exact this
 have hfull:o=(o.take k++[o[k]])++(iq o (k+1) (fK o k)++o.drop (fK o k)):=by
  rw[←hsplit,List.append_assoc,List.singleton_append,←List.drop_eq_getElem_cons hk,List.take_append_drop]
 have hf2:RowsFit ((o.take k++[o[k]])++(iq o (k+1) (fK o k)++o.drop (fK o k))) [] []:=by rw[←hfull];exact hf
 obtain⟨q1,q2⟩:=Ga _ _ _ _ hf2;obtain⟨q3,-⟩:=Ga _ _ _ _ q2;obtain⟨q4,q5⟩:=Ga _ _ _ _ q1;have hfk:D8 o[k] (qF (o.take k) []) ([]++o.take k):=q5.1;have hhi:=hfk.hi;have hlo:=hfk.lo;have hop:qF (o.take k++[o[k]]) []=opA ((qF (o.take k) []).take o[k].f0.toNat) o[k]:=Pf _ _ _
 have hInn:Inn (iq o (k+1) (fK o k)):=by
  have h1:=hR.inn;rw[hfull]at h1;exact Ml _ _ (TM _ _ h1)
 have hrd:=nJ o k hk
 have hmS:mS (iq o (k+1) (fK o k))≤mS o:=by
  conv=>rhs;rw[hfull]
  rw[yJ,yJ,yJ];omega
 have hlen:(iq o (k+1) (fK o k)).length≤4096:=by
  unfold iq;rw[List.length_take,List.length_drop];omega
 unfold gF.f;rw[if_neg (by omega),if_neg (by omega),if_neg (by omega),if_pos (by omega),if_pos (by omega),hrd,if_pos h0,void_f _ K (by omega),Option.bind_some];have hvoid:pW OV o[k].f2=jq o[k].f2:=by rw[Ip];rfl
 rw[hvoid];cases hv:jq o[k].f2 with
 |true=>
  have hnil:iq o (k+1) (fK o k)=[]:=by
   cases hc:iq o (k+1) (fK o k)with
   |nil=>rfl
   |cons x r=>
    exfalso
    rw[hc]at q3;have h1:=q3.1.hi;have h2:=hsub x (by rw[hc];simp);rw[hop]at h1;unfold opA at h1;rw[if_neg (by rw[hv];simp),List.length_take]at h1;omega
  rw[if_pos rfl,hnil];refine⟨⟨#[]⟩,rfl,?_⟩;refine O9 ⟨#[]⟩ o[k].f2 [] [] (by decide) iA ?_ (by decide) (by simp) rfl;show inL [] o[k].f2.data.toList=[];unfold inL
  split<;>rfl
 |false=>
  rw[if_neg (by decide),U3 o z2 hp (k:Int) (.inr ⟨by omega,by omega⟩),Option.bind_some];have hraw:EN o (k:Int)=kX o[k].f2.data.toList:=by unfold EN;rw[if_pos (by omega),hrd,TG]
  rw[hraw,zU o k hk]
  have hopl:(qF (o.take k++[o[k]]) []).length=o[k].f0.toNat+1:=by
   rw[hop];unfold opA;rw[if_pos ⟨h0,hv⟩,List.length_append,List.length_take,List.length_singleton];omega
  refine⟨_,rfl,?_⟩;cases hrs:rsB o[k].f2.data.toList with
  |false=>
   have hrf:kX o[k].f2.data.toList=false:=by
    unfold rsB at hrs;rw[Bool.or_eq_false_iff]at hrs;exact hrs.1
   rw[hrf];have hHi:Hi (iq o (k+1) (fK o k)) (qF (o.take k++[o[k]]) []):=hi_fit _ _ _ q3
   have hkids:=J3 o o.length (o[k].f0.toNat+1) (fK o k) hle (fK o k) (k+1) (qF (o.take k++[o[k]]) []) (by omega) (by omega) hopl hHi (fun m a b=>F7 o k m (by omega) b hk)
    (fun m hm a b=>by have:=hin m (by omega) b hm;omega) (fun m a b=>UZ o (fun m hm=>(Gb o [] [] hf m hm).1) (fun m hm=>Pg hgood m hm) o.length m (by omega))
   have he:=Pb hopl (iq o (k+1) (fK o k)) [] hsub;rw[List.append_nil]at he;rw[he]at hkids;have hfs:RowsFit ((iq o (k+1) (fK o k)).map (sh (o[k].f0.toNat+1))) [] []:=fit_sh hopl _ [] _ [] hsub (by rw[List.append_nil];exact q3) ⟨Nat.zero_le _,fun y hy=>by simp at hy⟩
   have hbs:∀x∈(iq o (k+1) (fK o k)).map (sh (o[k].f0.toNat+1)),sG x:=by
    intro x hx;obtain⟨y,hy,rfl⟩:=List.mem_map.1 hx;exact base_sh (hR.base y (hmem y hy))
   have hgs:=Ee _ (inn_sh (o[k].f0.toNat+1) _ hInn) hbs;have hms:=mS_sh (o[k].f0.toNat+1) (iq o (k+1) (fK o k));have hlm:((iq o (k+1) (fK o k)).map (sh (o[k].f0.toNat+1))).length≤4096:=by rw[List.length_map];exact hlen
   have hsz:∀x∈(iq o (k+1) (fK o k)).map (sh (o[k].f0.toNat+1)),x.f3.size≤40000∧x.f4.length≤1000000:=by
    intro x hx;obtain⟨y,hy,rfl⟩:=List.mem_map.1 hx;obtain⟨op,hb,ha⟩:=hB;have h1:=ha y (hmem y hy);exact⟨z3 y (hmem y hy),by show y.f4.length≤_;omega⟩
   generalize (iq o (k+1) (fK o k)).map (sh (o[k].f0.toNat+1))=ys at *;have e:(⟨((kE o (fK o k) (k+1)).flatMap (oM o o.length false)).toArray⟩:Bt).data.toList=Bg (kT ys []):=hkids.1.symm;generalize (⟨((kE o (fK o k) (k+1)).flatMap (oM o o.length false)).toArray⟩:Bt)=T at *;have hTl:T.size=(Bg (kT ys [])).length:=by rw[←e];exact Array.length_toList.symm
   have hel:=IL ys [] false;have e1:enS []=0:=rfl;have hTz:T.size≤65536:=by rw[hTl];unfold Bg;omega
   obtain⟨t1,t2⟩:=Ph 40000 ys [] hsz;have hmul:ys.length * 40000≤4096 * 40000:=Nat.mul_le_mul_right _ hlm;refine O9 T o[k].f2 (kT ys []) ys hTz (by rw[e];exact IQ _ _ (Pj ys [] (fun x hx=>(hbs x hx).cln) (by simp))) ?_ (by rw[F4];omega) (by rw[F4];exact t2) (by rw[F4];exact J2 ys [] [] (by intro n hn;cases hn) hfs);unfold inL;have hrs2:(kX o[k].f2.data.toList||kV o[k].f2.data.toList)=false:=hrs;rw[hrs2,if_neg (by decide),e];exact emit_cut hfs hgs
  |true=>
   have hrow:=Mq (o.take k) o[k] (o.drop (k+1)) (by rw[←List.drop_eq_getElem_cons hk,List.take_append_drop];exact hR.inn) h0 hrs
   have hcase:iq o (k+1) (fK o k)=[]∨∃y,iq o (k+1) (fK o k)=[y]∧y.f1=1∧y.f0=o[k].f0+1∧(kX o[k].f2.data.toList=true→H8 o[k].f2.data.toList y.f3.data.toList):=by
    rw[hsplit]at hrow;cases hc:iq o (k+1) (fK o k)with
    |nil=>exact .inl rfl
    |cons x r=>
     have hx:=hsub x (by rw[hc];simp);rw[hc]at hrow
     rcases hrow.2 with g|⟨y,r',e,g1,g2,g3,g4⟩
     ·have g:x.f0≤o[k].f0:=g
      omega
     ·obtain⟨rfl,e2⟩:=List.cons.inj e
      cases r with
      |nil=>exact .inr ⟨x,rfl,g1,g2,g3⟩
      |cons z r2=>
       have hz:=hsub z (by rw[hc];simp);rw[←e2]at g4;have g4:z.f0≤o[k].f0:=g4;omega
   rcases hcase with hnil|⟨y,hy,g1,g2,g3⟩
   ·have he:fK o k=k+1:=by
     have:=congrArg List.length hnil;unfold iq at this;rw[List.length_take,List.length_drop,List.length_nil]at this;omega
    rw[hnil,he,qx (by omega)];refine O9 ⟨#[]⟩ o[k].f2 [] [] (by decide) iA ?_ (by decide) (by simp) rfl;show inL [] o[k].f2.data.toList=[];unfold inL
    split<;>rfl
   ·have hlen1:=congrArg List.length hy
    unfold iq at hlen1;rw[List.length_take,List.length_drop,List.length_singleton]at hlen1;have hk1:k+1<o.length:=by omega
    have he:fK o k=k+2:=by omega
    have ey:y=o[k+1]:=by
     rw[pz (by omega) hk1]at hy;exact(List.cons.inj hy).1.symm
    have hg2:=lg o (k+1);have hym:y∈o:=by rw[ey];exact List.getElem_mem hk1
    rw[hy,he,sK (by omega) hk1,qx (by omega),List.flatMap_cons,List.flatMap_nil,List.append_nil];obtain⟨n',hn'⟩:∃n',o.length=n'+1:=⟨o.length - 1,by omega⟩
    rw[hn'];simp only[oM];rw[nJ o (k+1) hk1,←ey,if_pos g1];rw[hy]at q3;obtain⟨t1,t2⟩:=q3.1.text g1;obtain⟨u1,u2⟩:=q3.1.no (by omega);have hyb:=hR.base y hym;have hnm:=(hR.base o[k] (List.getElem_mem hk)).start h0;obtain⟨n60,nrs⟩:=rs_60 _ hrs;have h3:=z3 y hym;have hz3:y.f3.data.toList.length=y.f3.size:=Array.length_toList
    have hmy:mR y≤mS o:=by
     have h1:=hmS;rw[hy,Bw]at h1;exact h1
    rw[QH y g1]at hmy
    have hyy: [sh (o[k].f0.toNat+1) y]=[(⟨0,1,⟨#[]⟩,y.f3,[]⟩:Rw)]:=by
     unfold sh;rw[g1,u1,u2,show y.f0 - ((o[k].f0.toNat+1:Nat):Int)=0 from by omega]
    have htree:jQ ([(⟨0,[],[],y.f3.data.toList,false⟩:Tok)].map kZ) [] []=some [sh (o[k].f0.toNat+1) y]:=by
     rw[hyy,List.map_singleton,jQ,F9]
     have et:aj.W7.gT [] [] false ⟨y.f3.data.toList.toArray⟩=([⟨0,1,⟨#[]⟩,y.f3,[]⟩],false):=by
      unfold aj.W7.gT;have e3:(⟨y.f3.data.toList.toArray⟩:Bt)=y.f3:=rfl;rw[e3,if_neg t1,if_neg (by simp[nu])];rfl
     rw[et,if_neg (by simp),jQ]
    have hsum:oL ([(⟨0,[],[],y.f3.data.toList,false⟩:Tok)].map kZ)≤9223372036854775807:=by
     have e3:oL ([(⟨0,[],[],y.f3.data.toList,false⟩:Tok)].map kZ)=y.f3.data.toList.toArray.size:=by simp[oL,kZ]
     rw[e3,List.size_toArray];omega
    rw[List.map_singleton];have hrs2:(kX o[k].f2.data.toList||kV o[k].f2.data.toList)=true:=hrs;cases hrw:kX o[k].f2.data.toList with
    |true=>
     rw[if_pos rfl];have eT:(⟨y.f3.data.toList.toArray⟩:Bt).data.toList=y.f3.data.toList:=rfl;refine O9 _ o[k].f2 [⟨0,[],[],y.f3.data.toList,false⟩] _ (by show(List.toArray _).size≤_;rw[List.size_toArray];omega) hyb.cln.data ?_ hsum (by simp[kZ]) htree;rw[eT];unfold inL;rw[hrs2,if_pos rfl];have hE:=H7 (nm:=o[k].f2.data.toList) n60 hnm.name.low (.inl rfl) (g3 hrw);have hE2:YtkcmghlhpbepcaaGreatDoor.iL o[k].f2.data.toList (y.f3.data.toList++[])=y.f3.data.toList.length:=by rw[hE];rfl
     obtain⟨i1,i2⟩:=uW t1 hE2;rw[List.append_nil]at i1 i2;rw[i1,i2,nrs hrw,if_neg (by decide)];rfl
    |false=>
     rw[if_neg (by decide)];have hsf:kV o[k].f2.data.toList=true:=by rw[hrw,Bool.false_or]at hrs2;exact hrs2
     have eT:(⟨(wrL false y.f3.data.toList).toArray⟩:Bt).data.toList=wrL false y.f3.data.toList:=rfl;have hwl:=Dt false y.f3.data.toList;refine O9 _ o[k].f2 [⟨0,[],[],y.f3.data.toList,false⟩] _ (by show(List.toArray _).size≤_;rw[List.size_toArray];omega) (QC false hyb.cln.data) ?_ hsum (by simp[kZ]) htree;rw[eT];unfold inL;rw[hrs2,if_pos rfl];have hne:wrL false y.f3.data.toList≠[]:=fun e=>t1 (by have:=Dr false y.f3.data.toList;rw[e,q9]at this;exact this.symm)
     have hE:=DZ (nm:=o[k].f2.data.toList) (X:=[]) (CP y.f3.data.toList);have hE2:YtkcmghlhpbepcaaGreatDoor.iL o[k].f2.data.toList (wrL false y.f3.data.toList++[])=(wrL false y.f3.data.toList).length:=by rw[hE];rfl
     obtain⟨i1,i2⟩:=uW hne hE2;rw[List.append_nil]at i1 i2;rw[i1,i2,hsf,if_pos rfl,Dr];rfl
end Go.Proofs.aj.W7
namespace Go.Proofs.aj.W7
open Go.RowKit Go.Proofs aj YtkcmghlhpbepcaaGreatDoor ah.aD YtkcmghlhpbepcaaGreatDoor.Ch
open Go.Proofs.ah.bH (mq nA)
theorem UH(x:Int)(m:Nat)(hm:m<4000000000):0≤Go.bits .and .i64 x m∧Go.bits .and .i64 x m≤m:=by
 have h1:(BitVec.ofInt 64 x &&& BitVec.ofInt 64 (m:Int)).toNat≤m:=by
  rw[BitVec.toNat_and];refine Nat.le_trans Nat.and_le_right ?_;rw[BitVec.toNat_ofInt];omega
 have e:Go.bits .and .i64 x m=IntKind.i64.wrap (((BitVec.ofInt 64 x &&& BitVec.ofInt 64 (m:Int)).toNat:Nat):Int):=rfl;rw[e];generalize (BitVec.ofInt 64 x &&& BitVec.ofInt 64 (m:Int)).toNat=n at *;have e2:IntKind.i64.wrap (n:Int)=wrap64 n:=mq n;rw[e2];unfold wrap64;omega
end Go.Proofs.aj.W7
namespace Go.Proofs.aj.W7
open Go.RowKit ah.aD ah.bH ah.bU
attribute [local go_sem] dB dD dW dX bZ cu dF dG
def bV.l0:Nat→List (S34)→Int→List (S34)→Int→Option ((List (S34)))
 |0,_,_,_,_=>none
 |k+1,x0,x1,x5,x6=>if x6<(x0.length:Int)then(if 0≤x6 then((some (([] :List (S36)):List (S36))).bind fun y383=>(if y383.length+((au x0 x6).f4).length<4398046511104 then(if x5.length<1954687338268 then(bV.l0 k x0 x1 (x5++[(⟨wrap64 (((au x0 x6).f0)+x1),(au x0 x6).f1,(au x0 x6).f2,(au x0 x6).f3,(y383++((au x0 x6).f4))⟩:S34)]) (wrap64 (x6+1)))else(none))else(none)))else(none))else(some x5)
def bV.f(k:Nat)(l0:List (S34))(a1:Int):Option ((List (S34))):=bV.l0 k l0 a1 (([] :List (S34))) 0
theorem bV.calls(k:Nat)(A0:Option Addr)(c0:Nat)(l0:List (S34))(a1:Int)(r:List (S34))(w:World)(hr0:Kd.C k34 w A0 l0.length l0)(hc0:l0.length≤c0)(h:bV.f k l0 a1=some r):
 Calls Tryz.prog 44 #[.slice A0 l0.length c0,.int .i64 a1] w fun e w'=>∃v0_:Value,e=.returned (v0_)∧Kd.R k34 34 w' w.heap.size (fun _=>True) v0_ r∧Below w.heap.size w w':=by
 have hu34:=Tryz.underlying34;have HR0:=ak.mk hr0;have HC0:=ak.mk hc0;clear hr0 hc0;have HB:=ak.mk (Below.refl w.heap.size w);have H:(bV.l0 k l0 a1 (([] :List (S34))) 0)=some r:=h;clear h;obtain⟨y378,NJ⟩:∃y_:List (S34),y_=(([] :List (S34))):=⟨_,rfl⟩
 replace H:(bV.l0 k l0 a1 y378 0)=some r:=by first|(rw[NJ];with_reducible exact H)|(have H2_:=(Option.bind_some _ _).symm.trans H;rw[NJ];with_reducible exact H2_)|(have H2_:=(Option.bind_some _ _).symm.trans H;with_reducible exact H2_)|with_reducible exact H|(rw[NJ];exact H)|exact H
 have Ny378:=ak.mk NJ;clear NJ;have H':=ak.mk H;clear H;go_enter Tryz.func44,Tryz.ntmps44
 go_wp2_with(first|((with_reducible refine cB (N:=8) rfl ?_);refine Kd.kg k34 _ 34 ?hg (N:=8) ?hd (xs:=([] :List (S34))) (inner:=[]) (ok:=fun _=>True) (okp:=fun _=>True) ?hr ?hp (fun _ hk=>hk) trivial (Below.refl _ _) (Nat.le_refl _) (by simp) ?_;(case hd=>rfl);(case hg=>rfl);(case hr=>first|(go_simp;done)|(go_simp;rfl));(case hp=>exact(bM.none _ _));intro v379 w3 ho4 hb hg_ gq;clear hg_ gq;(first|rw[←Ny378.out]at ho4|(simp only[Int.reduceToNat]at ho4;rw[←Ny378.out]at ho4));have HO380:=ak.mk (Kd.dU ho4 (aU bz));replace HB:=ak.mk (aG bz hb);clear hb ho4))
 go_loopg [5,6] k (fun kq v5 v6 w'=>∃(jh:List (S34)) (fT:Int),v6=.int .i64 fT∧ak (bV.l0 kq l0 a1 jh fT=some r)∧ak (kq≤k)∧ak (Kd.R k34 34 w' w.heap.size (fun _=>True) v5 jh)∧ak (Below w.heap.size w w'))
 case atStart=>exact⟨(y378),(0),q'c,H',⟨Nat.le_refl _⟩,⟨by(with_reducible repeat(first|apply Kd.eZ|apply Kd.fG|apply Kd.dR));exact HO380.out⟩,⟨bz⟩⟩
 case round=>
  clear H'
  try clear p2
  try clear c4
  obtain⟨jh,fT,rfl,HA,HK1,dN,HB⟩:=hrel;cases gk with
  |zero=>exact absurd HA.out (by simp[bV.l0])
  |succ k1=>
   have H:=HA.out;clear HA;simp only[bV.l0]at H
   by_cases c5:fT<(l0.length:Int)
   ·rw[if_pos c5]at H
    have tX:=decide_eq_true c5;clear c5
    by_cases c6:0≤fT
    ·rw[if_pos c6]at H
     have AO:=decide_eq_true c6;clear c6;obtain⟨y383,NK⟩:∃y_:List (S36),y_=(([] :List (S36))):=⟨_,rfl⟩
     replace H:(if y383.length+((au l0 fT).f4).length<4398046511104 then(if jh.length<1954687338268 then(bV.l0 k1 l0 a1 (jh++[(⟨wrap64 (((au l0 fT).f0)+a1),(au l0 fT).f1,(au l0 fT).f2,(au l0 fT).f3,(y383++((au l0 fT).f4))⟩:S34)]) (wrap64 (fT+1)))else(none))else(none))=some r:=by first|(rw[NK];with_reducible exact H)|(have H2_:=(Option.bind_some _ _).symm.trans H;rw[NK];with_reducible exact H2_)|(have H2_:=(Option.bind_some _ _).symm.trans H;with_reducible exact H2_)|with_reducible exact H|(rw[NK];exact H)|exact H
     have Ny383:=ak.mk NK;clear NK
     by_cases c7:y383.length+((au l0 fT).f4).length<4398046511104
     ·rw[if_pos c7]at H
      have LMc7:=ak.mk c7;clear c7;obtain⟨AP,NM⟩:∃y_:List (S36),y_=(y383++((au l0 fT).f4)):=⟨_,rfl⟩
      replace H:(if jh.length<1954687338268 then(bV.l0 k1 l0 a1 (jh++[(⟨wrap64 (((au l0 fT).f0)+a1),(au l0 fT).f1,(au l0 fT).f2,(au l0 fT).f3,AP⟩:S34)]) (wrap64 (fT+1)))else(none))=some r:=by first|(rw[NM];with_reducible exact H)|(have H2_:=(Option.bind_some _ _).symm.trans H;rw[NM];with_reducible exact H2_)|(have H2_:=(Option.bind_some _ _).symm.trans H;with_reducible exact H2_)|with_reducible exact H|(rw[NM];exact H)|exact H
      have Ny386:=ak.mk NM;clear NM
      by_cases c8:jh.length<1954687338268
      ·rw[if_pos c8]at H
       have LMc8:=ak.mk c8;clear c8;obtain⟨y389,NP⟩:∃y_:List (S34),y_=(jh++[(⟨wrap64 (((au l0 fT).f0)+a1),(au l0 fT).f1,(au l0 fT).f2,(au l0 fT).f3,AP⟩:S34)]):=⟨_,rfl⟩
       replace H:(bV.l0 k1 l0 a1 y389 (wrap64 (fT+1)))=some r:=by first|(rw[NP];with_reducible exact H)|(have H2_:=(Option.bind_some _ _).symm.trans H;rw[NP];with_reducible exact H2_)|(have H2_:=(Option.bind_some _ _).symm.trans H;with_reducible exact H2_)|with_reducible exact H|(rw[NP];exact H)|exact H
       have Ny389:=ak.mk NP;clear NP;have H':=ak.mk H;clear H;have p381:0≤(fT:Int):=q'b;have q381:fT<(l0.length:Int):=q'b;obtain⟨ad381,AQ,AU,e381,KN,KO,KP,KQ,KR,Rx,Ry⟩:=iM HR0.out fT p381 q381;cases e381;replace KN:=(HB.out.cell (World.block_lt_of_cell? w _ KN)).trans KN;replace KO:=(HB.out.cell (World.block_lt_of_cell? w _ KO)).trans KO;replace KP:=(HB.out.cell (World.block_lt_of_cell? w _ KP)).trans KP;replace KQ:=(HB.out.cell (World.block_lt_of_cell? w _ KQ)).trans KQ;replace KR:=(HB.out.cell (World.block_lt_of_cell? w _ KR)).trans KR;have HR381_4:=ak.mk Ry;have HC381_4:=ak.mk Rx;clear Ry Rx;replace p381:=eq_true p381;replace q381:=eq_true q381
       go_wp2_with(first|((with_reducible refine cB (N:=7) rfl ?_);refine fH ?hg (N:=7) ?hd (cs:=#[.int .i64 0,.int .i64 0,.string (⟨#[]⟩:Bt),.string (⟨#[]⟩:Bt),.slice none 0 0]) (t:=34) ?hr ?_;(case hd=>rfl);(case hg=>rfl);(case hr=>first|(go_simp;done)|(go_simp;rfl));intro ji hg w9 gG hb;have gN:=ak.mk (gG);have GW382:=ak.mk ((by rw[hg];exact(aU bz):w.heap.size≤ji));have Et:=ak.mk ((by rw[hg];exact(aU bz):w.heap.size≤ji));replace dN:=ak.mk (Kd.bK (Kd.NQ (rz dN.out) ji (Nat.le_of_eq hg.symm)) hb);replace HB:=ak.mk (aG bz hb);clear hb gG hg;have Fb:w9.cell? ⟨ji,0,none⟩=some (.int .i64 0):=(aC gN.out 0).trans rfl;have Fe:w9.cell? ⟨ji,1,none⟩=some (.int .i64 0):=(aC gN.out 1).trans rfl;have Fg:w9.cell? ⟨ji,2,none⟩=some (.string (⟨#[]⟩:Bt)):=(aC gN.out 2).trans rfl;have Fh:w9.cell? ⟨ji,3,none⟩=some (.string (⟨#[]⟩:Bt)):=(aC gN.out 3).trans rfl;have Fj:w9.cell? ⟨ji,4,none⟩=some (.slice none 0 0):=(aC gN.out 4).trans rfl;have Fp:=ay gN.out 0;have Fq:=ay gN.out 1;have Fu:=ay gN.out 2;have Fv:=ay gN.out 3;have Fw:=ay gN.out 4)|((with_reducible refine cB (N:=24) rfl ?_);refine Kd.kg k36 _ 36 ?hg (N:=24) ?hd (xs:=([] :List (S36))) (inner:=[]) (ok:=fun _=>True) (okp:=fun _=>True) ?hr ?hp (fun _ hk=>hk) trivial (Below.refl _ _) (Nat.le_refl _) (by simp) ?_;(case hd=>rfl);(case hg=>rfl);(case hr=>first|(go_simp;done)|(go_simp;rfl));(case hp=>exact(bM.none _ _));intro v384 w11 EW hb hg_ gq;clear hg_ gq;(first|rw[←Ny383.out]at EW|(simp only[Int.reduceToNat]at EW;rw[←Ny383.out]at EW));have HO385:=ak.mk (Kd.dU EW (aU (bs Et.out)));replace dN:=ak.mk (Kd.gV (by(with_reducible repeat(first|apply Kd.eZ|apply Kd.fG|apply Kd.dR));exact(Kd.gM (Kd.gK (p:=⟨ji,0,none⟩) (Kd.gK (p:=⟨ji,4,none⟩) (Kd.gK (p:=⟨ji,3,none⟩) (Kd.gK (p:=⟨ji,2,none⟩) (Kd.gK (p:=⟨ji,1,none⟩) (Kd.gK (p:=⟨ji,0,none⟩) (Kd.gM dN.out (fun k_ hk=>(⟨hk,hk.2⟩:_∧k_≠ji))) (fun _ hk=>hk.2) (.int .i64 ((au l0 fT).f0))) (fun _ hk=>hk.2) (.int .i64 ((au l0 fT).f1))) (fun _ hk=>hk.2) (.string ((au l0 fT).f2))) (fun _ hk=>hk.2) (.string ((au l0 fT).f3))) (fun _ hk=>hk.2) (.slice AQ ((au l0 fT).f4).length AU)) (fun _ hk=>hk.2) (.int .i64 (wrap64 (((au l0 fT).f0)+a1)))) (fun _ h_=>h_.1))) (Kd.jH EW) hb);replace gN:=ak.mk (dK (g:=ji) (o:=.cells #[.int .i64 (wrap64 (((au l0 fT).f0)+a1)),.int .i64 ((au l0 fT).f1),.string ((au l0 fT).f2),.string ((au l0 fT).f3),.slice AQ ((au l0 fT).f4).length AU] 34 (0,0)) (by(with_reducible repeat(first|refine aY ?_ _|refine bq ?_ |refine aZ ?_ _));refine bQ (cs:=#[.int .i64 ((au l0 fT).f0),.int .i64 ((au l0 fT).f1),.string ((au l0 fT).f2),.string ((au l0 fT).f3),.slice AQ ((au l0 fT).f4).length AU]) ?_ 0 _ rfl;(with_reducible repeat(first|refine aY ?_ _|refine bq ?_ |refine aZ ?_ _));refine bQ (cs:=#[.int .i64 ((au l0 fT).f0),.int .i64 ((au l0 fT).f1),.string ((au l0 fT).f2),.string ((au l0 fT).f3),.slice none 0 0]) ?_ 4 _ rfl;(with_reducible repeat(first|refine aY ?_ _|refine bq ?_ |refine aZ ?_ _));refine bQ (cs:=#[.int .i64 ((au l0 fT).f0),.int .i64 ((au l0 fT).f1),.string ((au l0 fT).f2),.string (⟨#[]⟩:Bt),.slice none 0 0]) ?_ 3 _ rfl;(with_reducible repeat(first|refine aY ?_ _|refine bq ?_ |refine aZ ?_ _));refine bQ (cs:=#[.int .i64 ((au l0 fT).f0),.int .i64 ((au l0 fT).f1),.string (⟨#[]⟩:Bt),.string (⟨#[]⟩:Bt),.slice none 0 0]) ?_ 2 _ rfl;(with_reducible repeat(first|refine aY ?_ _|refine bq ?_ |refine aZ ?_ _));refine bQ (cs:=#[.int .i64 ((au l0 fT).f0),.int .i64 0,.string (⟨#[]⟩:Bt),.string (⟨#[]⟩:Bt),.slice none 0 0]) ?_ 1 _ rfl;(with_reducible repeat(first|refine aY ?_ _|refine bq ?_ |refine aZ ?_ _));refine bQ (cs:=#[.int .i64 0,.int .i64 0,.string (⟨#[]⟩:Bt),.string (⟨#[]⟩:Bt),.slice none 0 0]) ?_ 0 _ rfl;(with_reducible repeat(first|refine aY ?_ _|refine bq ?_ |refine aZ ?_ _));exact gN.out) hb);replace HB:=ak.mk (aG (bs Et.out) hb);clear hb EW;have Rz:w11.cell? ⟨ji,0,none⟩=some (.int .i64 (wrap64 (((au l0 fT).f0)+a1))):=(aC gN.out 0).trans rfl;have RA:w11.cell? ⟨ji,1,none⟩=some (.int .i64 ((au l0 fT).f1)):=(aC gN.out 1).trans rfl;have RB:w11.cell? ⟨ji,2,none⟩=some (.string ((au l0 fT).f2)):=(aC gN.out 2).trans rfl;have RD:w11.cell? ⟨ji,3,none⟩=some (.string ((au l0 fT).f3)):=(aC gN.out 3).trans rfl;have RF:w11.cell? ⟨ji,4,none⟩=some (.slice AQ ((au l0 fT).f4).length AU):=(aC gN.out 4).trans rfl;have RG:=ay gN.out 0;have RH:=ay gN.out 1;have RI:=ay gN.out 2;have RJ:=ay gN.out 3;have RL:=ay gN.out 4)|((with_reducible refine pY (b:=.append) (xs:=#[.tmp 24,.tmp 26]) rfl ?_);at_builtin;refine Kd.Ah k36 (w0:=w) w.heap.size rfl (.tmp 24) (.tmp 26) 32 36 (.agg #[(.string ⟨#[]⟩),(.string ⟨#[]⟩)]) 32 rfl Tryz.underlying32 Ku rfl (by decide) (by omega) v384 y383 ((au l0 fT).f4) _ _ _ (fun _=>True) (fun _=>False) rfl rfl ?aO ?aR (fun _ _ h=>h) (fun _ h=>h.elim) ?aF ?aB ?aS ?aL ?_;(case aR=>exact cz (Kd.bT HR381_4.out HB.out));(case aB=>exact(bs Et.out));(case aF=>exact(fun _ _=>trivial));(case aO=>exact(rz HO385.out));(case aS=>exact(aU (bs Et.out)));(case aL=>have:=LMc7.out;omega);intro v387 w14 ho hb hg hat;rw[←Ny386.out]at ho;have JB:=ak.mk (ho);replace dN:=ak.mk (Kd.R_after (ok:=(fun k_=>k_≠ji)) (by(with_reducible repeat(first|apply Kd.eZ|apply Kd.fG|apply Kd.dR));exact Kd.gM dN.out (fun _ hk=>⟨hk.1.2,hk.2⟩)) hg hat);replace gN:=ak.mk (qH (g:=ji) (o:=.cells #[.int .i64 (wrap64 (((au l0 fT).f0)+a1)),.int .i64 ((au l0 fT).f1),.string ((au l0 fT).f2),.string ((au l0 fT).f3),.slice AQ ((au l0 fT).f4).length AU] 34 (0,0)) (kz gN.out) hg (Kd.R_ne HO385.out gN.out (by decide)));replace HB:=ak.mk (hb);clear HO385;clear ho hb hg hat;obtain⟨Ao15,co15,eo15⟩:=Kd.cK JB.out;subst eo15;have uF:w14.cell? ⟨ji,0,none⟩=some (.int .i64 (wrap64 (((au l0 fT).f0)+a1))):=(aC gN.out 0).trans rfl;have uG:w14.cell? ⟨ji,1,none⟩=some (.int .i64 ((au l0 fT).f1)):=(aC gN.out 1).trans rfl;have xg:w14.cell? ⟨ji,2,none⟩=some (.string ((au l0 fT).f2)):=(aC gN.out 2).trans rfl;have xq:w14.cell? ⟨ji,3,none⟩=some (.string ((au l0 fT).f3)):=(aC gN.out 3).trans rfl;have xu:w14.cell? ⟨ji,4,none⟩=some (.slice AQ ((au l0 fT).f4).length AU):=(aC gN.out 4).trans rfl;have uH:=ay gN.out 0;have uI:=ay gN.out 1;have xw:=ay gN.out 2;have xA:=ay gN.out 3;have xB:=ay gN.out 4)|((with_reducible refine lN (t:=32) (p:=28) rfl ?_);refine kH (t:=32) (p:=28) (v:=?vo_w17) (w1:=(w14.setCell ⟨ji,4,none⟩ (.slice Ao15 AP.length co15))) ?hg ?ho ?hn ?hr ?_;(case ho=>rfl);(case hg=>rfl);(case hn=>rfl);(case hr=>first|(go_simp;done)|(go_simp;rfl));intro w17 hw;have n0_:ak (Kd.R k34 34 w17 w.heap.size (fun k_=>some k_≠(.slice Ao15 AP.length co15:Value).ownBlock∧k_≠ji) u5 jh):=⟨(by rw[hw];exact(by(with_reducible repeat(first|apply Kd.eZ|apply Kd.fG|apply Kd.dR));exact Kd.gM (Kd.gK (p:=⟨ji,4,none⟩) (Kd.gM dN.out (fun k_ hk=>(⟨hk,hk.1⟩:_∧k_≠ji))) (fun _ hk=>hk.2) (.slice Ao15 AP.length co15)) (fun _ hk=>⟨hk.1.2,hk.1.1⟩)))⟩;have n1_:ak (Kd.R k36 36 w17 w.heap.size (fun _=>True) (.slice Ao15 AP.length co15) AP):=⟨(by rw[hw];exact(by(with_reducible repeat(first|apply Kd.eZ|apply Kd.fG|apply Kd.dR));exact Kd.gM (Kd.gK (p:=⟨ji,4,none⟩) (Kd.om JB.out gN.out (by decide)) (fun _ hk=>hk.2) (.slice Ao15 AP.length co15)) (fun _ hk=>trivial)))⟩;have n2_:ak (w17.heap[ji]?=some (.cells #[.int .i64 (wrap64 (((au l0 fT).f0)+a1)),.int .i64 ((au l0 fT).f1),.string ((au l0 fT).f2),.string ((au l0 fT).f3),.slice Ao15 AP.length co15] 34 (0,0))):=⟨(by rw[hw];exact(by(with_reducible repeat(first|refine aY ?_ _|refine bq ?_ |refine aZ ?_ _));refine bQ (cs:=#[.int .i64 (wrap64 (((au l0 fT).f0)+a1)),.int .i64 ((au l0 fT).f1),.string ((au l0 fT).f2),.string ((au l0 fT).f3),.slice AQ ((au l0 fT).f4).length AU]) ?_ 4 _ rfl;(with_reducible repeat(first|refine aY ?_ _|refine bq ?_ |refine aZ ?_ _));exact gN.out))⟩;have n3_:ak (Below w.heap.size w w17):=⟨(by rw[hw];exact(bs Et.out))⟩;clear hw;clear dN;clear JB;clear gN;clear HB;have dN:=n0_;have JB:=n1_;have gN:=n2_;have HB:=n3_;clear n0_ n1_ n2_ n3_;have ug:w17.cell? ⟨ji,0,none⟩=some (.int .i64 (wrap64 (((au l0 fT).f0)+a1))):=(aC gN.out 0).trans rfl;have uh:w17.cell? ⟨ji,1,none⟩=some (.int .i64 ((au l0 fT).f1)):=(aC gN.out 1).trans rfl;have uj:w17.cell? ⟨ji,2,none⟩=some (.string ((au l0 fT).f2)):=(aC gN.out 2).trans rfl;have um:w17.cell? ⟨ji,3,none⟩=some (.string ((au l0 fT).f3)):=(aC gN.out 3).trans rfl;have uo:w17.cell? ⟨ji,4,none⟩=some (.slice Ao15 AP.length co15):=(aC gN.out 4).trans rfl;have uq:=ay gN.out 0;have uw:=ay gN.out 1;have uy:=ay gN.out 2;have uz:=ay gN.out 3;have uD:=ay gN.out 4)|((with_reducible refine pY (b:=.append) (xs:=#[.tmp 29,.tmp 31]) rfl ?_);at_builtin;refine Kd.mV k34 (w0:=w) w.heap.size rfl (.tmp 29) (.tmp 31) 22 34 (.agg #[(.int .i64 0),(.int .i64 0),(.string ⟨#[]⟩),(.string ⟨#[]⟩),(.slice none 0 0)]) 72 rfl Tryz.underlying22 qI rfl (by decide) (by omega) u5 jh (⟨wrap64 (((au l0 fT).f0)+a1),(au l0 fT).f1,(au l0 fT).f2,(au l0 fT).f3,AP⟩:S34) [.int .i64 (wrap64 (((au l0 fT).f0)+a1)),.int .i64 ((au l0 fT).f1),.string ((au l0 fT).f2),.string ((au l0 fT).f3),.slice Ao15 AP.length co15] (fun k_=>k_≠ji) (fun k_=>((fun k_=>k_≠ji)) k_∧some k_≠(u5:Value).ownBlock) rfl rfl ?aP (fun _ hk=>hk) ?aF ?aO ?aB ?aS ?aL ?_;(case aP=>exact wP _ _ _ (⟨wrap64 (((au l0 fT).f0)+a1),(au l0 fT).f1,(au l0 fT).f2,(au l0 fT).f3,AP⟩:S34) (Kd.gM (Kd.om (Kd.NR (JB.out) (Kd.E9 dN.out) (by decide)) gN.out (by decide)) (fun k_ hk=>⟨hk.2,hk.1.2⟩)));(case aB=>exact(bs Et.out));(case aF=>exact(fun k_ hk=>Kd.freshB (g:=ji) (o:=.cells #[.int .i64 (wrap64 (((au l0 fT).f0)+a1)),.int .i64 ((au l0 fT).f1),.string ((au l0 fT).f2),.string ((au l0 fT).f3),.slice Ao15 AP.length co15] 34 (0,0)) (kz gN.out) k_ hk));(case aO=>exact(by(with_reducible repeat(first|apply Kd.eZ|apply Kd.fG|apply Kd.dR));exact Kd.gM dN.out (fun _ hk=>hk.2)));(case aS=>exact(aU (bs Et.out)));(case aL=>have:=LMc8.out;omega);intro v390 w19 ho hb hg hat;rw[←Ny389.out]at ho;have HO391:=ak.mk (ho);replace gN:=ak.mk (qH (g:=ji) (o:=.cells #[.int .i64 (wrap64 (((au l0 fT).f0)+a1)),.int .i64 ((au l0 fT).f1),.string ((au l0 fT).f2),.string ((au l0 fT).f3),.slice Ao15 AP.length co15] 34 (0,0)) (kz gN.out) hg (Kd.R_away dN.out (fun _ hk=>hk.2)));replace HB:=ak.mk (hb);clear dN JB;clear ho hb hg hat))
       go_roundg k1
       case measure=>have:=HK1.out;omega
       case rel=>exact⟨(y389),(wrap64 (fT+1)),q'c,H',⟨lz HK1.out⟩,⟨by(with_reducible repeat(first|apply Kd.eZ|apply Kd.fG|apply Kd.dR));exact Kd.gM HO391.out (fun _ hk=>trivial)⟩,⟨bs Et.out⟩⟩
      ·rw[if_neg c8]at H
       exact absurd H (by simp)
     ·rw[if_neg c7]at H
      exact absurd H (by simp)
    ·rw[if_neg c6]at H
     exact absurd H (by simp)
   ·rw[if_neg c5]at H
    have tX:=decide_eq_false c5;clear c5;obtain rfl:=Option.some.inj H;go_wp2;go_ret;exact⟨_,by first|rfl|(simp[aI,aJ]<;>rfl)|(simp[*,aI,aJ]<;>rfl),by(with_reducible repeat(first|apply Kd.eZ|apply Kd.fG|apply Kd.dR));exact dN.out,bz⟩
end Go.Proofs.aj.W7
