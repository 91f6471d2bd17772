/- Lemmas and walks, part 12. -/
import Derived.Test.YtkcmghlhpbepcaaGreatDoorWI11
set_option linter.unusedVariables false
set_option linter.unusedSimpArgs false
set_option maxHeartbeats 8000000
set_option maxRecDepth 100000
namespace Go.Proofs.aj.W7
open Go.RowKit Go.Proofs YtkcmghlhpbepcaaGreatDoor ah.aD
abbrev At:=S36
theorem att_at{w:World}{A:Option Addr}{xs:List At}(h:k36.C w A xs.length xs)(i:Nat)(hi:i<xs.length):
 ∃g o,A=some ⟨g,o,none⟩∧w.cell? ⟨g,o+i * 2,none⟩=some (.string xs[i].f0)∧w.cell? ⟨g,o+i * 2+1,none⟩=some (.string xs[i].f1):=by
 obtain⟨ad0,e0,z0,_⟩:=ni h 0 (by omega) (by omega);have hs:=Kr (a:=ad0) (by simpa [Addr.add]using z0);obtain⟨ad,e,c0,c1⟩:=ni h i (by omega) (by omega);obtain rfl:ad0=ad:=Option.some.inj (e0.symm.trans e);simp only[Int.toNat_natCast]at c0 c1;rw[hs,Kt]at c0 c1;have er:bD xs i=xs[i]:=by simp[bD,hi]
 rw[er]at c0 c1;exact⟨ad0.block,ad0.off,by rw[e0,←hs],c0,c1⟩
def fO(p:Nat):Value:=.func (.func 151) #[] #[.pointer (some ⟨p,0,none⟩)]
theorem once1_c(an av bn bv:Bt)(p:Nat)(w:World)(h:w.heap[p]?=some (.cells #[.string an,.string av] 36 (0,0))):
 Calls Tryz.prog 151 #[.agg #[.string bn,.string bv],.pointer (some ⟨p,0,none⟩)] w fun e w'=>e=.returned (.bool (an.toList==bn.toList))∧Below w.heap.size w w':=by
 have c0:w.cell? ⟨p,0,none⟩=some (.string an):=(aC h 0).trans rfl;have d0:=fun o=>aV c0 ((Below.refl _ w).alloc (Nat.le_refl _) o)
 obtain⟨n0,n1,-⟩:=iB (bP w #[.string bn,.string bv] 36);go_enter Tryz.func151,Tryz.ntmps151;go_wp2;go_ret;exact⟨rfl,(Below.refl _ w).alloc (Nat.le_refl _) _⟩
def eqN(a b:At):Bool:=a.f0.toList==b.f0.toList
def BJ(out:List At)(a:At):Bool:=out.any (eqN a)
theorem idx_once(xs:List At)(a:At)(A:Option Addr)(c p:Nat)(w:World)(hr:k36.C w A xs.length xs)(hp:w.heap[p]?=some (.cells #[.string a.f0,.string a.f1] 36 (0,0)))(b:Bool)(hb:BJ xs a=b):
 Calls Tryz.prog 186 #[.slice A xs.length c,fO p] w fun e w'=>∃n:Int,e=.returned (.int .i64 n)∧(decide (0≤n)=b)∧Below w.heap.size w w':=by
 have hxl:=hr.2.1;unfold fO;unfold BJ at hb;go_enter Tryz.func186,Tryz.ntmps186;go_wp2
 go_loopw [5,8] (fun _ v wr=>∃(k:Nat),v=.int .i64 k∧k≤xs.length∧Hid (∀j (h:j<xs.length),j<k→eqN a xs[j]=false)∧Below w.heap.size w wr) (fun _ v _=>xs.length - (intOf v).toNat)
 case atStart=>exact⟨0,rfl,by omega,fun j _ h=>by omega,Below.refl _ _⟩
 case round=>
  obtain⟨k,rfl,hk,hno,hB⟩:=hrel
  by_cases hlt:k<xs.length
  ·obtain⟨g,o,rfl,z0,z1⟩:=att_at (ah.aD.Kd.bT hr hB) k hlt
   have hyes:Hid (eqN a xs[k]=true→b=true):=fun h=>by rw[←hb,List.any_eq_true];exact⟨_,List.getElem_mem hlt,h⟩
   have oZ:Hid (eqN a xs[k]=false→∀j (h:j<xs.length),j<k+1→eqN a xs[j]=false):=fun h j hj hjk=>by
    by_cases e:j=k
    ·subst e;exact h
    ·exact hno.out j hj (by omega)
   have hc1:=Lib.hid (fun(W:World) (hW:Below w.heap.size w W)=>once1_c a.f0 a.f1 xs[k].f0 xs[k].f1 p W (aT hp hW));have hdef:Hid (eqN a xs[k]=(a.f0.toList==xs[k].f0.toList)):=rfl;generalize eqN a xs[k]=dk at *;generalize xs[k]=x at *;rw[←hdef.out]at hc1;obtain⟨nm,vl⟩:=x;simp only at z0 z1;clear hno hb hdef;cases dk with
   |true=>
    have hbt:=hyes.out rfl;clear hyes oZ;subst hbt
    go_wp2_with(go_at_call 151;((with_reducible refine(hc1.out _ hB).mono ?_);rintro e w1 ⟨rfl,hb1⟩))
    go_ret;exact⟨_,rfl,decide_eq_true (by omega),hB.trans (hb1.mono hB.size)⟩
   |false=>
    have hno3:Hid _:=oZ.out rfl;clear hyes oZ
    go_wp2_with(go_at_call 151;((with_reducible refine(hc1.out _ hB).mono ?_);rintro e w1 ⟨rfl,hb1⟩))
    exact⟨⟨k+1,rfl,by omega,hno3,hB.trans (hb1.mono hB.size)⟩,by simp[intOf];omega⟩
  ·have hbf:b=false:=by
    rw[←hb,List.any_eq_false];intro x hx;obtain⟨j,hj,rfl⟩:=List.getElem_of_mem hx;rw[hno.out j hj (by omega)];simp
   subst hbf;clear hno hb;go_wp2;go_ret;exact⟨-1,rfl,by decide,hB⟩
theorem Jj(xs:List At)(a:At)(A:Option Addr)(c p:Nat)(w:World)(hr:k36.C w A xs.length xs)(hp:w.heap[p]?=some (.cells #[.string a.f0,.string a.f1] 36 (0,0))):
 Calls Tryz.prog 150 #[.slice A xs.length c,.func (.func 151) #[] #[.pointer (some ⟨p,0,none⟩)]] w fun e w'=>e=.returned (.bool (BJ xs a))∧Below w.heap.size w w':=by
 have hi:=Lib.hid (idx_once xs a A c p w hr hp (BJ xs a) rfl);unfold fO at hi;generalize BJ xs a=b at *;go_enter Tryz.func150,Tryz.ntmps150
 go_wp2_with(go_at_call 186;((with_reducible refine hi.out.mono ?_);rintro e w1 ⟨n,rfl,hn,hb1⟩))
 go_ret;exact⟨rfl,hb1⟩
def qC:List At→List At→List At
 |out,[]=>out
 |out,a::r=>qC (if BJ out a then out else out++[a]) r
def ny(l:List At):List At:=qC [] l
theorem once_c(A:Option Addr)(c:Nat)(l:List At)(w:World)(hr:k36.C w A l.length l)(hl:l.length≤1000000):
 Calls Tryz.prog 113 #[.slice A l.length c] w fun e w'=>∃v,e=.returned v∧k36.R 36 w' w.heap.size (fun _=>True) v (ny l)∧Below w.heap.size w w':=by
 have hxl:=hr.2.1;go_enter Tryz.func113,Tryz.ntmps113;go_wp2
 go_loopw [3,8] (fun vo vi wr=>∃(i:Nat) (outs:List At),vi=.int .i64 i∧i≤l.length∧Hid (qC outs (l.drop i)=ny l)∧k36.R 36 wr w.heap.size (fun _=>True) vo outs∧outs.length≤i∧Below w.heap.size w wr) (fun _ vi _=>l.length - (intOf vi).toNat)
 case atStart=>exact⟨0,[],rfl,Nat.zero_le _,rfl,Kd.oz _ _ _ _ _,Nat.le_refl _,Below.refl _ _⟩
 case round=>
  obtain⟨i,outs,rfl,hi,hq,hO,hol,hB⟩:=hrel;obtain⟨A2,c2,rfl⟩:=Kd.cK hO
  by_cases hlt:i<l.length
  ·obtain⟨g,o,rfl,z0,z1⟩:=att_at (Kd.bT hr hB) i hlt
   have hq2:=hq.out;rw[List.drop_eq_getElem_cons hlt]at hq2;simp only[qC]at hq2;clear hq;generalize l[i]=a at *;have hn:=bP wr #[.string a.f0,.string a.f1] 36;obtain⟨n0,n1,-⟩:=iB hn;have hbA:Below wr.heap.size wr (wr.alloc (.cells #[.string a.f0,.string a.f1] 36)):=(Below.refl _ wr).alloc (Nat.le_refl _) _;have hOA:=Kd.bK hO hbA;have hBA:=hB.trans (hbA.mono hB.size);have hct:=Lib.hid (Jj outs a A2 c2 wr.heap.size _ (Kd.bg hOA).2.2 hn);generalize hw1:wr.alloc (.cells #[.string a.f0,.string a.f1] 36)=W1 at *;cases hh:BJ outs a with
   |true=>
    rw[hh]at hct hq2;rw[if_pos rfl]at hq2;replace hq2:=Lib.hid hq2;clear hh
    go_wp2_with(go_at_call 150;((with_reducible refine hct.out.mono ?_);rintro e W2 ⟨rfl,hb2⟩))
    exact⟨⟨i+1,outs,rfl,by omega,hq2,Kd.bK hOA hb2,by omega,hBA.trans (hb2.mono hBA.size)⟩,by simp[intOf];omega⟩
   |false=>
    rw[hh]at hct hq2;rw[if_neg (by decide)]at hq2;replace hq2:=Lib.hid hq2;clear hh
    go_wp2_with(first
     |(go_at_call 150;((with_reducible refine hct.out.mono ?_);rintro e W2 ⟨rfl,hb2⟩;have m0:=aV n0 hb2;have m1:=aV n1 hb2;have hO2:=Kd.bK hOA hb2;have hB2:=hBA.trans (hb2.mono hBA.size)))
     |(at_builtin;refine Kd.mV k36 (w0:=w) w.heap.size rfl (.tmp 16) (.tmp 18) 32 36 (.agg #[(.string ⟨#[]⟩),(.string ⟨#[]⟩)]) 32 rfl Tryz.underlying32 Ku rfl (by decide) (by omega) (.slice A2 outs.length c2) outs a [.string a.f0,.string a.f1] (fun _=>True) (fun _=>False) rfl rfl (QV _ _ _ a) (fun _ h=>h.elim) (fun _ _=>trivial) hO2 hB2 hB2.size (by omega) ?_;intro v1 w3 hO3 hb3 hg3 hat3;obtain⟨A3,c3,rfl⟩:=Kd.cK hO3;rw[List.length_append,List.length_singleton]at hO3))
    exact⟨⟨i+1,outs++[a],rfl,by omega,hq2,hO3,by simp;omega,hb3⟩,by simp[intOf];omega⟩
  ·have hq2:=hq.out
   rw[List.drop_of_length_le (by omega)]at hq2;simp only[qC]at hq2;subst hq2;clear hq;go_wp2;go_ret;exact⟨_,rfl,hO,hB⟩
end Go.Proofs.aj.W7
namespace Go.Proofs.aj.W7
open Go.RowKit ah.aD ah.bH ah.bU
attribute [local go_sem] dB dD dW dX bZ cu dF dG
def jB.f(k:Nat)(a0:Bt):Option (Bool):=(bN.f k a0 (([(⟨#[98,111,100,121]⟩:Bt),(⟨#[102,114,97,109,101,115,101,116]⟩:Bt),(⟨#[104,101,97,100]⟩:Bt),(⟨#[104,116,109,108]⟩:Bt)] :List Bt))).bind fun t190=>(some t190)
theorem jB.calls(k:Nat)(a0:Bt)(r:Bool)(w:World)(h:jB.f k a0=some r):
 Calls Tryz.prog 34 #[.string a0] w fun e w'=>e=.returned (.bool r)∧Below w.heap.size w w':=by
 have HB:=ak.mk (Below.refl w.heap.size w);have H:((bN.f k a0 (([(⟨#[98,111,100,121]⟩:Bt),(⟨#[102,114,97,109,101,115,101,116]⟩:Bt),(⟨#[104,101,97,100]⟩:Bt),(⟨#[104,116,109,108]⟩:Bt)] :List Bt))).bind fun t190=>(some t190))=some r:=h;clear h;obtain⟨y187,Nz⟩:∃y_:List Bt,y_=(([(⟨#[98,111,100,121]⟩:Bt),(⟨#[102,114,97,109,101,115,101,116]⟩:Bt),(⟨#[104,101,97,100]⟩:Bt),(⟨#[104,116,109,108]⟩:Bt)] :List Bt)):=⟨_,rfl⟩
 replace H:((bN.f k a0 y187).bind fun t190=>(some t190))=some r:=by first|(rw[Nz];with_reducible exact H)|(have H2_:=(Option.bind_some _ _).symm.trans H;rw[Nz];with_reducible exact H2_)|(have H2_:=(Option.bind_some _ _).symm.trans H;with_reducible exact H2_)|with_reducible exact H|(rw[Nz];exact H)|exact H
 have Ny187:=ak.mk Nz;clear Nz;replace H:=Option.bind_eq_some_iff.mp H;obtain⟨t190,A20,H⟩:=H
 try dsimp only at H
 have A2:=ak.mk A20;clear A20;obtain rfl:=Option.some.inj H;go_enter Tryz.func34,Tryz.ntmps34
 go_wp2_with(first|((with_reducible refine cB (N:=4) rfl ?_);refine Kd.kg Kd.string _ 9 ?hg (N:=4) ?hd (xs:=([(⟨#[98,111,100,121]⟩:Bt),(⟨#[102,114,97,109,101,115,101,116]⟩:Bt),(⟨#[104,101,97,100]⟩:Bt),(⟨#[104,116,109,108]⟩:Bt)] :List Bt)) (inner:=[.string (⟨#[98,111,100,121]⟩:Bt),.string (⟨#[102,114,97,109,101,115,101,116]⟩:Bt),.string (⟨#[104,101,97,100]⟩:Bt),.string (⟨#[104,116,109,108]⟩:Bt)]) (ok:=fun _=>True) (okp:=fun _=>True) ?hr ?hp (fun _ hk=>hk) trivial (Below.refl _ _) (Nat.le_refl _) (by simp) ?_;(case hd=>rfl);(case hg=>rfl);(case hr=>first|(go_simp;done)|(go_simp;rfl));(case hp=>exact(bM.one (show Kd.M Kd.string _ _ _ (⟨#[98,111,100,121]⟩:Bt) [.string (⟨#[98,111,100,121]⟩:Bt)]from rfl) (bM.one (show Kd.M Kd.string _ _ _ (⟨#[102,114,97,109,101,115,101,116]⟩:Bt) [.string (⟨#[102,114,97,109,101,115,101,116]⟩:Bt)]from rfl) (bM.one (show Kd.M Kd.string _ _ _ (⟨#[104,101,97,100]⟩:Bt) [.string (⟨#[104,101,97,100]⟩:Bt)]from rfl) (bM.one (show Kd.M Kd.string _ _ _ (⟨#[104,116,109,108]⟩:Bt) [.string (⟨#[104,116,109,108]⟩:Bt)]from rfl) (bM.none _ _))))));intro v188 w3 ho4 hb hg_ gq;clear hg_ gq;(first|rw[←Ny187.out]at ho4|(simp only[Int.reduceToNat]at ho4;rw[←Ny187.out]at ho4));have HO189:=ak.mk (Kd.dU ho4 (aU bz));replace HB:=ak.mk (aG bz hb);clear hb ho4;obtain⟨Ao5,co5,eo5⟩:=Kd.cK HO189.out;subst eo5)|((with_reducible refine bC (f:=81) rfl ?_);refine eG (some 5) rfl rfl Tryz.func81 (by kernel_rfl) rfl #[.string a0,.slice Ao5 y187.length co5] rfl q'a ?_;(with_reducible refine(bN.calls k a0 _ _ y187 t190 _ ?dI ?dJ A2.out).mono ?_);(case dI=>exact cz (Kd.bg HO189.out).2.2);(case dJ=>exact(Kd.bg HO189.out).2.1);rintro e w' ⟨rfl,⟨nd,rfl⟩⟩;refine⟨_,rfl,?_⟩))
 go_ret;exact⟨by first|rfl|(simp[aI,aJ]<;>rfl)|(simp[*,aI,aJ]<;>rfl),bz⟩
def gU.f(k:Nat)(a0:Bt):Option (Bool):=(bN.f k a0 (([(⟨#[97,114,101,97]⟩:Bt),(⟨#[98,97,115,101]⟩:Bt),(⟨#[98,114]⟩:Bt),(⟨#[99,111,108]⟩:Bt),(⟨#[101,109,98,101,100]⟩:Bt),(⟨#[104,114]⟩:Bt),(⟨#[105,109,103]⟩:Bt),(⟨#[105,110,112,117,116]⟩:Bt),(⟨#[108,105,110,107]⟩:Bt),(⟨#[109,101,116,97]⟩:Bt),(⟨#[112,97,114,97,109]⟩:Bt),(⟨#[115,111,117,114,99,101]⟩:Bt),(⟨#[116,114,97,99,107]⟩:Bt),(⟨#[119,98,114]⟩:Bt)] :List Bt))).bind fun t125=>(some t125)
theorem gU.calls(k:Nat)(a0:Bt)(r:Bool)(w:World)(h:gU.f k a0=some r):
 Calls Tryz.prog 31 #[.string a0] w fun e w'=>e=.returned (.bool r)∧Below w.heap.size w w':=by
 have HB:=ak.mk (Below.refl w.heap.size w);have H:((bN.f k a0 (([(⟨#[97,114,101,97]⟩:Bt),(⟨#[98,97,115,101]⟩:Bt),(⟨#[98,114]⟩:Bt),(⟨#[99,111,108]⟩:Bt),(⟨#[101,109,98,101,100]⟩:Bt),(⟨#[104,114]⟩:Bt),(⟨#[105,109,103]⟩:Bt),(⟨#[105,110,112,117,116]⟩:Bt),(⟨#[108,105,110,107]⟩:Bt),(⟨#[109,101,116,97]⟩:Bt),(⟨#[112,97,114,97,109]⟩:Bt),(⟨#[115,111,117,114,99,101]⟩:Bt),(⟨#[116,114,97,99,107]⟩:Bt),(⟨#[119,98,114]⟩:Bt)] :List Bt))).bind fun t125=>(some t125))=some r:=h;clear h;obtain⟨y122,Nf⟩:∃y_:List Bt,y_=(([(⟨#[97,114,101,97]⟩:Bt),(⟨#[98,97,115,101]⟩:Bt),(⟨#[98,114]⟩:Bt),(⟨#[99,111,108]⟩:Bt),(⟨#[101,109,98,101,100]⟩:Bt),(⟨#[104,114]⟩:Bt),(⟨#[105,109,103]⟩:Bt),(⟨#[105,110,112,117,116]⟩:Bt),(⟨#[108,105,110,107]⟩:Bt),(⟨#[109,101,116,97]⟩:Bt),(⟨#[112,97,114,97,109]⟩:Bt),(⟨#[115,111,117,114,99,101]⟩:Bt),(⟨#[116,114,97,99,107]⟩:Bt),(⟨#[119,98,114]⟩:Bt)] :List Bt)):=⟨_,rfl⟩
 replace H:((bN.f k a0 y122).bind fun t125=>(some t125))=some r:=by first|(rw[Nf];with_reducible exact H)|(have H2_:=(Option.bind_some _ _).symm.trans H;rw[Nf];with_reducible exact H2_)|(have H2_:=(Option.bind_some _ _).symm.trans H;with_reducible exact H2_)|with_reducible exact H|(rw[Nf];exact H)|exact H
 have Ny122:=ak.mk Nf;clear Nf;replace H:=Option.bind_eq_some_iff.mp H;obtain⟨t125,A20,H⟩:=H
 try dsimp only at H
 have A2:=ak.mk A20;clear A20;obtain rfl:=Option.some.inj H;go_enter Tryz.func31,Tryz.ntmps31
 go_wp2_with(first|((with_reducible refine cB (N:=4) rfl ?_);refine Kd.kg Kd.string _ 9 ?hg (N:=4) ?hd (xs:=([(⟨#[97,114,101,97]⟩:Bt),(⟨#[98,97,115,101]⟩:Bt),(⟨#[98,114]⟩:Bt),(⟨#[99,111,108]⟩:Bt),(⟨#[101,109,98,101,100]⟩:Bt),(⟨#[104,114]⟩:Bt),(⟨#[105,109,103]⟩:Bt),(⟨#[105,110,112,117,116]⟩:Bt),(⟨#[108,105,110,107]⟩:Bt),(⟨#[109,101,116,97]⟩:Bt),(⟨#[112,97,114,97,109]⟩:Bt),(⟨#[115,111,117,114,99,101]⟩:Bt),(⟨#[116,114,97,99,107]⟩:Bt),(⟨#[119,98,114]⟩:Bt)] :List Bt)) (inner:=[.string (⟨#[97,114,101,97]⟩:Bt),.string (⟨#[98,97,115,101]⟩:Bt),.string (⟨#[98,114]⟩:Bt),.string (⟨#[99,111,108]⟩:Bt),.string (⟨#[101,109,98,101,100]⟩:Bt),.string (⟨#[104,114]⟩:Bt),.string (⟨#[105,109,103]⟩:Bt),.string (⟨#[105,110,112,117,116]⟩:Bt),.string (⟨#[108,105,110,107]⟩:Bt),.string (⟨#[109,101,116,97]⟩:Bt),.string (⟨#[112,97,114,97,109]⟩:Bt),.string (⟨#[115,111,117,114,99,101]⟩:Bt),.string (⟨#[116,114,97,99,107]⟩:Bt),.string (⟨#[119,98,114]⟩:Bt)]) (ok:=fun _=>True) (okp:=fun _=>True) ?hr ?hp (fun _ hk=>hk) trivial (Below.refl _ _) (Nat.le_refl _) (by simp) ?_;(case hd=>rfl);(case hg=>rfl);(case hr=>first|(go_simp;done)|(go_simp;rfl));(case hp=>exact(bM.one (show Kd.M Kd.string _ _ _ (⟨#[97,114,101,97]⟩:Bt) [.string (⟨#[97,114,101,97]⟩:Bt)]from rfl) (bM.one (show Kd.M Kd.string _ _ _ (⟨#[98,97,115,101]⟩:Bt) [.string (⟨#[98,97,115,101]⟩:Bt)]from rfl) (bM.one (show Kd.M Kd.string _ _ _ (⟨#[98,114]⟩:Bt) [.string (⟨#[98,114]⟩:Bt)]from rfl) (bM.one (show Kd.M Kd.string _ _ _ (⟨#[99,111,108]⟩:Bt) [.string (⟨#[99,111,108]⟩:Bt)]from rfl) (bM.one (show Kd.M Kd.string _ _ _ (⟨#[101,109,98,101,100]⟩:Bt) [.string (⟨#[101,109,98,101,100]⟩:Bt)]from rfl) (bM.one (show Kd.M Kd.string _ _ _ (⟨#[104,114]⟩:Bt) [.string (⟨#[104,114]⟩:Bt)]from rfl) (bM.one (show Kd.M Kd.string _ _ _ (⟨#[105,109,103]⟩:Bt) [.string (⟨#[105,109,103]⟩:Bt)]from rfl) (bM.one (show Kd.M Kd.string _ _ _ (⟨#[105,110,112,117,116]⟩:Bt) [.string (⟨#[105,110,112,117,116]⟩:Bt)]from rfl) (bM.one (show Kd.M Kd.string _ _ _ (⟨#[108,105,110,107]⟩:Bt) [.string (⟨#[108,105,110,107]⟩:Bt)]from rfl) (bM.one (show Kd.M Kd.string _ _ _ (⟨#[109,101,116,97]⟩:Bt) [.string (⟨#[109,101,116,97]⟩:Bt)]from rfl) (bM.one (show Kd.M Kd.string _ _ _ (⟨#[112,97,114,97,109]⟩:Bt) [.string (⟨#[112,97,114,97,109]⟩:Bt)]from rfl) (bM.one (show Kd.M Kd.string _ _ _ (⟨#[115,111,117,114,99,101]⟩:Bt) [.string (⟨#[115,111,117,114,99,101]⟩:Bt)]from rfl) (bM.one (show Kd.M Kd.string _ _ _ (⟨#[116,114,97,99,107]⟩:Bt) [.string (⟨#[116,114,97,99,107]⟩:Bt)]from rfl) (bM.one (show Kd.M Kd.string _ _ _ (⟨#[119,98,114]⟩:Bt) [.string (⟨#[119,98,114]⟩:Bt)]from rfl) (bM.none _ _))))))))))))))));intro v123 w3 ho4 hb hg_ gq;clear hg_ gq;(first|rw[←Ny122.out]at ho4|(simp only[Int.reduceToNat]at ho4;rw[←Ny122.out]at ho4));have HO124:=ak.mk (Kd.dU ho4 (aU bz));replace HB:=ak.mk (aG bz hb);clear hb ho4;obtain⟨Ao5,co5,eo5⟩:=Kd.cK HO124.out;subst eo5)|((with_reducible refine bC (f:=81) rfl ?_);refine eG (some 5) rfl rfl Tryz.func81 (by kernel_rfl) rfl #[.string a0,.slice Ao5 y122.length co5] rfl q'a ?_;(with_reducible refine(bN.calls k a0 _ _ y122 t125 _ ?dI ?dJ A2.out).mono ?_);(case dI=>exact cz (Kd.bg HO124.out).2.2);(case dJ=>exact(Kd.bg HO124.out).2.1);rintro e w' ⟨rfl,⟨nd,rfl⟩⟩;refine⟨_,rfl,?_⟩))
 go_ret;exact⟨by first|rfl|(simp[aI,aJ]<;>rfl)|(simp[*,aI,aJ]<;>rfl),bz⟩
end Go.Proofs.aj.W7
namespace Go.Proofs.aj.W7
open Go.RowKit Go.Proofs YtkcmghlhpbepcaaGreatDoor ah.aD ah.bH
def iG(s:Bt):List Bt:=(dZ.f 200 s).getD []
def fJ(s:Bt):List Bt:=(fF.f 200 s).getD []
def mo(s:Bt):Bool:=(jB.f 200 s).getD false
def jq(s:Bt):Bool:=(gU.f 200 s).getD false
def parL(s:Bt):Bool:=(gD.f s).getD false
structure NmOk (s:Bt):Prop where
 closes:dZ.f 200 s=some (iG s)
 walls:fF.f 200 s=some (fJ s)
 gone:jB.f 200 s=some (mo s)
 void:gU.f 200 s=some (jq s)
 par:gD.f s=some (parL s)
abbrev pN:Bt:=⟨#[112]⟩
def gH(op:List Bt)(nm:Bt):List Bt:=
 if parL nm then oW [pN] (fJ pN) (oW (iG nm) (fJ nm) op)else oW (iG nm) (fJ nm) op
def kP(op:List Bt)(out:List Rw)(big:Bool)(nm:Bt)(xa:List At):List Bt×List Rw×Bool:=
 if nm.data.toList=[]then(op,out,big)else if mo nm then(op,out,big)
 else(if jq nm then gH op nm else gH op nm++[nm],(kN (gH op nm) out big ⟨0,0,nm,⟨#[]⟩,ny xa⟩).1,(kN (gH op nm) out big ⟨0,0,nm,⟨#[]⟩,ny xa⟩).2)
theorem sZ(some_ walls:List Bt):∀(n:Nat) (op:List Bt),(lK some_ walls n op).length≤op.length
 |0,op=>Nat.le_refl _
 |n+1,op=>by
  simp only[lK]
  split
  ·exact Nat.le_refl _
  ·have:=sZ some_ walls n (op.take (dS op some_ walls op.length).toNat)
   rw[List.length_take]at this;omega
theorem Gq(some_ walls op:List Bt):(oW some_ walls op).length≤op.length:=sZ _ _ _ _
theorem yT(op:List Bt)(nm:Bt):(gH op nm).length≤op.length:=by
 unfold gH;have h1:=Gq (iG nm) (fJ nm) op
 split
 ·have:=Gq [pN] (fJ pN) (oW (iG nm) (fJ nm) op)
  omega
 ·exact h1
theorem lit1(W:World)(s:Bt)(base:Nat)(hb:base≤W.heap.size):Kd.string.R 9 (W.alloc (.cells #[.string s] 9)) base (fun _=>True) (.slice (some ⟨W.heap.size,0,none⟩) 1 1) [s]:=by
 refine⟨fun _ _=>trivial,[.string s],?_,?_⟩
 ·have h2:=World.ownsRow_lit (base:=base) (e:=9) (size:=1) W #[.string s] 1 hb (by simp[maxLen]) (by simp)
  have h4:(W.alloc (.cells #[.string s] 9)).ownsRow base 9 1 (.slice (some ⟨W.heap.size,0,none⟩) 1 1) 1 [.string s]:=by simpa using h2
  exact h4
 ·exact bM.one (show Kd.M Kd.string _ _ _ s [.string s]from rfl) (bM.none _ _)
theorem Bd.ne{w0 W:World}{B p:Nat}{op:List Bt}{out:List Rw}{big:Bool}(h:Bd w0 B op out big W){cs:Array Value}{t:TypeId}(hp:W.heap[p]?=some (.cells cs t (0,0)))(ht:t≠73):p≠B:=by
 obtain⟨vo,vr,h1,-,-⟩:=h.ex;exact blk_ne hp h1 ht
theorem iQ.box{B p:Nat}{W W':World}(h:iQ B W W'){cs:Array Value}(hp:W.heap[p]?=some (.cells cs 65 (0,0)))(hne:p≠B):W'.heap[p]?=some (.cells cs 65 (0,0)):=
 h p _ hp hne (fun cs e=>by cases e) (fun cs e=>by cases e)
theorem Ui(w0:World)(B:Nat)(op:List Bt)(out:List Rw)(big:Bool)(A1:Option Addr)(c1:Nat)(A2:Option Addr)(c2:Nat)(s:Bt)(walls:List Bt)(W:World)(h:Bd w0 B op out big W)
 (hs:Kd.string.R 9 W w0.heap.size (fun _=>True) (.slice A1 1 c1) [s]) (hw:Kd.string.R 9 W w0.heap.size (fun _=>True) (.slice A2 walls.length c2) walls):
 Calls Tryz.prog 112 #[.pointer (some ⟨B,0,none⟩),.slice A1 1 c1,.slice A2 walls.length c2] W fun e W'=>e=.returned (.tuple #[])∧
  Bd w0 B (oW [s] walls op) out big W'∧Below w0.heap.size W W'∧iQ B W W':=MZ w0 B op out big A1 c1 [s] A2 c2 walls W h hs hw
theorem start_c(w0:World)(B:Nat)(op:List Bt)(out:List Rw)(big:Bool)(kd:Int)(nm dt:Bt)(sf:Bool)(Aa:Option Addr)(ca:Nat)(xa:List At)(W:World)(h:Bd w0 B op out big W)(hA:k36.C w0 Aa xa.length xa)(hxa:xa.length≤1000000)(hl:out.length≤100000)(ho:op.length≤90000)(hk:NmOk nm)(hp:NmOk pN):
 Calls Tryz.prog 69 #[.pointer (some ⟨B,0,none⟩),.agg #[.int .i64 kd,.string nm,.string dt,.slice Aa xa.length ca,.bool sf]] W fun e W'=>e=.returned (.tuple #[])∧
  Bd w0 B (kP op out big nm xa).1 (kP op out big nm xa).2.1 (kP op out big nm xa).2.2 W'∧Below w0.heap.size W W'∧iQ B W W':=by
 have hbz:=h.below.size;have hgo:=Lib.hid (fun X=>jB.calls 200 nm _ X hk.gone);have hvo:=Lib.hid (fun X=>gU.calls 200 nm _ X hk.void);have hcl:=Lib.hid (fun X=>dZ.calls 200 nm _ X hk.closes);have hwl:=Lib.hid (fun X=>fF.calls 200 nm _ X hk.walls);have hpa:=Lib.hid (fun X=>gD.calls nm _ X hk.par);have hwp:=Lib.hid (fun X=>fF.calls 200 pN _ X hp.walls);have hn:=bP W #[.int .i64 kd,.string nm,.string dt,.slice Aa xa.length ca,.bool sf] 65;obtain⟨⟨p0,p1,p2,p3,p4⟩,p5⟩:=aW hn;have hbA:Below W.heap.size W (W.alloc (.cells #[.int .i64 kd,.string nm,.string dt,.slice Aa xa.length ca,.bool sf] 65)):=(Below.refl _ W).alloc (Nat.le_refl _) _;have h1:=h.step hbA;have hb1:Below w0.heap.size W (W.alloc (.cells #[.int .i64 kd,.string nm,.string dt,.slice Aa xa.length ca,.bool sf] 65)):=hbA.mono hbz;have hk1:=(iQ.refl B W).below hbA
 by_cases hs:nm.data.toList=[]
 ·have e1:(nm.toList==[])=true:=by rw[Lib.toList_data,hs];rfl
  rw[show kP op out big nm xa=(op,out,big)from if_pos hs]
  have hsz:nm=⟨#[]⟩:=by
   obtain⟨d⟩:=nm;simpa using hs
  clear hgo hvo hcl hwl hpa hwp hk;subst hsz;go_enter Tryz.func69,Tryz.ntmps69;go_wp2;refine bodyPost_ret (results_none rfl _ _ _) rfl ?_;exact⟨rfl,h1,hb1,hk1⟩
 have e0:¬nm.toList=[]:=by rw[Lib.toList_data];exact hs
 have e1:(nm.toList==[])=false:=beq_eq_false_iff_ne.2 e0;have e2:¬nm=⟨#[]⟩:=fun e=>hs (by rw[e])
 cases hg:mo nm with
 |true=>
  rw[show kP op out big nm xa=(op,out,big)from by unfold kP;rw[if_neg hs,if_pos hg]];rw[hg]at hgo;clear hvo hcl hwl hpa hwp hk;go_enter Tryz.func69,Tryz.ntmps69
  go_wp2_with(go_at_call 34;((with_reducible refine(hgo.out _).mono ?_);rintro e W2 ⟨rfl,hb2⟩))
  refine bodyPost_ret (results_none rfl _ _ _) rfl ?_;exact⟨rfl,h1.step hb2,hb1.trans (hb2.mono h1.below.size),hk1.below hb2⟩
 |false=>
  rw[hg]at hgo;have hF:kP op out big nm xa=(if jq nm then gH op nm else gH op nm++[nm],(kN (gH op nm) out big ⟨0,0,nm,⟨#[]⟩,ny xa⟩).1,(kN (gH op nm) out big ⟨0,0,nm,⟨#[]⟩,ny xa⟩).2):=by unfold kP;rw[if_neg hs,if_neg (by rw[hg];decide)]
  rw[hF];clear hF;have hsl:=yT op nm;generalize hpb:W.heap.size=pb at *;go_enter Tryz.func69,Tryz.ntmps69
  go_wp2_with(go_at_call 34;((with_reducible refine(hgo.out _).mono ?_);rintro e W2 ⟨rfl,hb2⟩))
  have hn2:=aT hn hb2;have h2:=h1.step hb2;have hbw2:=hb1.trans (hb2.mono h1.below.size);have hk2:=hk1.below hb2;clear hgo hn h1 hb1 hk1 p0 p1 p2 p3 p4 p5 hbA;have hbd:Below W2.heap.size W2 W2.drew:=ah.aD.cZ (Below.refl _ _);have hn3:=aT hn2 hbd;have h3:=h2.step hbd;have hbw3:=hbw2.trans (hbd.mono h2.below.size);have hk3:=hk2.below hbd;refine oV (n:=8) (S:=fun w'=>w'.cell? ⟨pb,1,none⟩=some (.string nm)) (ds:=[7]) (bits 8 0) (by kernel_rfl) rfl (by kernel_rfl) ((aC hn3 1).trans rfl) (fun hHeld=>?_);generalize W2.drew=W3 at *;clear hn2 h2 hbw2 hk2 hbd;refine sw 0 12 ?_;refine sw 1 13 ?_;refine sw 4 16 ?_;refine st 2 14 ?_;refine st 5 17 ?_
  refine sc 3 15 (fun K hK=>?_);refine pX Tryz.func35 (by kernel_rfl) rfl #[.string nm] (by rfl) rfl rfl (by(try simp only[List.map_toArray,List.map_cons,List.map_nil]);first|done|rfl) ?_;refine(hcl.out _).mono ?_;rintro e W4 ⟨v4,rfl,hR4,hb4⟩;refine⟨_,rfl,?_⟩;obtain⟨A4,c4,rfl⟩:=Kd.cK hR4;have hn4:=aT hn3 hb4;have h4:=h3.step hb4;have hbw4:=hbw3.trans (hb4.mono h3.below.size);have hk4:=hk3.below hb4;replace hR4:=Kd.dU hR4 h3.below.size;refine hK.out _ _ ((aC hn4 1).trans rfl) (fun wO=>?_);clear hK K hHeld wO hn3 h3 hbw3 hk3;refine sn ?_;refine sc 6 18 (fun K hK=>?_);refine pX Tryz.func78 (by kernel_rfl) rfl #[.string nm] (by rfl) rfl rfl (by(try simp only[List.map_toArray,List.map_cons,List.map_nil]);first|done|rfl) ?_;refine(hwl.out _).mono ?_;rintro e W5 ⟨v5,rfl,hR5,hb5⟩;refine⟨_,rfl,?_⟩;obtain⟨A5,c5,rfl⟩:=Kd.cK hR5;have hn5:=aT hn4 hb5;have h5:=h4.step hb5;have hbw5:=hbw4.trans (hb5.mono h4.below.size);have hk5:=hk4.below hb5;replace hR5:=Kd.dU hR5 h4.below.size;replace hR4:=Kd.bK hR4 hb5;refine hK.out _ _ ((aC hn5 1).trans rfl) (fun wO=>?_);clear hK K wO hn4 h4 hbw4 hk4
  refine sn ?_;refine sd 7 19 (fun K hK=>?_);refine pX Tryz.func112 (by kernel_rfl) rfl #[.pointer (some ⟨B,0,none⟩),.slice A4 (iG nm).length c4,.slice A5 (fJ nm).length c5] (by rfl) rfl rfl (by(try simp only[List.map_toArray,List.map_cons,List.map_nil]);first|done|rfl) ?_;refine(MZ w0 B op out big A4 c4 (iG nm) A5 c5 (fJ nm) W5 h5 hR4 hR5).mono ?_;rintro e W6 ⟨rfl,h6,hb6,hkp6⟩;refine⟨_,rfl,?_⟩;refine hK.out _ _ ?_;clear hK K;refine sn ?_;refine sW (by kernel_rfl) ?_;have hne:=h5.ne hn5 (by decide);have hn6:=hkp6.box hn5 hne;have hbw6:=hbw5.trans hb6;have hk6:=hk5.trans hkp6;clear hn5 h5 hbw5 hk5 hkp6 hb6 hR4 hR5;obtain⟨⟨p0,p1,p2,p3,p4⟩,p5⟩:=aW hn6;have hso:gH op nm=if parL nm then oW [pN] (fJ pN) (oW (iG nm) (fJ nm) op)else oW (iG nm) (fJ nm) op:=rfl
  generalize parL nm=par at *
  go_upto_if 22 with(go_at_call 76;((with_reducible refine(hpa.out _).mono ?_);rintro e W7 ⟨rfl,⟨nd,hW7⟩⟩;have hb7:Below W6.heap.size W6 W7:=hW7▸ah.aD.bE (Below.refl _ _) nd;clear hW7;have h7:=h6.step hb7;have hn7:=aT hn6 hb7;have hbw7:=hbw6.trans (hb7.mono h6.below.size);have hk7:=hk6.below hb7))
  go_cut [] (fun wx=>Bd w0 B (gH op nm) out big wx∧wx.heap[pb]?=some (.cells #[.int .i64 kd,.string nm,.string dt,.slice Aa xa.length ca,.bool sf] 65 (0,0))∧Below w0.heap.size W wx∧iQ B W wx)
  case first=>
   cases par with
   |false=>
    go_wp2
    go_meet
    refine⟨?_,hn7,hbw7,hk7⟩;rw[hso,if_neg (by decide)];exact h7
   |true=>
    have hbl:=(Below.refl _ W7).alloc (Nat.le_refl _) (.cells #[.string pN] 9);have hl7:=lit1 W7 pN w0.heap.size h7.below.size
    go_wp2_with(first
     |(go_at_call 78;((with_reducible refine(hwp.out _).mono ?_);rintro e W8 ⟨v8,rfl,hR8,hb8⟩;obtain⟨A8,c8,rfl⟩:=Kd.cK hR8;have h8:=(h7.step hbl).step hb8;have hn8:=aT (aT hn7 hbl) hb8;have hbw8:=(hbw7.trans (hbl.mono h7.below.size)).trans (hb8.mono (h7.step hbl).below.size);have hk8:=(hk7.below hbl).below hb8;have hR8:=Kd.dU hR8 (h7.step hbl).below.size;have hl8:=Kd.bK hl7 hb8))
     |(go_at_call 112;((with_reducible refine(Ui w0 B _ out big _ _ A8 c8 pN (fJ pN) _ h8 hl8 hR8).mono ?_);rintro e W9 ⟨rfl,h9,hb9,hk9⟩;have hn9:=hk9.box hn8 (h8.ne hn8 (by decide)))))
    go_meet
    refine⟨?_,hn9,hbw8.trans hb9,hk8.trans hk9⟩;rw[hso]
    first|(rw[if_pos trivial];exact h9)|(rw[if_pos rfl];exact h9)
  case rest=>
   obtain⟨h10,hn10,hbw10,hk10⟩:=hcut;clear hn6 h6 hbw6 hk6 hn7 h7 hbw7 hk7 hpa hwp hwl hcl hso p0 p1 p2 p3 p4 p5;have hbd:Below wc.heap.size wc wc.drew:=ah.aD.cZ (Below.refl _ _);have hn11:=aT hn10 hbd;have h11:=h10.step hbd;have En:=hbw10.trans (hbd.mono h10.below.size);have hk11:=hk10.below hbd
   go_upto_region 5 with(fail)
   refine oV (n:=8) (S:=fun w'=>w'.cell? ⟨pb,1,none⟩=some (.string nm)∧w'.cell? ⟨pb,3,none⟩=some (.slice Aa xa.length ca)) (ds:=[7]) (bits 8 0) (by kernel_rfl) rfl (by kernel_rfl) ⟨(aC hn11 1).trans rfl,(aC hn11 3).trans rfl⟩ (fun hHeld=>?_);generalize wc.drew=W11 at *;clear hn10 h10 hbw10 hk10 hbd;refine sw 0 27 ?_;refine sw 1 28 ?_;refine sw 3 30 ?_;refine st 2 29 ?_;refine st 4 31 ?_
   refine sc 5 32 (fun K hK=>?_);refine pX Tryz.func113 (by kernel_rfl) rfl #[.slice Aa xa.length ca] (by rfl) rfl rfl (by(try simp only[List.map_toArray,List.map_cons,List.map_nil]);first|done|rfl) ?_;refine(once_c Aa ca xa W11 (Kd.bT hA h11.below) hxa).mono ?_;rintro e W12 ⟨v12,rfl,hR12,hb12⟩;refine⟨_,rfl,?_⟩;obtain⟨A12,c12,rfl⟩:=Kd.cK hR12;have hn12:=aT hn11 hb12;have h12:=h11.step hb12;have hbw12:=En.trans (hb12.mono h11.below.size);have hk12:=hk11.below hb12;replace hR12:=Kd.dU hR12 h11.below.size;refine hK.out _ _ ⟨(aC hn12 1).trans rfl,(aC hn12 3).trans rfl⟩ (fun wO=>?_);clear hK K hHeld wO hn11 h11 En hk11;refine sn ?_;refine sw 6 33 ?_;refine sd 7 34 (fun K hK=>?_);refine pX Tryz.func68 (by kernel_rfl) rfl #[.pointer (some ⟨B,0,none⟩),.agg #[.int .i64 0,.int .i64 0,.string nm,.string ⟨#[]⟩,.slice A12 (ny xa).length c12]] (by rfl) rfl rfl (by(try simp only[List.map_toArray,List.map_cons,List.map_nil]);first|done|rfl) ?_;refine(lay_c w0 B (gH op nm) out big 0 0 nm ⟨#[]⟩ (.slice A12 (ny xa).length c12) (ny xa) W12 h12 hR12 hl (by omega)).mono ?_;rintro e W13 ⟨rfl,h13,hb13,hk13⟩;refine⟨_,rfl,?_⟩
   refine hK.out _ _ ?_;clear hK K;refine sn ?_;refine sW (by kernel_rfl) ?_;have hn13:=hk13.box hn12 (h12.ne hn12 (by decide));have hbw13:=hbw12.trans hb13;have hk14:=hk12.trans hk13;clear hn12 h12 hbw12 hk12 hR12 hb13 hk13;obtain⟨⟨p0,p1,p2,p3,p4⟩,p5⟩:=aW hn13;cases hvd:jq nm with
   |true=>
    rw[hvd]at hvo
    go_wp2_with(go_at_call 31;((with_reducible refine(hvo.out _).mono ?_);rintro e W14 ⟨rfl,hb14⟩))
    go_end0;refine⟨rfl,?_,hbw13.trans (hb14.mono h13.below.size),hk14.below hb14⟩;exact h13.step hb14
   |false=>
    rw[hvd]at hvo
    go_wp2_with(go_at_call 31;((with_reducible refine(hvo.out _).mono ?_);rintro e W14 ⟨rfl,hb14⟩))
    have h14:=h13.step hb14;have hn14:=aT hn13 hb14;have hbw14:=hbw13.trans (hb14.mono h13.below.size);have hk15:=hk14.below hb14;clear h13 hn13 hbw13 hk14 hb14 hvo p0 p1 p2 p3 p4 p5;have hbd:Below W14.heap.size W14 W14.drew:=ah.aD.cZ (Below.refl _ _);have hn15:=aT hn14 hbd;have h15:=h14.step hbd;have hbw15:=hbw14.trans (hbd.mono h14.below.size);have hk16:=hk15.below hbd;obtain⟨vo,vr,g1,g2,g3⟩:=id h15.ex;obtain⟨Ao,co,rfl⟩:=Kd.cK g2;obtain⟨f0,f1,f2,ff⟩:=aN g1;have hol:=yT op nm;refine oV (n:=12) (S:=fun w'=>w'.cell? ⟨B,0,none⟩=some (.slice Ao (gH op nm).length co)∧w'.cell? ⟨pb,1,none⟩=some (.string nm)) (ds:=[8,11]) (bits 12 0) (by kernel_rfl) rfl (by kernel_rfl) ⟨f0,(aC hn15 1).trans rfl⟩ (fun hHeld=>?_);generalize W14.drew=W15 at *;clear hn14 h14 hbw14 hk15 hbd;refine sw 0 39 ?_;refine sw 1 40 ?_;refine sw 2 41 ?_;refine sw 3 42 ?_;refine sw 5 44 ?_;refine st 4 43 ?_;refine st 6 45 ?_
    refine sc 7 46 (fun K hK=>?_);rw[if_pos (by rfl)];go_simp;have hbq:Below W15.heap.size W15 (W15.alloc (.cells #[.string nm] 9)):=(Below.refl _ W15).alloc (Nat.le_refl _) _;refine hK.out _ _ ⟨aV f0 hbq,aV ((aC hn15 1).trans rfl) hbq⟩ (fun wO=>?_);clear hK K hHeld wO;refine sd 8 47 (fun K hK=>?_);have hbd2:Below w0.heap.size W W15:=hbw15;refine Kd.Ag Kd.string (w0:=W) w0.heap.size (by rfl) (.tmp 43) (.tmp 46) 41 9 (.string ⟨#[]⟩) 16 rfl Tryz.underlying41 BK rfl (by decide) (by omega) (.slice Ao (gH op nm).length co) (gH op nm) nm [.string nm] (fun _=>True) (fun _=>False) rfl ?aX (show Kd.M Kd.string _ _ _ nm [.string nm]from rfl) (fun _ h=>h.elim) (fun _ _=>trivial) g2 hbd2 h15.below.size (by omega) ?_
    case aX=>rfl
    intro v1 w2 hO2 hb2 hg2 yS;have hB2:=qH g1 hg2 (Kd.R_ne g2 g1 (by decide));have hV2:=Kd.R_over g3 g2 (by decide) hg2;have hkk:=iQ.grown hk16 (fun k hk=>by obtain⟨c,hc⟩:=Kd.E9 g2 k hk;exact⟨c,.inr hc⟩) hg2;obtain⟨A3,c3,rfl⟩:=Kd.cK hO2;rw[List.length_append,List.length_singleton]at hO2;obtain⟨z0,z1,z2,zf⟩:=aN hB2;refine hK.out _ _ ?_;clear hK K;refine sn ?_;refine sw 9 48 ?_;refine sw 10 49 ?_
    refine sl 11 (fun K hK=>?_);rw[if_pos (by rfl)];go_simp;refine hK.out _ _ ?_;clear hK K;refine sW (by kernel_rfl) ?_;go_end0;refine⟨rfl,?_,hb2.setCell (p:=⟨B,0,none⟩) h.base _,hkk.set 0 _⟩;show Bd w0 B (if jq nm then gH op nm else gH op nm++[nm]) _ _ _;rw[hvd];exact⟨h.below.trans (hb2.setCell (p:=⟨B,0,none⟩) h.base _),h.base,_,_,bQ hB2 0 _ rfl,Kd.tY hO2 hB2 (by decide) 0 _,Kd.tY hV2 hB2 (by decide) 0 _⟩
end Go.Proofs.aj.W7
namespace Go.Proofs.aj.W7
open Go.RowKit Go.Proofs YtkcmghlhpbepcaaGreatDoor ah.aD
abbrev tbN:Bt:=⟨#[116,98,111,100,121]⟩
abbrev trN:Bt:=⟨#[116,114]⟩
def isTab(nm:Bt):Bool:=nm.data.toList==[116,97,98,108,101] ||Lib.containsS (iG tbN) nm
def zZ(nm:Bt):List Bt:=if isTab nm then fJ trN else fJ pN
def iL(op:List Bt)(out:List Rw)(big:Bool)(nm:Bt):List Bt×List Rw×Bool:=
 if nm.data.toList=[]then(op,out,big)else if mo nm then(op,out,big)else if jq nm then(op,out,big)
 else if 0≤dS op [nm] (zZ nm) op.length then(op.take (dS op [nm] (zZ nm) op.length).toNat,out,big)
 else if nm.data.toList=[112]then(op,(kN op out big ⟨0,0,nm,⟨#[]⟩,[]⟩).1,(kN op out big ⟨0,0,nm,⟨#[]⟩,[]⟩).2)else(op,out,big)
theorem has_R(A:Option Addr)(c:Nat)(xs:List Bt)(x:Bt)(w:World)(h:Kd.string.C w A xs.length xs)(hc:xs.length≤c):
 Calls Tryz.prog 114 #[.slice A xs.length c,.string x] w fun e w'=>e=.returned (.bool (Lib.containsS xs x))∧w'=w:=has_c A c xs x w h
theorem found1_c(base:Nat)(A:Option Addr)(c:Nat)(op:List Bt)(A1:Option Addr)(c1:Nat)(s:Bt)(A2:Option Addr)(c2:Nat)(walls:List Bt)(X:World)(h0:Kd.string.R 9 X base (fun _=>True) (.slice A op.length c) op)(h1:Kd.string.R 9 X base (fun _=>True) (.slice A1 1 c1) [s])(h2:Kd.string.R 9 X base (fun _=>True) (.slice A2 walls.length c2) walls):
 Calls Tryz.prog 77 #[.slice A op.length c,.slice A1 1 c1,.slice A2 walls.length c2] X fun e w'=>e=.returned (.int .i64 (dS op [s] walls op.length))∧Below X.heap.size X w':=
 gZ.calls A c op A1 c1 [s] A2 c2 walls (dS op [s] walls op.length) X (Kd.bg h0).2.2 (Kd.bg h0).2.1 (Kd.bg (xs:=[s]) h1).2.2 (Kd.bg (xs:=[s]) h1).2.1 (Kd.bg h2).2.2 (Kd.bg h2).2.1 rfl
theorem end_c(w0:World)(B:Nat)(op:List Bt)(out:List Rw)(big:Bool)(nm:Bt)(W:World)(h:Bd w0 B op out big W)(hl:out.length≤100000)(ho:op.length≤90000)(hk:NmOk nm)(hp:NmOk pN)(ht:NmOk tbN)(hr:NmOk trN):
 Calls Tryz.prog 70 #[.pointer (some ⟨B,0,none⟩),.string nm] W fun e W'=>e=.returned (.tuple #[])∧
  Bd w0 B (iL op out big nm).1 (iL op out big nm).2.1 (iL op out big nm).2.2 W'∧Below w0.heap.size W W'∧iQ B W W':=by
 have hbz:=h.below.size;have hgo:=Lib.hid (fun X=>jB.calls 200 nm _ X hk.gone);have hvo:=Lib.hid (fun X=>gU.calls 200 nm _ X hk.void);have hwp:=Lib.hid (fun X=>fF.calls 200 pN _ X hp.walls);have hwr:=Lib.hid (fun X=>fF.calls 200 trN _ X hr.walls);have hct:=Lib.hid (fun X=>dZ.calls 200 tbN _ X ht.closes)
 by_cases hs:nm.data.toList=[]
 ·rw[show iL op out big nm=(op,out,big)from if_pos hs]
  have hsz:nm=⟨#[]⟩:=by
   obtain⟨d⟩:=nm;simpa using hs
  clear hgo hvo hwp hwr hct hk;subst hsz;go_enter Tryz.func70,Tryz.ntmps70;go_wp2;refine bodyPost_ret (results_none rfl _ _ _) rfl ?_;exact⟨rfl,h,Below.refl _ _,iQ.refl _ _⟩
 have e0:¬nm.toList=[]:=by rw[Lib.toList_data];exact hs
 have e1:(nm.toList==[])=false:=beq_eq_false_iff_ne.2 e0;have e2:¬nm=⟨#[]⟩:=fun e=>hs (by rw[e])
 cases hg:mo nm with
 |true=>
  rw[show iL op out big nm=(op,out,big)from by unfold iL;rw[if_neg hs,if_pos hg]];rw[hg]at hgo;clear hvo hwp hwr hct hk;go_enter Tryz.func70,Tryz.ntmps70
  go_wp2_with(go_at_call 34;((with_reducible refine(hgo.out _).mono ?_);rintro e W2 ⟨rfl,hb2⟩))
  refine bodyPost_ret (results_none rfl _ _ _) rfl ?_;exact⟨rfl,h.step hb2,hb2.mono hbz,(iQ.refl _ _).below hb2⟩
 |false=>
  rw[hg]at hgo;cases hv:jq nm with
  |true=>
   rw[show iL op out big nm=(op,out,big)from by unfold iL;rw[if_neg hs,if_neg (by rw[hg];decide),if_pos hv]];rw[hv]at hvo;clear hwp hwr hct hk;go_enter Tryz.func70,Tryz.ntmps70
   go_wp2_with(first
    |(go_at_call 34;((with_reducible refine(hgo.out _).mono ?_);rintro e W2 ⟨rfl,hb2⟩))
    |(go_at_call 31;((with_reducible refine(hvo.out _).mono ?_);rintro e W3 ⟨rfl,hb3⟩)))
   refine bodyPost_ret (results_none rfl _ _ _) rfl ?_;exact⟨rfl,(h.step hb2).step hb3,(hb2.mono hbz).trans (hb3.mono (h.step hb2).below.size),((iQ.refl _ _).below hb2).below hb3⟩
  |false=>
   rw[hv]at hvo
   have hF:iL op out big nm=(if 0≤dS op [nm] (zZ nm) op.length then(op.take (dS op [nm] (zZ nm) op.length).toNat,out,big)
    else if nm.data.toList=[112]then(op,(kN op out big ⟨0,0,nm,⟨#[]⟩,[]⟩).1,(kN op out big ⟨0,0,nm,⟨#[]⟩,[]⟩).2)else(op,out,big)):=by
    unfold iL;rw[if_neg hs,if_neg (by rw[hg];decide),if_neg (by rw[hv];decide)]
   replace hF:=Lib.hid hF;clear hk;have hew:zZ nm=if(nm.data.toList==[116,97,98,108,101] ||Lib.containsS (iG tbN) nm)then fJ trN else fJ pN:=rfl
   have q1:(nm.toList==[116,97,98,108,101])=(nm.data.toList==[116,97,98,108,101]):=by rw[Lib.toList_data]
   generalize (nm.data.toList==[116,97,98,108,101])=isT at *;go_enter Tryz.func70,Tryz.ntmps70
   go_upto_region 2 with(first
    |(go_at_call 34;((with_reducible refine(hgo.out _).mono ?_);rintro e W2 ⟨rfl,hb2⟩;have h2:=h.step hb2;have hbw2:=hb2.mono hbz;have hk2:=(iQ.refl B W).below hb2))
    |(go_at_call 31;((with_reducible refine(hvo.out _).mono ?_);rintro e W3 ⟨rfl,hb3⟩;have h3:=h2.step hb3;have hbw3:=hbw2.trans (hb3.mono h2.below.size);have hk3:=hk2.below hb3))
    |(go_at_call 78;((with_reducible refine(hwp.out _).mono ?_);rintro e W4 ⟨v4,rfl,hR4,hb4⟩;obtain⟨A4,c4,rfl⟩:=Kd.cK hR4;have h4:=h3.step hb4;have hbw4:=hbw3.trans (hb4.mono h3.below.size);have hk4:=hk3.below hb4;have hR4:=Kd.dU hR4 h3.below.size)))
   generalize hct0:iG tbN=ctl at *;go_cut [23] (fun v wx=>v=.bool (isT||Lib.containsS ctl nm)∧Bd w0 B op out big wx∧Below w0.heap.size W wx∧iQ B W wx∧Kd.string.R 9 wx w0.heap.size (fun _=>True) (.slice A4 (fJ pN).length c4) (fJ pN))
   case first=>
    cases isT with
    |true=>
     go_wp2_with(fail)
     go_meet
     exact⟨rfl,h4,hbw4,hk4,hR4⟩
    |false=>
     go_wp2_with(first
      |(go_at_call 35;((with_reducible refine(hct.out _).mono ?_);rintro e W5 ⟨v5,rfl,hR5,hb5⟩;obtain⟨A5,c5,rfl⟩:=Kd.cK hR5;have h5:=h4.step hb5;have hbw5:=hbw4.trans (hb5.mono h4.below.size);have hk5:=hk4.below hb5;have hR6:=Kd.bK hR4 hb5;have hr5:=Kd.bg hR5))
      |(go_at_call 114;((with_reducible refine(has_R A5 c5 ctl nm _ hr5.2.2 hr5.2.1).mono ?_);rintro e W6 ⟨rfl,rfl⟩)))
     go_meet
     exact⟨rfl,h5,hbw5,hk5,hR6⟩
   case rest=>
    obtain⟨rfl,h7,hbw7,hk7,hR7⟩:=hcut;clear hct0 hct q1;generalize (isT||Lib.containsS ctl nm)=isW at *
    go_upto_if 23 with(fail)
    go_cut [4] (fun v wx=>∃A c,v=.slice A (zZ nm).length c∧Kd.string.R 9 wx w0.heap.size (fun _=>True) (.slice A (zZ nm).length c) (zZ nm)∧Bd w0 B op out big wx∧Below w0.heap.size W wx∧iQ B W wx)
    case first=>
     cases isW with
     |true=>
      go_wp2_with(go_at_call 78;((with_reducible refine(hwr.out _).mono ?_);rintro e W8 ⟨v8,rfl,hR8,hb8⟩;obtain⟨A8,c8,rfl⟩:=Kd.cK hR8))
      go_meet
      rw[hew]
      first|rw[if_pos rfl] |rw[if_pos trivial]
      exact⟨_,_,rfl,Kd.dU hR8 h7.below.size,h7.step hb8,hbw7.trans (hb8.mono h7.below.size),hk7.below hb8⟩
     |false=>
      go_wp2
      go_meet
      rw[hew,if_neg (by decide)];exact⟨_,_,rfl,hR7,h7,hbw7,hk7⟩
    case rest=>
     obtain⟨A9,c9,rfl,hR9,h9,hbw9,hk9⟩:=hcut;clear hew hR7 h7 hbw7 hk7 hwp hwr hgo hvo h2 h3 h4 hbw2 hbw3 hbw4 hk2 hk3 hk4 hR4;generalize zZ nm=wl at *;have hbl:=(Below.refl _ wc).alloc (Nat.le_refl _) (.cells #[.string nm] 9);have hl10:=lit1 wc nm w0.heap.size h9.below.size;have hR10:=Kd.bK hR9 hbl;obtain⟨vo,vr,g1,g2,g3⟩:=id h9.ex;obtain⟨Ao,co,rfl⟩:=Kd.cK g2;have hV10:=Kd.bK g2 hbl;obtain⟨f0,f1,f2,ff⟩:=aN g1;obtain⟨y0,y1,y2,yf⟩:=aN (aT g1 hbl);have hfd:=Lib.hid (found1_c w0.heap.size Ao co op _ _ nm A9 c9 wl _ hV10 hl10 hR10);have hfl:=zJ op [nm] wl op.length
     by_cases hneg:0≤dS op [nm] wl op.length
     ·have hF2:=hF.out
      rw[if_pos hneg]at hF2;obtain⟨i,hi⟩:∃i:Nat,dS op [nm] wl op.length=i:=⟨(dS op [nm] wl op.length).toNat,by omega⟩
      rw[hi]at hfd hfl hF2;simp only[Int.toNat_natCast]at hF2;have hil:i<op.length:=by omega
      have hrd:=Kd.bg g2;replace hF2:=Lib.hid hF2;clear hi hneg hfl hR10 hR9 hl10 hF;have e3:decide ((0:Int)≤(i:Int))=true:=decide_eq_true (by omega)
      go_wp2_with(go_at_call 77;((with_reducible refine hfd.out.mono ?_);rintro e W11 ⟨rfl,BL⟩;have g11:=aT (aT g1 hbl) BL;obtain⟨z0,z1,z2,zf⟩:=aN g11))
      refine bodyPost_ret (results_none rfl _ _ _) rfl ?_;rw[hF2.out];have hV11:=Kd.bK hV10 BL;have h11:=(h9.step hbl).step BL;have g3':=Kd.bK (Kd.bK g3 hbl) BL;have htk:=Kd.wQ (m:=i) hV11 (by omega);have En:=(hbw9.trans (hbl.mono h9.below.size)).trans (BL.mono (h9.step hbl).below.size);refine⟨rfl,⟨h11.below.setCell (p:=⟨B,0,none⟩) h.base _,h.base,_,_,bQ g11 0 _ rfl,Kd.tY htk g11 (by decide) 0 _,Kd.tY g3' g11 (by decide) 0 _⟩,En.setCell (p:=⟨B,0,none⟩) h.base _,((hk9.below hbl).below BL).set 0 _⟩
     ·have hF2:=hF.out
      rw[if_neg hneg]at hF2;generalize dS op [nm] wl op.length=i at *;have e3:decide ((0:Int)≤i)=false:=decide_eq_false hneg;clear hneg hfl hR10 hR9 hl10 hF
      by_cases hp2:nm.data.toList=[112]
      ·rw[if_pos hp2]at hF2
       replace hF2:=Lib.hid hF2
       have hnp:nm=pN:=by
        obtain⟨⟨d⟩⟩:=nm;simpa using hp2
       subst hnp;clear hs e0 e1 e2 hp2
       go_wp2_with(first
        |(go_at_call 77;((with_reducible refine hfd.out.mono ?_);rintro e W11 ⟨rfl,BL⟩;have h11:=(h9.step hbl).step BL;have En:=(hbw9.trans (hbl.mono h9.below.size)).trans (BL.mono (h9.step hbl).below.size);have hk11:=(hk9.below hbl).below BL))
        |(go_at_call 68;((with_reducible refine(lay_c w0 B op out big 0 0 pN ⟨#[]⟩ (.slice none 0 0) [] _ h11 (Kd.oz _ _ _ _ _) hl (by omega)).mono ?_);rintro e W12 ⟨rfl,h12,hb12,hk12⟩)))
       go_end0;rw[hF2.out];exact⟨rfl,h12,En.trans hb12,hk11.trans hk12⟩
      ·rw[if_neg hp2]at hF2
       replace hF2:=Lib.hid hF2;have e4:(nm.toList==[112])=false:=by rw[Lib.toList_data];exact beq_eq_false_iff_ne.2 hp2
       have e5:¬nm=⟨#[112]⟩:=fun e=>hp2 (by rw[e])
       go_wp2_with(go_at_call 77;((with_reducible refine hfd.out.mono ?_);rintro e W11 ⟨rfl,BL⟩;have h11:=(h9.step hbl).step BL;have En:=(hbw9.trans (hbl.mono h9.below.size)).trans (BL.mono (h9.step hbl).below.size);have hk11:=(hk9.below hbl).below BL))
       go_end0;rw[hF2.out];exact⟨rfl,h11,En,hk11⟩
def lV(a:S36):Txt×Txt:=(a.f0.data.toList,a.f1.data.toList)
def pairT(a:Txt×Txt):S36:=⟨⟨a.1.toArray⟩,⟨a.2.toArray⟩⟩
def kZ(x:Tok):S65:=⟨x.kind,⟨x.name.toArray⟩,⟨x.data.toArray⟩,x.attrs.map pairT,x.self⟩
theorem pairS_T(a:Txt×Txt):lV (pairT a)=a:=rfl
theorem Gx(l:List (Txt×Txt)):(l.map pairT).map lV=l:=by
 induction l with
 |nil=>rfl
 |cons a l ih=>simp only[List.map_cons,pairS_T,ih]
end Go.Proofs.aj.W7
