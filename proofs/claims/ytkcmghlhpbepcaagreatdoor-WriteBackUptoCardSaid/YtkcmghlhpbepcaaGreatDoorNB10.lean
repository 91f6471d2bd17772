/- Lemmas and walks, part 10. -/
import Derived.Test.YtkcmghlhpbepcaaGreatDoorNB9
set_option linter.unusedVariables false
set_option linter.unusedSimpArgs false
set_option maxHeartbeats 8000000
set_option maxRecDepth 100000
namespace Go.Proofs.aj.W7
open Go.RowKit Go.Proofs.ah.aD Go.Proofs.ah.bJ Go.Proofs.ah.bW
attribute [local go_sem] dB dD dR dS bZ cu dF dG
def jV.f(k:Nat)(a0:ByteArray):Option (Bool):=(bN.f k a0 (⟨#[47,62]⟩:ByteArray)).bind fun t367=>(if t367=true then(if 0<(a0.size:Int)then((jU.f (bt a0 0)).bind fun t368=>(some t368))else(none))else(some false))
theorem jV.calls(k:Nat)(a0:ByteArray)(r:Bool)(w:World)(h:jV.f k a0=some r):
 Calls Tryz.prog 30 #[.string a0] w fun e w'=>e=.returned (.bool r)∧bP w w':=by
 have H:((bN.f k a0 (⟨#[47,62]⟩:ByteArray)).bind fun t367=>(if t367=true then(if 0<(a0.size:Int)then((jU.f (bt a0 0)).bind fun t368=>(some t368))else(none))else(some false)))=some r:=h;clear h;replace H:=Option.bind_eq_some_iff.mp H;obtain⟨t367,A20,H⟩:=H;replace H:(if t367=true then(if 0<(a0.size:Int)then((jU.f (bt a0 0)).bind fun t368=>(some t368))else(none))else(some false))=some r:=H;have A2:=ak.mk A20;clear A20
 by_cases c3:t367=true
 ·subst c3
  have H1:(if 0<(a0.size:Int)then((jU.f (bt a0 0)).bind fun t368=>(some t368))else(none))=some r:=by rw[if_pos rfl]at H;exact H
  clear H;have H:=H1;clear H1
  by_cases c4:0<(a0.size:Int)
  ·rw[if_pos c4]at H
   have mZ:decide (0<(a0.size:Int))=true:=decide_eq_true c4;have AA:decide (0<a0.size)=true:=decide_eq_true (by omega);clear c4;replace H:=Option.bind_eq_some_iff.mp H;obtain⟨t368,A60,H⟩:=H;replace H:(some t368)=some r:=H;have A6:=ak.mk A60;clear A60;obtain rfl:=Option.some.inj H;go_enter Tryz.func30,Tryz.ntmps30
   go_wp2_with(first|((with_reducible refine aZ (f:=79) rfl ?_);refine dJ (some 4) rfl rfl Tryz.func79 (by kernel_rfl) rfl #[.string a0,.string (⟨#[47,62]⟩:ByteArray)] rfl q'a ?_;(with_reducible refine(bN.calls k a0 (⟨#[47,62]⟩:ByteArray) true _ A2.out).mono ?_);rintro e w' ⟨rfl,⟨nd,rfl⟩⟩;refine⟨_,rfl,?_⟩;have p5:0≤(0:Int):=(by omega);have q5:0<a0.size:=(by have:(0:Int)<(a0.size:Int):=q'b;omega);have hx5:∀h:0<a0.size,((a0[0]'h).toNat:Int)=bt a0 0:=jT a0 0;clear p5;have qi5:(0<(a0.size:Int))=True:=eq_true (q'b);replace q5:=eq_true q5)|(go_at_call 80;(with_reducible refine(jU.calls (bt a0 0) t368 _ A6.out).mono ?_);rintro e w' ⟨rfl,⟨nd,rfl⟩⟩))
   go_ret;exact⟨q'c,by repeat(first|exact bP.refl _|apply bP.step)⟩
  ·rw[if_neg c4]at H
   exact absurd H (by simp)
 ·replace c3:=Bool.eq_false_iff.mpr c3
  subst c3;have H1:(some false)=some r:=by rw[if_neg (show¬(false=true) by decide)]at H;first|exact H|(simp only[eq_self]at H⊢;exact H)|(simp only[eq_self,if_true]at H⊢;exact H)
  clear H;have H:=H1;clear H1;obtain rfl:=Option.some.inj H;go_enter Tryz.func30,Tryz.ntmps30
  go_wp2_with(first|((with_reducible refine aZ (f:=79) rfl ?_);refine dJ (some 4) rfl rfl Tryz.func79 (by kernel_rfl) rfl #[.string a0,.string (⟨#[47,62]⟩:ByteArray)] rfl q'a ?_;(with_reducible refine(bN.calls k a0 (⟨#[47,62]⟩:ByteArray) false _ A2.out).mono ?_);rintro e w' ⟨rfl,⟨nd,rfl⟩⟩;refine⟨_,rfl,?_⟩))
  go_ret;exact⟨q'c,by repeat(first|exact bP.refl _|apply bP.step)⟩
end Go.Proofs.aj.W7
namespace Go.Proofs.aj.W7
open Go.RowKit Go.Proofs Go.Proofs.aj Go.Proofs.YtkcmghlhpbepcaaGreatDoor Go.Proofs.ah.aD
def dM(c:Int):Bool:=decide (c=32)||decide (c=9)||decide (c=10)||decide (c=12)||decide (c=13)
theorem space_fq(c:Int):iq.f c=some (dM c):=by
 unfold iq.f dM
 by_cases h1:c=32
 ·rw[if_pos h1];simp[h1]
 rw[if_neg h1]
 by_cases h2:c=9
 ·rw[if_pos h2];simp[h2]
 rw[if_neg h2]
 by_cases h3:c=10
 ·rw[if_pos h3];simp[h3]
 rw[if_neg h3]
 by_cases h4:c=12
 ·rw[if_pos h4];simp[h4]
 rw[if_neg h4]
 congr 1
 by_cases h5:c=13
 ·simp[h5]
 ·simp[h1,h2,h3,h4,h5]
def badC(c:Int):Bool:=dM c||(decide (65≤c)&&decide (c≤90))||decide (c=0)
def inC(t:ByteArray)(c:Int):Nat→Nat→Bool
 |0,_=>false
 |d+1,j=>decide (c=bt t j)||inC t c d (j+1)
def okC(t:ByteArray)(c:Int):Bool:=!badC c&& !inC t c t.size 0
def tX(s t:ByteArray):Nat→Nat→Bool
 |0,_=>s.toList !=[]
 |d+1,i=>okC t (bt s i)&&tX s t d (i+1)
theorem plain_l(s t:ByteArray)(hs:s.size<1000000000)(ht:t.size<1000000000):∀k:Nat,
 (∀d i:Nat,i+d=s.size→d * (t.size+4)+1≤k→bN.l0 k s t (s.size:Int) i=some (tX s t d i))∧
 (∀(d i:Nat) (b:Bool),i+d+1=s.size→t.size+3+d * (t.size+4)≤k→bN.j1 k s t i (s.size:Int) i b=some (!b&& !inC t (bt s i) t.size 0&&tX s t d (i+1)))∧
 (∀d e i j:Nat,i+d+1=s.size→j+e=t.size→e+2+d * (t.size+4)≤k→bN.l1 k s t i (s.size:Int) i (t.size:Int) j=some (!inC t (bt s i) e j&&tX s t d (i+1))):=by
 intro k
 induction k with
 |zero=>exact⟨fun d i _ h=>by omega,fun d i b _ h=>by omega,fun d e i j _ _ h=>by omega⟩
 |succ k ih=>
  refine⟨?_,?_,?_⟩
  ·intro d i hd hk
   cases d with
   |zero=>
    simp only[bN.l0];rw[if_neg (by omega)];rfl
   |succ d=>
    have h1:(d+1) * (t.size+4)=d * (t.size+4)+t.size+4:=by rw[Nat.succ_mul];omega
    simp only[bN.l0];rw[if_pos (by omega),if_pos (by omega),if_pos (by omega),space_fq,Option.bind_some]
    have hj:∀b,b=badC (bt s i)→bN.j1 k s t i (s.size:Int) i b=some (tX s t (d+1) i):=by
     intro b hb;rw[ih.2.1 d i b (by omega) (by omega),hb];rfl
    unfold badC at hj
    by_cases h2:dM (bt s i)=true
    ·rw[if_pos h2]
     exact hj true (by rw[h2];rfl)
    ·rw[if_neg h2]
     rw[Bool.not_eq_true]at h2;rw[h2]at hj
     by_cases h3:bt s i≥65
     ·rw[if_pos h3]
      by_cases h4:bt s i≤90
      ·rw[if_pos h4]
       exact hj true (by simp[h4];omega)
      ·rw[if_neg h4]
       exact hj _ (by simp[h4];rfl)
     ·rw[if_neg h3]
      have h5:¬65≤bt s i:=by omega
      exact hj _ (by simp[h5];rfl)
  ·intro d i b hd hk
   simp only[bN.j1];cases b with
   |true=>rw[if_pos rfl];rfl
   |false=>
    rw[if_neg (by decide)];exact ih.2.2 d t.size i 0 (by omega) (by omega) (by omega)
  ·intro d e i j hd he hk
   cases e with
   |zero=>
    simp only[bN.l1];rw[if_neg (by omega),wN (by omega)];rw[ih.1 d (i+1) (by omega) (by omega)];rfl
   |succ e=>
    simp only[bN.l1];rw[if_pos (by omega),if_pos (by omega),if_pos (by omega),if_pos (by omega),if_pos (by omega)]
    by_cases h1:bt s i=bt t j
    ·rw[if_pos h1]
     simp[inC,h1]
    ·rw[if_neg h1,wN (by omega),ih.2.2 d e i (j+1) (by omega) (by omega) (by omega)]
     simp[inC,h1]
def ou(s t:ByteArray):Bool:=tX s t s.size 0
theorem Qr(s t:ByteArray)(hs:s.size<1000000000)(ht:t.size<100)(k:Nat)(hk:200 * s.size+1≤k):bN.f k s t=some (ou s t):=
 (plain_l s t hs (by omega) k).1 s.size 0 (by omega) (Nat.le_trans (Nat.add_le_add_right (by rw[Nat.mul_comm];exact Nat.mul_le_mul_right _ (by omega)) 1) hk)
theorem Rs(c:Int):∃b,jU.f c=some b∧b=((decide (97≤c)&&decide (c≤122))||(decide (65≤c)&&decide (c≤90))):=by
 unfold jU.f
 by_cases h1:c≥97
 ·rw[if_pos h1]
  by_cases h2:c≤122
  ·rw[if_pos h2];exact⟨_,rfl,by simp[h1,h2]⟩
  ·rw[if_neg h2,if_pos (by omega)];exact⟨_,rfl,by simp[h2];omega⟩
 ·rw[if_neg h1]
  by_cases h2:c≥65
  ·rw[if_pos h2]
   refine⟨_,rfl,?_⟩;have h3:¬97≤c:=by omega
   have h4:65≤c:=h2;simp[h3,h4]
  ·rw[if_neg h2]
   refine⟨_,rfl,?_⟩;have h3:¬97≤c:=by omega
   have h4:¬65≤c:=by omega
   simp[h3,h4]
def mh(c:Int):Bool:=(decide (97≤c)&&decide (c≤122))||(decide (65≤c)&&decide (c≤90))
theorem letter_f(c:Int):jU.f c=some (mh c):=by obtain⟨b,h1,h2⟩:=Rs c;rw[h1,h2];rfl
theorem zT(s t:ByteArray):∀d i,tX s t d i=true→s.toList≠[]
 |0,i,h=>bne_iff_ne.1 h
 |d+1,i,h=>by
  simp only[tX,Bool.and_eq_true]at h;exact zT s t d (i+1) h.2
theorem size_pos(s:ByteArray)(h:s.toList≠[]):0<s.size:=by
 rw[Lib.toList_data]at h;show 0<s.data.size;rw[←Array.length_toList];exact List.length_pos_iff.2 h
def rR(s:ByteArray):Bool:=ou s ⟨#[47,62]⟩&&mh (bt s 0)
theorem LX(s:ByteArray)(hs:s.size<1000000000)(k:Nat)(hk:200 * s.size+1≤k):jV.f k s=some (rR s):=by
 unfold jV.f rR;rw[Qr s _ hs (by decide) k hk,Option.bind_some];cases h:ou s ⟨#[47,62]⟩with
 |false=>rw[if_neg (by decide)];rfl
 |true=>
  have:=size_pos s (zT _ _ _ _ h);rw[if_pos rfl,if_pos (by omega),letter_f,Option.bind_some];rfl
end Go.Proofs.aj.W7
namespace Go.Proofs.aj.W7
open Go.RowKit Go.Proofs.ah.aD Go.Proofs.ah.bJ Go.Proofs.ah.bW
attribute [local go_sem] dB dD dR dS bZ cu dF dG
def gH.f(k:Nat)(a0:ByteArray):Option (Bool):=(bB.f k a0 (([(⟨#[97,114,101,97]⟩:ByteArray),(⟨#[98,97,115,101]⟩:ByteArray),(⟨#[98,114]⟩:ByteArray),(⟨#[99,111,108]⟩:ByteArray),(⟨#[101,109,98,101,100]⟩:ByteArray),(⟨#[104,114]⟩:ByteArray),(⟨#[105,109,103]⟩:ByteArray),(⟨#[105,110,112,117,116]⟩:ByteArray),(⟨#[108,105,110,107]⟩:ByteArray),(⟨#[109,101,116,97]⟩:ByteArray),(⟨#[112,97,114,97,109]⟩:ByteArray),(⟨#[115,111,117,114,99,101]⟩:ByteArray),(⟨#[116,114,97,99,107]⟩:ByteArray),(⟨#[119,98,114]⟩:ByteArray)] :List ByteArray))).bind fun t125=>(some t125)
theorem gH.calls(k:Nat)(a0:ByteArray)(r:Bool)(w:World)(h:gH.f k a0=some r):
 Calls Tryz.prog 31 #[.string a0] w fun e w'=>e=.returned (.bool r)∧Below w.heap.size w w':=by
 have HB:=ak.mk (Below.refl w.heap.size w);have H:((bB.f k a0 (([(⟨#[97,114,101,97]⟩:ByteArray),(⟨#[98,97,115,101]⟩:ByteArray),(⟨#[98,114]⟩:ByteArray),(⟨#[99,111,108]⟩:ByteArray),(⟨#[101,109,98,101,100]⟩:ByteArray),(⟨#[104,114]⟩:ByteArray),(⟨#[105,109,103]⟩:ByteArray),(⟨#[105,110,112,117,116]⟩:ByteArray),(⟨#[108,105,110,107]⟩:ByteArray),(⟨#[109,101,116,97]⟩:ByteArray),(⟨#[112,97,114,97,109]⟩:ByteArray),(⟨#[115,111,117,114,99,101]⟩:ByteArray),(⟨#[116,114,97,99,107]⟩:ByteArray),(⟨#[119,98,114]⟩:ByteArray)] :List ByteArray))).bind fun t125=>(some t125))=some r:=h;clear h
 obtain⟨y122,KL⟩:∃y_:List ByteArray,y_=(([(⟨#[97,114,101,97]⟩:ByteArray),(⟨#[98,97,115,101]⟩:ByteArray),(⟨#[98,114]⟩:ByteArray),(⟨#[99,111,108]⟩:ByteArray),(⟨#[101,109,98,101,100]⟩:ByteArray),(⟨#[104,114]⟩:ByteArray),(⟨#[105,109,103]⟩:ByteArray),(⟨#[105,110,112,117,116]⟩:ByteArray),(⟨#[108,105,110,107]⟩:ByteArray),(⟨#[109,101,116,97]⟩:ByteArray),(⟨#[112,97,114,97,109]⟩:ByteArray),(⟨#[115,111,117,114,99,101]⟩:ByteArray),(⟨#[116,114,97,99,107]⟩:ByteArray),(⟨#[119,98,114]⟩:ByteArray)] :List ByteArray)):=⟨_,rfl⟩
 replace H:((bB.f k a0 y122).bind fun t125=>(some t125))=some r:=by first|(rw[KL];with_reducible exact H)|(have H2_:=(Option.bind_some _ _).symm.trans H;rw[KL];with_reducible exact H2_)|(have H2_:=(Option.bind_some _ _).symm.trans H;with_reducible exact H2_)|with_reducible exact H|(rw[KL];exact H)|exact H
 have Ny122:=ak.mk KL;clear KL;replace H:=Option.bind_eq_some_iff.mp H;obtain⟨t125,A20,H⟩:=H;replace H:(some t125)=some r:=H;have A2:=ak.mk A20;clear A20;obtain rfl:=Option.some.inj H;go_enter Tryz.func31,Tryz.ntmps31
 go_wp2_with(first|((with_reducible refine cO (N:=4) rfl ?_);refine Kd.jR Kd.string _ 9 ?hg (N:=4) ?hd (xs:=([(⟨#[97,114,101,97]⟩:ByteArray),(⟨#[98,97,115,101]⟩:ByteArray),(⟨#[98,114]⟩:ByteArray),(⟨#[99,111,108]⟩:ByteArray),(⟨#[101,109,98,101,100]⟩:ByteArray),(⟨#[104,114]⟩:ByteArray),(⟨#[105,109,103]⟩:ByteArray),(⟨#[105,110,112,117,116]⟩:ByteArray),(⟨#[108,105,110,107]⟩:ByteArray),(⟨#[109,101,116,97]⟩:ByteArray),(⟨#[112,97,114,97,109]⟩:ByteArray),(⟨#[115,111,117,114,99,101]⟩:ByteArray),(⟨#[116,114,97,99,107]⟩:ByteArray),(⟨#[119,98,114]⟩:ByteArray)] :List ByteArray)) (inner:=[.string (⟨#[97,114,101,97]⟩:ByteArray),.string (⟨#[98,97,115,101]⟩:ByteArray),.string (⟨#[98,114]⟩:ByteArray),.string (⟨#[99,111,108]⟩:ByteArray),.string (⟨#[101,109,98,101,100]⟩:ByteArray),.string (⟨#[104,114]⟩:ByteArray),.string (⟨#[105,109,103]⟩:ByteArray),.string (⟨#[105,110,112,117,116]⟩:ByteArray),.string (⟨#[108,105,110,107]⟩:ByteArray),.string (⟨#[109,101,116,97]⟩:ByteArray),.string (⟨#[112,97,114,97,109]⟩:ByteArray),.string (⟨#[115,111,117,114,99,101]⟩:ByteArray),.string (⟨#[116,114,97,99,107]⟩:ByteArray),.string (⟨#[119,98,114]⟩:ByteArray)]) (ok:=fun _=>True) (okp:=fun _=>True) ?hr ?hp (fun _ hk=>hk) trivial (Below.refl _ _) (Nat.le_refl _) (by simp) ?_;(case hd=>rfl);(case hg=>rfl);(case hr=>first|(go_simp;done)|(go_simp;rfl));(case hp=>exact(bM.one (show Kd.M Kd.string _ _ _ (⟨#[97,114,101,97]⟩:ByteArray) [.string (⟨#[97,114,101,97]⟩:ByteArray)]from rfl) (bM.one (show Kd.M Kd.string _ _ _ (⟨#[98,97,115,101]⟩:ByteArray) [.string (⟨#[98,97,115,101]⟩:ByteArray)]from rfl) (bM.one (show Kd.M Kd.string _ _ _ (⟨#[98,114]⟩:ByteArray) [.string (⟨#[98,114]⟩:ByteArray)]from rfl) (bM.one (show Kd.M Kd.string _ _ _ (⟨#[99,111,108]⟩:ByteArray) [.string (⟨#[99,111,108]⟩:ByteArray)]from rfl) (bM.one (show Kd.M Kd.string _ _ _ (⟨#[101,109,98,101,100]⟩:ByteArray) [.string (⟨#[101,109,98,101,100]⟩:ByteArray)]from rfl) (bM.one (show Kd.M Kd.string _ _ _ (⟨#[104,114]⟩:ByteArray) [.string (⟨#[104,114]⟩:ByteArray)]from rfl) (bM.one (show Kd.M Kd.string _ _ _ (⟨#[105,109,103]⟩:ByteArray) [.string (⟨#[105,109,103]⟩:ByteArray)]from rfl) (bM.one (show Kd.M Kd.string _ _ _ (⟨#[105,110,112,117,116]⟩:ByteArray) [.string (⟨#[105,110,112,117,116]⟩:ByteArray)]from rfl) (bM.one (show Kd.M Kd.string _ _ _ (⟨#[108,105,110,107]⟩:ByteArray) [.string (⟨#[108,105,110,107]⟩:ByteArray)]from rfl) (bM.one (show Kd.M Kd.string _ _ _ (⟨#[109,101,116,97]⟩:ByteArray) [.string (⟨#[109,101,116,97]⟩:ByteArray)]from rfl) (bM.one (show Kd.M Kd.string _ _ _ (⟨#[112,97,114,97,109]⟩:ByteArray) [.string (⟨#[112,97,114,97,109]⟩:ByteArray)]from rfl) (bM.one (show Kd.M Kd.string _ _ _ (⟨#[115,111,117,114,99,101]⟩:ByteArray) [.string (⟨#[115,111,117,114,99,101]⟩:ByteArray)]from rfl) (bM.one (show Kd.M Kd.string _ _ _ (⟨#[116,114,97,99,107]⟩:ByteArray) [.string (⟨#[116,114,97,99,107]⟩:ByteArray)]from rfl) (bM.one (show Kd.M Kd.string _ _ _ (⟨#[119,98,114]⟩:ByteArray) [.string (⟨#[119,98,114]⟩:ByteArray)]from rfl) (bM.none _ _))))))))))))))));intro v123 w3 ho4 hb hg_ fH;clear hg_ fH;(first|rw[←Ny122.out]at ho4|(simp only[Int.reduceToNat]at ho4;rw[←Ny122.out]at ho4));have n0_:=ak.mk (Kd.eB ho4 (aR bz));have n1_:=ak.mk (aG bz hb);clear HB;have HO124:=n0_;have HB:=n1_;clear n0_ n1_;clear hb ho4;obtain⟨Ao5,co5,eo5⟩:=Kd.dI HO124.out;subst eo5)|((with_reducible refine aZ (f:=81) rfl ?_);refine dJ (some 5) rfl rfl Tryz.func81 (by kernel_rfl) rfl #[.string a0,.slice Ao5 y122.length co5] rfl q'a ?_;(with_reducible refine(bB.calls k a0 _ _ y122 t125 _ ?cZ ?dH A2.out).mono ?_);(case cZ=>exact cz (Kd.bK HO124.out).2.2);(case dH=>exact(Kd.bK HO124.out).2.1);rintro e w' ⟨rfl,⟨nd,rfl⟩⟩;refine⟨_,rfl,?_⟩))
 go_ret;exact⟨by first|rfl|(simp[aJ,aM]<;>rfl)|(simp[*,aJ,aM]<;>rfl),bz⟩
end Go.Proofs.aj.W7
namespace Go.Proofs.aj.W7
open Go.RowKit Go.Proofs Go.Proofs.YtkcmghlhpbepcaaGreatDoor
abbrev Rw:=S34
theorem Ht{w:World}{a:Addr}{v:Value}(h:w.cell? a=some v):a=⟨a.block,a.off,none⟩:=by
 obtain⟨b,o,s⟩:=a;cases s with
 |none=>rfl
 |some s=>
  unfold World.cell? at h
  split at h<;>simp at h
theorem Hu(b o n:Nat):Addr.add ⟨b,o,none⟩ n=⟨b,o+n,none⟩:=by
 unfold Addr.add
 split<;>simp_all
theorem vI{w:World}{A:Option Addr}{xs:List Rw}(h:k34.C w A xs.length xs)(i:Nat)(hi:i<xs.length):
 ∃g o A4 c4,A=some ⟨g,o,none⟩∧w.cell? ⟨g,o+i * 5,none⟩=some (.int .i64 xs[i].f0)∧w.cell? ⟨g,o+i * 5+1,none⟩=some (.int .i64 xs[i].f1)∧w.cell? ⟨g,o+i * 5+2,none⟩=some (.string xs[i].f2)∧w.cell? ⟨g,o+i * 5+3,none⟩=some (.string xs[i].f3)∧w.cell? ⟨g,o+i * 5+4,none⟩=some (.slice A4 xs[i].f4.length c4)∧xs[i].f4.length≤c4∧k36.C w A4 xs[i].f4.length xs[i].f4:=by
 obtain⟨ad0,_,_,e0,z0,_⟩:=kQ h 0 (by omega) (by omega);have hs:=Ht (a:=ad0) (by simpa [Addr.add]using z0);obtain⟨ad,A4,c4,e,c0,c1,c2,c3,c4',l4,g4⟩:=kQ h i (by omega) (by omega);obtain rfl:ad0=ad:=Option.some.inj (e0.symm.trans e);simp only[Int.toNat_natCast]at c0 c1 c2 c3 c4';rw[hs,Hu]at c0 c1 c2 c3 c4';have er:au xs i=xs[i]:=by simp[au,hi]
 rw[er]at c0 c1 c2 c3 c4' l4 g4;exact⟨ad0.block,ad0.off,A4,c4,by rw[e0,←hs],c0,c1,c2,c3,c4',l4,g4⟩
theorem big1_c(d k:Int)(n t:ByteArray)(a:Option Addr)(l c:Nat)(w:World):
 Calls Tryz.prog 130 #[.agg #[.int .i64 d,.int .i64 k,.string n,.string t,.slice a l c]] w fun e w'=>e=.returned (.bool (decide (60≤d)))∧Below w.heap.size w w':=by
 go_enter Tryz.func130,Tryz.ntmps130;go_wp2;go_ret;exact⟨rfl,(Below.refl _ w).alloc (Nat.le_refl _) _⟩
def wX(x:Rw):Bool:=decide (60≤x.f0)
theorem idx_big(xs:List Rw)(A:Option Addr)(c:Nat)(w:World)(hr:k34.C w A xs.length xs)(b:Bool)(hb:xs.any wX=b):
 Calls Tryz.prog 173 #[.slice A xs.length c,.func (.func 130) #[] #[]] w fun e w'=>∃n:Int,e=.returned (.int .i64 n)∧(decide (0≤n)=b)∧Below w.heap.size w w':=by
 have hxl:=hr.2.1;go_enter Tryz.func173,Tryz.ntmps173;go_wp2
 go_loopw [5,8] (fun _ v wr=>∃(k:Nat),v=.int .i64 k∧k≤xs.length∧Hid (∀j (h:j<xs.length),j<k→wX xs[j]=false)∧Below w.heap.size w wr) (fun _ v _=>xs.length - (intOf v).toNat)
 case atStart=>exact⟨0,rfl,by omega,fun j _ h=>by omega,Below.refl _ _⟩
 case round=>
  obtain⟨k,rfl,hk,hno,hB⟩:=hrel
  by_cases hlt:k<xs.length
  ·obtain⟨g,o,A4,c4,rfl,z0,z1,z2,z3,z4,_,_⟩:=vI (Go.Proofs.ah.aD.Kd.eF hr hB) k hlt
   have hyes:Hid (wX xs[k]=true→b=true):=fun h=>by rw[←hb,List.any_eq_true];exact⟨_,List.getElem_mem hlt,h⟩
   have oh:Hid (wX xs[k]=false→∀j (h:j<xs.length),j<k+1→wX xs[j]=false):=fun h j hj hjk=>by
    by_cases e:j=k
    ·subst e;exact h
    ·exact hno.out j hj (by omega)
   have hdef:Hid (wX xs[k]=decide (60≤xs[k].f0)):=rfl;generalize wX xs[k]=dk at *;generalize xs[k]=x at *;obtain⟨d,kd,nm,dt,at'⟩:=x;simp only at z0 z1 z2 z3 z4 hdef;have hc1:=Lib.hid (fun W=>big1_c d kd nm dt A4 at'.length c4 W);have hdef2:=hdef.out;clear hno hb
   by_cases h60:60≤d
   ·have hdk:dk=true:=by rw[hdef2];exact decide_eq_true h60
    have hbt:=hyes.out hdk;rw[decide_eq_true h60]at hc1;clear hyes oh hdef hdef2 hdk;subst hbt
    go_wp2_with(go_at_call 130;((with_reducible refine(hc1.out _).mono ?_);rintro e w1 ⟨rfl,hb1⟩;have hB1:=bD hB hB.size hb1))
    go_ret;exact⟨_,rfl,decide_eq_true (by omega),hB1⟩
   ·have hdk:dk=false:=by rw[hdef2];exact decide_eq_false h60
    have hno3:Hid _:=oh.out hdk;rw[decide_eq_false h60]at hc1;clear hyes oh hdef hdef2 hdk
    go_wp2_with(go_at_call 130;((with_reducible refine(hc1.out _).mono ?_);rintro e w1 ⟨rfl,hb1⟩;have hB1:=bD hB hB.size hb1))
    exact⟨⟨k+1,rfl,by omega,hno3,hB1⟩,by simp[intOf];omega⟩
  ·have hbf:b=false:=by
    rw[←hb,List.any_eq_false];intro x hx;obtain⟨j,hj,rfl⟩:=List.getElem_of_mem hx;rw[hno.out j hj (by omega)];simp
   subst hbf;clear hno hb;go_wp2;go_ret;exact⟨-1,rfl,by decide,hB⟩
theorem Jv(xs:List Rw)(A:Option Addr)(c:Nat)(w:World)(hr:k34.C w A xs.length xs)(b:Bool)(hb:xs.any wX=b):
 Calls Tryz.prog 129 #[.slice A xs.length c,.func (.func 130) #[] #[]] w fun e w'=>e=.returned (.bool b)∧Below w.heap.size w w':=by
 have hi:=Lib.hid (idx_big xs A c w hr b hb);clear hb;go_enter Tryz.func129,Tryz.ntmps129
 go_wp2_with(go_at_call 173;((with_reducible refine hi.out.mono ?_);rintro e w1 ⟨n,rfl,hn,hb1⟩))
 go_ret;exact⟨rfl,hb1⟩
def qw.f(l0:List Rw):Option Bool:=some (decide (4096<l0.length)||l0.any wX)
theorem qw.calls(A0:Option Addr)(c0:Nat)(l0:List Rw)(r:Bool)(w:World)(hr0:k34.C w A0 l0.length l0)(hc0:l0.length≤c0)(h:qw.f l0=some r):
 Calls Tryz.prog 84 #[.slice A0 l0.length c0] w fun e w'=>e=.returned (.bool r)∧Below w.heap.size w w':=by
 have hl:=hr0.2.1;have hi:=Lib.hid (Jv l0 A0 c0 w hr0 _ rfl);replace h:=Option.some.inj h
 by_cases h1:4096<l0.length
 ·have hI:(4096:Int)<l0.length:=by omega
  have hr:r=true:=by rw[←h,decide_eq_true h1];rfl
  subst hr;clear h hi;go_enter Tryz.func84,Tryz.ntmps84;go_wp2;go_ret;exact⟨rfl,Below.refl _ _⟩
 ·have hI:¬(4096:Int)<l0.length:=by omega
  rw[decide_eq_false h1,Bool.false_or]at h;rw[h]at hi;clear h;go_enter Tryz.func84,Tryz.ntmps84
  go_wp2_with(go_at_call 129;((with_reducible refine hi.out.mono ?_);rintro e w1 ⟨rfl,hb1⟩))
  go_ret;exact⟨rfl,hb1⟩
end Go.Proofs.aj.W7
namespace Go.Proofs.aj.W7
open Go.RowKit Go.Proofs.ah.aD Go.Proofs.ah.bJ Go.Proofs.ah.bW
attribute [local go_sem] dB dD dR dS bZ cu dF dG
def lC.f(l0:List (S34))(a1:Int):Option (Bool):=if a1≥0 then(some (decide (a1<(l0.length:Int))))else(some false)
theorem lC.calls(A0:Option Addr)(c0:Nat)(l0:List (S34))(a1:Int)(r:Bool)(w:World)(hr0:Kd.C k34 w A0 l0.length l0)(hc0:l0.length≤c0)(h:lC.f l0 a1=some r):
 Calls Tryz.prog 143 #[.slice A0 l0.length c0,.int .i64 a1] w fun e w'=>e=.returned (.bool r)∧bP w w':=by
 have HR0:=ak.mk hr0;have HC0:=ak.mk hc0;clear hr0 hc0;have H:(if a1≥0 then(some (decide (a1<(l0.length:Int))))else(some false))=some r:=h;clear h
 by_cases c3:a1≥0
 ·rw[if_pos c3]at H
  have nM:decide (0≤a1)=true:=decide_eq_true c3;clear c3;obtain rfl:=Option.some.inj H;go_enter Tryz.func143,Tryz.ntmps143;go_wp2;go_ret;exact⟨q'c,by repeat(first|exact bP.refl _|apply bP.step)⟩
 ·rw[if_neg c3]at H
  have nM:decide (0≤a1)=false:=decide_eq_false c3;clear c3;obtain rfl:=Option.some.inj H;go_enter Tryz.func143,Tryz.ntmps143;go_wp2;go_ret;exact⟨q'c,by repeat(first|exact bP.refl _|apply bP.step)⟩
def jF.l0:Nat→List (S34)→Int→Int→Option (Int)
 |0,_,_,_=>none
 |k+1,x0,x1,x5=>if x5<(x0.length:Int)then(if 0≤x5 then(if 0≤x1 then(if x1<(x0.length:Int)then(if((au x0 x5).f0)>((au x0 x1).f0)then(jF.l0 k x0 x1 (wrap64 (x5+1)))else(some x5))else(none))else(none))else(none))else(some x5)
def jF.f(k:Nat)(l0:List (S34))(a1:Int):Option (Int):=(lC.f l0 a1).bind fun t110=>(if t110=true then(jF.l0 k l0 a1 (wrap64 (a1+1)))else(some 0))
theorem jF.calls(k:Nat)(A0:Option Addr)(c0:Nat)(l0:List (S34))(a1 r:Int)(w:World)(hr0:Kd.C k34 w A0 l0.length l0)(hc0:l0.length≤c0)(h:jF.f k l0 a1=some r):
 Calls Tryz.prog 184 #[.slice A0 l0.length c0,.int .i64 a1] w fun e w'=>e=.returned (.int .i64 r)∧bP w w':=by
 have HR0:=ak.mk hr0;have HC0:=ak.mk hc0;clear hr0 hc0;have H:((lC.f l0 a1).bind fun t110=>(if t110=true then(jF.l0 k l0 a1 (wrap64 (a1+1)))else(some 0)))=some r:=h;clear h;replace H:=Option.bind_eq_some_iff.mp H;obtain⟨t110,A30,H⟩:=H;replace H:(if t110=true then(jF.l0 k l0 a1 (wrap64 (a1+1)))else(some 0))=some r:=H;have A3:=ak.mk A30;clear A30
 by_cases c4:t110=true
 ·subst c4
  have H1:(jF.l0 k l0 a1 (wrap64 (a1+1)))=some r:=by rw[if_pos rfl]at H;exact H
  clear H;have H:=H1;clear H1;have H':=ak.mk H;clear H;go_enter Tryz.func184,Tryz.ntmps184
  go_wp2_with(first|(go_at_call 143;(with_reducible refine(lC.calls _ _ l0 a1 true _ ?cZ ?dH A3.out).mono ?_);(case cZ=>repeat(first|exact HR0.out|(with_reducible refine Kd.mg ?_ _)|(with_reducible refine Kd.nk ?_ _)|(with_reducible refine Kd.pJ ?_)));(case dH=>exact HC0.out);rintro e w' ⟨rfl,⟨nd,rfl⟩⟩;(try first|exact⟨rfl,_,World.drewN_drewN _ _ _⟩|exact⟨rfl,_,Eq.trans (World.drewN_drewN _ _ _) (congrArg (World.drewN _) (Nat.add_assoc _ _ _))⟩)))
  repeat(go_quiet (first|(go_at_call 143;(with_reducible refine(lC.calls _ _ l0 a1 true _ ?cZ ?dH A3.out).mono ?_);(case cZ=>repeat(first|exact HR0.out|(with_reducible refine Kd.mg ?_ _)|(with_reducible refine Kd.nk ?_ _)|(with_reducible refine Kd.pJ ?_)));(case dH=>exact HC0.out);rintro e w' ⟨rfl,⟨nd,rfl⟩⟩;(try first|exact⟨rfl,_,World.drewN_drewN _ _ _⟩|exact⟨rfl,_,Eq.trans (World.drewN_drewN _ _ _) (congrArg (World.drewN _) (Nat.add_assoc _ _ _))⟩)));try go_wp2_with(first|(go_at_call 143;(with_reducible refine(lC.calls _ _ l0 a1 true _ ?cZ ?dH A3.out).mono ?_);(case cZ=>repeat(first|exact HR0.out|(with_reducible refine Kd.mg ?_ _)|(with_reducible refine Kd.nk ?_ _)|(with_reducible refine Kd.pJ ?_)));(case dH=>exact HC0.out);rintro e w' ⟨rfl,⟨nd,rfl⟩⟩;(try first|exact⟨rfl,_,World.drewN_drewN _ _ _⟩|exact⟨rfl,_,Eq.trans (World.drewN_drewN _ _ _) (congrArg (World.drewN _) (Nat.add_assoc _ _ _))⟩))))
  go_loopg [5] k (fun kq v5 w'=>∃(iP:Int),v5=.int .i64 iP∧ak (jF.l0 kq l0 a1 iP=some r)∧ak (kq≤k)∧bP w w')
  case atStart=>exact⟨(wrap64 (a1+1)),q'c,H',⟨Nat.le_refl _⟩,by repeat(first|exact bP.refl _|apply bP.step)⟩
  case round=>
   clear H'
   try clear c1
   try clear p2
   try clear c4
   obtain⟨iP,rfl,HA,HK1,⟨m1,rfl⟩⟩:=hrel;cases gk with
   |zero=>exact absurd HA.out (by simp[jF.l0])
   |succ k1=>
    have H:=HA.out;clear HA;simp only[jF.l0]at H
    by_cases c5:iP<(l0.length:Int)
    ·rw[if_pos c5]at H
     have uJ:decide (iP<(l0.length:Int))=true:=decide_eq_true c5;clear c5
     by_cases c6:0≤iP
     ·rw[if_pos c6]at H
      have zL:decide (0≤iP)=true:=decide_eq_true c6;clear c6
      by_cases c7:0≤a1
      ·rw[if_pos c7]at H
       have c7b0:decide (0≤a1)=true:=decide_eq_true c7;clear c7
       by_cases c8:a1<(l0.length:Int)
       ·rw[if_pos c8]at H
        have xU:decide (a1<(l0.length:Int))=true:=decide_eq_true c8;clear c8
        by_cases c9:((au l0 iP).f0)>((au l0 a1).f0)
        ·rw[if_pos c9]at H
         have c9b0:decide (((au l0 a1).f0)<((au l0 iP).f0))=true:=decide_eq_true c9;clear c9;have H':=ak.mk H;clear H;have p111:0≤(iP:Int):=q'b;have q111:iP<(l0.length:Int):=q'b;obtain⟨ad111,A111_4,c111_4,e111,hx111_0,hx111_1,hx111_2,hx111_3,hx111_4,AY,AZ⟩:=kQ HR0.out iP p111 q111;cases e111;have HR111_4:=ak.mk AZ;have HC111_4:=ak.mk AY;clear AZ AY;replace p111:=eq_true p111;replace q111:=eq_true q111;have p112:0≤(a1:Int):=q'b;have q112:a1<(l0.length:Int):=q'b;obtain⟨ad112,A112_4,c112_4,e112,hx112_0,hx112_1,hx112_2,hx112_3,hx112_4,Ba,Bb⟩:=kQ HR0.out a1 p112 q112;obtain rfl:ad111=ad112:=(by injection e112);have HR112_4:=ak.mk Bb;have HC112_4:=ak.mk Ba;clear Bb Ba;replace p112:=eq_true p112;replace q112:=eq_true q112;go_wp2
         repeat(go_quiet (fail);try go_wp2)
         go_roundg k1
         case measure=>have:=HK1.out;omega
         case rel=>exact⟨(wrap64 (iP+1)),q'c,H',⟨by have:=HK1.out;omega⟩,by repeat(first|exact bP.refl _|apply bP.step)⟩
        ·rw[if_neg c9]at H
         have c9b0:decide (((au l0 a1).f0)<((au l0 iP).f0))=false:=decide_eq_false c9;clear c9;obtain rfl:=Option.some.inj H;have p111:0≤(iP:Int):=q'b;have q111:iP<(l0.length:Int):=q'b;obtain⟨ad111,A111_4,c111_4,e111,hx111_0,hx111_1,hx111_2,hx111_3,hx111_4,AY,AZ⟩:=kQ HR0.out iP p111 q111;cases e111;have HR111_4:=ak.mk AZ;have HC111_4:=ak.mk AY;clear AZ AY;replace p111:=eq_true p111;replace q111:=eq_true q111;have p112:0≤(a1:Int):=q'b;have q112:a1<(l0.length:Int):=q'b;obtain⟨ad112,A112_4,c112_4,e112,hx112_0,hx112_1,hx112_2,hx112_3,hx112_4,Ba,Bb⟩:=kQ HR0.out a1 p112 q112;obtain rfl:ad111=ad112:=(by injection e112);have HR112_4:=ak.mk Bb;have HC112_4:=ak.mk Ba;clear Bb Ba;replace p112:=eq_true p112;replace q112:=eq_true q112;go_wp2
         repeat(go_quiet (fail);try go_wp2)
         go_ret;exact⟨q'c,by repeat(first|exact bP.refl _|apply bP.step)⟩
       ·rw[if_neg c8]at H
        exact absurd H (by simp)
      ·rw[if_neg c7]at H
       exact absurd H (by simp)
     ·rw[if_neg c6]at H
      exact absurd H (by simp)
    ·rw[if_neg c5]at H
     have uJ:decide (iP<(l0.length:Int))=false:=decide_eq_false c5;clear c5;obtain rfl:=Option.some.inj H;go_wp2
     repeat(go_quiet (fail);try go_wp2)
     go_ret;exact⟨q'c,by repeat(first|exact bP.refl _|apply bP.step)⟩
 ·replace c4:=Bool.eq_false_iff.mpr c4
  subst c4;have H1:(some 0)=some r:=by rw[if_neg (show¬(false=true) by decide)]at H;first|exact H|(simp only[eq_self]at H⊢;exact H)|(simp only[eq_self,if_true]at H⊢;exact H)
  clear H;have H:=H1;clear H1;obtain rfl:=Option.some.inj H;go_enter Tryz.func184,Tryz.ntmps184
  go_wp2_with(first|(go_at_call 143;(with_reducible refine(lC.calls _ _ l0 a1 false _ ?cZ ?dH A3.out).mono ?_);(case cZ=>repeat(first|exact HR0.out|(with_reducible refine Kd.mg ?_ _)|(with_reducible refine Kd.nk ?_ _)|(with_reducible refine Kd.pJ ?_)));(case dH=>exact HC0.out);rintro e w' ⟨rfl,⟨nd,rfl⟩⟩;(try first|exact⟨rfl,_,World.drewN_drewN _ _ _⟩|exact⟨rfl,_,Eq.trans (World.drewN_drewN _ _ _) (congrArg (World.drewN _) (Nat.add_assoc _ _ _))⟩)))
  repeat(go_quiet (first|(go_at_call 143;(with_reducible refine(lC.calls _ _ l0 a1 false _ ?cZ ?dH A3.out).mono ?_);(case cZ=>repeat(first|exact HR0.out|(with_reducible refine Kd.mg ?_ _)|(with_reducible refine Kd.nk ?_ _)|(with_reducible refine Kd.pJ ?_)));(case dH=>exact HC0.out);rintro e w' ⟨rfl,⟨nd,rfl⟩⟩;(try first|exact⟨rfl,_,World.drewN_drewN _ _ _⟩|exact⟨rfl,_,Eq.trans (World.drewN_drewN _ _ _) (congrArg (World.drewN _) (Nat.add_assoc _ _ _))⟩)));try go_wp2_with(first|(go_at_call 143;(with_reducible refine(lC.calls _ _ l0 a1 false _ ?cZ ?dH A3.out).mono ?_);(case cZ=>repeat(first|exact HR0.out|(with_reducible refine Kd.mg ?_ _)|(with_reducible refine Kd.nk ?_ _)|(with_reducible refine Kd.pJ ?_)));(case dH=>exact HC0.out);rintro e w' ⟨rfl,⟨nd,rfl⟩⟩;(try first|exact⟨rfl,_,World.drewN_drewN _ _ _⟩|exact⟨rfl,_,Eq.trans (World.drewN_drewN _ _ _) (congrArg (World.drewN _) (Nat.add_assoc _ _ _))⟩))))
  go_ret;exact⟨q'c,by repeat(first|exact bP.refl _|apply bP.step)⟩
end Go.Proofs.aj.W7
namespace Go.Proofs.aj.W7
open Go.RowKit Go.Shelf Go.Proofs Go.Proofs.YtkcmghlhpbepcaaGreatDoor
attribute [local go_sem] Oper.semAt_some
def o9(d:Int):List Rw→Nat
 | []=>0
 |y::ys=>if d<y.f0 then o9 d ys+1 else 0
theorem Lu(d:Int):∀xs:List Rw,o9 d xs≤xs.length
 | []=>Nat.le_refl _
 |y::ys=>by
  have:=Lu d ys;simp only[o9,List.length_cons]
  split<;>omega
def gq(xs:List Rw)(i:Nat):Nat:=i+1+o9 (au xs i).f0 (xs.drop (i+1))
theorem kX(xs:List Rw)(i:Nat):i<gq xs i:=by unfold gq;omega
theorem nE(xs:List Rw)(i:Nat)(h:i<xs.length):gq xs i≤xs.length:=by
 have:=Lu (au xs i).f0 (xs.drop (i+1));rw[List.length_drop]at this;unfold gq;omega
theorem wr64{x:Int}(h0: -9223372036854775808≤x)(h1:x≤9223372036854775807):wrap64 x=x:=by unfold wrap64;omega
theorem end_l0(xs:List Rw)(hl:xs.length≤9223372036854775807)(i:Nat)(hi:i<xs.length):∀(d j k:Nat),xs.length - j≤d→j≤xs.length→d<k→
 jF.l0 k xs i j=some ((j+o9 (au xs i).f0 (xs.drop j):Nat):Int):=by
 intro d
 induction d with
 |zero=>
  intro j k hd hj hk;obtain⟨k,rfl⟩:∃m,k=m+1:=⟨k - 1,by omega⟩
  simp only[jF.l0];rw[if_neg (by omega),List.drop_of_length_le (by omega)];rfl
 |succ d ih=>
  intro j k hd hj hk;obtain⟨k,rfl⟩:∃m,k=m+1:=⟨k - 1,by omega⟩
  simp only[jF.l0]
  by_cases h:j<xs.length
  ·have hdj:au xs (j:Int)=xs[j]:=by simp[au,h]
   rw[if_pos (by omega),if_pos (by omega),if_pos (by omega),if_pos (by omega),List.drop_eq_getElem_cons h,hdj];simp only[o9,gt_iff_lt]
   split
   ·rw[wr64 (by omega) (by omega),show((j:Int)+1)=((j+1:Nat):Int)from by omega,ih (j+1) k (by omega) (by omega) (by omega)]
    congr 2
    omega
   ·rfl
  ·rw[if_neg (by omega),List.drop_of_length_le (by omega)]
   rfl
theorem end_f(xs:List Rw)(hl:xs.length≤9223372036854775807)(i:Nat)(hi:i<xs.length):jF.f (xs.length+1) xs i=some ((gq xs i:Nat):Int):=by
 unfold jF.f lC.f;rw[if_pos (by omega),Option.bind_some,decide_eq_true (by omega),if_pos rfl,wr64 (by omega) (by omega),show((i:Int)+1)=((i+1:Nat):Int)from by omega,end_l0 xs hl i hi xs.length (i+1) _ (by omega) (by omega) (by omega)];rfl
def kE(xs:List Rw)(t j:Nat):List Nat:=
 if h:j<t∧j<xs.length then j::kE xs t (gq xs j)else []
termination_by xs.length - j
decreasing_by have:=kX xs j;omega
theorem pV{xs:List Rw}{t j:Nat}(h:j<t)(h2:j<xs.length):kE xs t j=j::kE xs t (gq xs j):=by rw[kE,dif_pos ⟨h,h2⟩]
theorem qA{xs:List Rw}{t j:Nat}(h:¬j<t):kE xs t j=[]:=by rw[kE,dif_neg (fun e=>h e.1)]
def jh(xs:List Rw)(i:Int):List Nat:=
 if i= -1 then kE xs xs.length 0 else if 0≤i∧i<xs.length then kE xs (gq xs i.toNat) (i.toNat+1)else []
def Aq(i:Int):Nat:=if i= -1 then 0 else i.toNat+1
def toI(xs:List Rw)(i:Int):Nat:=if i= -1 then xs.length else gq xs i.toNat
theorem rC{xs:List Rw}{i:Int}(h:i= -1∨0≤i∧i<xs.length):jh xs i=kE xs (toI xs i) (Aq i):=by
 unfold jh toI Aq
 rcases h with rfl|h
 ·rfl
 ·rw[if_neg (by omega),if_pos h,if_neg (by omega),if_neg (by omega)]
theorem Bg(w:World)(n:Nat)(row:Option Nat):w.grownBy (w.drewN n) row:=⟨rfl,rfl,rfl,Nat.le_refl _,fun _ _ _=>rfl⟩
def KpK(n₀ B:Nat)(v:Value)(W W':World):Prop:=Below n₀ W W'∧(Boxed W B 22 v→Boxed W' B 22 v)
theorem kpK_t{n₀ B:Nat}{v:Value}{X Y Z:World}(h:KpK n₀ B v X Y)(k:KpK n₀ B v Y Z):KpK n₀ B v X Z:=⟨h.1.trans k.1,fun e=>k.2 (h.2 e)⟩
theorem kpK_b{n₀ B:Nat}{v:Value}{w:World}(hn:n₀≤w.heap.size)(hB:B<w.heap.size)(W:World)(l:Nat)(o o':Obj)(hl:w.heap.size≤l)(h:W.heap[l]?=some o)(h1:o.isCells=false)(h2:o.isWalk=false):KpK n₀ B v W (W.putObj l o'):=
 ⟨belowK_b hn W l o o' hl h h1 h2,fun e=>e.kept (grownBy_putObj' W l o') (fun e'=>by cases e';omega)⟩
theorem kids1_in(n:Nat)(hn:1≤n)(l B1 B2:Nat)(A:Option Addr)(c:Nat)(xs:List Rw)(i:Int)(hi:i= -1∨0≤i∧i<xs.length)(hcap:xs.length≤c)(w0:World)(hr:k34.C w0 A xs.length xs)(J Jx:List Nat→World→Prop)
 (hY:∀pre x W,J pre W→pre.length<xs.length→YieldAt Fence.wide (n - 1) Tryz.prog l #[.int .i64 (x:Nat)] W fun e W'=>
   (e=.returned (.bool true)∧J (pre++[x]) W'∧KpK w0.heap.size B1 (.slice A xs.length c) W W')∨(e=.returned (.bool false)∧Jx (pre++[x]) W'))
 (W:World) (hJ:AbidesFrom W.heap.size J) (hW:Below w0.heap.size w0 W) (b1:Boxed W B1 22 (.slice A xs.length c)) (c2:W.cell? ⟨B2,0,none⟩=some (.int .i64 i)) (h0:J [] W):
 CallsIn Fence.wide n Tryz.prog 183 #[.func (.yield l) #[] #[],.pointer (some ⟨B1,0,none⟩),.pointer (some ⟨B2,0,none⟩)] W fun e W'=>(∃v,e=.returned v)∧
  ((∃ys,ys=jh xs i∧J ys W')∨(∃pre,pre<+:jh xs i∧Jx pre W')):=by
 have hxl:=hr.2.1;rw[rC hi];refine callsIn_of_wp Tryz.func183 rfl trivial ?_ rfl;simp only[Tryz.ntmps183,List.size_toArray,List.length_cons,List.length_nil,Nat.reduceAdd,Nat.reduceSub,Array.replicate_succ,Array.replicate_zero,List.push_toArray,List.append_toArray,List.nil_append,List.cons_append];have c1:=b1.cell;have hm1:Tryz.prog.follows .mixedOrders=true:=by kernel_rfl
 have hm2:Tryz.prog.follows .lateStores=true:=by kernel_rfl
 have hm3:Tryz.prog.follows .lateStoresUnsure=true:=by kernel_rfl
 have hE:Hid (∀(j:Nat) (hj:j<xs.length) (W':World),Below w0.heap.size w0 W'→CallsIn Fence.wide (n - 1) Tryz.prog 184 #[.slice A xs.length c,.int .i64 j] W' fun e w'=>e=.returned (.int .i64 (gq xs j:Nat))∧∃m,w'=W'.drewN m):=fun j hj W' hW'=>
  callsIn_wide.2 ((jF.calls (xs.length+1) A c xs j _ W' (Go.Proofs.ah.aD.Kd.eF hr hW') hcap (end_f xs hxl j hj)).mono (fun e w' h=>⟨h.1,h.2.out⟩))
 replace hE:∀(j:Nat) (hj:j<xs.length),Hid _:=fun j hj=>Lib.hid (hE.out j hj)
 have hfn:Fence.wide.fn 184:=trivial
 rcases hi with rfl|hi
 ·rw[show toI xs (-1)=xs.length from rfl,show Aq (-1)=0 from rfl]
  have hdr:=hJ _ _ _ none h0 (Bg W 1 none) (fun r e=>by cases e)
  gi_wp2
  gi_region_o
  all_goals gi_wp2
  gi_loopw [6] (fun v wr=>∃(j:Nat) (pre:List Nat),v=.int .i64 j∧j≤xs.length∧Hid (pre++kE xs xs.length j=kE xs xs.length 0)∧pre.length≤j∧J pre wr∧Below w0.heap.size w0 wr∧Boxed wr B1 22 (.slice A xs.length c)) (fun v _=>xs.length - (intOf v).toNat)
  case atStart=>exact⟨0,[],rfl,Nat.zero_le _,rfl,Nat.zero_le _,hdr,Go.Proofs.ah.aD.bE hW 1,b1⟩
  case round=>
   obtain⟨j,pre,rfl,hj,hpre,hpl,hJs,hB,hbx⟩:=hrel;have hT:=Lib.hid (Nat.le_refl xs.length)
   by_cases hlt:j<xs.length
   ·have hjx:j<xs.length:=by have:=hT.out;omega
    obtain⟨fn,tmps,assign,body,hy,hR⟩:=hY pre j wr hJs (by omega);have hstep:=Lib.hid (pV hlt hjx);have hgt:=Lib.hid (kX xs j);have hle:=Lib.hid (nE xs j hjx);have hE2:=hE j hjx
    gi_wp2
    refine hR.mono ?_;rintro e W3 (⟨rfl,hJ3,hk3⟩|⟨rfl,hJx3⟩)
    ·have hb3:=hk3.2 hbx
     have hc3:=hb3.cell;have hB3:=hB.trans hk3.1;generalize gq xs j=q at *
     gi_wp2_with (gi_at_call 184;refine(hE2.out _ hB3).mono ?_;rintro e w1 ⟨rfl,m1,rfl⟩)
     go_roundw
     case rel=>exact⟨q,pre++[j],rfl,hle.out,Lib.hid (by rw[←hpre.out,hstep.out];simp),by have:=hgt.out;simp;omega,hJ _ _ _ none hJ3 (Bg _ _ none) (fun r e=>by cases e),Go.Proofs.ah.aD.bE hB3 m1,hb3⟩
     case measure=>have:=hgt.out;simp[intOf];omega
    ·gi_wp2
     refine bodyPost_ret (results_none rfl _ _ _) rfl ?_;exact⟨⟨_,rfl⟩,.inr ⟨_,⟨kE xs xs.length (gq xs j),by rw[←hpre.out,hstep.out];simp⟩,hJx3⟩⟩
   ·have hres:=qA (xs:=xs) hlt
    have hp2:=hpre.out;rw[hres,List.append_nil]at hp2
    gi_wp2
    go_end0;exact⟨⟨_,rfl⟩,.inl ⟨_,hp2,hJs⟩⟩
 ·obtain⟨m,rfl⟩:∃m:Nat,i=m:=⟨i.toNat,by omega⟩
  have hm:m<xs.length:=by omega
  have hne:((m:Int) != -1)=true:=by rw[bne_iff_ne];omega
  have hto:toI xs (m:Int)=gq xs m:=by unfold toI;rw[if_neg (by omega)];rfl
  have hfrom:Aq (m:Int)=m+1:=by unfold Aq;rw[if_neg (by omega)];rfl
  rw[hto,hfrom];have hEm:=hE m hm;have hEn:=Lib.hid (nE xs m hm);clear hto hfrom hi;generalize gq xs m=T at *
  gi_wp2
  gi_region_o
  all_goals gi_wp2
  gi_region_with_o (gi_at_call 184;refine(hEm.out _ ?_).mono ?_;exact⟨hW.os,hW.tape,hW.output,hW.size,hW.block⟩;rintro e w1 ⟨rfl,m1,rfl⟩)
  all_goals gi_wp2
  all_goals(
   gi_loopw [6] (fun v wr=>∃(j:Nat) (pre:List Nat),v=.int .i64 j∧j≤xs.length∧Hid (pre++kE xs T j=kE xs T (m+1))∧pre.length≤j∧J pre wr∧Below w0.heap.size w0 wr∧Boxed wr B1 22 (.slice A xs.length c)) (fun v _=>xs.length - (intOf v).toNat)
   case atStart=>exact⟨m+1,[],rfl,by omega,rfl,Nat.zero_le _,hJ _ _ _ none h0 (Bg W _ none) (fun r e=>by cases e),Go.Proofs.ah.aD.bE hW _,b1⟩
   case round=>
    obtain⟨j,pre,rfl,hj,hpre,hpl,hJs,hB,hbx⟩:=hrel;have hT:=hEn
    by_cases hlt:j<T
    ·have hjx:j<xs.length:=by have:=hT.out;omega
     obtain⟨fn,tmps,assign,body,hy,hR⟩:=hY pre j wr hJs (by omega);have hstep:=Lib.hid (pV hlt hjx);have hgt:=Lib.hid (kX xs j);have hle:=Lib.hid (nE xs j hjx);have hE2:=hE j hjx
     gi_wp2
     refine hR.mono ?_;rintro e W3 (⟨rfl,hJ3,hk3⟩|⟨rfl,hJx3⟩)
     ·have hb3:=hk3.2 hbx
      have hc3:=hb3.cell;have hB3:=hB.trans hk3.1;generalize gq xs j=q at *
      gi_wp2_with (gi_at_call 184;refine(hE2.out _ hB3).mono ?_;rintro e w1 ⟨rfl,m1,rfl⟩)
      go_roundw
      case rel=>exact⟨q,pre++[j],rfl,hle.out,Lib.hid (by rw[←hpre.out,hstep.out];simp),by have:=hgt.out;simp;omega,hJ _ _ _ none hJ3 (Bg _ _ none) (fun r e=>by cases e),Go.Proofs.ah.aD.bE hB3 m1,hb3⟩
      case measure=>have:=hgt.out;simp[intOf];omega
     ·gi_wp2
      refine bodyPost_ret (results_none rfl _ _ _) rfl ?_;exact⟨⟨_,rfl⟩,.inr ⟨_,⟨kE xs T (gq xs j),by rw[←hpre.out,hstep.out];simp⟩,hJx3⟩⟩
    ·have hres:=qA (xs:=xs) hlt
     have hp2:=hpre.out;rw[hres,List.append_nil]at hp2
     gi_wp2
     go_end0;exact⟨⟨_,rfl⟩,.inl ⟨_,hp2,hJs⟩⟩)
end Go.Proofs.aj.W7
