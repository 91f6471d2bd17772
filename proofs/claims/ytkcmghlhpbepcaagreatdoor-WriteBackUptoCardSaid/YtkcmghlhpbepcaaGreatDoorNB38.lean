/- Lemmas and walks, part 38. -/
import Derived.Test.YtkcmghlhpbepcaaGreatDoorNB37
set_option linter.unusedVariables false
set_option linter.unusedSimpArgs false
set_option maxHeartbeats 8000000
set_option maxRecDepth 100000
namespace Go.Proofs.aj.W7
open Go.RowKit Go.Proofs Go.Proofs.aj Go.Proofs.YtkcmghlhpbepcaaGreatDoor Go.Proofs.ah.aD
def dM(c:Int):Bool:=decide (c=32)||decide (c=9)||decide (c=10)||decide (c=12)||decide (c=13)
theorem space_fq(c:Int):iq.f c=some (dM c):=by
 unfold iq.f dM
 by_cases h1:c=32
 ·rw[if_pos h1];simp[h1]
 rw[if_neg h1]
 by_cases h2:c=9
 ·rw[if_pos h2];simp[h2]
 rw[if_neg h2]
 by_cases h3:c=10
 ·rw[if_pos h3];simp[h3]
 rw[if_neg h3]
 by_cases h4:c=12
 ·rw[if_pos h4];simp[h4]
 rw[if_neg h4]
 congr 1
 by_cases h5:c=13
 ·simp[h5]
 ·simp[h1,h2,h3,h4,h5]
def badC(c:Int):Bool:=dM c||(decide (65≤c)&&decide (c≤90))||decide (c=0)
def inC(t:Bt)(c:Int):Nat→Nat→Bool
 |0,_=>false
 |d+1,j=>decide (c=bt t j)||inC t c d (j+1)
def okC(t:Bt)(c:Int):Bool:=!badC c&& !inC t c t.size 0
def tX(s t:Bt):Nat→Nat→Bool
 |0,_=>s.toList !=[]
 |d+1,i=>okC t (bt s i)&&tX s t d (i+1)
theorem plain_l(s t:Bt)(hs:s.size<1000000000)(ht:t.size<1000000000):∀k:Nat,
 (∀d i:Nat,i+d=s.size→d * (t.size+4)+1≤k→bN.l0 k s t (s.size:Int) i=some (tX s t d i))∧
 (∀(d i:Nat) (b:Bool),i+d+1=s.size→t.size+3+d * (t.size+4)≤k→bN.j1 k s t i (s.size:Int) i b=some (!b&& !inC t (bt s i) t.size 0&&tX s t d (i+1)))∧
 (∀d e i j:Nat,i+d+1=s.size→j+e=t.size→e+2+d * (t.size+4)≤k→bN.l1 k s t i (s.size:Int) i (t.size:Int) j=some (!inC t (bt s i) e j&&tX s t d (i+1))):=by
 intro k
 induction k with
 |zero=>exact⟨fun d i _ h=>by omega,fun d i b _ h=>by omega,fun d e i j _ _ h=>by omega⟩
 |succ k ih=>
  refine⟨?_,?_,?_⟩
  ·intro d i hd hk
   cases d with
   |zero=>
    simp only[bN.l0];rw[if_neg (by omega)];rfl
   |succ d=>
    have h1:(d+1) * (t.size+4)=d * (t.size+4)+t.size+4:=by rw[Nat.succ_mul];omega
    simp only[bN.l0];rw[if_pos (by omega),if_pos (by omega),if_pos (by omega),space_fq,Option.bind_some]
    have hj:∀b,b=badC (bt s i)→bN.j1 k s t i (s.size:Int) i b=some (tX s t (d+1) i):=by
     intro b hb;rw[ih.2.1 d i b (by omega) (by omega),hb];rfl
    unfold badC at hj
    by_cases h2:dM (bt s i)=true
    ·rw[if_pos h2]
     exact hj true (by rw[h2];rfl)
    ·rw[if_neg h2]
     rw[Bool.not_eq_true]at h2;rw[h2]at hj
     by_cases h3:bt s i≥65
     ·rw[if_pos h3]
      by_cases h4:bt s i≤90
      ·rw[if_pos h4]
       exact hj true (by simp[h4];omega)
      ·rw[if_neg h4]
       exact hj _ (by simp[h4];rfl)
     ·rw[if_neg h3]
      have h5:¬65≤bt s i:=by omega
      exact hj _ (by simp[h5];rfl)
  ·intro d i b hd hk
   simp only[bN.j1];cases b with
   |true=>rw[if_pos rfl];rfl
   |false=>
    rw[if_neg (by decide)];exact ih.2.2 d t.size i 0 (by omega) (by omega) (by omega)
  ·intro d e i j hd he hk
   cases e with
   |zero=>
    simp only[bN.l1];rw[if_neg (by omega),wN (by omega)];rw[ih.1 d (i+1) (by omega) (by omega)];rfl
   |succ e=>
    simp only[bN.l1];rw[if_pos (by omega),if_pos (by omega),if_pos (by omega),if_pos (by omega),if_pos (by omega)]
    by_cases h1:bt s i=bt t j
    ·rw[if_pos h1]
     simp[inC,h1]
    ·rw[if_neg h1,wN (by omega),ih.2.2 d e i (j+1) (by omega) (by omega) (by omega)]
     simp[inC,h1]
def ou(s t:Bt):Bool:=tX s t s.size 0
theorem Qr(s t:Bt)(hs:s.size<1000000000)(ht:t.size<100)(k:Nat)(hk:200 * s.size+1≤k):bN.f k s t=some (ou s t):=
 (plain_l s t hs (by omega) k).1 s.size 0 (by omega) (Nat.le_trans (Nat.add_le_add_right (by rw[Nat.mul_comm];exact Nat.mul_le_mul_right _ (by omega)) 1) hk)
theorem Rs(c:Int):∃b,jU.f c=some b∧b=((decide (97≤c)&&decide (c≤122))||(decide (65≤c)&&decide (c≤90))):=by
 unfold jU.f
 by_cases h1:c≥97
 ·rw[if_pos h1]
  by_cases h2:c≤122
  ·rw[if_pos h2];exact⟨_,rfl,by simp[h1,h2]⟩
  ·rw[if_neg h2,if_pos (by omega)];exact⟨_,rfl,by simp[h2];omega⟩
 ·rw[if_neg h1]
  by_cases h2:c≥65
  ·rw[if_pos h2]
   refine⟨_,rfl,?_⟩;have h3:¬97≤c:=by omega
   have h4:65≤c:=h2;simp[h3,h4]
  ·rw[if_neg h2]
   refine⟨_,rfl,?_⟩;have h3:¬97≤c:=by omega
   have h4:¬65≤c:=by omega
   simp[h3,h4]
def mh(c:Int):Bool:=(decide (97≤c)&&decide (c≤122))||(decide (65≤c)&&decide (c≤90))
theorem letter_f(c:Int):jU.f c=some (mh c):=by obtain⟨b,h1,h2⟩:=Rs c;rw[h1,h2];rfl
theorem zT(s t:Bt):∀d i,tX s t d i=true→s.toList≠[]
 |0,i,h=>bne_iff_ne.1 h
 |d+1,i,h=>by
  simp only[tX,Bool.and_eq_true]at h;exact zT s t d (i+1) h.2
theorem size_pos(s:Bt)(h:s.toList≠[]):0<s.size:=by
 rw[Lib.toList_data]at h;show 0<s.data.size;rw[←Array.length_toList];exact List.length_pos_iff.2 h
def rR(s:Bt):Bool:=ou s ⟨#[47,62]⟩&&mh (bt s 0)
theorem LZ(s:Bt)(hs:s.size<1000000000)(k:Nat)(hk:200 * s.size+1≤k):jV.f k s=some (rR s):=by
 unfold jV.f rR;rw[Qr s _ hs (by decide) k hk,Option.bind_some];cases h:ou s ⟨#[47,62]⟩with
 |false=>rw[if_neg (by decide)];rfl
 |true=>
  have:=size_pos s (zT _ _ _ _ h);rw[if_pos rfl,if_pos (by omega),letter_f,Option.bind_some];rfl
end Go.Proofs.aj.W7
namespace Go.Proofs.aj.W7
open Go.RowKit Go.Proofs.ah.aD Go.Proofs.ah.bJ Go.Proofs.ah.bW
attribute [local go_sem] dB dD dR dS bZ cu dF dG
def lG.f(k:Nat)(a0:Bt):Option (Bool):=(bN.f k a0 (⟨#[47,62,34,39,60,61]⟩:Bt)).bind fun t608=>(some t608)
theorem lG.calls(k:Nat)(a0:Bt)(r:Bool)(w:World)(h:lG.f k a0=some r):
 Calls Tryz.prog 95 #[.string a0] w fun e w'=>e=.returned (.bool r)∧bP w w':=by
 have H:((bN.f k a0 (⟨#[47,62,34,39,60,61]⟩:Bt)).bind fun t608=>(some t608))=some r:=h;clear h;replace H:=Option.bind_eq_some_iff.mp H;obtain⟨t608,A20,H⟩:=H;replace H:(some t608)=some r:=H;have A2:=ak.mk A20;clear A20;obtain rfl:=Option.some.inj H;go_enter Tryz.func95,Tryz.ntmps95
 go_wp2_with(first|((with_reducible refine aZ (f:=79) rfl ?_);refine dJ (some 4) rfl rfl Tryz.func79 (by kernel_rfl) rfl #[.string a0,.string (⟨#[47,62,34,39,60,61]⟩:Bt)] rfl q'a ?_;(with_reducible refine(bN.calls k a0 (⟨#[47,62,34,39,60,61]⟩:Bt) t608 _ A2.out).mono ?_);rintro e w' ⟨rfl,⟨nd,rfl⟩⟩;refine⟨_,rfl,?_⟩))
 go_ret;exact⟨q'c,by repeat(first|exact bP.refl _|apply bP.step)⟩
def kP.f(k:Nat)(a0:Bt):Option (Bool):=(bB.f k a0 (([(⟨#[116,101,120,116,97,114,101,97]⟩:Bt),(⟨#[116,105,116,108,101]⟩:Bt)] :List Bt))).bind fun t376=>(some t376)
theorem kP.calls(k:Nat)(a0:Bt)(r:Bool)(w:World)(h:kP.f k a0=some r):
 Calls Tryz.prog 33 #[.string a0] w fun e w'=>e=.returned (.bool r)∧Below w.heap.size w w':=by
 have HB:=ak.mk (Below.refl w.heap.size w);have H:((bB.f k a0 (([(⟨#[116,101,120,116,97,114,101,97]⟩:Bt),(⟨#[116,105,116,108,101]⟩:Bt)] :List Bt))).bind fun t376=>(some t376))=some r:=h;clear h;obtain⟨y373,Lc⟩:∃y_:List Bt,y_=(([(⟨#[116,101,120,116,97,114,101,97]⟩:Bt),(⟨#[116,105,116,108,101]⟩:Bt)] :List Bt)):=⟨_,rfl⟩
 replace H:((bB.f k a0 y373).bind fun t376=>(some t376))=some r:=by first|(rw[Lc];with_reducible exact H)|(have H2_:=(Option.bind_some _ _).symm.trans H;rw[Lc];with_reducible exact H2_)|(have H2_:=(Option.bind_some _ _).symm.trans H;with_reducible exact H2_)|with_reducible exact H|(rw[Lc];exact H)|exact H
 have Ny373:=ak.mk Lc;clear Lc;replace H:=Option.bind_eq_some_iff.mp H;obtain⟨t376,A20,H⟩:=H;replace H:(some t376)=some r:=H;have A2:=ak.mk A20;clear A20;obtain rfl:=Option.some.inj H;go_enter Tryz.func33,Tryz.ntmps33
 go_wp2_with(first|((with_reducible refine cO (N:=4) rfl ?_);refine Kd.jR Kd.string _ 9 ?hg (N:=4) ?hd (xs:=([(⟨#[116,101,120,116,97,114,101,97]⟩:Bt),(⟨#[116,105,116,108,101]⟩:Bt)] :List Bt)) (inner:=[.string (⟨#[116,101,120,116,97,114,101,97]⟩:Bt),.string (⟨#[116,105,116,108,101]⟩:Bt)]) (ok:=fun _=>True) (okp:=fun _=>True) ?hr ?hp (fun _ hk=>hk) trivial (Below.refl _ _) (Nat.le_refl _) (by simp) ?_;(case hd=>rfl);(case hg=>rfl);(case hr=>first|(go_simp;done)|(go_simp;rfl));(case hp=>exact(bM.one (show Kd.M Kd.string _ _ _ (⟨#[116,101,120,116,97,114,101,97]⟩:Bt) [.string (⟨#[116,101,120,116,97,114,101,97]⟩:Bt)]from rfl) (bM.one (show Kd.M Kd.string _ _ _ (⟨#[116,105,116,108,101]⟩:Bt) [.string (⟨#[116,105,116,108,101]⟩:Bt)]from rfl) (bM.none _ _))));intro v374 w3 ho4 hb hg_ fJ;clear hg_ fJ;(first|rw[←Ny373.out]at ho4|(simp only[Int.reduceToNat]at ho4;rw[←Ny373.out]at ho4));have HO375:=ak.mk (Kd.eB ho4 (aR bz));replace HB:=ak.mk (aG bz hb);clear hb ho4;obtain⟨Ao5,co5,eo5⟩:=Kd.dI HO375.out;subst eo5)|((with_reducible refine aZ (f:=81) rfl ?_);refine dJ (some 5) rfl rfl Tryz.func81 (by kernel_rfl) rfl #[.string a0,.slice Ao5 y373.length co5] rfl q'a ?_;(with_reducible refine(bB.calls k a0 _ _ y373 t376 _ ?cZ ?dH A2.out).mono ?_);(case cZ=>exact cz (Kd.bK HO375.out).2.2);(case dH=>exact(Kd.bK HO375.out).2.1);rintro e w' ⟨rfl,⟨nd,rfl⟩⟩;refine⟨_,rfl,?_⟩))
 go_ret;exact⟨by first|rfl|(simp[aJ,aM]<;>rfl)|(simp[*,aJ,aM]<;>rfl),bz⟩
end Go.Proofs.aj.W7
namespace Go.Proofs.aj.W7
open Go.RowKit Go.Proofs Go.Proofs.aj Go.Proofs.YtkcmghlhpbepcaaGreatDoor Go.Proofs.ah.aD
def wY(s:Bt):Bool:=ou s ⟨#[47,62,34,39,60,61]⟩
theorem Qy(s:Bt)(hs:s.size<1000000000)(k:Nat)(hk:200 * s.size+1≤k):lG.f k s=some (wY s):=by
 unfold lG.f;rw[Qr s _ hs (by decide) k hk,Option.bind_some];rfl
def gones:List Bt:=[(⟨#[98,111,100,121]⟩:Bt),(⟨#[102,114,97,109,101,115,101,116]⟩:Bt),(⟨#[104,101,97,100]⟩:Bt),(⟨#[104,116,109,108]⟩:Bt)]
theorem gone_f(s:Bt)(k:Nat)(hk:20≤k):gT.f k s=some (nP gones s):=by
 unfold gT.f;rw[oV _ _ _ (by simp) (by simp;omega)];rfl
theorem kR{α:Type}{p:Prop} [Decidable p]{f g:Nat→Option α}{n:Nat}(hf:∃b,∀k,n≤k→f k=some b)(hg:∃b,∀k,n≤k→g k=some b):∃b,∀k,n≤k→(if p then f k else g k)=some b:=by
 by_cases h:p
 ·simp only[if_pos h];exact hf
 ·simp only[if_neg h];exact hg
theorem jB{α β:Type}{f:Nat→Option α}{g:α→Nat→Option β}{n:Nat}(hf:∃b,∀k,n≤k→f k=some b)(hg:∀b,∃r,∀k,n≤k→g b k=some r):∃b,∀k,n≤k→((f k).bind fun b=>g b k)=some b:=by
 obtain⟨b,hb⟩:=hf;obtain⟨r,hr⟩:=hg b;exact⟨r,fun k hk=>by rw[hb k hk,Option.bind_some,hr k hk]⟩
theorem iQ{α:Type}(a:α)(n:Nat):∃b,∀k:Nat,n≤k→(some a:Option α)=some b:=⟨a,fun _ _=>rfl⟩
theorem G5{α:Type}{f:Nat→Option α}{n m:Nat}(h:n≤m)(hf:∃b,∀k,n≤k→f k=some b):∃b,∀k,m≤k→f k=some b:=by
 obtain⟨b,hb⟩:=hf;exact⟨b,fun k hk=>hb k (Nat.le_trans h hk)⟩
theorem yA(s:Bt)(l:List Bt)(n:Nat)(hl:l.length<100)(hn:100≤n):∃b,∀k,n≤k→bB.f k s l=some b:=
 ⟨_,fun k hk=>oV _ _ _ (by omega) (by omega)⟩
theorem Qz(s:Bt):∃b,∀k,100≤k→kP.f k s=some b:=by
 unfold kP.f;exact jB (yA _ _ _ (by decide) (by omega)) fun b=>iQ _ _
theorem Mr(s:Bt):∃b,∀k,100≤k→dQ.f k s=some b:=by
 unfold dQ.f;exact jB (yA _ _ _ (by decide) (by omega)) fun b=>iQ _ _
theorem block_ev(s:Bt):∃b,∀k,100≤k→fK.f k s=some b:=by
 unfold fK.f;exact jB (yA _ _ _ (by decide) (by omega)) fun b=>iQ _ _
theorem FL(s:Bt):∃b,∀k,100≤k→cB.f k s=some b:=by
 unfold cB.f;exact kR (iQ _ _) (jB (yA _ _ _ (by decide) (by omega)) fun b=>kR (iQ _ _) (jB (yA _ _ _ (by decide) (by omega)) fun b=>kR (iQ _ _) (jB (G5 (by omega) (Mr s)) fun b=>kR (iQ _ _) (iQ _ _))))
theorem FM(s t:Bt)(b:Bool):∃r,∀k,101≤k→bH.j0 k s t b=some r:=by
 have h:∃r,∀k,100≤k→bH.j0 (k+1) s t b=some r:=by
  simp only[bH.j0];refine kR (iQ _ _) (kR (iQ _ _) (kR (iQ _ _) (kR (iQ _ _) (kR (iQ _ _) (kR (iQ _ _) (kR (iQ _ _) ?_))))));exact jB (G5 (by omega) (Mr s)) fun b=>kR (iQ _ _) (jB (G5 (by omega) (block_ev s)) fun b=>kR (iQ _ _) (iQ _ _))
 obtain⟨r,hr⟩:=h;exact⟨r,fun k hk=>by obtain⟨k,rfl⟩:∃m,k=m+1:=⟨k - 1,by omega⟩;exact hr k (by omega)⟩
theorem G6(s:Bt):∃b,∀k,101≤k→bH.f k s=some b:=by
 unfold bH.f;exact kR (FM _ _ _) (FM _ _ _)
theorem G7(s:Bt)(l:List Bt):∃b,∀k,101≤k→gG.f k s l=some b:=by
 unfold gG.f
 have h1:∃b,∀k:Nat,101≤k→eX.f s=some b:=by
  unfold eX.f;exact kR (iQ _ _) (kR (iQ _ _) (iQ _ _))
 have h2:∀a b:List Bt,∃r,∀k:Nat,101≤k→dP.f l a b=some r:=fun a b=>iQ _ _
 exact jB h1 fun b=>kR (jB (G5 (by omega) (FL _)) fun w=>jB (h2 _ _) fun r=>kR (iQ _ _) (jB (G6 s) fun c=>jB (G5 (by omega) (FL s)) fun w=>jB (h2 _ _) fun r=>iQ _ _)) (jB (G6 s) fun c=>jB (G5 (by omega) (FL s)) fun w=>jB (h2 _ _) fun r=>iQ _ _)
noncomputable def nestedB(s:Bt)(l:List Bt):Bool:=(G7 s l).choose
theorem nested_f(s:Bt)(l:List Bt)(k:Nat)(hk:101≤k):gG.f k s l=some (nestedB s l):=(G7 s l).choose_spec k hk
noncomputable def softV(s:Bt):Bool:=(Qz s).choose
theorem soft_f(s:Bt)(k:Nat)(hk:100≤k):kP.f k s=some (softV s):=(Qz s).choose_spec k hk
end Go.Proofs.aj.W7
namespace Go.Proofs.aj.W7
open Go.RowKit Go.Proofs Go.Proofs.YtkcmghlhpbepcaaGreatDoor
def lq.f(a0:Bt):Option Bool:=if a0.size≤9223372036854775807 then some (Lib.validD a0.data.toList)else none
theorem lq.calls(a0:Bt)(r:Bool)(w:World)(h:lq.f a0=some r)(hS_:Er w):
 Calls Tryz.prog 91 #[.string a0] w fun e w'=>e=.returned (.bool r)∧Below w.heap.size w w':=by
 unfold lq.f at h
 split at h
 ·rename_i hz
  have hv:=Lib.hid (valid_c a0 w hz hS_.tabs);rw[Option.some.inj h]at hv;clear h;go_enter Tryz.func91,Tryz.ntmps91
  go_wp2_with(go_at_call 139;((with_reducible refine hv.out.mono ?_);rintro e w1 ⟨rfl,hb⟩))
  go_ret;exact⟨rfl,hb⟩
 ·cases h
def strings_Contains.f(a0 a1:Bt):Option Bool:=if a0.size<4294967281 then some (Lib.contains a0.data.toList a1.data.toList)else none
theorem strings_Contains.calls(a0 a1:Bt)(r:Bool)(w:World)(h:strings_Contains.f a0 a1=some r)(hS_:Er w):
 Calls Tryz.prog 93 #[.string a0,.string a1] w fun e w'=>e=.returned (.bool r)∧Below w.heap.size w w':=by
 unfold strings_Contains.f at h
 split at h
 ·rename_i hz
  obtain rfl:=Option.some.inj h;obtain⟨m,hm⟩:=hS_.maxLen;exact(Tryz.strings_Contains a0 a1 m w hz hm).mono (fun e w' h=>⟨h.1,by rw[h.2];exact Below.refl _ _⟩)
 ·cases h
def strings_HasPrefix.f(a0 a1:Bt):Option Bool:=some (Lib.hasPrefix a0.data.toList a1.data.toList)
theorem strings_HasPrefix.calls(a0 a1:Bt)(r:Bool)(w:World)(h:strings_HasPrefix.f a0 a1=some r):
 Calls Tryz.prog 94 #[.string a0,.string a1] w fun e w'=>e=.returned (.bool r)∧Below w.heap.size w w':=by
 obtain rfl:=Option.some.inj h;exact(Tryz.strings_HasPrefix a0 a1 w).mono (fun e w' h=>⟨h.1,by rw[h.2];exact Below.refl _ _⟩)
def strings_HasSuffix.f(a0 a1:Bt):Option Bool:=if a0.size≤9223372036854775807 then some (Lib.hasSuffix a0.data.toList a1.data.toList)else none
theorem strings_HasSuffix.calls(a0 a1:Bt)(r:Bool)(w:World)(h:strings_HasSuffix.f a0 a1=some r):
 Calls Tryz.prog 97 #[.string a0,.string a1] w fun e w'=>e=.returned (.bool r)∧Below w.heap.size w w':=by
 unfold strings_HasSuffix.f at h
 split at h
 ·rename_i hz
  obtain rfl:=Option.some.inj h;exact(Tryz.strings_HasSuffix a0 a1 w hz).mono (fun e w' h=>⟨h.1,by rw[h.2];exact Below.refl _ _⟩)
 ·cases h
end Go.Proofs.aj.W7
