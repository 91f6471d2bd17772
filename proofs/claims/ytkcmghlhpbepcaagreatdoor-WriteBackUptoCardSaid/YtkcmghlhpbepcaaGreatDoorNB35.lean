/- Lemmas and walks, part 35. -/
import Derived.Test.YtkcmghlhpbepcaaGreatDoorNB34
import Derived.Test.YtkcmghlhpbepcaaGreatDoorNB29
set_option linter.unusedVariables false
set_option linter.unusedSimpArgs false
set_option maxHeartbeats 8000000
set_option maxRecDepth 100000
namespace Go.Proofs.aj.W7
open Go.RowKit Go.Proofs Go.Proofs.YtkcmghlhpbepcaaGreatDoor Go.Proofs.YtkcmghlhpbepcaaGreatDoor.Ch
def mK.f(a0:ByteArray):Option ByteArray:=if a0.data.toList.length≤100000000 then some ⟨(BK a0.data.toList).toArray⟩else none
theorem mK.calls(a0 r:ByteArray)(w:World)(h:mK.f a0=some r)(hS_:Std w):
 Calls Tryz.prog 73 #[.string a0] w fun e w'=>e=.returned (.string r)∧Below w.heap.size w w':=by
 unfold mK.f at h
 split at h
 ·rename_i hz
  obtain rfl:=Option.some.inj h;have:=ready_c a0.data.toList hz w hS_;have he:(⟨a0.data.toList.toArray⟩:ByteArray)=a0:=by cases a0;simp
  rw[he]at this;exact this
 ·cases h
end Go.Proofs.aj.W7
namespace Go.Proofs.aj.W7
open Go.RowKit Go.Proofs.ah.aD Go.Proofs.ah.bJ Go.Proofs.ah.bW
attribute [local go_sem] dB dD dR dS bZ cu dF dG
def qm.f(a0 a1:ByteArray):Option ((List (S34))×Int):=if(a0.size:Int)>65536 then(some (([] :List (S34)),2))else((mK.f a0).bind fun t314=>((qj.f t314 a1).bind fun t315=>((j5.f t315).bind fun xV=>(some (xV.1,xV.2)))))
theorem qm.calls(a0 a1:ByteArray)(r1:List (S34))(r2:Int)(w:World)(h:qm.f a0 a1=some (r1,r2))(hS_:Go.Proofs.YtkcmghlhpbepcaaGreatDoor.Std w):
 Calls Tryz.prog 24 #[.string a0,.string a1] w fun e w'=>∃v0_:Value,e=.returned (.tuple #[v0_,.int .i64 r2])∧Kd.R k34 34 w' w.heap.size (fun _=>True) v0_ r1∧Below w.heap.size w w':=by
 have HS_:=ak.mk hS_;clear hS_;have HB:=ak.mk (Below.refl w.heap.size w);have H:(if(a0.size:Int)>65536 then(some (([] :List (S34)),2))else((mK.f a0).bind fun t314=>((qj.f t314 a1).bind fun t315=>((j5.f t315).bind fun xV=>(some (xV.1,xV.2))))))=some (r1,r2):=h;clear h
 by_cases c3:(a0.size:Int)>65536
 ·rw[if_pos c3]at H
  have nM:decide (65536<(a0.size:Int))=true:=decide_eq_true c3;have zJ:decide (65536<a0.size)=true:=decide_eq_true (by omega);clear c3;simp only[Option.some.injEq,Prod.mk.injEq]at H;obtain⟨rfl,rfl⟩:=H;go_enter Tryz.func24,Tryz.ntmps24;go_wp2
  go_ret2
  exact⟨_,by first|rfl|(simp[aJ,aM]<;>rfl)|(simp[*,aJ,aM]<;>rfl),by first|exact Kd.nI _ _ _ _ _|exact Kd.N_nil _ _ _ _ _|exact Kd.V_nil _ _ _ _ _|exact Kd.Q_nil _ _ _ _ _|exact Kd.S_nil _ _ _ _ _,bz⟩
 ·rw[if_neg c3]at H
  have nM:decide (65536<(a0.size:Int))=false:=decide_eq_false c3;have zJ:decide (65536<a0.size)=false:=decide_eq_false (by omega);clear c3;replace H:=Option.bind_eq_some_iff.mp H;obtain⟨t314,A40,H⟩:=H;replace H:((qj.f t314 a1).bind fun t315=>((j5.f t315).bind fun xV=>(some (xV.1,xV.2))))=some (r1,r2):=H;have A4:=ak.mk A40;clear A40;replace H:=Option.bind_eq_some_iff.mp H;obtain⟨t315,A50,H⟩:=H;replace H:((j5.f t315).bind fun xV=>(some (xV.1,xV.2)))=some (r1,r2):=H;have A5:=ak.mk A50;clear A50;replace H:=Option.bind_eq_some_iff.mp H;obtain⟨⟨t318,t319⟩,A60,H⟩:=H;replace H:(some (t318,t319))=some (r1,r2):=H;have A6:=ak.mk A60;clear A60;simp only[Option.some.injEq,Prod.mk.injEq]at H;obtain⟨rfl,rfl⟩:=H;go_enter Tryz.func24,Tryz.ntmps24
  go_wp2_with(first|((with_reducible refine aZ (f:=73) rfl ?_);refine dJ (some 10) rfl rfl Tryz.func73 (by kernel_rfl) rfl #[.string a0] rfl q'a ?_;(with_reducible refine(mK.calls a0 t314 _ A4.out (Go.Proofs.YtkcmghlhpbepcaaGreatDoor.Std.below HS_.out bz)).mono ?_);rintro e w7 ⟨rfl,hb⟩;refine⟨_,rfl,?_⟩;have n0_:=ak.mk (aG bz hb);clear HB;have HB:=n0_;clear n0_;(try clear hb);(try clear hb2);(try clear hk);(try clear hi))|((with_reducible refine aZ (f:=72) rfl ?_);refine dJ (some 12) rfl rfl Tryz.func72 (by kernel_rfl) rfl #[.string t314,.string a1] rfl q'a ?_;(with_reducible refine(qj.calls t314 a1 t315 _ A5.out (Go.Proofs.YtkcmghlhpbepcaaGreatDoor.Std.below HS_.out bz)).mono ?_);rintro e w8 ⟨v316,rfl,ho0,hb⟩;refine⟨_,rfl,?_⟩;have n0_:=ak.mk (Kd.eB ho0 (aR bz));have n1_:=ak.mk (aG bz hb);clear HB;have Gt:=n0_;have HB:=n1_;clear n0_ n1_;(try clear hb);(try clear hb2);(try clear hk);(try clear hi);(try clear ho0);obtain⟨Ao9,co9,eo9⟩:=Kd.dI Gt.out;subst eo9)|((with_reducible refine aZ (f:=21) rfl ?_);refine dJ (some 13) rfl rfl Tryz.func21 (by kernel_rfl) rfl #[.slice Ao9 t315.length co9] rfl q'a ?_;(with_reducible refine(j5.calls _ _ t315 t318 t319 _ ?cZ ?dH A6.out).mono ?_);(case cZ=>exact cz (Kd.bK Gt.out).2.2);(case dH=>exact(Kd.bK Gt.out).2.1);rintro e w10 ⟨v320,rfl,ho0,hb⟩;refine⟨_,rfl,?_⟩;have n0_:=ak.mk (Kd.dX (rz Gt.out) hb);have n1_:=ak.mk (Kd.eB ho0 (aR bz));have n2_:=ak.mk (aG bz hb);clear Gt;clear HB;have Gt:=n0_;have HO321:=n1_;have HB:=n2_;clear n0_ n1_ n2_;(try clear hb);(try clear hb2);(try clear hk);(try clear hi);(try clear ho0)))
  go_ret2
  exact⟨_,by first|rfl|(simp[aJ,aM]<;>rfl)|(simp[*,aJ,aM]<;>rfl),by(with_reducible repeat(first|apply Kd.fu|apply Kd.fV|apply Kd.fG));exact HO321.out,bz⟩
def iK.f(a0:ByteArray):Option ((List (S34))×Int):=(qm.f a0 (⟨#[]⟩:ByteArray)).bind fun K8=>(some (K8.1,K8.2))
theorem iK.calls(a0:ByteArray)(r1:List (S34))(r2:Int)(w:World)(h:iK.f a0=some (r1,r2))(hS_:Go.Proofs.YtkcmghlhpbepcaaGreatDoor.Std w):
 Calls Tryz.prog 26 #[.string a0] w fun e w'=>∃v0_:Value,e=.returned (.tuple #[v0_,.int .i64 r2])∧Kd.R k34 34 w' w.heap.size (fun _=>True) v0_ r1∧Below w.heap.size w w':=by
 have HS_:=ak.mk hS_;clear hS_;have HB:=ak.mk (Below.refl w.heap.size w);have H:((qm.f a0 (⟨#[]⟩:ByteArray)).bind fun K8=>(some (K8.1,K8.2)))=some (r1,r2):=h;clear h;replace H:=Option.bind_eq_some_iff.mp H;obtain⟨⟨t322,t323⟩,A20,H⟩:=H;replace H:(some (t322,t323))=some (r1,r2):=H;have A2:=ak.mk A20;clear A20;simp only[Option.some.injEq,Prod.mk.injEq]at H;obtain⟨rfl,rfl⟩:=H;go_enter Tryz.func26,Tryz.ntmps26
 go_wp2_with(first|((with_reducible refine aZ (f:=24) rfl ?_);refine dJ (some 5) rfl rfl Tryz.func24 (by kernel_rfl) rfl #[.string a0,.string (⟨#[]⟩:ByteArray)] rfl q'a ?_;(with_reducible refine(qm.calls a0 (⟨#[]⟩:ByteArray) t322 t323 _ A2.out (Go.Proofs.YtkcmghlhpbepcaaGreatDoor.Std.below HS_.out bz)).mono ?_);rintro e w3 ⟨v324,rfl,ho0,hb⟩;refine⟨_,rfl,?_⟩;have n0_:=ak.mk (Kd.eB ho0 (aR bz));have n1_:=ak.mk (aG bz hb);clear HB;have HO325:=n0_;have HB:=n1_;clear n0_ n1_;(try clear hb);(try clear hb2);(try clear hk);(try clear hi);(try clear ho0)))
 go_ret2
 exact⟨_,by first|rfl|(simp[aJ,aM]<;>rfl)|(simp[*,aJ,aM]<;>rfl),by(with_reducible repeat(first|apply Kd.fu|apply Kd.fV|apply Kd.fG));exact HO325.out,bz⟩
end Go.Proofs.aj.W7
namespace Go.Proofs.aj.W7
open Go.RowKit Go.Proofs Go.Proofs.aj Go.Proofs.YtkcmghlhpbepcaaGreatDoor Go.Proofs.ah.aD Go.Proofs.YtkcmghlhpbepcaaGreatDoor.Ch
theorem bt_mem(s:ByteArray)(c:UInt8)(hc:c∈s.data.toList):∃j:Nat,j<s.size∧bt s (j:Int)=(c.toNat:Int):=by
 obtain⟨j,hj,e⟩:=List.getElem_of_mem hc;have hz:s.data.toList.length=s.size:=Array.length_toList;refine⟨j,by omega,?_⟩;have hj2:((j:Int)).toNat<s.size:=by rw[Int.toNat_natCast];omega
 rw[←jT s (j:Int) hj2,←e];rfl
def toksF(s nm:Txt):List Tk:=(inL (BK s) nm).map Dg
def ansF(o:Option (List Rw)):List Rw×Int:=match o with|none=>([],2)|some r=>(r,0)
theorem C9(s t:ByteArray):∀d i,tX s t d i=true→∀j:Nat,i≤j→j<i+d→okC t (bt s (j:Int))=true
 |0,i,h,j,h1,h2=>by omega
 |d+1,i,h,j,h1,h2=>by
  simp only[tX,Bool.and_eq_true]at h
  by_cases e:j=i
  ·subst e;exact h.1
  ·exact C9 s t d (i+1) h.2 j (by omega) (by omega)
theorem G6{s t:ByteArray}(h:ou s t=true):s.data.toList≠[]∧∀c∈s.data.toList,okC t (c.toNat:Int)=true:=by
 unfold ou at h;refine⟨?_,fun c hc=>?_⟩
 ·have:=zT _ _ _ _ h
  rwa [Lib.toList_data]at this
 ·obtain⟨j,hj,e⟩:=bt_mem s c hc
  rw[←e];exact C9 s t _ _ h j (Nat.zero_le _) (by omega)
def fineN(c:UInt8):Bool:=!(Go.Proofs.YtkcmghlhpbepcaaGreatDoor.dM c||(decide (65≤c.toNat)&&decide (c.toNat≤90))||c==0||[47,62].contains c)
theorem RO:∀c:UInt8,okC ⟨#[47,62]⟩ (c.toNat:Int)=true→fineN c=true:=by
 intro c h;have:=lg (p:=fun c=>!okC ⟨#[47,62]⟩ (c.toNat:Int)||fineN c) (by decide +kernel) c;rw[h]at this;exact this
def fineA(c:UInt8):Bool:=!(Go.Proofs.YtkcmghlhpbepcaaGreatDoor.dM c||(decide (65≤c.toNat)&&decide (c.toNat≤90))||c==0||[47,62,34,39,60,61].contains c)
theorem okc_attr:∀c:UInt8,okC ⟨#[47,62,34,39,60,61]⟩ (c.toNat:Int)=true→fineA c=true:=by
 intro c h;have:=lg (p:=fun c=>!okC ⟨#[47,62,34,39,60,61]⟩ (c.toNat:Int)||fineA c) (by decide +kernel) c;rw[h]at this;exact this
theorem letter_b:∀c:UInt8,Go.Proofs.aj.W7.mh (c.toNat:Int)=true→Go.Proofs.YtkcmghlhpbepcaaGreatDoor.mh c=true:=by
 intro c h;have:=lg (p:=fun c=>!Go.Proofs.aj.W7.mh (c.toNat:Int)||Go.Proofs.YtkcmghlhpbepcaaGreatDoor.mh c) (by decide +kernel) c;rw[h]at this;exact this
theorem attr_nm{s:ByteArray}(h:Go.Proofs.aj.W7.wY s=true):rQ s.data.toList:=by
 refine Rp ?_;obtain⟨h1,h2⟩:=G6 h;unfold Go.Proofs.YtkcmghlhpbepcaaGreatDoor.wY Go.Proofs.YtkcmghlhpbepcaaGreatDoor.ou;rw[Bool.and_eq_true,List.all_eq_true];refine⟨fun c hc=>okc_attr c (h2 c hc),?_⟩;simpa using h1
theorem right_nm{s:ByteArray}(h:Go.Proofs.aj.W7.rR s=true):sZ s.data.toList:=by
 unfold Go.Proofs.aj.W7.rR at h;rw[Bool.and_eq_true]at h;obtain⟨h1,h2⟩:=G6 h.1;refine Ns ?_;unfold Go.Proofs.YtkcmghlhpbepcaaGreatDoor.rR Go.Proofs.YtkcmghlhpbepcaaGreatDoor.ou;rw[Bool.and_eq_true,Bool.and_eq_true,List.all_eq_true];refine⟨⟨fun c hc=>RO c (h2 c hc),by simpa using h1⟩,?_⟩;have hz:s.data.toList.length=s.size:=Array.length_toList;have hp:=List.length_pos_iff.2 h1;have hl:=h.2;rw[show(0:Int)=((0:Nat):Int)from rfl,←jT s ((0:Nat):Int) (by show 0<s.size;omega)]at hl;obtain⟨c,r,e⟩:=List.exists_cons_of_ne_nil h1
 have ec:(s[((0:Nat):Int).toNat]'(by show 0<s.size;omega))=c:=by
  show s.data[0]=c;have:s.data.toList[0]?=some c:=by rw[e];rfl
  rw[Array.getElem?_toList]at this;rw[Array.getElem?_eq_getElem (by show 0<s.data.size;rw[←Array.length_toList];omega)]at this;exact Option.some.inj this
 rw[ec]at hl;rw[e];exact letter_b c hl
theorem JY(chars:List UInt8)(c:UInt8)(hc:c∈chars):∀l:List UInt8,c∈l→0≤Lib.indexAny l chars
 | [],h=>by cases h
 |b::l,h=>by
  unfold Lib.indexAny
  by_cases e:b∈chars
  ·simp[e]
  ·rcases List.mem_cons.1 h with rfl|h
   ·exact absurd hc e
   ·have:=JY chars c hc l h
    simp[e]
    split<;>omega
theorem vB{s:ByteArray}(h:jr s=true):Cln s.data.toList:=by
 unfold jr at h;rw[Bool.and_eq_true,Bool.not_eq_true']at h;have h2:=of_decide_eq_false h.2;refine⟨h.1,fun hm=>h2 (JY _ 0 ?_ _ hm),fun hm=>h2 (JY _ 13 ?_ _ hm)⟩
 all_goals(show _∈[0,13];simp)
theorem yB{s sub:List UInt8}(hs:sub≠[])(h:Lib.contains s sub=false)(j:Nat):Lib.occAt s sub j=false:=by
 have h2:=of_decide_eq_false h
 rcases Lib.index_spec s sub with⟨h1,h3⟩|⟨j',h1,-⟩
 ·by_cases hj:j≤s.length
  ·exact h3 j hj
  ·show sub.isPrefixOf (s.drop j)=false
   rw[List.drop_eq_nil_of_le (by omega)];cases sub with
   |nil=>exact absurd rfl hs
   |cons a t=>rfl
 ·omega
theorem JF{s:ByteArray}(h:C8 s=true):E8 s.data.toList∧Cln s.data.toList:=by
 unfold C8 at h;simp only[Bool.and_eq_true,Bool.not_eq_true']at h;obtain⟨⟨⟨⟨h1,h2⟩,h3⟩,h4⟩,h5⟩:=h;exact⟨⟨yB (by simp) h2,yB (by simp) h3,h4,h5⟩,vB h1⟩
theorem raw_ok{nm d:Txt}(h:Lib.contains d [60,47]=false):LJ nm d:=by
 intro j hj;cases hc:gN nm (d.drop j)with
 |false=>rfl
 |true=>
  exfalso
  unfold gN at hc
  split at hc
  ·rename_i r e
   have:=yB (by simp) h j
   have h3:Lib.occAt d [60,47] j=true:=by
    show([60,47] :List UInt8).isPrefixOf (d.drop j)=true;rw[e];simp[List.isPrefixOf]
   rw[this]at h3;cases h3
  ·cases hc
end Go.Proofs.aj.W7
namespace Go.Proofs.YtkcmghlhpbepcaaGreatDoor.Ch
open Go Go.RowKit Go.Proofs.YtkcmghlhpbepcaaGreatDoor
theorem valid2(c d:UInt8)(r:List UInt8)(h0:c.toNat / 32=6)(h1:d.toNat / 64=2)(h2:128≤c.toNat % 32 * 64+d.toNat % 64):Lib.validD (c::d::r)=Lib.validD r:=by
 rw[Lib.validD_step _ (by simp),Lib.decodeL_N]
 have e:Lib.decodeN (c::d::r).length ((c::d::r).getD 0 0).toNat ((c::d::r).getD 1 0).toNat ((c::d::r).getD 2 0).toNat ((c::d::r).getD 3 0).toNat=(c.toNat % 32 * 64+d.toNat % 64,2):=by
  have e1:c.toNat / 32=6∧(1<(c::d::r).length∧d.toNat / 64=2):=⟨h0,by simp,h1⟩;show Lib.decodeN (c::d::r).length c.toNat d.toNat _ _=_;unfold Lib.decodeN;rw[if_neg (by omega),if_pos e1,if_pos h2]
 rw[e,if_neg (by simp)];rfl
theorem valid3(c d f:UInt8)(r:List UInt8)(h0:c.toNat / 16=14)(h1:d.toNat / 64=2)(h2:f.toNat / 64=2)(h3:2048≤c.toNat % 16 * 4096+d.toNat % 64 * 64+f.toNat % 64)
 (h4:c.toNat % 16 * 4096+d.toNat % 64 * 64+f.toNat % 64<55296∨57344≤c.toNat % 16 * 4096+d.toNat % 64 * 64+f.toNat % 64):Lib.validD (c::d::f::r)=Lib.validD r:=by
 rw[Lib.validD_step _ (by simp),Lib.decodeL_N]
 have e:Lib.decodeN (c::d::f::r).length ((c::d::f::r).getD 0 0).toNat ((c::d::f::r).getD 1 0).toNat ((c::d::f::r).getD 2 0).toNat ((c::d::f::r).getD 3 0).toNat=(c.toNat % 16 * 4096+d.toNat % 64 * 64+f.toNat % 64,3):=by
  have e1:c.toNat / 16=14∧(1<(c::d::f::r).length∧d.toNat / 64=2)∧(2<(c::d::f::r).length∧f.toNat / 64=2):=⟨h0,⟨by simp,h1⟩,by simp,h2⟩;have e0:¬(c.toNat / 32=6∧(1<(c::d::f::r).length∧d.toNat / 64=2)):=by omega
  show Lib.decodeN (c::d::f::r).length c.toNat d.toNat f.toNat _=_;unfold Lib.decodeN;rw[if_neg (by omega),if_neg e0,if_pos e1,if_pos (by omega)]
 rw[e,if_neg (by simp)];rfl
theorem valid4(c d f g:UInt8)(r:List UInt8)(h0:c.toNat / 8=30)(h1:d.toNat / 64=2)(h2:f.toNat / 64=2)(h3:g.toNat / 64=2)(h4:65536≤c.toNat % 8 * 262144+d.toNat % 64 * 4096+f.toNat % 64 * 64+g.toNat % 64)
 (h5:c.toNat % 8 * 262144+d.toNat % 64 * 4096+f.toNat % 64 * 64+g.toNat % 64≤1114111):Lib.validD (c::d::f::g::r)=Lib.validD r:=by
 rw[Lib.validD_step _ (by simp),Lib.decodeL_N]
 have e:Lib.decodeN (c::d::f::g::r).length ((c::d::f::g::r).getD 0 0).toNat ((c::d::f::g::r).getD 1 0).toNat ((c::d::f::g::r).getD 2 0).toNat ((c::d::f::g::r).getD 3 0).toNat=(c.toNat % 8 * 262144+d.toNat % 64 * 4096+f.toNat % 64 * 64+g.toNat % 64,4):=by
  have e1:c.toNat / 8=30∧(1<(c::d::f::g::r).length∧d.toNat / 64=2)∧(2<(c::d::f::g::r).length∧f.toNat / 64=2)∧(3<(c::d::f::g::r).length∧g.toNat / 64=2):=⟨h0,⟨by simp,h1⟩,⟨by simp,h2⟩,by simp,h3⟩;have e0:¬(c.toNat / 32=6∧(1<(c::d::f::g::r).length∧d.toNat / 64=2)):=by omega
  have e2:¬(c.toNat / 16=14∧(1<(c::d::f::g::r).length∧d.toNat / 64=2)∧(2<(c::d::f::g::r).length∧f.toNat / 64=2)):=by omega
  show Lib.decodeN (c::d::f::g::r).length c.toNat d.toNat f.toNat g.toNat=_;unfold Lib.decodeN;rw[if_neg (by omega),if_neg e0,if_neg e2,if_pos e1,if_pos (by omega)]
 rw[e,if_neg (by simp)];rfl
theorem esc_hi(q:Bool)(c:UInt8)(h:128≤c.toNat):oH q c=[c]:=by
 have:=lg (p:=fun c=>decide (c.toNat<128)||(oH true c==[c]&&oH false c==[c])) (by decide +kernel) c;rw[decide_eq_false (by omega)]at this;simp at this;cases q
 ·exact this.2
 ·exact this.1
theorem esc_lo(q:Bool)(c:UInt8)(h:c.toNat<128):∀x∈oH q c,x.toNat<128:=by
 have:=lg (p:=fun c=>!decide (c.toNat<128)||((oH true c).all (fun x=>decide (x.toNat<128))&&(oH false c).all (fun x=>decide (x.toNat<128)))) (by decide +kernel) c;rw[decide_eq_true h]at this;simp only[Bool.not_true,Bool.false_or,Bool.and_eq_true,List.all_eq_true,decide_eq_true_eq]at this;cases q
 ·exact this.2
 ·exact this.1
theorem oW{c:UInt8}(h:c≠194)(l:List UInt8):vw (c::l)=false:=by
 unfold vw Lib.hasPrefix;simp[List.isPrefixOf,Ne.symm h]
theorem Bu(q:Bool)(c:UInt8)(l:List UInt8)(h:128≤c.toNat)(hh:vw (c::l)=false):wrL q (c::l)=c::wrL q l:=by
 rw[Bv hh,esc_hi q c h];rfl
theorem Mt(a X:List UInt8)(h:∀x∈a,x.toNat<128):Lib.validD (a++X)=Lib.validD X:=by
 have:=Lib.validD_ascii a.length (a++X) (by rw[List.take_left];exact h)
 rwa [List.drop_left]at this
theorem n194{d:UInt8}(h:d.toNat / 64=2):d≠194:=by
 rintro rfl;simp at h
theorem yA(q:Bool):∀(N:Nat) (l:List UInt8),l.length≤N→Lib.validD l=true→Lib.validD (wrL q l)=true
 |0,l,hN,_=>by
  obtain rfl:l=[]:=List.eq_nil_of_length_eq_zero (by omega);rfl
 |N+1,[],_,_=>rfl
 |N+1,c::t,hN,hv=>by
  have hN':t.length≤N:=by simpa using hN
  rcases Lib.decodeN_shape (c::t).length ((c::t).getD 0 0).toNat ((c::t).getD 1 0).toNat ((c::t).getD 2 0).toNat ((c::t).getD 3 0).toNat with⟨h0,-⟩|⟨h0,hn,h1,h2,-⟩|⟨h0,hn,h1,h2,h3,h4,-⟩|⟨h0,hn,h1,h2,h3,h4,h5,-⟩|hb
  ·have h0:c.toNat<128:=h0
   rw[Lib.validD_cons c t h0]at hv;rw[Bv (oW (by rintro rfl;simp at h0) t),Mt _ _ (esc_lo q c h0)];exact yA q N t hN' hv
  ·cases t with
   |nil=>simp at hn
   |cons d r=>
    have h0:c.toNat / 32=6:=h0;have h1:d.toNat / 64=2:=h1;have h2:128≤c.toNat % 32 * 64+d.toNat % 64:=h2;rw[valid2 c d r h0 h1 h2]at hv;have hr:=yA q N r (by simp at hN';omega) hv;cases hh:vw (c::d::r)with
    |true=>
     rw[FN hh,Mt _ _ (by decide)];exact hr
    |false=>
     rw[Bu q c _ (by omega) hh,Bu q d _ (by omega) (oW (n194 h1) r),valid2 c d _ h0 h1 h2];exact hr
  ·rcases t with _|⟨d,_|⟨f,r⟩⟩
   ·simp at hn
   ·simp at hn
   ·have h0:c.toNat / 16=14:=h0
    have h1:d.toNat / 64=2:=h1;have h2:f.toNat / 64=2:=h2;rw[valid3 c d f r h0 h1 h2 h3 h4]at hv;have hr:=yA q N r (by simp at hN';omega) hv;rw[Bu q c _ (by omega) (oW (by rintro rfl;simp at h0) _),Bu q d _ (by omega) (oW (n194 h1) _),Bu q f _ (by omega) (oW (n194 h2) _),valid3 c d f _ h0 h1 h2 h3 h4];exact hr
  ·rcases t with _|⟨d,_|⟨f,_|⟨g,r⟩⟩⟩
   ·simp at hn
   ·simp at hn
   ·simp at hn
   ·have h0:c.toNat / 8=30:=h0
    have h1:d.toNat / 64=2:=h1;have h2:f.toNat / 64=2:=h2;have h3:g.toNat / 64=2:=h3;rw[valid4 c d f g r h0 h1 h2 h3 h4 h5]at hv;have hr:=yA q N r (by simp at hN';omega) hv;rw[Bu q c _ (by omega) (oW (by rintro rfl;simp at h0) _),Bu q d _ (by omega) (oW (n194 h1) _),Bu q f _ (by omega) (oW (n194 h2) _),Bu q g _ (by omega) (oW (n194 h3) _),valid4 c d f g _ h0 h1 h2 h3 h4 h5];exact hr
  ·rw[Lib.validD_step _ (by simp),Lib.decodeL_N,hb,if_pos ⟨rfl,rfl⟩]at hv
   cases hv
theorem Ho(q:Bool)(z c:UInt8)(hz:z=0∨z=13)(h:c≠z):z∉oH q c:=by
 have:=lg (p:=fun c=>(c==0||(!(oH true c).contains 0&& !(oH false c).contains 0))&&(c==13||(!(oH true c).contains 13&& !(oH false c).contains 13))) (by decide +kernel) c;simp only[Bool.and_eq_true,Bool.or_eq_true,beq_iff_eq,Bool.not_eq_true',List.contains_eq_mem,decide_eq_false_iff_not]at this
 rcases hz with rfl|rfl
 ·rcases this.1 with h1|h1
  ·exact absurd h1 h
  ·cases q
   ·exact h1.2
   ·exact h1.1
 ·rcases this.2 with h1|h1
  ·exact absurd h1 h
  ·cases q
   ·exact h1.2
   ·exact h1.1
theorem Af(q:Bool)(z:UInt8)(hz:z=0∨z=13):∀(N:Nat) (l:List UInt8),l.length≤N→z∉l→z∉wrL q l
 |0,l,hN,_=>by
  obtain rfl:l=[]:=List.eq_nil_of_length_eq_zero (by omega);simp[wrL]
 |N+1,[],_,_=>by simp[wrL]
 |N+1,c::t,hN,h=>by
  have hN':t.length≤N:=by simpa using hN
  cases hh:vw (c::t)with
  |true=>
   rw[FN hh,List.mem_append];rintro(e|e)
   ·rcases hz with rfl|rfl<;>simp at e
   ·exact Af q z hz N _ (by rw[List.length_drop];simp;omega) (fun e2=>h (List.mem_of_mem_drop e2)) e
  |false=>
   rw[Bv hh,List.mem_append];rintro(e|e)
   ·exact Ho q z c hz (fun e2=>h (by simp[e2])) e
   ·exact Af q z hz N t hN' (fun e2=>h (by simp[e2])) e
theorem cln_wr(q:Bool){l:List UInt8}(h:Cln l):Cln (wrL q l):=⟨yA q l.length l (Nat.le_refl _) h.1,Af q 0 (.inl rfl) l.length l (Nat.le_refl _) h.2.1,Af q 13 (.inr rfl) l.length l (Nat.le_refl _) h.2.2⟩
end Go.Proofs.YtkcmghlhpbepcaaGreatDoor.Ch
namespace Go.Proofs.aj.W7
open Go.RowKit Go.Proofs Go.Proofs.aj Go.Proofs.YtkcmghlhpbepcaaGreatDoor Go.Proofs.ah.aD Go.Proofs.YtkcmghlhpbepcaaGreatDoor.Ch
structure JZ (t:Tok):Prop where
 name:Cln t.name
 data:Cln t.data
 attrs:∀a∈t.attrs,Cln a.1∧Cln a.2
theorem G7:∀(l:List (Txt×Txt)),(∀a∈l,Cln a.1∧Cln a.2)→Cln (kr l)
 | [],_=>nG
 |a::l,h=>by
  have h1:=h a (by simp)
  have e:kr (a::l)=[32]++(a.1++([61,34]++(wrL true a.2++([34]++kr l)))):=by
   show(32::(a.1++61::34::(wrL true a.2++[34])))++kr l=_;simp
  rw[e];exact mF (mW (by decide)) (mF h1.1 (mF (mW (by decide)) (mF (cln_wr true h1.2) (mF (mW (by decide)) (G7 l (fun b hb=>h b (by simp[hb])))))))
theorem QG{o:Txt}(ho:Cln o){t:Tok}(h1:Cln t.name)(h2:∀a∈t.attrs,Cln a.1∧Cln a.2):Cln (qd o t):=by
 unfold qd;refine mF (mF (mF (mF ho h1) (G7 _ h2)) ?_) (mW (by decide));unfold pq
 split
 ·exact mW (by decide)
 ·exact nG
theorem tok_cln(b:Bool){t:Tok}(h:JZ t):Cln (rP b t):=by
 unfold rP
 split
 ·split
  ·exact h.data
  ·exact cln_wr false h.data
 ·split
  ·exact QG (mW (by decide)) h.name h.attrs
  ·split
   ·exact QG (mW (by decide)) h.name (by simp)
   ·split
    ·exact mF (mF (mW (by decide)) h.data) (mW (by decide))
    ·split
     ·exact mF (mF (mW (by decide)) h.data) (mW (by decide))
     ·exact nG
theorem FT:∀(L:List Tok) (b:Bool),(∀t∈L,JZ t)→Cln (eO b L)
 | [],_,_=>nG
 |t::L,b,h=>mF (tok_cln b (h t (by simp))) (FT L _ (fun x hx=>h x (by simp[hx])))
structure JX (x:Rw):Prop where
 name:Cln x.f2.data.toList
 data:Cln x.f3.data.toList
 attrs:∀a∈x.f4,Cln a.f0.data.toList∧Cln a.f1.data.toList
theorem tokP_cln{x:Rw}(h:JX x):JZ (oI x):=by
 unfold oI
 split
 ·refine⟨h.name,nG,fun a ha=>?_⟩
  obtain⟨y,hy,rfl⟩:=List.mem_map.1 ha;exact h.attrs y hy
 ·split
  ·exact⟨nG,h.data,by simp⟩
  ·exact⟨nG,h.data,by simp⟩
theorem Mx:∀(r:List Rw) (op:List ByteArray),(∀x∈r,JX x)→(∀n∈op,Cln n.data.toList)→∀t∈mG r op,JZ t
 | [],op,_,ho=>by
   intro t ht;obtain⟨n,hn,rfl⟩:=List.mem_map.1 ht;exact⟨ho n (List.mem_reverse.1 hn),nG,by simp[endP]⟩
 |x::r,op,hr,ho=>by
  intro t ht;rw[mG]at ht
  rcases List.mem_append.1 ht with ht|ht
  ·obtain⟨n,hn,rfl⟩:=List.mem_map.1 ht
   exact⟨ho n (List.mem_of_mem_drop (List.mem_reverse.1 hn)),nG,by simp[endP]⟩
  ·rcases List.mem_cons.1 ht with rfl|ht
   ·exact tokP_cln (hr x (by simp))
   ·refine Mx r _ (fun y hy=>hr y (by simp[hy])) (fun n hn=>?_) t ht
    unfold opA at hn
    split at hn
    ·rcases List.mem_append.1 hn with hn|hn
     ·exact ho n (List.mem_of_mem_take hn)
     ·obtain rfl:=List.mem_singleton.1 hn
      exact(hr x (by simp)).name
    ·exact ho n (List.mem_of_mem_take hn)
theorem MB(M:Nat):∀(r:List Rw) (op:List ByteArray),(∀x∈r,x.f3.size≤M∧x.f4.length≤1000000)→yw (emit r op)≤r.length * M∧∀t∈emit r op,t.f3.length≤1000000
 | [],op,_=>by
   have e:∀m:List ByteArray,yw (m.map zU)=0:=by
    intro m
    induction m with
    |nil=>rfl
    |cons n m ih=>
     have e1:yw ((n::m).map zU)=0+yw (m.map zU):=rfl;rw[e1,ih]
   refine⟨by rw[emit,e];omega,fun t ht=>?_⟩;obtain⟨n,hn,rfl⟩:=List.mem_map.1 ht;simp[zU]
 |x::r,op,h=>by
  have e:∀m:List ByteArray,yw (m.map zU)=0:=by
   intro m
   induction m with
   |nil=>rfl
   |cons n m ih=>
    have e1:yw ((n::m).map zU)=0+yw (m.map zU):=rfl;rw[e1,ih]
  obtain⟨i1,i2⟩:=MB M r (opA (op.take x.f0.toNat) x) (fun y hy=>h y (by simp[hy]));have hx:=h x (by simp)
  have ht:(rU x).f2.size≤M∧(rU x).f3.length≤1000000:=by
   unfold rU
   split
   ·exact⟨Nat.zero_le _,hx.2⟩
   ·split
    ·exact⟨hx.1,Nat.zero_le _⟩
    ·exact⟨hx.1,Nat.zero_le _⟩
  refine⟨?_,fun t hm=>?_⟩
  ·have e2:yw (emit (x::r) op)=yw ((op.drop x.f0.toNat).reverse.map zU)+((rU x).f2.size+yw (emit r (opA (op.take x.f0.toNat) x))):=by
    rw[emit];simp[yw]
   rw[e2,e,List.length_cons,Nat.add_mul];omega
  ·rw[emit]at hm
   rcases List.mem_append.1 hm with hm|hm
   ·obtain⟨n,hn,rfl⟩:=List.mem_map.1 hm
    simp[zU]
   ·rcases List.mem_cons.1 hm with rfl|hm
    ·exact ht.2
    ·exact i2 t hm
theorem NJ(xs:List Rw)(s:ByteArray)(hs:s.data.toList=JG (mG xs []))(hz:s.size≤65536)(hf:RowsFit xs [] [])(hg:vv xs)(hc:∀x∈xs,JX x)(M:Nat)(hM:∀x∈xs,x.f3.size≤M∧x.f4.length≤1000000)(hb:xs.length * M≤1000000000):
 qm.f s ⟨#[]⟩=some (xs,0)∧iK.f s=some (xs,0):=by
 have hl:s.data.toList.length=s.size:=Array.length_toList;have hcl:Cln s.data.toList:=by rw[hs];exact FT _ _ (Mx xs [] hc (by simp))
 have hr:=Rt hcl
 have hin:inL s.data.toList []=mG xs []:=by
  unfold inL;rw[if_neg (by decide),hs];exact emit_cut hf hg
 have key:qm.f s ⟨#[]⟩=some (xs,0):=by
  unfold qm.f;rw[if_neg (by omega)];unfold mK.f;rw[if_pos (by omega),Option.bind_some,hr];unfold qj.f;have hq:(⟨s.data.toList.toArray⟩:ByteArray).size=s.size:=by show(List.toArray s.data.toList).size=_;simp
  rw[if_pos (by omega),Option.bind_some];obtain⟨t1,t2⟩:=MB M xs [] hM
  have e:((inL (⟨s.data.toList.toArray⟩:ByteArray).data.toList (⟨#[]⟩:ByteArray).data.toList).map Dg)=emit xs []:=by
   show(inL s.data.toList []).map Dg=_;rw[hin,Qv]
  show(j5.f ((inL (⟨s.data.toList.toArray⟩:ByteArray).data.toList (⟨#[]⟩:ByteArray).data.toList).map Dg)).bind _=_;rw[e,tree_f (emit xs []) (by omega) t2,GQ xs [] [] (by intro n hn;cases hn) hf];rfl
 refine⟨key,?_⟩;unfold iK.f;rw[key,Option.bind_some]
theorem soft_t(s:ByteArray)(k:Nat)(hk:100≤k):kP.f k s=some (Go.Proofs.YtkcmghlhpbepcaaGreatDoor.kT s.data.toList):=by
 unfold kP.f;rw[oV _ _ _ (by simp) (by simp;omega)]
 have e:∀l:List ByteArray,nO l s=(l.map (fun x=>x.data.toList)).contains s.data.toList:=by
  intro l;unfold nO;rw[List.contains_eq_any_beq,List.any_map]
  congr 1
  funext x
  exact Bool.eq_iff_iff.2 ⟨fun h=>by simpa using(by simpa using h:x.data.toList=s.data.toList).symm,fun h=>by simpa using(by simpa using h:s.data.toList=x.data.toList).symm⟩
 rw[e];rfl
theorem kids_end(xs:List Rw)(i:Nat)(hi:i<xs.length):(jh xs i=[]→gq xs i=i+1)∧(∀k0,jh xs i=[k0]→k0=i+1∧i+1<gq xs i∧gq xs (i+1)=gq xs i):=by
 have hgt:=kX xs i;have hle:=nE xs i hi;rw[yX xs i hi]
 by_cases h:i+1<gq xs i
 ·have hl:i+1<xs.length:=by omega
  rw[pV h hl];refine⟨fun e=>(by cases e),fun k0 e=>?_⟩;obtain⟨e1,e2⟩:=List.cons.inj e;have h3:=DW xs i (i+1) (by omega) h hi;refine⟨e1.symm,h,?_⟩
  by_cases h4:gq xs (i+1)<gq xs i
  ·rw[pV h4 (by omega)]at e2
   cases e2
  ·omega
 ·rw[qA h]
  exact⟨fun _=>by omega,fun k0 e=>by cases e⟩
theorem FR(xs:List Rw)(i:Nat)(hi:i<xs.length)(h:gD.f xs i=some true)(hl:xs.length<100000)(hz:∀x∈xs,x.f3.size<1000000000):
 (kS xs[i].f2=true→gq xs i=i+1)∧((mQ xs[i].f2.data.toList||Go.Proofs.YtkcmghlhpbepcaaGreatDoor.kT xs[i].f2.data.toList)=true→gq xs i=i+1∨
   ∃h1:i+1<xs.length,i+1<gq xs i∧gq xs (i+1)=gq xs i∧xs[i+1].f1=1∧(mQ xs[i].f2.data.toList=true→Lib.contains xs[i+1].f3.data.toList [60,47]=false)):=by
 unfold gD.f at h;rw[dif_pos ⟨by omega,by omega⟩]at h;unfold lW.f at h;rw[if_pos (by omega),Option.bind_some,NC _ _ (by omega),Option.bind_some,raw_f _ _ (by omega),Option.bind_some,soft_t _ _ (by omega),Option.bind_some,FE,Qw]at h;simp only[Int.toNat_natCast]at h;obtain⟨k1,k2⟩:=kids_end xs i hi;have hlt:=DY xs i;generalize jh xs i=ks at *
 rcases ks with _|⟨k0,_|⟨k3,ks⟩⟩
 ·exact⟨fun _=>k1 rfl,fun _=>.inl (k1 rfl)⟩
 ·obtain⟨rfl,b1,b2⟩:=k2 k0 rfl
  have h1:i+1<xs.length:=hlt (i+1) (by simp);simp only[List.map_cons,List.map_nil,wiF]at h;cases hv:kS xs[i].f2 with
  |true=>rw[hv]at h;simp at h
  |false=>
   rw[hv,if_neg (by decide)]at h;refine⟨fun e=>(by cases e),fun hrs=>.inr ⟨h1,b1,b2,?_⟩⟩;rw[hrs,if_neg (by decide)]at h;unfold Kt at h;rw[dif_pos ⟨by omega,by omega⟩]at h;have e:xs[((i+1:Nat):Int).toNat]'(by rw[Int.toNat_natCast];exact h1)=xs[i+1]:=rfl;simp only[e]at h
   by_cases hk:xs[i+1].f1=1
   ·refine⟨hk,fun hr=>?_⟩
    have hs:Go.Proofs.YtkcmghlhpbepcaaGreatDoor.kT xs[i].f2.data.toList=false:=(LK hr).2;rw[if_pos hk,hs,if_neg (by decide)]at h;unfold strings_Contains.f at h;have hz1:=hz _ (List.getElem_mem h1);rw[if_pos (by omega),Option.bind_some]at h;cases hc:Lib.contains xs[i+1].f3.data.toList [60,47]with
    |false=>rfl
    |true=>
     have e2:Lib.contains xs[i+1].f3.data.toList (⟨#[60,47]⟩:ByteArray).data.toList=true:=hc;rw[e2]at h;simp at h
   ·rw[if_neg hk]at h
    cases h
 ·simp only[List.map_cons,wiF]at h
  cases hv:kS xs[i].f2 with
  |true=>rw[hv]at h;simp at h
  |false=>
   rw[hv,if_neg (by decide)]at h;refine⟨fun e=>(by cases e),fun hrs=>?_⟩;rw[hrs,if_neg (by decide)]at h;cases h
theorem row_dist(l:List At)(hl:l.length≤1000000)(y0 y1:Int)(y2 y3:ByteArray):∀k:Nat,
 (∀i:Nat,i≤l.length→rows_row.l0 k l (l.length:Int) (i:Int) y0 y1 y2 y3 l=some true→∀i' j':Nat,(h1:i'<l.length)→(h2:j'<i')→i≤i'→l[i'].f0.toList≠(l[j']'(by omega)).f0.toList)∧
 (∀i j:Nat,(hi:i<l.length)→j≤i→∀a1:ByteArray,rows_row.l1 k l (l.length:Int) (i:Int) (l.take i) (i j:Int) y0 y1 y2 y3 l l[i].f0 a1=some true→
   (∀j':Nat,j≤j'→(h2:j'<i)→l[i].f0.toList≠(l[j']'(by omega)).f0.toList)∧∀i' j':Nat,(h1:i'<l.length)→(h2:j'<i')→i+1≤i'→l[i'].f0.toList≠(l[j']'(by omega)).f0.toList):=by
 intro k
 induction k with
 |zero=>exact⟨fun i _ h=>by simp[rows_row.l0]at h,fun i j _ _ a h=>by simp[rows_row.l1]at h⟩
 |succ k ih=>
  obtain⟨ih0,ih1⟩:=ih;refine⟨fun i hi h=>?_,fun i j hi hj a h=>?_⟩
  ·simp only[rows_row.l0]at h
   by_cases hlt:i<l.length
   ·rw[if_pos (by omega),if_pos (by omega),if_pos (by omega),if_pos (by omega),Option.bind_some,Int.toNat_natCast,Bt l i hlt,show((l.take i).length:Int)=(i:Int)from by rw[List.length_take];omega]at h
    obtain⟨p1,p2⟩:=ih1 i 0 hlt (Nat.zero_le _) _ h;intro i' j' h1 h2 h3
    by_cases e:i'=i
    ·subst e;exact p1 j' (Nat.zero_le _) h2
    ·exact p2 i' j' h1 h2 (by omega)
   ·intro i' j' h1 h2 h3
    omega
  ·simp only[rows_row.l1]at h
   by_cases hlt:j<i
   ·have hjt:j<(l.take i).length:=by rw[List.length_take];omega
    rw[if_pos (by omega),if_pos (by omega),if_pos (by omega),Bt (l.take i) j hjt]at h
    by_cases e:l[i].f0.toList=((l.take i)[j]).f0.toList
    ·rw[if_pos e]at h;cases h
    ·rw[if_neg e,show wrap64 ((j:Int)+1)=((j+1:Nat):Int)from by unfold wrap64;omega]at h
     obtain⟨p1,p2⟩:=ih1 i (j+1) hi (by omega) a h;refine⟨fun j' h1 h2=>?_,p2⟩
     by_cases e2:j'=j
     ·subst e2
      rw[List.getElem_take]at e;exact e
     ·exact p1 j' (by omega) h2
   ·rw[if_neg (by omega),show wrap64 ((i:Int)+1)=((i+1:Nat):Int)from by unfold wrap64;omega]at h
    exact⟨fun j' h1 h2=>by omega,ih0 (i+1) (by omega) h⟩
theorem row_okk(x:Rw)(hl:x.f4.length≤1000000)(k:Nat)(h:rows_row.f k x.f0 x.f1 x.f2 x.f3 x.f4=some true):Mg x:=by
 have hj0t:∀k,rows_row.j0 k true x.f0 x.f1 x.f2 x.f3 x.f4=some true→x.f2.data.toList=[]∧x.f4=[]:=by
  intro k h;cases k with
  |zero=>simp[rows_row.j0]at h
  |succ k=>
   simp only[rows_row.j0]at h;rw[if_pos trivial]at h
   by_cases e:x.f2.toList=[]
   ·rw[if_pos e]at h
    rw[Lib.toList_data]at e;refine⟨e,?_⟩;have:=Option.some.inj h;simpa using this
   ·rw[if_neg e]at h;cases h
 have hj1:∀k b,rows_row.j1 k b x.f0 x.f1 x.f2 x.f3 x.f4=some true→b=false∧distinct x.f4:=by
  intro k b h;cases k with
  |zero=>simp[rows_row.j1]at h
  |succ k=>
   simp only[rows_row.j1]at h;cases b with
   |true=>rw[if_pos rfl]at h;cases h
   |false=>
    rw[if_neg (by decide)]at h;have:=(row_dist x.f4 hl x.f0 x.f1 x.f2 x.f3 k).1 0 (Nat.zero_le _) h;refine⟨rfl,fun i j hi hj e=>?_⟩
    rcases Nat.lt_trichotomy i j with h1|h1|h1
    ·exact absurd e.symm (this j i hj h1 (Nat.zero_le _))
    ·exact h1
    ·exact absurd e (this i j hi h1 (Nat.zero_le _))
 unfold rows_row.f at h
 by_cases k1:x.f1=1
 ·rw[if_pos k1]at h
  obtain⟨a,b⟩:=hj0t _ h;exact⟨.inr (.inl k1),fun e=>by omega,fun _=>⟨a,b⟩⟩
 ·rw[if_neg k1]at h
  by_cases k2:x.f1=2
  ·rw[show(x.f1==2)=true from beq_iff_eq.2 k2]at h
   obtain⟨a,b⟩:=hj0t _ h;exact⟨.inr (.inr k2),fun e=>by omega,fun _=>⟨a,b⟩⟩
  ·rw[show(x.f1==2)=false from beq_eq_false_iff_ne.2 k2]at h
   cases k with
   |zero=>simp[rows_row.j0]at h
   |succ k=>
    simp only[rows_row.j0]at h;rw[if_neg (by decide)]at h
    by_cases k0:x.f1=0
    ·rw[if_pos k0]at h
     by_cases e:x.f2.toList=[]
     ·rw[if_pos e]at h
      have:=(hj1 _ _ h).1;cases this
     ·rw[if_neg e]at h
      obtain⟨a,b⟩:=hj1 _ _ h;rw[Lib.toList_data]at e a;refine⟨.inl k0,fun _=>⟨e,?_,b⟩,fun e2=>absurd k0 e2⟩;simpa using a
    ·rw[if_neg k0]at h
     have:=(hj1 _ _ h).1;cases this
end Go.Proofs.aj.W7
namespace Go.Proofs.aj.W7
open Go.RowKit Go.Proofs Go.Proofs.aj Go.Proofs.YtkcmghlhpbepcaaGreatDoor Go.Proofs.ah.aD
theorem QE:∀(l out:List At),distinct (out++l)→xK out l=out++l
 | [],out,_=>by rw[xK,List.append_nil]
 |a::r,out,h=>by
  have hn:Ef out a=false:=by
   cases e:Ef out a with
   |false=>rfl
   |true=>
    exfalso
    unfold Ef at e;obtain⟨b,hb,hb2⟩:=List.any_eq_true.1 e;obtain⟨i,hi,rfl⟩:=List.getElem_of_mem hb;have hl:(out++a::r).length=out.length+(r.length+1):=by simp
    have:=h out.length i (by omega) (by omega) (by
     rw[List.getElem_append_left hi];have e1:(out++a::r)[out.length]'(by omega)=a:=by simp
     rw[e1];exact(eqN_iff _ _).1 hb2)
    omega
  rw[xK,hn,if_neg (by decide),QE r (out++[a]) (by rw[List.append_assoc];exact h),List.append_assoc];rfl
theorem once_all{l:List At}(h:distinct l):uq l=l:=QE l [] h
theorem Ms{l:List At}(h:distinct l):((l.map rE).map Prod.fst).Nodup:=by
 rw[List.map_map];refine List.pairwise_iff_getElem.2 fun i j hi hj hij e=>?_
 rw[List.length_map]at hi hj;rw[List.getElem_map,List.getElem_map]at e;have e2:l[i].f0.data.toList=l[j].f0.data.toList:=e;have:=h i j hi hj (by rw[Lib.toList_data,Lib.toList_data];exact e2);omega
end Go.Proofs.aj.W7
namespace Go.Proofs.aj.W7
open Go.RowKit Go.Proofs Go.Proofs.aj Go.Proofs.YtkcmghlhpbepcaaGreatDoor Go.Proofs.ah.aD Go.Proofs.YtkcmghlhpbepcaaGreatDoor.Ch
theorem RN(l:List At)(M:Nat)(hM:M<1000000000)(hl:l.length≤6)(ha:∀a∈l,a.f0.size≤M∧a.f1.size≤M):∀d i k:Nat,i+d=l.length→200 * M+2+d≤k→bg.l0 k l (l.length:Int) (i:Int)=some true→
 ∀j:Nat,i≤j→(hj:j<l.length)→wY l[j].f0=true∧jr l[j].f0=true∧jr l[j].f1=true:=by
 intro d
 induction d with
 |zero=>intro i k hi hk h j h1 h2;omega
 |succ d ih=>
  intro i k hi hk h;have hlt:i<l.length:=by omega
  have hm:=ha l[i] (List.getElem_mem hlt);obtain⟨k,rfl⟩:∃m,k=m+1:=⟨k - 1,by omega⟩
  simp only[bg.l0]at h;rw[if_pos (by omega),if_pos (by omega),if_pos (by omega),Bt l i hlt,Qy _ (by omega) k (by omega),Option.bind_some]at h;cases h1:wY l[i].f0 with
  |false=>rw[h1,if_neg (by decide)]at h;cases h
  |true=>
   rw[h1,if_pos rfl,tu _ (by omega),Option.bind_some]at h;cases h2:jr l[i].f0 with
   |false=>rw[h2,if_neg (by decide)]at h;cases h
   |true=>
    rw[h2,if_pos rfl,tu _ (by omega),Option.bind_some]at h;cases h3:jr l[i].f1 with
    |false=>rw[h3,if_neg (by decide)]at h;cases h
    |true=>
     rw[h3,if_pos rfl,wN (by omega)]at h;intro j h4 h5
     by_cases e:j=i
     ·subst e;exact⟨h1,h2,h3⟩
     ·exact ih (i+1) k (by omega) (by omega) h j (by omega) h5
theorem FP(x:Rw)(M:Nat)(hM:M<1000000000)(hx:SzR M x)(ar:List ByteArray)(h:Mr x ar=true):
 rR x.f2=true∧qh x.f2=false∧jr x.f2=true∧yu x.f2 ar=true∧∀a∈x.f4,wY a.f0=true∧jr a.f0=true∧jr a.f1=true:=by
 have hn:=hx.name;have hf:=elem_f x M hM hx ar (200 * M+400) (by omega);rw[h]at hf
 have hj:∀c,bg.j0 (200 * M+400) c x.f0 x.f1 x.f2 x.f3 x.f4=some true→c=false∧∀a∈x.f4,wY a.f0=true∧jr a.f0=true∧jr a.f1=true:=by
  intro c hc;have e:200 * M+400=(200 * M+399)+1:=by omega
  rw[e]at hc;simp only[bg.j0]at hc;cases c with
  |true=>rw[if_pos rfl]at hc;cases hc
  |false=>
   rw[if_neg (by decide)]at hc;have hfew:=hx.few;have:=RN x.f4 M hM hx.few hx.atts x.f4.length 0 _ (by omega) (by omega) hc;refine⟨rfl,fun a ha=>?_⟩;obtain⟨j,hj,rfl⟩:=List.getElem_of_mem ha;exact this j (Nat.zero_le _) hj
 unfold bg.f at hf;rw[LX _ (by omega) _ (by omega),Option.bind_some]at hf;cases h1:rR x.f2 with
 |false=>rw[h1,if_neg (by decide)]at hf;have:=(hj _ hf).1;cases this
 |true=>
  rw[h1,if_pos rfl,JM _ _ (by omega),←goneL_eq,Option.bind_some]at hf;cases h2:qh x.f2 with
  |true=>rw[h2,if_pos rfl]at hf;have:=(hj _ hf).1;cases this
  |false=>
   rw[h2,if_neg (by decide),tu _ (by omega),Option.bind_some]at hf;cases h3:jr x.f2 with
   |false=>rw[h3,if_neg (by decide)]at hf;have:=(hj _ hf).1;cases this
   |true=>
    rw[h3,if_pos rfl,Nv _ _ _ (by omega),Option.bind_some]at hf;obtain⟨a,b⟩:=hj _ hf;refine⟨rfl,rfl,rfl,?_,b⟩;simpa using a
end Go.Proofs.aj.W7
