/- Lemmas and walks, part 28. -/
import Derived.Test.YtkcmghlhpbepcaaGreatDoorNB27
set_option linter.unusedVariables false
set_option linter.unusedSimpArgs false
set_option maxHeartbeats 8000000
set_option maxRecDepth 100000
namespace Go.Proofs.aj.W7
open Go.RowKit Go.Proofs Go.Proofs.YtkcmghlhpbepcaaGreatDoor Go.Proofs.YtkcmghlhpbepcaaGreatDoor.Ch
def l7.f(a0:ByteArray):Option ByteArray:=if a0.data.toList.length≤100000000 then some ⟨(Bj a0.data.toList).toArray⟩else none
theorem l7.calls(a0 r:ByteArray)(w:World)(h:l7.f a0=some r)(hS_:Std w):
 Calls Tryz.prog 73 #[.string a0] w fun e w'=>e=.returned (.string r)∧Below w.heap.size w w':=by
 unfold l7.f at h
 split at h
 ·rename_i hz
  obtain rfl:=Option.some.inj h;have:=ready_c a0.data.toList hz w hS_;have he:(⟨a0.data.toList.toArray⟩:ByteArray)=a0:=by cases a0;simp
  rw[he]at this;exact this
 ·cases h
end Go.Proofs.aj.W7
namespace Go.Proofs.aj.W7
open Go.RowKit Go.Proofs.ah.aD Go.Proofs.ah.bH Go.Proofs.ah.bV
attribute [local go_sem] dA dB dP dQ bY bZ dD dF
def p9.f(a0 a1:ByteArray):Option ((List (S34))×Int):=if(a0.size:Int)>65536 then(some (([] :List (S34)),2))else((l7.f a0).bind fun t314=>((pX.f t314 a1).bind fun t315=>((jV.f t315).bind fun xC=>(some (xC.1,xC.2)))))
theorem p9.calls(a0 a1:ByteArray)(r1:List (S34))(r2:Int)(w:World)(h:p9.f a0 a1=some (r1,r2))(hS_:Go.Proofs.YtkcmghlhpbepcaaGreatDoor.Std w):
 Calls Tryz.prog 24 #[.string a0,.string a1] w fun e w'=>∃v0_:Value,e=.returned (.tuple #[v0_,.int .i64 r2])∧Kd.R k34 34 w' w.heap.size (fun _=>True) v0_ r1∧Below w.heap.size w w':=by
 have HS_:=ak.mk hS_;clear hS_;have HB:=ak.mk (Below.refl w.heap.size w);have H:(if(a0.size:Int)>65536 then(some (([] :List (S34)),2))else((l7.f a0).bind fun t314=>((pX.f t314 a1).bind fun t315=>((jV.f t315).bind fun xC=>(some (xC.1,xC.2))))))=some (r1,r2):=h;clear h
 by_cases c3:(a0.size:Int)>65536
 ·rw[if_pos c3]at H
  have nC:decide (65536<(a0.size:Int))=true:=decide_eq_true c3;have zi:decide (65536<a0.size)=true:=decide_eq_true (by omega);clear c3;simp only[Option.some.injEq,Prod.mk.injEq]at H;obtain⟨rfl,rfl⟩:=H;go_enter Tryz.func24,Tryz.ntmps24;go_wp2
  go_ret2
  exact⟨_,by first|rfl|(simp[aJ,aM]<;>rfl)|(simp[*,aJ,aM]<;>rfl),by first|exact Kd.ni _ _ _ _ _|exact Kd.N_nil _ _ _ _ _|exact Kd.V_nil _ _ _ _ _|exact Kd.Q_nil _ _ _ _ _|exact Kd.S_nil _ _ _ _ _,bz⟩
 ·rw[if_neg c3]at H
  have nC:decide (65536<(a0.size:Int))=false:=decide_eq_false c3;have zi:decide (65536<a0.size)=false:=decide_eq_false (by omega);clear c3;replace H:=Option.bind_eq_some_iff.mp H;obtain⟨t314,A40,H⟩:=H;replace H:((pX.f t314 a1).bind fun t315=>((jV.f t315).bind fun xC=>(some (xC.1,xC.2))))=some (r1,r2):=H;have A4:=ak.mk A40;clear A40;replace H:=Option.bind_eq_some_iff.mp H;obtain⟨t315,A50,H⟩:=H;replace H:((jV.f t315).bind fun xC=>(some (xC.1,xC.2)))=some (r1,r2):=H;have A5:=ak.mk A50;clear A50;replace H:=Option.bind_eq_some_iff.mp H;obtain⟨⟨t318,t319⟩,A60,H⟩:=H;replace H:(some (t318,t319))=some (r1,r2):=H;have A6:=ak.mk A60;clear A60;simp only[Option.some.injEq,Prod.mk.injEq]at H;obtain⟨rfl,rfl⟩:=H;go_enter Tryz.func24,Tryz.ntmps24
  go_wp2_with(first|((with_reducible refine aZ (f:=73) rfl ?_);refine dI (some 10) rfl rfl Tryz.func73 (by kernel_rfl) rfl #[.string a0] rfl q'a ?_;(with_reducible refine(l7.calls a0 t314 _ A4.out (Go.Proofs.YtkcmghlhpbepcaaGreatDoor.Std.below HS_.out bz)).mono ?_);rintro e w7 ⟨rfl,hb⟩;refine⟨_,rfl,?_⟩;have n0_:=ak.mk (aG bz hb);clear HB;have HB:=n0_;clear n0_;(try clear hb);(try clear hb2);(try clear hk);(try clear hi))|((with_reducible refine aZ (f:=72) rfl ?_);refine dI (some 12) rfl rfl Tryz.func72 (by kernel_rfl) rfl #[.string t314,.string a1] rfl q'a ?_;(with_reducible refine(pX.calls t314 a1 t315 _ A5.out (Go.Proofs.YtkcmghlhpbepcaaGreatDoor.Std.below HS_.out bz)).mono ?_);rintro e w8 ⟨v316,rfl,ho0,hb⟩;refine⟨_,rfl,?_⟩;have n0_:=ak.mk (Kd.d9 ho0 (aR bz));have n1_:=ak.mk (aG bz hb);clear HB;have FX:=n0_;have HB:=n1_;clear n0_ n1_;(try clear hb);(try clear hb2);(try clear hk);(try clear hi);(try clear ho0);obtain⟨Ao9,co9,eo9⟩:=Kd.dH FX.out;subst eo9)|((with_reducible refine aZ (f:=21) rfl ?_);refine dI (some 13) rfl rfl Tryz.func21 (by kernel_rfl) rfl #[.slice Ao9 t315.length co9] rfl q'a ?_;(with_reducible refine(jV.calls _ _ t315 t318 t319 _ ?cO ?dG A6.out).mono ?_);(case cO=>exact cz (Kd.bJ FX.out).2.2);(case dG=>exact(Kd.bJ FX.out).2.1);rintro e w10 ⟨v320,rfl,ho0,hb⟩;refine⟨_,rfl,?_⟩;have n0_:=ak.mk (Kd.dV (rz FX.out) hb);have n1_:=ak.mk (Kd.d9 ho0 (aR bz));have n2_:=ak.mk (aG bz hb);clear FX;clear HB;have FX:=n0_;have HO321:=n1_;have HB:=n2_;clear n0_ n1_ n2_;(try clear hb);(try clear hb2);(try clear hk);(try clear hi);(try clear ho0)))
  go_ret2
  exact⟨_,by first|rfl|(simp[aJ,aM]<;>rfl)|(simp[*,aJ,aM]<;>rfl),by(with_reducible repeat(first|apply Kd.fq|apply Kd.fT|apply Kd.fG));exact HO321.out,bz⟩
def iH.f(a0:ByteArray):Option ((List (S34))×Int):=(p9.f a0 (⟨#[]⟩:ByteArray)).bind fun Ku=>(some (Ku.1,Ku.2))
theorem iH.calls(a0:ByteArray)(r1:List (S34))(r2:Int)(w:World)(h:iH.f a0=some (r1,r2))(hS_:Go.Proofs.YtkcmghlhpbepcaaGreatDoor.Std w):
 Calls Tryz.prog 26 #[.string a0] w fun e w'=>∃v0_:Value,e=.returned (.tuple #[v0_,.int .i64 r2])∧Kd.R k34 34 w' w.heap.size (fun _=>True) v0_ r1∧Below w.heap.size w w':=by
 have HS_:=ak.mk hS_;clear hS_;have HB:=ak.mk (Below.refl w.heap.size w);have H:((p9.f a0 (⟨#[]⟩:ByteArray)).bind fun Ku=>(some (Ku.1,Ku.2)))=some (r1,r2):=h;clear h;replace H:=Option.bind_eq_some_iff.mp H;obtain⟨⟨t322,t323⟩,A20,H⟩:=H;replace H:(some (t322,t323))=some (r1,r2):=H;have A2:=ak.mk A20;clear A20;simp only[Option.some.injEq,Prod.mk.injEq]at H;obtain⟨rfl,rfl⟩:=H;go_enter Tryz.func26,Tryz.ntmps26
 go_wp2_with(first|((with_reducible refine aZ (f:=24) rfl ?_);refine dI (some 5) rfl rfl Tryz.func24 (by kernel_rfl) rfl #[.string a0,.string (⟨#[]⟩:ByteArray)] rfl q'a ?_;(with_reducible refine(p9.calls a0 (⟨#[]⟩:ByteArray) t322 t323 _ A2.out (Go.Proofs.YtkcmghlhpbepcaaGreatDoor.Std.below HS_.out bz)).mono ?_);rintro e w3 ⟨v324,rfl,ho0,hb⟩;refine⟨_,rfl,?_⟩;have n0_:=ak.mk (Kd.d9 ho0 (aR bz));have n1_:=ak.mk (aG bz hb);clear HB;have HO325:=n0_;have HB:=n1_;clear n0_ n1_;(try clear hb);(try clear hb2);(try clear hk);(try clear hi);(try clear ho0)))
 go_ret2
 exact⟨_,by first|rfl|(simp[aJ,aM]<;>rfl)|(simp[*,aJ,aM]<;>rfl),by(with_reducible repeat(first|apply Kd.fq|apply Kd.fT|apply Kd.fG));exact HO325.out,bz⟩
end Go.Proofs.aj.W7
namespace Go.Proofs.aj.W7
open Go.RowKit Go.Proofs Go.Proofs.aj Go.Proofs.YtkcmghlhpbepcaaGreatDoor Go.Proofs.ah.aD Go.Proofs.YtkcmghlhpbepcaaGreatDoor.Ch
def toksF(s nm:Txt):List Tk:=(inL (Bj s) nm).map CG
def ansF(o:Option (List Rw)):List Rw×Int:=match o with|none=>([],2)|some r=>(r,0)
end Go.Proofs.aj.W7
namespace Go.Proofs.YtkcmghlhpbepcaaGreatDoor.Ch
open Go Go.RowKit
theorem Cr:∀(p:Nat) (l:List UInt8),p≤l.length→Utf8.decode ⟨l.toArray⟩ p=Lib.decodeL (l.drop p)
 |0,l,_=>rfl
 |p+1,[],h=>by simp at h
 |p+1,c::l,h=>by
  rw[K9,List.drop_succ_cons];exact Cr p l (by simpa using h)
theorem La(n b0 b1 b2 b3:Nat):1≤(Lib.decodeN n b0 b1 b2 b3).2:=by
 unfold Lib.decodeN
 repeat' split
 all_goals simp
theorem Ct(l:List UInt8):1≤(Lib.decodeL l).2:=by rw[Lib.decodeL_N];exact La _ _ _ _ _
theorem AL(l:List UInt8):∀(fuel p:Nat),p≤l.length→l.length - p≤fuel→Lib.validD (l.drop p)=true→(0:UInt8)∉l.drop p→qm ⟨l.toArray⟩ fuel p=l.drop p
 |0,p,hp,hf,_,_=>by rw[qm,List.drop_eq_nil_of_le (by omega)]
 |fuel+1,p,hp,hf,hv,h0=>by
  have hz:(⟨l.toArray⟩:ByteArray).size=l.length:=by show(List.toArray l).size=_;simp
  rw[qm,hz]
  by_cases h:p<l.length
  ·rw[if_pos h,Cr p l hp]
   have hne:l.drop p≠[]:=by
    intro e;have:=congrArg List.length e;rw[List.length_drop]at this;simp at this;omega
   rw[Lib.validD_step _ hne]at hv;have hle:=Lib.decodeL_le (l.drop p) hne;have hpos:=Ct (l.drop p);rw[List.length_drop]at hle
   by_cases hb:(Lib.decodeL (l.drop p)).1=65533∧(Lib.decodeL (l.drop p)).2=1
   ·rw[if_pos hb]at hv;cases hv
   ·rw[if_neg hb,List.drop_drop]at hv
    have he:=Lib.encode_decode (l.drop p) hne hb
    have hr0:(Lib.decodeL (l.drop p)).1≠0:=by
     intro e;rw[e]at he;have e2:Lib.encodeRune ((0:Nat):Int)=[0]:=by decide
     rw[e2]at he;refine h0 (List.mem_of_mem_take (i:=(Lib.decodeL (l.drop p)).2) ?_);rw[←he];simp
    have hru:ruF (Lib.decodeL (l.drop p)).1=(l.drop p).take (Lib.decodeL (l.drop p)).2:=by
     unfold ruF;rw[if_neg hr0];exact he
    rw[hru,AL l fuel (p+(Lib.decodeL (l.drop p)).2) (by omega) (by omega) hv (fun hm=>h0 (by
     rw[←List.drop_drop]at hm;exact List.mem_of_mem_drop hm)),←List.drop_drop,List.take_append_drop]
  ·rw[if_neg h,List.drop_eq_nil_of_le (by omega)]
theorem Lb:∀(l:List UInt8),(13:UInt8)∉l→FL l=l
 | [],_=>by decide
 |c::l,h=>by
  rw[MH c l (fun e=>h (by simp[e])),Lb l (fun e=>h (by simp[e]))]
theorem Je(l:List UInt8)(hv:Lib.validD l=true)(h0:(0:UInt8)∉l)(h13:(13:UInt8)∉l):Bj l=l:=by
 have hz:(⟨l.toArray⟩:ByteArray).size=l.length:=by show(List.toArray l).size=_;simp
 unfold Bj deF;rw[hz,AL l l.length 0 (by omega) (by omega) (by simpa using hv) (by simpa using h0),List.drop_zero,Lb l h13]
theorem Lc(n n' b0 b1 b2 b3 c1 c2 c3:Nat)(hn:n≤n')(h1:1<n→c1=b1)(h2:2<n→c2=b2)(h3:3<n→c3=b3)(hv:Lib.decodeN n b0 b1 b2 b3≠(65533,1)):Lib.decodeN n' b0 c1 c2 c3=Lib.decodeN n b0 b1 b2 b3:=by
 unfold Lib.decodeN at hv⊢
 by_cases a0:b0<128
 ·rw[if_pos a0,if_pos a0]
 rw[if_neg a0]at hv;rw[if_neg a0,if_neg a0]
 by_cases a1:b0 / 32=6∧(1<n∧b1 / 64=2)
 ·obtain⟨x,y,z⟩:=a1
  have e1:b0 / 32=6∧(1<n'∧b1 / 64=2):=⟨x,by omega,z⟩;have e2:b0 / 32=6∧(1<n∧b1 / 64=2):=⟨x,y,z⟩;rw[h1 y,if_pos e1,if_pos e2]
 rw[if_neg a1]at hv;rw[if_neg a1]
 by_cases a2:b0 / 16=14∧(1<n∧b1 / 64=2)∧(2<n∧b2 / 64=2)
 ·obtain⟨x,⟨y1,y2⟩,z1,z2⟩:=a2
  have e0:¬(b0 / 32=6∧(1<n'∧b1 / 64=2)):=by omega
  have e1:b0 / 16=14∧(1<n'∧b1 / 64=2)∧(2<n'∧b2 / 64=2):=⟨x,⟨by omega,y2⟩,by omega,z2⟩;have e2:b0 / 16=14∧(1<n∧b1 / 64=2)∧(2<n∧b2 / 64=2):=⟨x,⟨y1,y2⟩,z1,z2⟩;rw[h1 y1,h2 z1,if_neg e0,if_pos e1,if_pos e2]
 rw[if_neg a2]at hv;rw[if_neg a2]
 by_cases a3:b0 / 8=30∧(1<n∧b1 / 64=2)∧(2<n∧b2 / 64=2)∧(3<n∧b3 / 64=2)
 ·obtain⟨x,⟨y1,y2⟩,⟨z1,z2⟩,w1,w2⟩:=a3
  have e0:¬(b0 / 32=6∧(1<n'∧b1 / 64=2)):=by omega
  have e4:¬(b0 / 16=14∧(1<n'∧b1 / 64=2)∧(2<n'∧b2 / 64=2)):=by omega
  have e1:b0 / 8=30∧(1<n'∧b1 / 64=2)∧(2<n'∧b2 / 64=2)∧(3<n'∧b3 / 64=2):=⟨x,⟨by omega,y2⟩,⟨by omega,z2⟩,by omega,w2⟩;have e2:b0 / 8=30∧(1<n∧b1 / 64=2)∧(2<n∧b2 / 64=2)∧(3<n∧b3 / 64=2):=⟨x,⟨y1,y2⟩,⟨z1,z2⟩,w1,w2⟩;rw[h1 y1,h2 z1,h3 w1,if_neg e0,if_neg e4,if_pos e1,if_pos e2]
 rw[if_neg a3]at hv;exact absurd rfl hv
theorem Ld(a b:List UInt8)(ha:a≠[])(hv:¬((Lib.decodeL a).1=65533∧(Lib.decodeL a).2=1)):Lib.decodeL (a++b)=Lib.decodeL a:=by
 have hpos:0<a.length:=List.length_pos_iff.2 ha
 have g:∀i,i<a.length→(a++b).getD i 0=a.getD i 0:=by
  intro i hi;simp[List.getD_eq_getElem?_getD,List.getElem?_append_left hi]
 rw[Lib.decodeL_N,Lib.decodeL_N,g 0 hpos];refine Lc _ _ _ _ _ _ _ _ _ (by rw[List.length_append];omega) (fun h=>by rw[g 1 h]) (fun h=>by rw[g 2 h]) (fun h=>by rw[g 3 h]) (fun e=>hv ?_);rw[Lib.decodeL_N,e];exact⟨rfl,rfl⟩
theorem EO:∀(N:Nat) (a b:List UInt8),a.length≤N→Lib.validD a=true→Lib.validD (a++b)=Lib.validD b
 |0,a,b,hN,_=>by
  obtain rfl:a=[]:=List.eq_nil_of_length_eq_zero (by omega);rfl
 |N+1,a,b,hN,hv=>by
  by_cases ha:a=[]
  ·subst ha;rfl
  ·rw[Lib.validD_step _ ha]at hv
   by_cases hb:(Lib.decodeL a).1=65533∧(Lib.decodeL a).2=1
   ·rw[if_pos hb]at hv;cases hv
   ·rw[if_neg hb]at hv
    have hle:=Lib.decodeL_le a ha;have hpos:=Ct a;rw[Lib.validD_step _ (by simp[ha]),Ld a b ha hb,if_neg hb,List.drop_append_of_le_length hle];exact EO N _ b (by rw[List.length_drop];omega) hv
def Cln(l:List UInt8):Prop:=Lib.validD l=true∧(0:UInt8)∉l∧(13:UInt8)∉l
theorem lW{a b:List UInt8}(ha:Cln a)(hb:Cln b):Cln (a++b):=by
 refine⟨by rw[EO a.length a b (Nat.le_refl _) ha.1];exact hb.1,?_,?_⟩
 ·intro h
  rcases List.mem_append.1 h with h|h
  ·exact ha.2.1 h
  ·exact hb.2.1 h
 ·intro h
  rcases List.mem_append.1 h with h|h
  ·exact ha.2.2 h
  ·exact hb.2.2 h
theorem ng:Cln []:=⟨rfl,by simp,by simp⟩
theorem mI{l:List UInt8}(h:l.all easyB=true):Cln l:=by
 induction l with
 |nil=>exact ng
 |cons c l ih=>
  simp only[List.all_cons,Bool.and_eq_true]at h;obtain⟨h1,h2⟩:=h;obtain⟨i1,i2,i3⟩:=ih h2;simp only[easyB,Bool.and_eq_true,decide_eq_true_eq]at h1;obtain⟨⟨a,b⟩,d⟩:=h1;exact⟨by rw[Lib.validD_cons c l d];exact i1,by simp[i2,Ne.symm a],by simp[i3,Ne.symm b]⟩
theorem Qz{l:List UInt8}(h:Cln l):Bj l=l:=Je l h.1 h.2.1 h.2.2
end Go.Proofs.YtkcmghlhpbepcaaGreatDoor.Ch
namespace Go.Proofs.YtkcmghlhpbepcaaGreatDoor.Ch
open Go Go.RowKit Go.Proofs.YtkcmghlhpbepcaaGreatDoor
theorem valid2(c d:UInt8)(r:List UInt8)(h0:c.toNat / 32=6)(h1:d.toNat / 64=2)(h2:128≤c.toNat % 32 * 64+d.toNat % 64):Lib.validD (c::d::r)=Lib.validD r:=by
 rw[Lib.validD_step _ (by simp),Lib.decodeL_N]
 have e:Lib.decodeN (c::d::r).length ((c::d::r).getD 0 0).toNat ((c::d::r).getD 1 0).toNat ((c::d::r).getD 2 0).toNat ((c::d::r).getD 3 0).toNat=(c.toNat % 32 * 64+d.toNat % 64,2):=by
  have e1:c.toNat / 32=6∧(1<(c::d::r).length∧d.toNat / 64=2):=⟨h0,by simp,h1⟩;show Lib.decodeN (c::d::r).length c.toNat d.toNat _ _=_;unfold Lib.decodeN;rw[if_neg (by omega),if_pos e1,if_pos h2]
 rw[e,if_neg (by simp)];rfl
theorem valid3(c d f:UInt8)(r:List UInt8)(h0:c.toNat / 16=14)(h1:d.toNat / 64=2)(h2:f.toNat / 64=2)(h3:2048≤c.toNat % 16 * 4096+d.toNat % 64 * 64+f.toNat % 64)
 (h4:c.toNat % 16 * 4096+d.toNat % 64 * 64+f.toNat % 64<55296∨57344≤c.toNat % 16 * 4096+d.toNat % 64 * 64+f.toNat % 64):Lib.validD (c::d::f::r)=Lib.validD r:=by
 rw[Lib.validD_step _ (by simp),Lib.decodeL_N]
 have e:Lib.decodeN (c::d::f::r).length ((c::d::f::r).getD 0 0).toNat ((c::d::f::r).getD 1 0).toNat ((c::d::f::r).getD 2 0).toNat ((c::d::f::r).getD 3 0).toNat=(c.toNat % 16 * 4096+d.toNat % 64 * 64+f.toNat % 64,3):=by
  have e1:c.toNat / 16=14∧(1<(c::d::f::r).length∧d.toNat / 64=2)∧(2<(c::d::f::r).length∧f.toNat / 64=2):=⟨h0,⟨by simp,h1⟩,by simp,h2⟩;have e0:¬(c.toNat / 32=6∧(1<(c::d::f::r).length∧d.toNat / 64=2)):=by omega
  show Lib.decodeN (c::d::f::r).length c.toNat d.toNat f.toNat _=_;unfold Lib.decodeN;rw[if_neg (by omega),if_neg e0,if_pos e1,if_pos (by omega)]
 rw[e,if_neg (by simp)];rfl
theorem valid4(c d f g:UInt8)(r:List UInt8)(h0:c.toNat / 8=30)(h1:d.toNat / 64=2)(h2:f.toNat / 64=2)(h3:g.toNat / 64=2)(h4:65536≤c.toNat % 8 * 262144+d.toNat % 64 * 4096+f.toNat % 64 * 64+g.toNat % 64)
 (h5:c.toNat % 8 * 262144+d.toNat % 64 * 4096+f.toNat % 64 * 64+g.toNat % 64≤1114111):Lib.validD (c::d::f::g::r)=Lib.validD r:=by
 rw[Lib.validD_step _ (by simp),Lib.decodeL_N]
 have e:Lib.decodeN (c::d::f::g::r).length ((c::d::f::g::r).getD 0 0).toNat ((c::d::f::g::r).getD 1 0).toNat ((c::d::f::g::r).getD 2 0).toNat ((c::d::f::g::r).getD 3 0).toNat=(c.toNat % 8 * 262144+d.toNat % 64 * 4096+f.toNat % 64 * 64+g.toNat % 64,4):=by
  have e1:c.toNat / 8=30∧(1<(c::d::f::g::r).length∧d.toNat / 64=2)∧(2<(c::d::f::g::r).length∧f.toNat / 64=2)∧(3<(c::d::f::g::r).length∧g.toNat / 64=2):=⟨h0,⟨by simp,h1⟩,⟨by simp,h2⟩,by simp,h3⟩;have e0:¬(c.toNat / 32=6∧(1<(c::d::f::g::r).length∧d.toNat / 64=2)):=by omega
  have e2:¬(c.toNat / 16=14∧(1<(c::d::f::g::r).length∧d.toNat / 64=2)∧(2<(c::d::f::g::r).length∧f.toNat / 64=2)):=by omega
  show Lib.decodeN (c::d::f::g::r).length c.toNat d.toNat f.toNat g.toNat=_;unfold Lib.decodeN;rw[if_neg (by omega),if_neg e0,if_neg e2,if_pos e1,if_pos (by omega)]
 rw[e,if_neg (by simp)];rfl
theorem esc_hi(q:Bool)(c:UInt8)(h:128≤c.toNat):om q c=[c]:=by
 have:=mo (p:=fun c=>decide (c.toNat<128)||(om true c==[c]&&om false c==[c])) (by decide +kernel) c;rw[decide_eq_false (by omega)]at this;simp at this;cases q
 ·exact this.2
 ·exact this.1
theorem esc_lo(q:Bool)(c:UInt8)(h:c.toNat<128):∀x∈om q c,x.toNat<128:=by
 have:=mo (p:=fun c=>!decide (c.toNat<128)||((om true c).all (fun x=>decide (x.toNat<128))&&(om false c).all (fun x=>decide (x.toNat<128)))) (by decide +kernel) c;rw[decide_eq_true h]at this;simp only[Bool.not_true,Bool.false_or,Bool.and_eq_true,List.all_eq_true,decide_eq_true_eq]at this;cases q
 ·exact this.2
 ·exact this.1
theorem oI{c:UInt8}(h:c≠194)(l:List UInt8):uL (c::l)=false:=by
 unfold uL Lib.hasPrefix;simp[List.isPrefixOf,Ne.symm h]
theorem AU(q:Bool)(c:UInt8)(l:List UInt8)(h:128≤c.toNat)(hh:uL (c::l)=false):wrL q (c::l)=c::wrL q l:=by
 rw[AV hh,esc_hi q c h];rfl
theorem Lr(a X:List UInt8)(h:∀x∈a,x.toNat<128):Lib.validD (a++X)=Lib.validD X:=by
 have:=Lib.validD_ascii a.length (a++X) (by rw[List.take_left];exact h)
 rwa [List.drop_left]at this
theorem n194{d:UInt8}(h:d.toNat / 64=2):d≠194:=by
 rintro rfl;simp at h
theorem xR(q:Bool):∀(N:Nat) (l:List UInt8),l.length≤N→Lib.validD l=true→Lib.validD (wrL q l)=true
 |0,l,hN,_=>by
  obtain rfl:l=[]:=List.eq_nil_of_length_eq_zero (by omega);rfl
 |N+1,[],_,_=>rfl
 |N+1,c::t,hN,hv=>by
  have hN':t.length≤N:=by simpa using hN
  rcases Lib.decodeN_shape (c::t).length ((c::t).getD 0 0).toNat ((c::t).getD 1 0).toNat ((c::t).getD 2 0).toNat ((c::t).getD 3 0).toNat with⟨h0,-⟩|⟨h0,hn,h1,h2,-⟩|⟨h0,hn,h1,h2,h3,h4,-⟩|⟨h0,hn,h1,h2,h3,h4,h5,-⟩|hb
  ·have h0:c.toNat<128:=h0
   rw[Lib.validD_cons c t h0]at hv;rw[AV (oI (by rintro rfl;simp at h0) t),Lr _ _ (esc_lo q c h0)];exact xR q N t hN' hv
  ·cases t with
   |nil=>simp at hn
   |cons d r=>
    have h0:c.toNat / 32=6:=h0;have h1:d.toNat / 64=2:=h1;have h2:128≤c.toNat % 32 * 64+d.toNat % 64:=h2;rw[valid2 c d r h0 h1 h2]at hv;have hr:=xR q N r (by simp at hN';omega) hv;cases hh:uL (c::d::r)with
    |true=>
     rw[E5 hh,Lr _ _ (by decide)];exact hr
    |false=>
     rw[AU q c _ (by omega) hh,AU q d _ (by omega) (oI (n194 h1) r),valid2 c d _ h0 h1 h2];exact hr
  ·rcases t with _|⟨d,_|⟨f,r⟩⟩
   ·simp at hn
   ·simp at hn
   ·have h0:c.toNat / 16=14:=h0
    have h1:d.toNat / 64=2:=h1;have h2:f.toNat / 64=2:=h2;rw[valid3 c d f r h0 h1 h2 h3 h4]at hv;have hr:=xR q N r (by simp at hN';omega) hv;rw[AU q c _ (by omega) (oI (by rintro rfl;simp at h0) _),AU q d _ (by omega) (oI (n194 h1) _),AU q f _ (by omega) (oI (n194 h2) _),valid3 c d f _ h0 h1 h2 h3 h4];exact hr
  ·rcases t with _|⟨d,_|⟨f,_|⟨g,r⟩⟩⟩
   ·simp at hn
   ·simp at hn
   ·simp at hn
   ·have h0:c.toNat / 8=30:=h0
    have h1:d.toNat / 64=2:=h1;have h2:f.toNat / 64=2:=h2;have h3:g.toNat / 64=2:=h3;rw[valid4 c d f g r h0 h1 h2 h3 h4 h5]at hv;have hr:=xR q N r (by simp at hN';omega) hv;rw[AU q c _ (by omega) (oI (by rintro rfl;simp at h0) _),AU q d _ (by omega) (oI (n194 h1) _),AU q f _ (by omega) (oI (n194 h2) _),AU q g _ (by omega) (oI (n194 h3) _),valid4 c d f g _ h0 h1 h2 h3 h4 h5];exact hr
  ·rw[Lib.validD_step _ (by simp),Lib.decodeL_N,hb,if_pos ⟨rfl,rfl⟩]at hv
   cases hv
theorem Gu(q:Bool)(z c:UInt8)(hz:z=0∨z=13)(h:c≠z):z∉om q c:=by
 have:=mo (p:=fun c=>(c==0||(!(om true c).contains 0&& !(om false c).contains 0))&&(c==13||(!(om true c).contains 13&& !(om false c).contains 13))) (by decide +kernel) c;simp only[Bool.and_eq_true,Bool.or_eq_true,beq_iff_eq,Bool.not_eq_true',List.contains_eq_mem,decide_eq_false_iff_not]at this
 rcases hz with rfl|rfl
 ·rcases this.1 with h1|h1
  ·exact absurd h1 h
  ·cases q
   ·exact h1.2
   ·exact h1.1
 ·rcases this.2 with h1|h1
  ·exact absurd h1 h
  ·cases q
   ·exact h1.2
   ·exact h1.1
theorem zM(q:Bool)(z:UInt8)(hz:z=0∨z=13):∀(N:Nat) (l:List UInt8),l.length≤N→z∉l→z∉wrL q l
 |0,l,hN,_=>by
  obtain rfl:l=[]:=List.eq_nil_of_length_eq_zero (by omega);simp[wrL]
 |N+1,[],_,_=>by simp[wrL]
 |N+1,c::t,hN,h=>by
  have hN':t.length≤N:=by simpa using hN
  cases hh:uL (c::t)with
  |true=>
   rw[E5 hh,List.mem_append];rintro(e|e)
   ·rcases hz with rfl|rfl<;>simp at e
   ·exact zM q z hz N _ (by rw[List.length_drop];simp;omega) (fun e2=>h (List.mem_of_mem_drop e2)) e
  |false=>
   rw[AV hh,List.mem_append];rintro(e|e)
   ·exact Gu q z c hz (fun e2=>h (by simp[e2])) e
   ·exact zM q z hz N t hN' (fun e2=>h (by simp[e2])) e
theorem cln_wr(q:Bool){l:List UInt8}(h:Cln l):Cln (wrL q l):=⟨xR q l.length l (Nat.le_refl _) h.1,zM q 0 (.inl rfl) l.length l (Nat.le_refl _) h.2.1,zM q 13 (.inr rfl) l.length l (Nat.le_refl _) h.2.2⟩
end Go.Proofs.YtkcmghlhpbepcaaGreatDoor.Ch
namespace Go.Proofs.aj.W7
open Go.RowKit Go.Proofs Go.Proofs.aj Go.Proofs.YtkcmghlhpbepcaaGreatDoor Go.Proofs.ah.aD Go.Proofs.YtkcmghlhpbepcaaGreatDoor.Ch
structure Jo (t:Tok):Prop where
 name:Cln t.name
 data:Cln t.data
 attrs:∀a∈t.attrs,Cln a.1∧Cln a.2
theorem Gm:∀(l:List (Txt×Txt)),(∀a∈l,Cln a.1∧Cln a.2)→Cln (jZ l)
 | [],_=>ng
 |a::l,h=>by
  have h1:=h a (by simp)
  have e:jZ (a::l)=[32]++(a.1++([61,34]++(wrL true a.2++([34]++jZ l)))):=by
   show(32::(a.1++61::34::(wrL true a.2++[34])))++jZ l=_;simp
  rw[e];exact lW (mI (by decide)) (lW h1.1 (lW (mI (by decide)) (lW (cln_wr true h1.2) (lW (mI (by decide)) (Gm l (fun b hb=>h b (by simp[hb])))))))
theorem PV{o:Txt}(ho:Cln o){t:Tok}(h1:Cln t.name)(h2:∀a∈t.attrs,Cln a.1∧Cln a.2):Cln (pR o t):=by
 unfold pR;refine lW (lW (lW (lW ho h1) (Gm _ h2)) ?_) (mI (by decide));unfold oO
 split
 ·exact mI (by decide)
 ·exact ng
theorem tok_cln(b:Bool){t:Tok}(h:Jo t):Cln (rC b t):=by
 unfold rC
 split
 ·split
  ·exact h.data
  ·exact cln_wr false h.data
 ·split
  ·exact PV (mI (by decide)) h.name h.attrs
  ·split
   ·exact PV (mI (by decide)) h.name (by simp)
   ·split
    ·exact lW (lW (mI (by decide)) h.data) (mI (by decide))
    ·split
     ·exact lW (lW (mI (by decide)) h.data) (mI (by decide))
     ·exact ng
theorem Fb:∀(L:List Tok) (b:Bool),(∀t∈L,Jo t)→Cln (eH b L)
 | [],_,_=>ng
 |t::L,b,h=>lW (tok_cln b (h t (by simp))) (Fb L _ (fun x hx=>h x (by simp[hx])))
structure Jm (x:Rw):Prop where
 name:Cln x.f2.data.toList
 data:Cln x.f3.data.toList
 attrs:∀a∈x.f4,Cln a.f0.data.toList∧Cln a.f1.data.toList
theorem tokP_cln{x:Rw}(h:Jm x):Jo (oo x):=by
 unfold oo
 split
 ·refine⟨h.name,ng,fun a ha=>?_⟩
  obtain⟨y,hy,rfl⟩:=List.mem_map.1 ha;exact h.attrs y hy
 ·split
  ·exact⟨ng,h.data,by simp⟩
  ·exact⟨ng,h.data,by simp⟩
theorem Lv:∀(r:List Rw) (op:List ByteArray),(∀x∈r,Jm x)→(∀n∈op,Cln n.data.toList)→∀t∈lX r op,Jo t
 | [],op,_,ho=>by
   intro t ht;obtain⟨n,hn,rfl⟩:=List.mem_map.1 ht;exact⟨ho n (List.mem_reverse.1 hn),ng,by simp[endP]⟩
 |x::r,op,hr,ho=>by
  intro t ht;rw[lX]at ht
  rcases List.mem_append.1 ht with ht|ht
  ·obtain⟨n,hn,rfl⟩:=List.mem_map.1 ht
   exact⟨ho n (List.mem_of_mem_drop (List.mem_reverse.1 hn)),ng,by simp[endP]⟩
  ·rcases List.mem_cons.1 ht with rfl|ht
   ·exact tokP_cln (hr x (by simp))
   ·refine Lv r _ (fun y hy=>hr y (by simp[hy])) (fun n hn=>?_) t ht
    unfold opA at hn
    split at hn
    ·rcases List.mem_append.1 hn with hn|hn
     ·exact ho n (List.mem_of_mem_take hn)
     ·obtain rfl:=List.mem_singleton.1 hn
      exact(hr x (by simp)).name
    ·exact ho n (List.mem_of_mem_take hn)
theorem Lx(M:Nat):∀(r:List Rw) (op:List ByteArray),(∀x∈r,x.f3.size≤M∧x.f4.length≤1000000)→xP (emit r op)≤r.length * M∧∀t∈emit r op,t.f3.length≤1000000
 | [],op,_=>by
   have e:∀m:List ByteArray,xP (m.map zB)=0:=by
    intro m
    induction m with
    |nil=>rfl
    |cons n m ih=>
     have e1:xP ((n::m).map zB)=0+xP (m.map zB):=rfl;rw[e1,ih]
   refine⟨by rw[emit,e];omega,fun t ht=>?_⟩;obtain⟨n,hn,rfl⟩:=List.mem_map.1 ht;simp[zB]
 |x::r,op,h=>by
  have e:∀m:List ByteArray,xP (m.map zB)=0:=by
   intro m
   induction m with
   |nil=>rfl
   |cons n m ih=>
    have e1:xP ((n::m).map zB)=0+xP (m.map zB):=rfl;rw[e1,ih]
  obtain⟨i1,i2⟩:=Lx M r (opA (op.take x.f0.toNat) x) (fun y hy=>h y (by simp[hy]));have hx:=h x (by simp)
  have ht:(rD x).f2.size≤M∧(rD x).f3.length≤1000000:=by
   unfold rD
   split
   ·exact⟨Nat.zero_le _,hx.2⟩
   ·split
    ·exact⟨hx.1,Nat.zero_le _⟩
    ·exact⟨hx.1,Nat.zero_le _⟩
  refine⟨?_,fun t hm=>?_⟩
  ·have e2:xP (emit (x::r) op)=xP ((op.drop x.f0.toNat).reverse.map zB)+((rD x).f2.size+xP (emit r (opA (op.take x.f0.toNat) x))):=by
    rw[emit];simp[xP]
   rw[e2,e,List.length_cons,Nat.add_mul];omega
  ·rw[emit]at hm
   rcases List.mem_append.1 hm with hm|hm
   ·obtain⟨n,hn,rfl⟩:=List.mem_map.1 hm
    simp[zB]
   ·rcases List.mem_cons.1 hm with rfl|hm
    ·exact ht.2
    ·exact i2 t hm
theorem MQ(xs:List Rw)(s:ByteArray)(hs:s.data.toList=Ja (lX xs []))(hz:s.size≤65536)(hf:RowsFit xs [] [])(hg:uK xs)(hc:∀x∈xs,Jm x)(M:Nat)(hM:∀x∈xs,x.f3.size≤M∧x.f4.length≤1000000)(hb:xs.length * M≤1000000000):
 p9.f s ⟨#[]⟩=some (xs,0)∧iH.f s=some (xs,0):=by
 have hl:s.data.toList.length=s.size:=Array.length_toList;have hcl:Cln s.data.toList:=by rw[hs];exact Fb _ _ (Lv xs [] hc (by simp))
 have hr:=Qz hcl
 have hin:inL s.data.toList []=lX xs []:=by
  unfold inL;rw[if_neg (by decide),hs];exact emit_cut hf hg
 have key:p9.f s ⟨#[]⟩=some (xs,0):=by
  unfold p9.f;rw[if_neg (by omega)];unfold l7.f;rw[if_pos (by omega),Option.bind_some,hr];unfold pX.f;have hq:(⟨s.data.toList.toArray⟩:ByteArray).size=s.size:=by show(List.toArray s.data.toList).size=_;simp
  rw[if_pos (by omega),Option.bind_some];obtain⟨t1,t2⟩:=Lx M xs [] hM
  have e:((inL (⟨s.data.toList.toArray⟩:ByteArray).data.toList (⟨#[]⟩:ByteArray).data.toList).map CG)=emit xs []:=by
   show(inL s.data.toList []).map CG=_;rw[hin,PD]
  show(jV.f ((inL (⟨s.data.toList.toArray⟩:ByteArray).data.toList (⟨#[]⟩:ByteArray).data.toList).map CG)).bind _=_;rw[e,tree_f (emit xs []) (by omega) t2,Gg xs [] [] (by intro n hn;cases hn) hf];rfl
 refine⟨key,?_⟩;unfold iH.f;rw[key,Option.bind_some]
theorem soft_t(s:ByteArray)(k:Nat)(hk:100≤k):nR.f k s=some (Go.Proofs.YtkcmghlhpbepcaaGreatDoor.kS s.data.toList):=by
 unfold nR.f;rw[qG _ _ _ (by simp) (by simp;omega)]
 have e:∀l:List ByteArray,nM l s=(l.map (fun x=>x.data.toList)).contains s.data.toList:=by
  intro l;unfold nM;rw[List.contains_eq_any_beq,List.any_map]
  congr 1
  funext x
  exact Bool.eq_iff_iff.2 ⟨fun h=>by simpa using(by simpa using h:x.data.toList=s.data.toList).symm,fun h=>by simpa using(by simpa using h:s.data.toList=x.data.toList).symm⟩
 rw[e];rfl
theorem kids_end(xs:List Rw)(i:Nat)(hi:i<xs.length):(jf xs i=[]→fV xs i=i+1)∧(∀k0,jf xs i=[k0]→k0=i+1∧i+1<fV xs i∧fV xs (i+1)=fV xs i):=by
 have hgt:=kN xs i;have hle:=mZ xs i hi;rw[yH xs i hi]
 by_cases h:i+1<fV xs i
 ·have hl:i+1<xs.length:=by omega
  rw[pF h hl];refine⟨fun e=>(by cases e),fun k0 e=>?_⟩;obtain⟨e1,e2⟩:=List.cons.inj e;have h3:=Dr xs i (i+1) (by omega) h hi;refine⟨e1.symm,h,?_⟩
  by_cases h4:fV xs (i+1)<fV xs i
  ·rw[pF h4 (by omega)]at e2
   cases e2
  ·omega
 ·rw[qj h]
  exact⟨fun _=>by omega,fun k0 e=>by cases e⟩
theorem Fa(xs:List Rw)(i:Nat)(hi:i<xs.length)(h:iM.f xs i=some true)(hl:xs.length<100000)(hz:∀x∈xs,x.f3.size<1000000000):
 (kJ xs[i].f2=true→fV xs i=i+1)∧((mD xs[i].f2.data.toList||Go.Proofs.YtkcmghlhpbepcaaGreatDoor.kS xs[i].f2.data.toList)=true→fV xs i=i+1∨
   ∃h1:i+1<xs.length,i+1<fV xs i∧fV xs (i+1)=fV xs i∧xs[i+1].f1=1∧(mD xs[i].f2.data.toList=true→Lib.contains xs[i+1].f3.data.toList [60,47]=false)):=by
 unfold iM.f at h;rw[dif_pos ⟨by omega,by omega⟩]at h;unfold mK.f at h;rw[if_pos (by omega),Option.bind_some,void_f _ _ (by omega),Option.bind_some,raw_f _ _ (by omega),Option.bind_some,soft_t _ _ (by omega),Option.bind_some,EY,PE]at h;simp only[Int.toNat_natCast]at h;obtain⟨k1,k2⟩:=kids_end xs i hi;have hlt:=Jk xs i;generalize jf xs i=ks at *
 rcases ks with _|⟨k0,_|⟨k3,ks⟩⟩
 ·exact⟨fun _=>k1 rfl,fun _=>.inl (k1 rfl)⟩
 ·obtain⟨rfl,b1,b2⟩:=k2 k0 rfl
  have h1:i+1<xs.length:=hlt (i+1) (by simp);simp only[List.map_cons,List.map_nil,wiF]at h;cases hv:kJ xs[i].f2 with
  |true=>rw[hv]at h;simp at h
  |false=>
   rw[hv,if_neg (by decide)]at h;refine⟨fun e=>(by cases e),fun hrs=>.inr ⟨h1,b1,b2,?_⟩⟩;rw[hrs,if_neg (by decide)]at h;unfold wiOne at h;rw[dif_pos ⟨by omega,by omega⟩]at h;have e:xs[((i+1:Nat):Int).toNat]'(by rw[Int.toNat_natCast];exact h1)=xs[i+1]:=rfl;simp only[e]at h
   by_cases hk:xs[i+1].f1=1
   ·refine⟨hk,fun hr=>?_⟩
    have hs:Go.Proofs.YtkcmghlhpbepcaaGreatDoor.kS xs[i].f2.data.toList=false:=(KX hr).2;rw[if_pos hk,hs,if_neg (by decide)]at h;unfold strings_Contains.f at h;have hz1:=hz _ (List.getElem_mem h1);rw[if_pos (by omega),Option.bind_some]at h;cases hc:Lib.contains xs[i+1].f3.data.toList [60,47]with
    |false=>rfl
    |true=>
     have e2:Lib.contains xs[i+1].f3.data.toList (⟨#[60,47]⟩:ByteArray).data.toList=true:=hc;rw[e2]at h;simp at h
   ·rw[if_neg hk]at h
    cases h
 ·simp only[List.map_cons,wiF]at h
  cases hv:kJ xs[i].f2 with
  |true=>rw[hv]at h;simp at h
  |false=>
   rw[hv,if_neg (by decide)]at h;refine⟨fun e=>(by cases e),fun hrs=>?_⟩;rw[hrs,if_neg (by decide)]at h;cases h
theorem row_dist(l:List At)(hl:l.length≤1000000)(y0 y1:Int)(y2 y3:ByteArray):∀k:Nat,
 (∀i:Nat,i≤l.length→rows_row.l0 k l (l.length:Int) (i:Int) y0 y1 y2 y3 l=some true→∀i' j':Nat,(h1:i'<l.length)→(h2:j'<i')→i≤i'→l[i'].f0.toList≠(l[j']'(by omega)).f0.toList)∧
 (∀i j:Nat,(hi:i<l.length)→j≤i→∀a1:ByteArray,rows_row.l1 k l (l.length:Int) (i:Int) (l.take i) (i j:Int) y0 y1 y2 y3 l l[i].f0 a1=some true→
   (∀j':Nat,j≤j'→(h2:j'<i)→l[i].f0.toList≠(l[j']'(by omega)).f0.toList)∧∀i' j':Nat,(h1:i'<l.length)→(h2:j'<i')→i+1≤i'→l[i'].f0.toList≠(l[j']'(by omega)).f0.toList):=by
 intro k
 induction k with
 |zero=>exact⟨fun i _ h=>by simp[rows_row.l0]at h,fun i j _ _ a h=>by simp[rows_row.l1]at h⟩
 |succ k ih=>
  obtain⟨ih0,ih1⟩:=ih;refine⟨fun i hi h=>?_,fun i j hi hj a h=>?_⟩
  ·simp only[rows_row.l0]at h
   by_cases hlt:i<l.length
   ·rw[if_pos (by omega),if_pos (by omega),if_pos (by omega),if_pos (by omega),Option.bind_some,Int.toNat_natCast,Dt l i hlt,show((l.take i).length:Int)=(i:Int)from by rw[List.length_take];omega]at h
    obtain⟨p1,p2⟩:=ih1 i 0 hlt (Nat.zero_le _) _ h;intro i' j' h1 h2 h3
    by_cases e:i'=i
    ·subst e;exact p1 j' (Nat.zero_le _) h2
    ·exact p2 i' j' h1 h2 (by omega)
   ·intro i' j' h1 h2 h3
    omega
  ·simp only[rows_row.l1]at h
   by_cases hlt:j<i
   ·have hjt:j<(l.take i).length:=by rw[List.length_take];omega
    rw[if_pos (by omega),if_pos (by omega),if_pos (by omega),Dt (l.take i) j hjt]at h
    by_cases e:l[i].f0.toList=((l.take i)[j]).f0.toList
    ·rw[if_pos e]at h;cases h
    ·rw[if_neg e,show wrap64 ((j:Int)+1)=((j+1:Nat):Int)from by unfold wrap64;omega]at h
     obtain⟨p1,p2⟩:=ih1 i (j+1) hi (by omega) a h;refine⟨fun j' h1 h2=>?_,p2⟩
     by_cases e2:j'=j
     ·subst e2
      rw[List.getElem_take]at e;exact e
     ·exact p1 j' (by omega) h2
   ·rw[if_neg (by omega),show wrap64 ((i:Int)+1)=((i+1:Nat):Int)from by unfold wrap64;omega]at h
    exact⟨fun j' h1 h2=>by omega,ih0 (i+1) (by omega) h⟩
theorem row_okk(x:Rw)(hl:x.f4.length≤1000000)(k:Nat)(h:rows_row.f k x.f0 x.f1 x.f2 x.f3 x.f4=some true):Lh x:=by
 have hj0t:∀k,rows_row.j0 k true x.f0 x.f1 x.f2 x.f3 x.f4=some true→x.f2.data.toList=[]∧x.f4=[]:=by
  intro k h;cases k with
  |zero=>simp[rows_row.j0]at h
  |succ k=>
   simp only[rows_row.j0]at h;rw[if_pos trivial]at h
   by_cases e:x.f2.toList=[]
   ·rw[if_pos e]at h
    rw[Lib.toList_data]at e;refine⟨e,?_⟩;have:=Option.some.inj h;simpa using this
   ·rw[if_neg e]at h;cases h
 have hj1:∀k b,rows_row.j1 k b x.f0 x.f1 x.f2 x.f3 x.f4=some true→b=false∧distinct x.f4:=by
  intro k b h;cases k with
  |zero=>simp[rows_row.j1]at h
  |succ k=>
   simp only[rows_row.j1]at h;cases b with
   |true=>rw[if_pos rfl]at h;cases h
   |false=>
    rw[if_neg (by decide)]at h;have:=(row_dist x.f4 hl x.f0 x.f1 x.f2 x.f3 k).1 0 (Nat.zero_le _) h;refine⟨rfl,fun i j hi hj e=>?_⟩
    rcases Nat.lt_trichotomy i j with h1|h1|h1
    ·exact absurd e.symm (this j i hj h1 (Nat.zero_le _))
    ·exact h1
    ·exact absurd e (this i j hi h1 (Nat.zero_le _))
 unfold rows_row.f at h
 by_cases k1:x.f1=1
 ·rw[if_pos k1]at h
  obtain⟨a,b⟩:=hj0t _ h;exact⟨.inr (.inl k1),fun e=>by omega,fun _=>⟨a,b⟩⟩
 ·rw[if_neg k1]at h
  by_cases k2:x.f1=2
  ·rw[show(x.f1==2)=true from beq_iff_eq.2 k2]at h
   obtain⟨a,b⟩:=hj0t _ h;exact⟨.inr (.inr k2),fun e=>by omega,fun _=>⟨a,b⟩⟩
  ·rw[show(x.f1==2)=false from beq_eq_false_iff_ne.2 k2]at h
   cases k with
   |zero=>simp[rows_row.j0]at h
   |succ k=>
    simp only[rows_row.j0]at h;rw[if_neg (by decide)]at h
    by_cases k0:x.f1=0
    ·rw[if_pos k0]at h
     by_cases e:x.f2.toList=[]
     ·rw[if_pos e]at h
      have:=(hj1 _ _ h).1;cases this
     ·rw[if_neg e]at h
      obtain⟨a,b⟩:=hj1 _ _ h;rw[Lib.toList_data]at e a;refine⟨.inl k0,fun _=>⟨e,?_,b⟩,fun e2=>absurd k0 e2⟩;simpa using a
    ·rw[if_neg k0]at h
     have:=(hj1 _ _ h).1;cases this
end Go.Proofs.aj.W7
namespace Go.Proofs.aj.W7
open Go.RowKit Go.Proofs Go.Proofs.aj Go.Proofs.YtkcmghlhpbepcaaGreatDoor Go.Proofs.ah.aD
theorem PO:∀(l out:List At),distinct (out++l)→wY out l=out++l
 | [],out,_=>by rw[wY,List.append_nil]
 |a::r,out,h=>by
  have hn:DN out a=false:=by
   cases e:DN out a with
   |false=>rfl
   |true=>
    exfalso
    unfold DN at e;obtain⟨b,hb,hb2⟩:=List.any_eq_true.1 e;obtain⟨i,hi,rfl⟩:=List.getElem_of_mem hb;have hl:(out++a::r).length=out.length+(r.length+1):=by simp
    have:=h out.length i (by omega) (by omega) (by
     rw[List.getElem_append_left hi];have e1:(out++a::r)[out.length]'(by omega)=a:=by simp
     rw[e1];exact(eqN_iff _ _).1 hb2)
    omega
  rw[wY,hn,if_neg (by decide),PO r (out++[a]) (by rw[List.append_assoc];exact h),List.append_assoc];rfl
theorem once_all{l:List At}(h:distinct l):tK l=l:=PO l [] h
theorem Lp{l:List At}(h:distinct l):((l.map qW).map Prod.fst).Nodup:=by
 rw[List.map_map];refine List.pairwise_iff_getElem.2 fun i j hi hj hij e=>?_
 rw[List.length_map]at hi hj;rw[List.getElem_map,List.getElem_map]at e;have e2:l[i].f0.data.toList=l[j].f0.data.toList:=e;have:=h i j hi hj (by rw[Lib.toList_data,Lib.toList_data];exact e2);omega
end Go.Proofs.aj.W7
namespace Go.Proofs.aj.W7
open Go.RowKit Go.Proofs Go.Proofs.aj Go.Proofs.YtkcmghlhpbepcaaGreatDoor Go.Proofs.ah.aD Go.Proofs.YtkcmghlhpbepcaaGreatDoor.Ch
theorem QN(l:List At)(M:Nat)(hM:M<1000000000)(hl:l.length≤6)(ha:∀a∈l,a.f0.size≤M∧a.f1.size≤M):∀d i k:Nat,i+d=l.length→200 * M+2+d≤k→bC.l0 k l (l.length:Int) (i:Int)=some true→
 ∀j:Nat,i≤j→(hj:j<l.length)→K7 l[j].f0=true∧oJ l[j].f0=true∧oJ l[j].f1=true:=by
 intro d
 induction d with
 |zero=>intro i k hi hk h j h1 h2;omega
 |succ d ih=>
  intro i k hi hk h;have hlt:i<l.length:=by omega
  have hm:=ha l[i] (List.getElem_mem hlt);obtain⟨k,rfl⟩:∃m,k=m+1:=⟨k - 1,by omega⟩
  simp only[bC.l0]at h;rw[if_pos (by omega),if_pos (by omega),if_pos (by omega),Dt l i hlt,nattr_f _ (by omega) k (by omega),Option.bind_some]at h;cases h1:K7 l[i].f0 with
  |false=>rw[h1,if_neg (by decide)]at h;cases h
  |true=>
   rw[h1,if_pos rfl,PU _ (by omega),Option.bind_some]at h;cases h2:oJ l[i].f0 with
   |false=>rw[h2,if_neg (by decide)]at h;cases h
   |true=>
    rw[h2,if_pos rfl,PU _ (by omega),Option.bind_some]at h;cases h3:oJ l[i].f1 with
    |false=>rw[h3,if_neg (by decide)]at h;cases h
    |true=>
     rw[h3,if_pos rfl,wN (by omega)]at h;intro j h4 h5
     by_cases e:j=i
     ·subst e;exact⟨h1,h2,h3⟩
     ·exact ih (i+1) k (by omega) (by omega) h j (by omega) h5
theorem E8(x:Rw)(M:Nat)(hM:M<1000000000)(hx:SzR M x)(ar:List ByteArray)(h:elemB x ar=true):
 MF x.f2=true∧pW x.f2=false∧oJ x.f2=true∧xM x.f2 ar=true∧∀a∈x.f4,K7 a.f0=true∧oJ a.f0=true∧oJ a.f1=true:=by
 have hn:=hx.name;have hf:=elem_f x M hM hx ar (200 * M+400) (by omega);rw[h]at hf
 have hj:∀c,bC.j0 (200 * M+400) c x.f0 x.f1 x.f2 x.f3 x.f4=some true→c=false∧∀a∈x.f4,K7 a.f0=true∧oJ a.f0=true∧oJ a.f1=true:=by
  intro c hc;have e:200 * M+400=(200 * M+399)+1:=by omega
  rw[e]at hc;simp only[bC.j0]at hc;cases c with
  |true=>rw[if_pos rfl]at hc;cases hc
  |false=>
   rw[if_neg (by decide)]at hc;have hfew:=hx.few;have:=QN x.f4 M hM hx.few hx.atts x.f4.length 0 _ (by omega) (by omega) hc;refine⟨rfl,fun a ha=>?_⟩;obtain⟨j,hj,rfl⟩:=List.getElem_of_mem ha;exact this j (Nat.zero_le _) hj
 unfold bC.f at hf;rw[nright_f _ (by omega) _ (by omega),Option.bind_some]at hf;cases h1:MF x.f2 with
 |false=>rw[h1,if_neg (by decide)]at hf;have:=(hj _ hf).1;cases this
 |true=>
  rw[h1,if_pos rfl,Jf _ _ (by omega),←goneL_eq,Option.bind_some]at hf;cases h2:pW x.f2 with
  |true=>rw[h2,if_pos rfl]at hf;have:=(hj _ hf).1;cases this
  |false=>
   rw[h2,if_neg (by decide),PU _ (by omega),Option.bind_some]at hf;cases h3:oJ x.f2 with
   |false=>rw[h3,if_neg (by decide)]at hf;have:=(hj _ hf).1;cases this
   |true=>
    rw[h3,if_pos rfl,MI _ _ _ (by omega),Option.bind_some]at hf;obtain⟨a,b⟩:=hj _ hf;refine⟨rfl,rfl,rfl,?_,b⟩;simpa using a
end Go.Proofs.aj.W7
