/- Lemmas and walks, part 41. -/
import Derived.Test.YtkcmghlhpbepcaaGreatDoorNB38
set_option linter.unusedVariables false
set_option linter.unusedSimpArgs false
set_option maxHeartbeats 8000000
set_option maxRecDepth 100000
namespace Go.Proofs.YtkcmghlhpbepcaaGreatDoor
open Go.RowKit Go.Proofs
theorem MW(s:ByteArray)(i:Nat)(hi:i<s.size):
 ((s.get! i).toNat<128∧Utf8.decode s i=((s.get! i).toNat,1))∨
 (128≤(s.get! i).toNat∧128≤(Utf8.decode s i).1∧Utf8.valid (Utf8.decode s i).1=true∧1≤(Utf8.decode s i).2∧i+(Utf8.decode s i).2≤s.size∧∀k,k<(Utf8.decode s i).2→128≤(s.get! (i+k)).toNat):=by
 by_cases h0:(s.get! i).toNat<128
 ·refine .inl ⟨h0,?_⟩
  rw[Lib.decode_at];unfold Lib.decodeN;rw[if_pos h0]
 ·refine .inr ⟨by omega,?_⟩
  have hk:∀k,k<4→(k=0∨k=1∨k=2∨k=3):=by omega
  rw[Lib.decode_at]
  rcases Lib.decodeN_shape (s.size - i) (s.get! i).toNat (s.get! (i+1)).toNat (s.get! (i+2)).toNat (s.get! (i+3)).toNat with⟨c,e⟩|⟨c1,c2,c3,cv,e⟩|⟨c1,c2,c3,c4,cv,cs,e⟩|⟨c1,c2,c3,c4,c5,cv,cw,e⟩|e
  ·exact absurd c h0
  ·rw[e]
   refine⟨by simp only;omega,by simp only[Utf8.valid];simp;omega,by simp only;omega,by simp only;omega,fun k hk=>?_⟩;simp only at hk;obtain rfl|rfl:k=0∨k=1:=by omega
   ·rw[Nat.add_zero];omega
   ·omega
  ·rw[e]
   refine⟨by simp only;omega,by simp only[Utf8.valid];simp;omega,by simp only;omega,by simp only;omega,fun k hk=>?_⟩;simp only at hk;obtain rfl|rfl|rfl:k=0∨k=1∨k=2:=by omega
   ·rw[Nat.add_zero];omega
   ·omega
   ·omega
  ·rw[e]
   refine⟨by simp only;omega,by simp only[Utf8.valid];simp;omega,by simp only;omega,by simp only;omega,fun k hk=>?_⟩;simp only at hk;obtain rfl|rfl|rfl|rfl:k=0∨k=1∨k=2∨k=3:=by omega
   ·rw[Nat.add_zero];omega
   ·omega
   ·omega
   ·omega
  ·rw[e]
   refine⟨by simp only;omega,by decide,by simp only;omega,by simp only;omega,fun k hk=>?_⟩;simp only at hk;obtain rfl:k=0:=by omega
   rw[Nat.add_zero];omega
def jD:ByteArray:=⟨#[0,13]⟩
theorem MX(c:Nat)(h128:128≤c)(hv:Utf8.valid c=true)(w:World):
 Calls Tryz.prog 178 #[.string jD,.int .i32 c] w fun e w'=>e=.returned (.int .i64 (-1))∧Below w.heap.size w w':=by
 obtain⟨hf1,hf2,hf3⟩:=encode_facts (c:Int) hv (by omega)
 have hvr:Lib.validRune (c:Int)=true:=by
  unfold Lib.validRune;simp only[Utf8.valid]at hv;simp at hv⊢;omega
 have hlt:decide ((c:Int)<128)=false:=decide_eq_false (by omega);have h0:decide ((0:Int)≤(c:Int))=true:=decide_eq_true (by omega)
 by_cases he:c=65533
 ·subst he
  have hr00:∀(W:World) (ty:TypeId),(Instr.next (.pointer (some ⟨W.heap.size,0,none⟩)) true ty).run Tryz.prog (W.iter jD 0)=.ok (.tuple #[.bool true,.int .i64 0,.int .i32 0]) (W.iter jD 1):=fun W ty=>run_next_ascii W jD 0 ty (by decide) (by decide)
  have hr01:∀(W:World) (ty:TypeId),(Instr.next (.pointer (some ⟨W.heap.size,0,none⟩)) true ty).run Tryz.prog (W.iter jD 1)=.ok (.tuple #[.bool true,.int .i64 1,.int .i32 13]) (W.iter jD 2):=fun W ty=>run_next_ascii W jD 1 ty (by decide) (by decide)
  have hr02:∀(W:World) (ty:TypeId),(Instr.next (.pointer (some ⟨W.heap.size,0,none⟩)) true ty).run Tryz.prog (W.iter jD 2)=.ok (.tuple #[.bool false]) (W.iter jD 2):=fun W ty=>run_next_end W jD 2 ty (by decide)
  clear hf1 hf2 hf3 hv hvr h128;go_enter Tryz.func178,Tryz.ntmps178;go_wp2
  go_loopg [5,6] 2 (fun g _ _ wx=>∃i:Nat,i+g=2∧wx=w.iter jD i)
  case atStart=>exact⟨0,rfl,rfl⟩
  case round=>
   obtain⟨i,hig,rfl⟩:=hrel;cases gk with
   |zero=>
    obtain rfl:i=2:=by omega
    go_wp2;go_ret;exact⟨rfl,(Below.refl _ w).alloc (Nat.le_refl _) _⟩
   |succ g=>
    obtain rfl|rfl:i=0∨i=1:=by omega
    ·go_wp2
     go_roundg g
     case measure=>omega
     case rel=>exact⟨1,by omega,rfl⟩
    ·go_wp2
     go_roundg g
     case measure=>omega
     case rel=>exact⟨2,by omega,rfl⟩
 ·have hne:((c:Int)==65533)=false:=by rw[beq_eq_false_iff_ne];omega
  have u21:=Tryz.underlying21;have u9:=Tryz.underlying9;obtain⟨E,hE⟩:∃E,Utf8.encode (c:Int)=E:=⟨_,rfl⟩
  rw[hE]at hf1 hf2 hf3;have hsz:jD.size=2:=rfl
  by_cases h2:E.size=2
  ·obtain⟨a,b,rfl⟩:∃a b:UInt8,E=⟨#[a,b]⟩:=by
    obtain⟨⟨l⟩⟩:=E;change l.length=2 at h2
    match l,h2 with
    | [a,b],_=>exact⟨a,b,rfl⟩
   have hb:128≤b.toNat:=hf3 (show 1<2 by omega);clear hf2 hf3 h2;have hb1:(((jD[1]'(by decide)).toNat:Int) !=((b.toNat:Nat):Int))=true:=by rw[bne_iff_ne];intro e;have:(jD[1]'(by decide)).toNat=13:=rfl;omega
   have hib:∀c,Lib.indexByte ByteArray.empty.data.toList c= -1:=fun c=>rfl
   have hb2:((13:Int) !=((b.toNat:Nat):Int))=true:=by rw[bne_iff_ne];omega
   go_enter Tryz.func178,Tryz.ntmps178
   go_wp2_with(go_at_call 204;((with_reducible refine(Tryz.utf8_ValidRune _ _).mono ?_);rintro e w3 ⟨rfl,rfl⟩;rw[hvr]))
   go_step3;go_wp2
   go_loopw [9] (fun v wr=>v=.int .i64 1∧Below w3.heap.size w3 wr) (fun v _=>0)
   case atStart=>exact⟨rfl,Below.refl _ _⟩
   case round=>
    obtain⟨rfl,hB⟩:=hrel;go_wp2;go_step3;go_wp2;go_region;replace hib:=Lib.hid hib;clear hb1 hb2 hf1 hlt h0 hne hv hvr hE;generalize (jD[1]'(by decide)).toNat=z13;go_wp2
    go_region_with (go_at_call 203;((with_reducible refine(Tryz.strings_IndexByte _ _ _).mono ?_);rintro e w4 ⟨rfl,hw4⟩;rw[hib.out,hw4]))
    all_goals(
     go_wp2;rw[Exit.noGoto_ret];show Exit.noGoto (Exit.inBlock 0 _) Exit.ret _ _;rw[Exit.noGoto_ret];show bodyPost Tryz.prog Tryz.f178 (fun e w'=>e=.returned (.int .i64 (-1))∧Below w3.heap.size w3 w') Exit.ret _ _;go_ret;exact⟨rfl,(hB.drew).drew⟩)
  ·have hlast:¬((E.size:Int) - 1<2):=by omega
   go_enter Tryz.func178,Tryz.ntmps178
   go_wp2_with(go_at_call 204;((with_reducible refine(Tryz.utf8_ValidRune _ _).mono ?_);rintro e w3 ⟨rfl,rfl⟩;rw[hvr]))
   go_step3;go_wp2
   go_loopw [9] (fun v wr=>v=.int .i64 (E.size - 1)∧Below w3.heap.size w3 wr) (fun v _=>0)
   case atStart=>exact⟨rfl,Below.refl _ _⟩
   case round=>
    obtain⟨rfl,hB⟩:=hrel;clear hlt h0 hne hv hvr hE hf3;go_wp2;rw[Exit.noGoto_ret];show bodyPost Tryz.prog Tryz.f178 (fun e w'=>e=.returned (.int .i64 (-1))∧Below w3.heap.size w3 w') Exit.ret _ _;go_ret;exact⟨rfl,hB⟩
def nul13(l:List UInt8):Bool:=l.any (fun b=>b==0||b==13)
def seen13(l:List UInt8)(i:Nat):Bool:=nul13 (l.take i)
end Go.Proofs.YtkcmghlhpbepcaaGreatDoor
namespace Go.Proofs.aj.W7
open Go.RowKit Go.Proofs Go.Proofs.YtkcmghlhpbepcaaGreatDoor
theorem get_at(s:Bt)(i:Nat)(hi:i<s.size):s.get! i=s[i]'hi:=by
 obtain⟨d⟩:=s;show d[i]! =d[i];exact getElem!_pos d i hi
theorem Kw(s:Bt)(i:Nat)(hi:i<s.size):s.data.toList[i]?=some (s.get! i):=by
 have:=Lib.data_getElem? s i hi;rw[this]
 congr 1
 exact(get_at s i hi).symm
theorem Ky{l:List UInt8}{i k:Nat}(h:Lib.NoAny l jD.data.toList i)(hk:∀j b,i≤j→j<i+k→l[j]?=some b→128≤b.toNat):Lib.NoAny l jD.data.toList (i+k):=by
 intro j b hj hb
 by_cases hji:j<i
 ·exact h j b hji hb
 ·have h1:=hk j b (by omega) hj hb
  have:jD.data.toList=[0,13]:=rfl;rw[this];simp only[List.contains_cons,List.contains_nil,Bool.or_false,Bool.or_eq_false_iff,beq_eq_false_iff_ne];refine⟨?_,?_⟩<;> · rintro rfl;revert h1;decide
theorem below_iterAt{B:Nat}{w0 W:World}(h:Below B w0 W){k:Nat}(hk:B≤k)(s:Bt)(p:Nat):Below B w0 (W.iterAt k s p):=
 ⟨h.os,h.tape,h.output,by simp only[World.iterAt,Array.size_setIfInBounds];exact h.size,fun j hj=>by
  simp only[World.iterAt];rw[Array.getElem?_setIfInBounds_ne (by omega)];exact h.block j hj⟩
theorem HZ(s:Bt)(w:World)(h8:s.size≤8):
 Calls Tryz.prog 140 #[.string s,.string jD] w fun e w'=>e=.returned (.int .i64 (Lib.indexAny s.data.toList jD.data.toList))∧Below w.heap.size w w':=by
 have hemp:jD.toList.isEmpty=false:=by rw[Lib.toList_data];rfl
 have hn1:((jD.size:Int)==1)=false:=by decide
 have h8z:decide ((8:Int)<(s.size:Int))=false:=decide_eq_false (by omega);go_enter Tryz.func140,Tryz.ntmps140
 go_wp2_with(go_at_call 179;((with_reducible refine(Tryz.strings_shouldUseASCIISet _ _).mono ?_);rintro e w3 ⟨rfl,hw⟩;rw[h8z,hw]))
 go_loopg [9,10] s.size (fun g _ _ wx=>∃i:Nat,i≤s.size∧s.size≤i+g∧wx.heap[w.heap.size]?=some (.stringIter s i)∧Below w.heap.size w wx∧Hid (Lib.NoAny s.data.toList jD.data.toList i))
 case atStart=>exact⟨0,Nat.zero_le _,by omega,World.iter_heap _ _ _,(Below.refl _ w).alloc (Nat.le_refl _) _,Lib.NoAny.zero _ _⟩
 case round=>
  obtain⟨i,hi,hig,hit,hB,hno⟩:=hrel
  by_cases hlt:i<s.size
  ·obtain⟨g,rfl⟩:∃g,gk=g+1:=⟨gk - 1,by omega⟩
   have hnx:=fun ty=>Lib.run_next_any_at (P:=Tryz.prog) wr w.heap.size s i ty hit hlt
   have hit2:=Lib.iterAt_heap wr w.heap.size s i (i+(Utf8.decode s i).2) hit;have hB2:=below_iterAt hB (Nat.le_refl _) s (i+(Utf8.decode s i).2);have hgd:=Kw s i hlt
   rcases MW s i hlt with⟨hx,hd⟩|⟨hx,hc,hv,hw1,hw2,hby⟩
   ·rw[hd]at hnx hit2 hB2
    have hcon:=Lib.contains_iff_indexByte jD.data.toList (s.get! i);have hback:(((s.get! i).toNat:Int)).toNat.toUInt8=s.get! i:=by simp
    cases hin:jD.data.toList.contains (s.get! i)
    ·rw[hin]at hcon
     have hng:¬((0:Int)≤Lib.indexByte jD.data.toList (s.get! i)):=of_decide_eq_false hcon.symm;have oh:=Lib.hid (hno.out.succ hgd hin);clear hcon hno hd hgd;generalize s.get! i=x at *
     go_wp2_with(go_at_call 178;((with_reducible refine(Tryz.strings_IndexRune_ascii _ _ _ (by omega) (by omega)).mono ?_);rintro e w4 ⟨rfl,hw4⟩;rw[hw4,hback]))
     go_roundg g
     case measure=>omega
     case rel=>exact⟨i+1,by omega,by omega,hit2,hB2,oh⟩
    ·rw[hin]at hcon
     have hge:(0:Int)≤Lib.indexByte jD.data.toList (s.get! i):=of_decide_eq_true hcon.symm;have hres:=Lib.hid (Lib.indexAny_hit hno.out hgd hin);clear hcon hno hd hgd;generalize s.get! i=x at *
     go_wp2_with(go_at_call 178;((with_reducible refine(Tryz.strings_IndexRune_ascii _ _ _ (by omega) (by omega)).mono ?_);rintro e w4 ⟨rfl,hw4⟩;rw[hw4,hback]))
     go_ret;exact⟨by rw[hres.out];rfl,hB2⟩
   ·have oh:=Lib.hid (Ky (k:=(Utf8.decode s i).2) hno.out (fun j b h1 h2 h3=>by
     have h4:=hby (j - i) (by omega);rw[show i+(j - i)=j from by omega]at h4;have h5:=Kw s j (by omega);rw[h3]at h5;rw[Option.some.inj h5];exact h4))
    have hid:=Lib.hid (fun W=>MX (Utf8.decode s i).1 hc hv W);clear hno hgd hby hv hx;generalize (Utf8.decode s i).1=c at *;generalize (Utf8.decode s i).2=q at *
    go_wp2_with(go_at_call 178;((with_reducible refine(hid.out _).mono ?_);rintro e w4 ⟨rfl,hb4⟩;have hB3:=bD hB2 hB2.size hb4;have hit3:=(hb4.block _ (Array.getElem?_eq_some_iff.1 hit2).1).trans hit2))
    go_roundg g
    case measure=>omega
    case rel=>exact⟨i+q,by omega,by omega,hit3,hB3,oh⟩
  ·obtain rfl:i=s.size:=by omega
   have hnx:=fun ty=>Lib.run_next_end_at (P:=Tryz.prog) wr w.heap.size s s.size ty hit hlt
   go_wp2;go_ret;exact⟨by rw[Lib.indexAny_none (by rw[←Lib.size_eq];exact hno.out)];rfl,hB⟩
theorem set_zero:∀w,(zeroValue 144).run Tryz.prog w=.ok (.agg (Array.replicate 256 (.bool false))) w:=(zero_of_info (n:=256) (by kernel_rfl)).1
theorem idxAny_c(s:Bt)(w:World)(hs:s.size<4294967281):
 Calls Tryz.prog 140 #[.string s,.string jD] w fun e w'=>e=.returned (.int .i64 (Lib.indexAny s.data.toList jD.data.toList))∧Below w.heap.size w w':=by
 by_cases h8:s.size≤8
 ·exact HZ s w h8
 ·refine(Tryz.strings_IndexAny_long set_zero s jD w (show 2≤2 by omega) (by omega) hs (show 2<4294967281 by omega) (fun j b hb=>?_)).mono ?_
  ·have:jD.data.toList=[0,13]:=rfl
   rw[this]at hb
   match j,hb with
   |0,hb=>cases hb;decide
   |1,hb=>cases hb;decide
  ·rintro e w' ⟨rfl,rfl⟩
   exact⟨rfl,((Below.refl _ w).alloc (Nat.le_refl _) _).alloc (by rw[World.size_alloc];omega) _⟩
def strings_ContainsAny.f(a0 a1:Bt):Option Bool:=if a1=jD∧a0.size<4294967281 then some (Lib.containsAny a0.data.toList jD.data.toList)else none
theorem strings_ContainsAny.calls(a0 a1:Bt)(r:Bool)(w:World)(h:strings_ContainsAny.f a0 a1=some r)(hS_:Er w):
 Calls Tryz.prog 92 #[.string a0,.string a1] w fun e w'=>e=.returned (.bool r)∧Below w.heap.size w w':=by
 unfold strings_ContainsAny.f at h
 split at h
 ·rename_i hz
  obtain⟨rfl,hz⟩:=hz;have hr:=Option.some.inj h;clear h;have hi:=Lib.hid (idxAny_c a0 w hz);unfold Lib.containsAny at hr;generalize Lib.indexAny a0.data.toList jD.data.toList=n at *;subst hr;go_enter Tryz.func92,Tryz.ntmps92
  go_wp2_with(go_at_call 140;((with_reducible refine hi.out.mono ?_);rintro e w1 ⟨rfl,hb⟩))
  go_ret;exact⟨rfl,hb⟩
 ·cases h
end Go.Proofs.aj.W7
namespace Go.Proofs.aj.W7
open Go.RowKit Go.Proofs.ah.aD Go.Proofs.ah.bJ Go.Proofs.ah.bW
attribute [local go_sem] dB dD dR dS bZ cu dF dG
def dA.f(a0:Bt):Option (Bool):=(lq.f a0).bind fun t601=>(if t601=true then((strings_ContainsAny.f a0 (⟨#[0,13]⟩:Bt)).bind fun t602=>(some (!t602)))else(some false))
theorem dA.calls(a0:Bt)(r:Bool)(w:World)(h:dA.f a0=some r)(hS_:Go.Proofs.YtkcmghlhpbepcaaGreatDoor.Std w):
 Calls Tryz.prog 47 #[.string a0] w fun e w'=>e=.returned (.bool r)∧Below w.heap.size w w':=by
 have HS_:=ak.mk hS_;clear hS_;have HB:=ak.mk (Below.refl w.heap.size w);have H:((lq.f a0).bind fun t601=>(if t601=true then((strings_ContainsAny.f a0 (⟨#[0,13]⟩:Bt)).bind fun t602=>(some (!t602)))else(some false)))=some r:=h;clear h;replace H:=Option.bind_eq_some_iff.mp H;obtain⟨t601,A20,H⟩:=H;replace H:(if t601=true then((strings_ContainsAny.f a0 (⟨#[0,13]⟩:Bt)).bind fun t602=>(some (!t602)))else(some false))=some r:=H;have A2:=ak.mk A20;clear A20
 by_cases c3:t601=true
 ·subst c3
  have H1:((strings_ContainsAny.f a0 (⟨#[0,13]⟩:Bt)).bind fun t602=>(some (!t602)))=some r:=by rw[if_pos rfl]at H;exact H
  clear H;have H:=H1;clear H1;replace H:=Option.bind_eq_some_iff.mp H;obtain⟨t602,A40,H⟩:=H;replace H:(some (!t602))=some r:=H;have A4:=ak.mk A40;clear A40;obtain rfl:=Option.some.inj H;go_enter Tryz.func47,Tryz.ntmps47
  go_wp2_with(first|((with_reducible refine aZ (f:=91) rfl ?_);refine dJ (some 4) rfl rfl Tryz.func91 (by kernel_rfl) rfl #[.string a0] rfl q'a ?_;(with_reducible refine(lq.calls a0 true _ A2.out (Go.Proofs.YtkcmghlhpbepcaaGreatDoor.Std.below HS_.out bz)).mono ?_);rintro e w5 ⟨rfl,hb⟩;refine⟨_,rfl,?_⟩;replace HB:=ak.mk (aG bz hb);(try clear hb);(try clear hb2);(try clear hk);(try clear hi))|(go_at_call 92;(with_reducible refine(strings_ContainsAny.calls a0 (⟨#[0,13]⟩:Bt) t602 _ A4.out (Go.Proofs.YtkcmghlhpbepcaaGreatDoor.Std.below HS_.out bz)).mono ?_);rintro e w6 ⟨rfl,hb⟩;replace HB:=ak.mk (aG bz hb);(try clear hb);(try clear hb2);(try clear hk);(try clear hi)))
  go_ret;exact⟨by first|rfl|(simp[aJ,aM]<;>rfl)|(simp[*,aJ,aM]<;>rfl),bz⟩
 ·replace c3:=Bool.eq_false_iff.mpr c3
  subst c3;have H1:(some false)=some r:=by rw[if_neg (show¬(false=true) by decide)]at H;first|exact H|(simp only[eq_self]at H⊢;exact H)|(simp only[eq_self,if_true]at H⊢;exact H)
  clear H;have H:=H1;clear H1;obtain rfl:=Option.some.inj H;go_enter Tryz.func47,Tryz.ntmps47
  go_wp2_with(first|((with_reducible refine aZ (f:=91) rfl ?_);refine dJ (some 4) rfl rfl Tryz.func91 (by kernel_rfl) rfl #[.string a0] rfl q'a ?_;(with_reducible refine(lq.calls a0 false _ A2.out (Go.Proofs.YtkcmghlhpbepcaaGreatDoor.Std.below HS_.out bz)).mono ?_);rintro e w7 ⟨rfl,hb⟩;refine⟨_,rfl,?_⟩;replace HB:=ak.mk (aG bz hb);(try clear hb);(try clear hb2);(try clear hk);(try clear hi)))
  go_ret;exact⟨by first|rfl|(simp[aJ,aM]<;>rfl)|(simp[*,aJ,aM]<;>rfl),bz⟩
def jy.f(a0:Bt):Option (Bool):=(dA.f a0).bind fun t603=>(if t603=true then((strings_Contains.f a0 (⟨#[45,45,62]⟩:Bt)).bind fun t604=>(if t604=true then(some false)else((strings_Contains.f a0 (⟨#[45,45,33,62]⟩:Bt)).bind fun AU=>(if AU=true then(some false)else((strings_HasPrefix.f a0 (⟨#[62]⟩:Bt)).bind fun xB=>(if xB=true then(some false)else((strings_HasPrefix.f a0 (⟨#[45,62]⟩:Bt)).bind fun rX=>(some (!rX)))))))))else(some false))
theorem jy.calls(a0:Bt)(r:Bool)(w:World)(h:jy.f a0=some r)(hS_:Go.Proofs.YtkcmghlhpbepcaaGreatDoor.Std w):
 Calls Tryz.prog 48 #[.string a0] w fun e w'=>e=.returned (.bool r)∧Below w.heap.size w w':=by
 have HS_:=ak.mk hS_;clear hS_;have HB:=ak.mk (Below.refl w.heap.size w);have H:((dA.f a0).bind fun t603=>(if t603=true then((strings_Contains.f a0 (⟨#[45,45,62]⟩:Bt)).bind fun t604=>(if t604=true then(some false)else((strings_Contains.f a0 (⟨#[45,45,33,62]⟩:Bt)).bind fun AU=>(if AU=true then(some false)else((strings_HasPrefix.f a0 (⟨#[62]⟩:Bt)).bind fun xB=>(if xB=true then(some false)else((strings_HasPrefix.f a0 (⟨#[45,62]⟩:Bt)).bind fun rX=>(some (!rX)))))))))else(some false)))=some r:=h;clear h;replace H:=Option.bind_eq_some_iff.mp H;obtain⟨t603,A20,H⟩:=H;replace H:(if t603=true then((strings_Contains.f a0 (⟨#[45,45,62]⟩:Bt)).bind fun t604=>(if t604=true then(some false)else((strings_Contains.f a0 (⟨#[45,45,33,62]⟩:Bt)).bind fun AU=>(if AU=true then(some false)else((strings_HasPrefix.f a0 (⟨#[62]⟩:Bt)).bind fun xB=>(if xB=true then(some false)else((strings_HasPrefix.f a0 (⟨#[45,62]⟩:Bt)).bind fun rX=>(some (!rX)))))))))else(some false))=some r:=H;have A2:=ak.mk A20;clear A20
 by_cases c3:t603=true
 ·subst c3
  have H1:((strings_Contains.f a0 (⟨#[45,45,62]⟩:Bt)).bind fun t604=>(if t604=true then(some false)else((strings_Contains.f a0 (⟨#[45,45,33,62]⟩:Bt)).bind fun AU=>(if AU=true then(some false)else((strings_HasPrefix.f a0 (⟨#[62]⟩:Bt)).bind fun xB=>(if xB=true then(some false)else((strings_HasPrefix.f a0 (⟨#[45,62]⟩:Bt)).bind fun rX=>(some (!rX)))))))))=some r:=by rw[if_pos rfl]at H;exact H
  clear H;have H:=H1;clear H1;replace H:=Option.bind_eq_some_iff.mp H;obtain⟨t604,A40,H⟩:=H;replace H:(if t604=true then(some false)else((strings_Contains.f a0 (⟨#[45,45,33,62]⟩:Bt)).bind fun AU=>(if AU=true then(some false)else((strings_HasPrefix.f a0 (⟨#[62]⟩:Bt)).bind fun xB=>(if xB=true then(some false)else((strings_HasPrefix.f a0 (⟨#[45,62]⟩:Bt)).bind fun rX=>(some (!rX))))))))=some r:=H;have A4:=ak.mk A40;clear A40
  by_cases c5:t604=true
  ·subst c5
   have H1:(some false)=some r:=by rw[if_pos rfl]at H;exact H
   clear H;have H:=H1;clear H1;obtain rfl:=Option.some.inj H;go_enter Tryz.func48,Tryz.ntmps48
   go_wp2_with(first|((with_reducible refine aZ (f:=47) rfl ?_);refine dJ (some 4) rfl rfl Tryz.func47 (by kernel_rfl) rfl #[.string a0] rfl q'a ?_;(with_reducible refine(dA.calls a0 true _ A2.out (Go.Proofs.YtkcmghlhpbepcaaGreatDoor.Std.below HS_.out bz)).mono ?_);rintro e w6 ⟨rfl,hb⟩;refine⟨_,rfl,?_⟩;replace HB:=ak.mk (aG bz hb);(try clear hb);(try clear hb2);(try clear hk);(try clear hi))|(go_at_call 93;(with_reducible refine(strings_Contains.calls a0 (⟨#[45,45,62]⟩:Bt) true _ A4.out (Go.Proofs.YtkcmghlhpbepcaaGreatDoor.Std.below HS_.out bz)).mono ?_);rintro e w7 ⟨rfl,hb⟩;replace HB:=ak.mk (aG bz hb);(try clear hb);(try clear hb2);(try clear hk);(try clear hi)))
   go_ret;exact⟨by first|rfl|(simp[aJ,aM]<;>rfl)|(simp[*,aJ,aM]<;>rfl),bz⟩
  ·replace c5:=Bool.eq_false_iff.mpr c5
   subst c5;have H1:((strings_Contains.f a0 (⟨#[45,45,33,62]⟩:Bt)).bind fun AU=>(if AU=true then(some false)else((strings_HasPrefix.f a0 (⟨#[62]⟩:Bt)).bind fun xB=>(if xB=true then(some false)else((strings_HasPrefix.f a0 (⟨#[45,62]⟩:Bt)).bind fun rX=>(some (!rX)))))))=some r:=by rw[if_neg (show¬(false=true) by decide)]at H;first|exact H|(simp only[eq_self]at H⊢;exact H)|(simp only[eq_self,if_true]at H⊢;exact H)
   clear H;have H:=H1;clear H1;replace H:=Option.bind_eq_some_iff.mp H;obtain⟨AU,A80,H⟩:=H;replace H:(if AU=true then(some false)else((strings_HasPrefix.f a0 (⟨#[62]⟩:Bt)).bind fun xB=>(if xB=true then(some false)else((strings_HasPrefix.f a0 (⟨#[45,62]⟩:Bt)).bind fun rX=>(some (!rX))))))=some r:=H;have A8:=ak.mk A80;clear A80
   by_cases c9:AU=true
   ·subst c9
    have H1:(some false)=some r:=by rw[if_pos rfl]at H;exact H
    clear H;have H:=H1;clear H1;obtain rfl:=Option.some.inj H;go_enter Tryz.func48,Tryz.ntmps48
    go_wp2_with(first|((with_reducible refine aZ (f:=47) rfl ?_);refine dJ (some 4) rfl rfl Tryz.func47 (by kernel_rfl) rfl #[.string a0] rfl q'a ?_;(with_reducible refine(dA.calls a0 true _ A2.out (Go.Proofs.YtkcmghlhpbepcaaGreatDoor.Std.below HS_.out bz)).mono ?_);rintro e w10 ⟨rfl,hb⟩;refine⟨_,rfl,?_⟩;replace HB:=ak.mk (aG bz hb);(try clear hb);(try clear hb2);(try clear hk);(try clear hi))|(go_at_call 93;(with_reducible refine(strings_Contains.calls a0 (⟨#[45,45,62]⟩:Bt) false _ A4.out (Go.Proofs.YtkcmghlhpbepcaaGreatDoor.Std.below HS_.out bz)).mono ?_);rintro e w11 ⟨rfl,hb⟩;replace HB:=ak.mk (aG bz hb);(try clear hb);(try clear hb2);(try clear hk);(try clear hi))|(go_at_call 93;(with_reducible refine(strings_Contains.calls a0 (⟨#[45,45,33,62]⟩:Bt) true _ A8.out (Go.Proofs.YtkcmghlhpbepcaaGreatDoor.Std.below HS_.out bz)).mono ?_);rintro e w12 ⟨rfl,hb⟩;replace HB:=ak.mk (aG bz hb);(try clear hb);(try clear hb2);(try clear hk);(try clear hi)))
    go_ret;exact⟨by first|rfl|(simp[aJ,aM]<;>rfl)|(simp[*,aJ,aM]<;>rfl),bz⟩
   ·replace c9:=Bool.eq_false_iff.mpr c9
    subst c9;have H1:((strings_HasPrefix.f a0 (⟨#[62]⟩:Bt)).bind fun xB=>(if xB=true then(some false)else((strings_HasPrefix.f a0 (⟨#[45,62]⟩:Bt)).bind fun rX=>(some (!rX)))))=some r:=by rw[if_neg (show¬(false=true) by decide)]at H;first|exact H|(simp only[eq_self]at H⊢;exact H)|(simp only[eq_self,if_true]at H⊢;exact H)
    clear H;have H:=H1;clear H1;replace H:=Option.bind_eq_some_iff.mp H;obtain⟨xB,A130,H⟩:=H;replace H:(if xB=true then(some false)else((strings_HasPrefix.f a0 (⟨#[45,62]⟩:Bt)).bind fun rX=>(some (!rX))))=some r:=H;have A13:=ak.mk A130;clear A130
    by_cases c14:xB=true
    ·subst c14
     have H1:(some false)=some r:=by rw[if_pos rfl]at H;exact H
     clear H;have H:=H1;clear H1;obtain rfl:=Option.some.inj H;go_enter Tryz.func48,Tryz.ntmps48
     go_wp2_with(first|((with_reducible refine aZ (f:=47) rfl ?_);refine dJ (some 4) rfl rfl Tryz.func47 (by kernel_rfl) rfl #[.string a0] rfl q'a ?_;(with_reducible refine(dA.calls a0 true _ A2.out (Go.Proofs.YtkcmghlhpbepcaaGreatDoor.Std.below HS_.out bz)).mono ?_);rintro e w15 ⟨rfl,hb⟩;refine⟨_,rfl,?_⟩;replace HB:=ak.mk (aG bz hb);(try clear hb);(try clear hb2);(try clear hk);(try clear hi))|(go_at_call 93;(with_reducible refine(strings_Contains.calls a0 (⟨#[45,45,62]⟩:Bt) false _ A4.out (Go.Proofs.YtkcmghlhpbepcaaGreatDoor.Std.below HS_.out bz)).mono ?_);rintro e w16 ⟨rfl,hb⟩;replace HB:=ak.mk (aG bz hb);(try clear hb);(try clear hb2);(try clear hk);(try clear hi))|(go_at_call 93;(with_reducible refine(strings_Contains.calls a0 (⟨#[45,45,33,62]⟩:Bt) false _ A8.out (Go.Proofs.YtkcmghlhpbepcaaGreatDoor.Std.below HS_.out bz)).mono ?_);rintro e w17 ⟨rfl,hb⟩;replace HB:=ak.mk (aG bz hb);(try clear hb);(try clear hb2);(try clear hk);(try clear hi))|(go_at_call 94;(with_reducible refine(strings_HasPrefix.calls a0 (⟨#[62]⟩:Bt) true _ A13.out).mono ?_);rintro e w18 ⟨rfl,hb⟩;replace HB:=ak.mk (aG bz hb);(try clear hb);(try clear hb2);(try clear hk);(try clear hi)))
     go_ret;exact⟨by first|rfl|(simp[aJ,aM]<;>rfl)|(simp[*,aJ,aM]<;>rfl),bz⟩
    ·replace c14:=Bool.eq_false_iff.mpr c14
     subst c14;have H1:((strings_HasPrefix.f a0 (⟨#[45,62]⟩:Bt)).bind fun rX=>(some (!rX)))=some r:=by rw[if_neg (show¬(false=true) by decide)]at H;first|exact H|(simp only[eq_self]at H⊢;exact H)|(simp only[eq_self,if_true]at H⊢;exact H)
     clear H;have H:=H1;clear H1;replace H:=Option.bind_eq_some_iff.mp H;obtain⟨rX,A190,H⟩:=H;replace H:(some (!rX))=some r:=H;have A19:=ak.mk A190;clear A190;obtain rfl:=Option.some.inj H;go_enter Tryz.func48,Tryz.ntmps48
     go_wp2_with(first|((with_reducible refine aZ (f:=47) rfl ?_);refine dJ (some 4) rfl rfl Tryz.func47 (by kernel_rfl) rfl #[.string a0] rfl q'a ?_;(with_reducible refine(dA.calls a0 true _ A2.out (Go.Proofs.YtkcmghlhpbepcaaGreatDoor.Std.below HS_.out bz)).mono ?_);rintro e w20 ⟨rfl,hb⟩;refine⟨_,rfl,?_⟩;replace HB:=ak.mk (aG bz hb);(try clear hb);(try clear hb2);(try clear hk);(try clear hi))|(go_at_call 93;(with_reducible refine(strings_Contains.calls a0 (⟨#[45,45,62]⟩:Bt) false _ A4.out (Go.Proofs.YtkcmghlhpbepcaaGreatDoor.Std.below HS_.out bz)).mono ?_);rintro e w21 ⟨rfl,hb⟩;replace HB:=ak.mk (aG bz hb);(try clear hb);(try clear hb2);(try clear hk);(try clear hi))|(go_at_call 93;(with_reducible refine(strings_Contains.calls a0 (⟨#[45,45,33,62]⟩:Bt) false _ A8.out (Go.Proofs.YtkcmghlhpbepcaaGreatDoor.Std.below HS_.out bz)).mono ?_);rintro e w22 ⟨rfl,hb⟩;replace HB:=ak.mk (aG bz hb);(try clear hb);(try clear hb2);(try clear hk);(try clear hi))|(go_at_call 94;(with_reducible refine(strings_HasPrefix.calls a0 (⟨#[62]⟩:Bt) false _ A13.out).mono ?_);rintro e w23 ⟨rfl,hb⟩;replace HB:=ak.mk (aG bz hb);(try clear hb);(try clear hb2);(try clear hk);(try clear hi))|(go_at_call 94;(with_reducible refine(strings_HasPrefix.calls a0 (⟨#[45,62]⟩:Bt) rX _ A19.out).mono ?_);rintro e w24 ⟨rfl,hb⟩;replace HB:=ak.mk (aG bz hb);(try clear hb);(try clear hb2);(try clear hk);(try clear hi)))
     go_ret;exact⟨by first|rfl|(simp[aJ,aM]<;>rfl)|(simp[*,aJ,aM]<;>rfl),bz⟩
 ·replace c3:=Bool.eq_false_iff.mpr c3
  subst c3;have H1:(some false)=some r:=by rw[if_neg (show¬(false=true) by decide)]at H;first|exact H|(simp only[eq_self]at H⊢;exact H)|(simp only[eq_self,if_true]at H⊢;exact H)
  clear H;have H:=H1;clear H1;obtain rfl:=Option.some.inj H;go_enter Tryz.func48,Tryz.ntmps48
  go_wp2_with(first|((with_reducible refine aZ (f:=47) rfl ?_);refine dJ (some 4) rfl rfl Tryz.func47 (by kernel_rfl) rfl #[.string a0] rfl q'a ?_;(with_reducible refine(dA.calls a0 false _ A2.out (Go.Proofs.YtkcmghlhpbepcaaGreatDoor.Std.below HS_.out bz)).mono ?_);rintro e w25 ⟨rfl,hb⟩;refine⟨_,rfl,?_⟩;replace HB:=ak.mk (aG bz hb);(try clear hb);(try clear hb2);(try clear hk);(try clear hi)))
  go_ret;exact⟨by first|rfl|(simp[aJ,aM]<;>rfl)|(simp[*,aJ,aM]<;>rfl),bz⟩
end Go.Proofs.aj.W7
