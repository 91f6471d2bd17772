/- Lemmas and walks, part 4. -/
import Derived.Test.YtkcmghlhpbepcaaGreatDoorProg
import Derived.Test.YtkcmghlhpbepcaaGreatDoorWI3
import Derived.BigGuardPart
import Derived.Shelf.Small.Utf8
import Derived.Shelf.Strings.BuilderK
import Derived.Shelf.Strconv.ToErrorRange
import Derived.Shelf.Strings.Shaped
import Derived.Shelf.Strings.Prefix
import Derived.Shelf.Strings.Replace
import Derived.Shelf.Strings.RuneCount
import Derived.Shelf.Strings.IndexAnyAll
import Derived.Shelf.Unicode.DecodeAny
import Derived.Shelf.Slices.Turned
set_option linter.unusedVariables false
set_option linter.unusedSimpArgs false
set_option maxHeartbeats 8000000
set_option maxRecDepth 100000
namespace Go.Proofs.aj.W7
open Go.RowKit ah.aD ah.bH ah.bU
attribute [local go_sem] dB dD dW dX bZ cu dF dG
def errW:Option Int→Value
 |none=>.nilIface
 |some c=>.iface 0 (.int .i64 c)
theorem aI:errW none=.nilIface:=rfl
theorem aJ(c:Int):errW (some c)=.iface 0 (.int .i64 c):=rfl
theorem BK:(Tryz.prog.info? 9).map (fun i=>(i.zero,i.size,i.bytes))=some (some (.string ⟨#[]⟩),1,16):=by kernel_rfl
theorem qI:(Tryz.prog.info? 34).map (fun i=>(i.zero,i.size,i.bytes))=some (some (.agg #[(.int .i64 0),(.int .i64 0),(.string ⟨#[]⟩),(.string ⟨#[]⟩),(.slice none 0 0)]),5,72):=by kernel_rfl
theorem Ku:(Tryz.prog.info? 36).map (fun i=>(i.zero,i.size,i.bytes))=some (some (.agg #[(.string ⟨#[]⟩),(.string ⟨#[]⟩)]),2,32):=by kernel_rfl
structure S36 where
 f0:Bt
 f1:Bt
def z36:S36:=⟨(⟨#[]⟩:Bt),(⟨#[]⟩:Bt)⟩
def k36:Kd S36:=Kd.iso (Kd.pair Kd.string Kd.string) (fun x:S36=>(x.f0,x.f1))
theorem k36_open{w:World}{x:S36}{cs:List Value}(h:k36.K w x cs):cs=[.string x.f0,.string x.f1]:=by
 obtain⟨_,_,rfl,rfl,rfl⟩:=h;exact rfl
theorem k36_mk(w:World)(x:S36):k36.K w x [.string x.f0,.string x.f1]:=⟨[.string x.f0],[.string x.f1],rfl,rfl,rfl⟩
theorem QV(w:World)(base:Nat)(ok:Nat→Prop)(x:S36):k36.M w base ok x [.string x.f0,.string x.f1]:=⟨[.string x.f0],[.string x.f1],rfl,rfl,rfl⟩
def bD(xs:List S36)(i:Int):S36:=xs.getD i.toNat z36
theorem ni{w:World}{A:Option Addr}{n:Nat}{xs:List S36}(h:Kd.C k36 w A n xs)(i:Int)(h0:0≤i)(h1:i<n):∃ad,A=some ad∧w.cell? (ad.add (i.toNat * 2))=some (.string (bD xs i).f0)∧w.cell? ⟨(ad.add (i.toNat * 2)).block,(ad.add (i.toNat * 2)).off+1,none⟩=some (.string (bD xs i).f1):=by
 obtain⟨ad,c,e,_,hK,hc0⟩:=Kd.C_get h z36 i h0 h1;have hc:∀j u,c[j]?=some u→w.cell? (ad.add (i.toNat * 2+j))=some u:=hc0
 obtain rfl:=k36_open hK;exact⟨ad,e,hc 0 _ rfl,by rw[←iR _ _ 1 (by omega)];exact hc 1 _ rfl⟩
structure S34 where
 f0:Int
 f1:Int
 f2:Bt
 f3:Bt
 f4:(List S36)
def z34:S34:=⟨(0:Int),(0:Int),(⟨#[]⟩:Bt),(⟨#[]⟩:Bt),([] :List S36)⟩
def k34:Kd S34:=Kd.iso (Kd.pair (Kd.int .i64) (Kd.pair (Kd.int .i64) (Kd.pair Kd.string (Kd.pair Kd.string (Kd.slice 36 k36))))) (fun x:S34=>(x.f0,x.f1,x.f2,x.f3,x.f4))
theorem k34_open{w:World}{x:S34}{cs:List Value}(h:k34.K w x cs):∃A4 c4,cs=[.int .i64 x.f0,.int .i64 x.f1,.string x.f2,.string x.f3,.slice A4 x.f4.length c4]∧x.f4.length≤c4∧k36.C w A4 x.f4.length x.f4:=by
 obtain⟨_,_,rfl,rfl,⟨_,_,rfl,rfl,⟨_,_,rfl,rfl,⟨_,_,rfl,rfl,⟨A4,c4,rfl,l4,g4⟩⟩⟩⟩⟩:=h;exact⟨A4,c4,rfl,l4,g4⟩
theorem kI{w:World}{base:Nat}{ok:Nat→Prop}{x:S34}{cs:List Value}(h:k34.M w base ok x cs):∃v4,cs=[.int .i64 x.f0,.int .i64 x.f1,.string x.f2,.string x.f3,v4]∧k36.R 36 w base ok v4 x.f4:=by
 obtain⟨_,_,rfl,rfl,⟨_,_,rfl,rfl,⟨_,_,rfl,rfl,⟨_,_,rfl,rfl,⟨v4,rfl,g4⟩⟩⟩⟩⟩:=h;exact⟨v4,rfl,g4⟩
theorem Kz(w:World)(x:S34){A4:Option Addr}{c4:Nat}(l4:x.f4.length≤c4)(g4:k36.C w A4 x.f4.length x.f4):k34.K w x [.int .i64 x.f0,.int .i64 x.f1,.string x.f2,.string x.f3,.slice A4 x.f4.length c4]:=⟨[.int .i64 x.f0],[.int .i64 x.f1,.string x.f2,.string x.f3,.slice A4 x.f4.length c4],rfl,rfl,⟨[.int .i64 x.f1],[.string x.f2,.string x.f3,.slice A4 x.f4.length c4],rfl,rfl,⟨[.string x.f2],[.string x.f3,.slice A4 x.f4.length c4],rfl,rfl,⟨[.string x.f3],[.slice A4 x.f4.length c4],rfl,rfl,⟨A4,c4,rfl,l4,g4⟩⟩⟩⟩⟩
theorem wP(w:World)(base:Nat)(ok:Nat→Prop)(x:S34){v4:Value}(g4:k36.R 36 w base ok v4 x.f4):k34.M w base ok x [.int .i64 x.f0,.int .i64 x.f1,.string x.f2,.string x.f3,v4]:=⟨[.int .i64 x.f0],[.int .i64 x.f1,.string x.f2,.string x.f3,v4],rfl,rfl,⟨[.int .i64 x.f1],[.string x.f2,.string x.f3,v4],rfl,rfl,⟨[.string x.f2],[.string x.f3,v4],rfl,rfl,⟨[.string x.f3],[v4],rfl,rfl,⟨v4,rfl,g4⟩⟩⟩⟩⟩
def au(xs:List S34)(i:Int):S34:=xs.getD i.toNat z34
theorem iM{w:World}{A:Option Addr}{n:Nat}{xs:List S34}(h:Kd.C k34 w A n xs)(i:Int)(h0:0≤i)(h1:i<n):∃ad A4 c4,A=some ad∧w.cell? (ad.add (i.toNat * 5))=some (.int .i64 (au xs i).f0)∧w.cell? ⟨(ad.add (i.toNat * 5)).block,(ad.add (i.toNat * 5)).off+1,none⟩=some (.int .i64 (au xs i).f1)∧w.cell? ⟨(ad.add (i.toNat * 5)).block,(ad.add (i.toNat * 5)).off+2,none⟩=some (.string (au xs i).f2)∧w.cell? ⟨(ad.add (i.toNat * 5)).block,(ad.add (i.toNat * 5)).off+3,none⟩=some (.string (au xs i).f3)∧w.cell? ⟨(ad.add (i.toNat * 5)).block,(ad.add (i.toNat * 5)).off+4,none⟩=some (.slice A4 (au xs i).f4.length c4)∧(au xs i).f4.length≤c4∧k36.C w A4 (au xs i).f4.length (au xs i).f4:=by
 obtain⟨ad,c,e,_,hK,hc0⟩:=Kd.C_get h z34 i h0 h1;have hc:∀j u,c[j]?=some u→w.cell? (ad.add (i.toNat * 5+j))=some u:=hc0
 obtain⟨A4,c4,rfl,l4,g4⟩:=k34_open hK;exact⟨ad,A4,c4,e,hc 0 _ rfl,by rw[←iR _ _ 1 (by omega)];exact hc 1 _ rfl,by rw[←iR _ _ 2 (by omega)];exact hc 2 _ rfl,by rw[←iR _ _ 3 (by omega)];exact hc 3 _ rfl,by rw[←iR _ _ 4 (by omega)];exact hc 4 _ rfl,l4,g4⟩
structure S65 where
 f0:Int
 f1:Bt
 f2:Bt
 f3:(List S36)
 f4:Bool
def z65:S65:=⟨(0:Int),(⟨#[]⟩:Bt),(⟨#[]⟩:Bt),([] :List S36),false⟩
def k65:Kd S65:=Kd.iso (Kd.pair (Kd.int .i64) (Kd.pair Kd.string (Kd.pair Kd.string (Kd.pair (Kd.slice 36 k36) Kd.bool)))) (fun x:S65=>(x.f0,x.f1,x.f2,x.f3,x.f4))
theorem k65_open{w:World}{x:S65}{cs:List Value}(h:k65.K w x cs):∃A3 c3,cs=[.int .i64 x.f0,.string x.f1,.string x.f2,.slice A3 x.f3.length c3,.bool x.f4]∧x.f3.length≤c3∧k36.C w A3 x.f3.length x.f3:=by
 obtain⟨_,_,rfl,rfl,⟨_,_,rfl,rfl,⟨_,_,rfl,rfl,⟨_,_,rfl,⟨A3,c3,rfl,l3,g3⟩,rfl⟩⟩⟩⟩:=h;exact⟨A3,c3,rfl,l3,g3⟩
theorem k65_mkM(w:World)(base:Nat)(ok:Nat→Prop)(x:S65){v3:Value}(g3:k36.R 36 w base ok v3 x.f3):k65.M w base ok x [.int .i64 x.f0,.string x.f1,.string x.f2,v3,.bool x.f4]:=⟨[.int .i64 x.f0],[.string x.f1,.string x.f2,v3,.bool x.f4],rfl,rfl,⟨[.string x.f1],[.string x.f2,v3,.bool x.f4],rfl,rfl,⟨[.string x.f2],[v3,.bool x.f4],rfl,rfl,⟨[v3],[.bool x.f4],rfl,⟨v3,rfl,g3⟩,rfl⟩⟩⟩⟩
def vw(xs:List S65)(i:Int):S65:=xs.getD i.toNat z65
theorem at_T65{w:World}{A:Option Addr}{n:Nat}{xs:List S65}(h:Kd.C k65 w A n xs)(i:Int)(h0:0≤i)(h1:i<n):∃ad A3 c3,A=some ad∧w.cell? (ad.add (i.toNat * 5))=some (.int .i64 (vw xs i).f0)∧w.cell? ⟨(ad.add (i.toNat * 5)).block,(ad.add (i.toNat * 5)).off+1,none⟩=some (.string (vw xs i).f1)∧w.cell? ⟨(ad.add (i.toNat * 5)).block,(ad.add (i.toNat * 5)).off+2,none⟩=some (.string (vw xs i).f2)∧w.cell? ⟨(ad.add (i.toNat * 5)).block,(ad.add (i.toNat * 5)).off+3,none⟩=some (.slice A3 (vw xs i).f3.length c3)∧w.cell? ⟨(ad.add (i.toNat * 5)).block,(ad.add (i.toNat * 5)).off+4,none⟩=some (.bool (vw xs i).f4)∧(vw xs i).f3.length≤c3∧k36.C w A3 (vw xs i).f3.length (vw xs i).f3:=by
 obtain⟨ad,c,e,_,hK,hc0⟩:=Kd.C_get h z65 i h0 h1;have hc:∀j u,c[j]?=some u→w.cell? (ad.add (i.toNat * 5+j))=some u:=hc0
 obtain⟨A3,c3,rfl,l3,g3⟩:=k65_open hK;exact⟨ad,A3,c3,e,hc 0 _ rfl,by rw[←iR _ _ 1 (by omega)];exact hc 1 _ rfl,by rw[←iR _ _ 2 (by omega)];exact hc 2 _ rfl,by rw[←iR _ _ 3 (by omega)];exact hc 3 _ rfl,by rw[←iR _ _ 4 (by omega)];exact hc 4 _ rfl,l3,g3⟩
end Go.Proofs.aj.W7
namespace Go.Proofs.YtkcmghlhpbepcaaGreatDoor
open Go.RowKit Go.Proofs
theorem Ay{a b:Bt}(h:a.data.toList=b.data.toList):a=b:=by
 cases a;cases b;congr;exact Array.toList_inj.mp h
theorem ret_i32{a b:Int}(h:a=b):Ending.returned (.int .i32 a)=.returned (.int .i32 b):=by rw[h]
theorem ret_i64{a b:Int}(h:a=b):Ending.returned (.int .i64 a)=.returned (.int .i64 b):=by rw[h]
theorem yQ{a b:Bool}(h:a=b):Ending.returned (.bool a)=.returned (.bool b):=by rw[h]
theorem ret_s{a b:Bt}(h:a.data.toList=b.data.toList):Ending.returned (.string a)=.returned (.string b):=by rw[Ay h]
theorem ret_sb{a b:Bt}{x y:Bool}(h:a.data.toList=b.data.toList)(k:x=y):Ending.returned (.tuple #[.string a,.bool x])=.returned (.tuple #[.string b,.bool y]):=by rw[Ay h,k]
theorem below_drewN{B:Nat}{w W:World}(h:Below B w W)(n:Nat):Below B w (W.drewN n):=⟨h.os,h.tape,h.output,h.size,h.block⟩
theorem bB{B:Nat}{w w1 w2:World}(h:Below B w w1)(hB:B≤w1.heap.size)(k:Below w1.heap.size w1 w2):Below B w w2:=
 h.trans ⟨k.os,k.tape,k.output,k.size,fun i hi=>k.block i (Nat.lt_of_lt_of_le hi hB)⟩
theorem qG{w w1 w2:World}(h:Below w.heap.size w w1)(k:Below w1.heap.size w1 w2):Below w.heap.size w w2:=bB h h.size k
theorem iF(l:List UInt8):(⟨l.toArray⟩:Bt).data.toList=l:=by simp
theorem rU(l:List UInt8):(⟨l.toArray⟩:Bt).size=l.length:=by rw[Lib.size_eq,iF]
@[go_sem] theorem ext_end (l : List UInt8) (a : Nat) : (⟨l.toArray⟩ : Bt).extract a l.length = ⟨(l.drop a).toArray⟩ := by
 rw[Lib.extract_eq,iF,List.take_of_length_le (by simp)]
@[go_sem] theorem ext_take (l : List UInt8) (n : Nat) : (⟨l.toArray⟩ : Bt).extract 0 n = ⟨(l.take n).toArray⟩ := by
 rw[Lib.extract_eq,iF];simp
@[go_sem] theorem get_mk (l : List UInt8) (k : Nat) (h : k < (⟨l.toArray⟩ : Bt).size) : (⟨l.toArray⟩ : Bt)[k]'h = l[k]'(by rwa [rU] at h) := by
 rw[ByteArray.getElem_eq_getElem_data];simp
def Ht(base c:Nat):Bool:=decide ((48≤c∧c≤57)∨(base=16∧((97≤c∧c≤102)∨(65≤c∧c≤70))))
theorem SQ{base c:Nat}(h:¬((48≤c∧c≤57)∨(base=16∧((97≤c∧c≤102)∨(65≤c∧c≤70))))):Ht base c=false:=decide_eq_false h
theorem digN_yes{base c:Nat}(h:(48≤c∧c≤57)∨(base=16∧((97≤c∧c≤102)∨(65≤c∧c≤70)))):Ht base c=true:=decide_eq_true h
def jU(base:Nat)(l:List UInt8):Bool:=l.all (fun c=>Ht base c.toNat)&& !l.isEmpty
theorem P7{s:ByteArray}{p:UInt8→Bool}(h:∀j (hj:j<s.size),p (s[j]'hj)=true):s.toList.all p=true:=by
 rw[Lib.toList_data,List.all_eq_true];intro x hx;obtain⟨j,hj,e⟩:=List.getElem_of_mem hx;have hj':j<s.size:=by simpa using hj
 have:=h j hj';rw[←e];simpa [ByteArray.getElem_eq_getElem_data]using this
theorem Hu{s:ByteArray}{p:UInt8→Bool}{j:Nat}(hj:j<s.size)(h:p (s[j]'hj)=false):s.toList.all p=false:=by
 rw[Lib.toList_data,List.all_eq_false];exact⟨s[j],by simp[ByteArray.getElem_eq_getElem_data],by simp[h]⟩
theorem JH{base:Nat}{s:ByteArray}{j:Nat}(hj:j<s.size)(h:Ht base (s[j]'hj).toNat=false):jU base s.toList=false:=by
 unfold jU;rw[Hu hj h];rfl
theorem P8{base:Nat}{s:ByteArray}(h:∀j (hj:j<s.size),Ht base (s[j]'hj).toNat=true):jU base s.toList=!s.toList.isEmpty:=by
 unfold jU;rw[P7 h];rfl
theorem Od{base pos:Nat}{s:ByteArray}(h:∀j (hj:j<s.size),j<pos→Ht base (s[j]'hj).toNat=true)(hp:pos<s.size)(hd:Ht base (s[pos]'hp).toNat=true):
 ∀j (hj:j<s.size),j<pos+1→Ht base (s[j]'hj).toNat=true:=by
 intro j hj hlt
 by_cases e:j=pos
 ·subst e;exact hd
 ·exact h j hj (by omega)
theorem MR(base:Nat)(hb:base=10∨base=16)(s:ByteArray)(w:World)(hs:s.size≤9223372036854775807):
 Calls Tryz.prog 225 #[.string s,.int .i64 base] w fun e w'=>e=.returned (.bool (jU base s.toList))∧Below w.heap.size w w':=by
 go_enter Tryz.func225,Tryz.ntmps225;go_wp2
 go_loopw [] (fun wr=>∃(pos:Nat),pos≤s.size∧wr.heap[w.heap.size]?=some (.stringIter s pos)∧Below w.heap.size w wr∧Hid (∀j (hj:j<s.size),j<pos→Ht base (s[j]'hj).toNat=true)) (fun wr=>s.size - wr.iterPos w.heap.size)
 case atStart=>
  refine⟨0,by omega,by simpa using World.iter_heap w s 0,(Below.refl _ w).alloc (Nat.le_refl _) _,fun j _ h=>by omega⟩
 case round=>
  obtain⟨pos,hp,hit,hbw,hall⟩:=hrel
  by_cases hlt:pos<s.size
  ·by_cases ha:(s[pos]'hlt).toNat<128
   ·have hnx:∀ty,(Instr.next (.pointer (some ⟨w.heap.size,0,none⟩)) true ty).run Tryz.prog wr=_:=fun ty=>Lib.run_next_ascii_at wr w.heap.size s pos ty hit hlt ha
    generalize hc:(s[pos]'hlt).toNat=c at *;have hc':=Lib.hid hc;clear hc
    rcases hb with rfl|rfl
    all_goals
     go_wp2
     all_goals(try simp only[Bool.not_eq_true',Bool.not_eq_false',Bool.not_true,Bool.not_false,decide_eq_true_eq,decide_eq_false_iff_not]at *)
     all_goals first
      |(go_ret;refine⟨yQ (JH hlt ?_).symm,Lib.below_iterAt hbw (Nat.le_refl _) _ _⟩;rw[hc'.out];refine SQ ?_;omega)
      |(refine⟨⟨pos+1,?_,Lib.iterAt_heap _ _ _ _ _ hit,Lib.below_iterAt hbw (Nat.le_refl _) _ _,Od hall.out hlt ?_⟩,?_⟩;omega;rw[hc'.out];refine digN_yes ?_;omega;simp only[World.iterPos,Lib.iterAt_heap _ _ _ _ _ hit,hit];omega)
      |skip
   ·have hh:=decode_high s pos hlt (by omega)
    obtain⟨hh1,hh2⟩:=hh;have hnx:∀ty,(Instr.next (.pointer (some ⟨w.heap.size,0,none⟩)) true ty).run Tryz.prog wr=_:=fun ty=>Lib.run_next_any_at wr w.heap.size s pos ty hit hlt
    have h64:(128:Int)≤(Utf8.decode s pos).1:=by omega
    have hle:=decode_le s pos;generalize (Utf8.decode s pos).1=c at *;generalize (Utf8.decode s pos).2=d at *
    have hno:Ht base (s[pos]'hlt).toNat=false:=by
     refine SQ ?_;omega
    have hno:=Lib.hid hno;rename_i hno0;clear hno0
    rcases hb with rfl|rfl
    all_goals
     go_wp2
     all_goals(try simp only[Bool.not_eq_true',Bool.not_eq_false',Bool.not_true,Bool.not_false,decide_eq_true_eq,decide_eq_false_iff_not]at *)
     all_goals first
      |(go_ret;refine⟨yQ (JH hlt hno.out).symm,Lib.below_iterAt hbw (Nat.le_refl _) _ _⟩)
      |(exfalso;omega)
  ·have hnx:∀ty,(Instr.next (.pointer (some ⟨w.heap.size,0,none⟩)) true ty).run Tryz.prog wr=_:=fun ty=>Lib.run_next_end_at wr w.heap.size s pos ty hit hlt
   have hy:=Lib.hid (P8 fun j hj=>hall.out j hj (by omega));go_wp2;go_ret;refine⟨yQ ?_,hbw⟩;rw[hy.out]
end Go.Proofs.YtkcmghlhpbepcaaGreatDoor
namespace Go.Proofs
open Go.Shelf
def Tryz.lays169_ren:Go.Shelf.Ren:=⟨fun|169=>138|n=>n,fun|70=>104|9=>9|0=>0|72=>106|37=>43|127=>134|3=>3|5=>5|n=>n,fun|n=>n⟩
theorem Tryz.lays169:Go.Proofs.Lays.n169 Tryz.prog Tryz.lays169_ren:={
 mixed:=by kernel_rfl
 f169:=Tryz.func138.trans (congrArg some (by kernel_rfl))
 t0:=Tryz.underlying0
 a0:=Tryz.isAgg0
 z0:=Tryz.sizeOf0
 v0:=Tryz.zeroValue0
 t3:=Tryz.underlying3
 a3:=Tryz.isAgg3
 z3:=Tryz.sizeOf3
 v3:=Tryz.zeroValue3
 t9:=Tryz.underlying9
 a9:=Tryz.isAgg9
 z9:=Tryz.sizeOf9
 v9:=Tryz.zeroValue9
 t37:=Tryz.underlying43
 a37:=Tryz.isAgg43
 z37:=Tryz.sizeOf43
 v37:=Tryz.zeroValue43
 t70:=Tryz.underlying104
 a70:=Tryz.isAgg104
 z70:=Tryz.sizeOf104
 v70:=Tryz.zeroValue104
 t72:=Tryz.underlying106
 a72:=Tryz.isAgg106
 z72:=Tryz.sizeOf106
 v72:=Tryz.zeroValue106
 t127:=Tryz.underlying134
 a127:=Tryz.isAgg134
 z127:=Tryz.sizeOf134
 v127:=Tryz.zeroValue134 }
theorem Tryz.Builder_Extra_169:Builder.Extra Tryz.prog Tryz.lays169_ren:={
 sizeBuilder:=by kernel_rfl
 liesBuilder:=by kernel_rfl
 t5:=Tryz.underlying5
 a5:=Tryz.isAgg5
 z5:=Tryz.sizeOf5
 v5:=Tryz.zeroValue5
 infoByte:=by kernel_rfl
 cellsByte:=by kernel_rfl
 sizeByte:=by kernel_rfl
 neB5:=by decide }
open Go.RowKit in
open Go.RowKit in
open Go.RowKit in
open Go.RowKit in
open Go.RowKit in
def Tryz.lays119_ren:Go.Shelf.Ren:=⟨fun|119=>204|n=>n,fun|21=>21|4=>4|n=>n,fun|n=>n⟩
theorem Tryz.lays119:Go.Proofs.Lays.n119 Tryz.prog Tryz.lays119_ren:={
 mixed:=by kernel_rfl
 f119:=Tryz.func204.trans (congrArg some (by kernel_rfl))
 t4:=Tryz.underlying4
 a4:=Tryz.isAgg4
 z4:=Tryz.sizeOf4
 v4:=Tryz.zeroValue4
 t21:=Tryz.underlying21
 a21:=Tryz.isAgg21
 z21:=Tryz.sizeOf21
 v21:=Tryz.zeroValue21 }
theorem Tryz.utf8_ValidRune(r:Int)(w:World):
 Calls Tryz.prog 204 #[.int .i32 r] w fun e w'=>e=.returned (.bool (Lib.validRune r))∧w'=w:=Any.utf8_ValidRune Tryz.lays119 r w
def Tryz.lays137_ren:Go.Shelf.Ren:=⟨fun|137=>203|217=>207|266=>223|n=>n,fun|9=>9|5=>5|3=>3|n=>n,fun|n=>n⟩
theorem Tryz.lays137:Go.Proofs.Lays.n137 Tryz.prog Tryz.lays137_ren:={
 mixed:=by kernel_rfl
 f137:=Tryz.func203.trans (congrArg some (by kernel_rfl))
 f217:=Tryz.func207.trans (congrArg some (by kernel_rfl))
 f266:=Tryz.func223.trans (congrArg some (by kernel_rfl))
 t3:=Tryz.underlying3
 a3:=Tryz.isAgg3
 z3:=Tryz.sizeOf3
 v3:=Tryz.zeroValue3
 t5:=Tryz.underlying5
 a5:=Tryz.isAgg5
 z5:=Tryz.sizeOf5
 v5:=Tryz.zeroValue5
 t9:=Tryz.underlying9
 a9:=Tryz.isAgg9
 z9:=Tryz.sizeOf9
 v9:=Tryz.zeroValue9 }
open Go.RowKit in
theorem Tryz.strings_IndexByte(s:Bt)(c:Int)(w:World):
 Calls Tryz.prog 203 #[.string s,.int .u8 c] w fun e w'=>e=.returned (.int .i64 (Lib.indexByte s.data.toList c.toNat.toUInt8))∧w'=w:=Any.strings_IndexByte Tryz.lays137 s c w
open Go.RowKit in
open Go.RowKit in
open Go.RowKit in
open Go.RowKit in
open Go.RowKit in
open Go.RowKit in
theorem Tryz.Builder_String_any_k(B b:Nat)(l:List UInt8)(w:World)(h:Lib.IsBuilderF 106 5 B b (Lib.byteCells l) w)(hBw:B≤w.heap.size):
 Calls Tryz.prog 138 #[.pointer (some ⟨b,0,none⟩)] w fun e w'=>e=.returned (.string ⟨l.toArray⟩)∧(Lib.IsBuilderF 106 5 B b (Lib.byteCells l) w'∧Below B w w'∧Lib.OthersKept 5 (some b) w w'):=Any.Builder_String_any_k Tryz.lays169 Tryz.Builder_Extra_169 B b l w h hBw
open Go.RowKit in
open Go.RowKit in
def Tryz.laysC245_ren:Go.Shelf.Ren:=⟨fun|245=>240|279=>247|280=>248|281=>249|282=>250|316=>253|171=>255|205=>254|243=>256|246=>257|283=>258|284=>259|285=>260|286=>261|129=>263|317=>262|318=>264|319=>265|320=>266|337=>267|338=>268|n=>n,fun|9=>9|3=>3|75=>109|167=>187|4=>4|168=>190|210=>195|37=>43|0=>0|127=>134|145=>199|143=>197|2=>2|171=>201|53=>160|5=>5|173=>204|212=>207|51=>172|20=>20|213=>208|46=>140|232=>211|233=>212|80=>113|n=>n,fun|15=>3|16=>4|17=>5|18=>6|19=>7|n=>n⟩
theorem Tryz.laysC245:Go.Proofs.LaysC.n245 Tryz.prog Tryz.laysC245_ren:={
 mixed:=by kernel_rfl
 f129:=Tryz.func263.trans (congrArg some (by kernel_rfl))
 f171:=Tryz.func255.trans (congrArg some (by kernel_rfl))
 f205:=Tryz.func254.trans (congrArg some (by kernel_rfl))
 f243:=Tryz.func256.trans (congrArg some (by kernel_rfl))
 f245:=Tryz.func240.trans (congrArg some (by kernel_rfl))
 f246:=Tryz.func257.trans (congrArg some (by kernel_rfl))
 f279:=Tryz.func247.trans (congrArg some (by kernel_rfl))
 f280:=Tryz.func248.trans (congrArg some (by kernel_rfl))
 f281:=Tryz.func249.trans (congrArg some (by kernel_rfl))
 f282:=Tryz.func250.trans (congrArg some (by kernel_rfl))
 f283:=Tryz.func258.trans (congrArg some (by kernel_rfl))
 f284:=Tryz.func259.trans (congrArg some (by kernel_rfl))
 f285:=Tryz.func260.trans (congrArg some (by kernel_rfl))
 f286:=Tryz.func261.trans (congrArg some (by kernel_rfl))
 f316:=Tryz.func253.trans (congrArg some (by kernel_rfl))
 f317:=Tryz.func262.trans (congrArg some (by kernel_rfl))
 f318:=Tryz.func264.trans (congrArg some (by kernel_rfl))
 f319:=Tryz.func265.trans (congrArg some (by kernel_rfl))
 f320:=Tryz.func266.trans (congrArg some (by kernel_rfl))
 f337:=Tryz.func267.trans (congrArg some (by kernel_rfl))
 f338:=Tryz.func268.trans (congrArg some (by kernel_rfl))
 t0:=Tryz.underlying0
 a0:=Tryz.isAgg0
 z0:=Tryz.sizeOf0
 v0:=Tryz.zeroValue0
 t2:=Tryz.underlying2
 a2:=Tryz.isAgg2
 z2:=Tryz.sizeOf2
 v2:=Tryz.zeroValue2
 t3:=Tryz.underlying3
 a3:=Tryz.isAgg3
 z3:=Tryz.sizeOf3
 v3:=Tryz.zeroValue3
 t4:=Tryz.underlying4
 a4:=Tryz.isAgg4
 z4:=Tryz.sizeOf4
 v4:=Tryz.zeroValue4
 t5:=Tryz.underlying5
 a5:=Tryz.isAgg5
 z5:=Tryz.sizeOf5
 v5:=Tryz.zeroValue5
 t9:=Tryz.underlying9
 a9:=Tryz.isAgg9
 z9:=Tryz.sizeOf9
 v9:=Tryz.zeroValue9
 t20:=Tryz.underlying20
 a20:=Tryz.isAgg20
 z20:=Tryz.sizeOf20
 v20:=Tryz.zeroValue20
 t37:=Tryz.underlying43
 a37:=Tryz.isAgg43
 z37:=Tryz.sizeOf43
 v37:=Tryz.zeroValue43
 t46:=Tryz.underlying140
 a46:=Tryz.isAgg140
 z46:=Tryz.sizeOf140
 v46:=Tryz.zeroValue140
 t51:=Tryz.underlying172
 a51:=Tryz.isAgg172
 z51:=Tryz.sizeOf172
 v51:=Tryz.zeroValue172
 t53:=Tryz.underlying160
 a53:=Tryz.isAgg160
 z53:=Tryz.sizeOf160
 v53:=Tryz.zeroValue160
 t75:=Tryz.underlying109
 a75:=Tryz.isAgg109
 z75:=Tryz.sizeOf109
 v75:=Tryz.zeroValue109
 t127:=Tryz.underlying134
 a127:=Tryz.isAgg134
 z127:=Tryz.sizeOf134
 v127:=Tryz.zeroValue134
 t143:=Tryz.underlying197
 a143:=Tryz.isAgg197
 z143:=Tryz.sizeOf197
 v143:=Tryz.zeroValue197
 t145:=Tryz.underlying199
 a145:=Tryz.isAgg199
 z145:=Tryz.sizeOf199
 v145:=Tryz.zeroValue199
 t167:=Tryz.underlying187
 a167:=Tryz.isAgg187
 z167:=Tryz.sizeOf187
 v167:=Tryz.zeroValue187
 t168:=Tryz.underlying190
 a168:=Tryz.isAgg190
 z168:=Tryz.sizeOf190
 v168:=Tryz.zeroValue190
 t171:=Tryz.underlying201
 a171:=Tryz.isAgg201
 z171:=Tryz.sizeOf201
 v171:=Tryz.zeroValue201
 t173:=Tryz.underlying204
 a173:=Tryz.isAgg204
 z173:=Tryz.sizeOf204
 v173:=Tryz.zeroValue204
 t210:=Tryz.underlying195
 a210:=Tryz.isAgg195
 z210:=Tryz.sizeOf195
 v210:=Tryz.zeroValue195
 t212:=Tryz.underlying207
 a212:=Tryz.isAgg207
 z212:=Tryz.sizeOf207
 v212:=Tryz.zeroValue207
 t213:=Tryz.underlying208
 a213:=Tryz.isAgg208
 z213:=Tryz.sizeOf208
 t232:=Tryz.underlying211
 a232:=Tryz.isAgg211
 z232:=Tryz.sizeOf211
 v232:=Tryz.zeroValue211
 t233:=Tryz.underlying212
 a233:=Tryz.isAgg212
 z233:=Tryz.sizeOf212
 v233:=Tryz.zeroValue212
 g15:=by kernel_rfl
 g16:=by kernel_rfl
 g17:=by kernel_rfl
 g18:=by kernel_rfl
 g19:=by kernel_rfl
 t80:=Tryz.underlying113
 a80:=Tryz.isAgg113
 z80:=Tryz.sizeOf113
 v80:=Tryz.zeroValue113
 i0:=by kernel_rfl
 i2:=by kernel_rfl
 i3:=by kernel_rfl
 i4:=by kernel_rfl
 i5:=by kernel_rfl
 i9:=by kernel_rfl
 i20:=by kernel_rfl
 i37:=by kernel_rfl
 i46:=by kernel_rfl
 i51:=by kernel_rfl
 i53:=by kernel_rfl
 i75:=by kernel_rfl
 i80:=by kernel_rfl
 i127:=by kernel_rfl
 i143:=by kernel_rfl
 i145:=by kernel_rfl
 i167:=by kernel_rfl
 i168:=by kernel_rfl
 i171:=by kernel_rfl
 i173:=by kernel_rfl
 i210:=by kernel_rfl
 i212:=by kernel_rfl
 i232:=by kernel_rfl
 i233:=by kernel_rfl
 m15:=by kernel_rfl
 m16:=by kernel_rfl
 m17:=by kernel_rfl
 m18:=by kernel_rfl
 m19:=by kernel_rfl
 c0:=by kernel_rfl
 c2:=by kernel_rfl
 c3:=by kernel_rfl
 c4:=by kernel_rfl
 c5:=by kernel_rfl
 c9:=by kernel_rfl
 c20:=by kernel_rfl
 c37:=by kernel_rfl
 c46:=by kernel_rfl
 c51:=by kernel_rfl
 c53:=by kernel_rfl
 c75:=by kernel_rfl
 c80:=by kernel_rfl
 c127:=by kernel_rfl
 c143:=by kernel_rfl
 c145:=by kernel_rfl
 c167:=by kernel_rfl
 c168:=by kernel_rfl
 c171:=by kernel_rfl
 c173:=by kernel_rfl
 c210:=by kernel_rfl
 c212:=by kernel_rfl
 c213:=by kernel_rfl
 c232:=by kernel_rfl
 c233:=by kernel_rfl }
open Go.RowKit in
theorem Tryz.strconv_toError_range(fn s:Bt)(base bits:Int)(ev:Value)(w:World)(hlim:s.size≤281474976710656)(hv:w.cell? ⟨4,0,none⟩=some ev)(hev:ev=.nilIface∨∃te pe,ev=.iface te pe):
 Calls Tryz.prog 240 #[.string fn,.string s,.int .i64 base,.int .i64 bits,.iface 187 (.int .i64 1)] w fun e w'=>∃N,e=.returned (.iface 190 (.pointer (some ⟨N,0,none⟩)))∧w.heap.size≤N∧w'.heap[N]?=some (.cells #[.string fn,.string s,ev] 195 (0,0))∧Below w.heap.size w w':=Any.strconv_toError_range Tryz.laysC245 fn s base bits ev w hlim hv hev
open Go.RowKit Go.Lib in
open Go.RowKit Go.Lib in
open Go.RowKit Go.Lib in
open Go.RowKit Go.Lib in
open Go.RowKit Go.Lib in
open Go.RowKit Go.Lib in
def Tryz.lays143_ren:Go.Shelf.Ren:=⟨fun|143=>141|219=>182|217=>207|225=>206|224=>205|267=>208|266=>223|314=>224|n=>n,fun|9=>9|3=>3|4=>4|5=>5|46=>140|146=>176|51=>172|n=>n,fun|1=>2|n=>n⟩
theorem Tryz.lays143:Go.Proofs.Lays.n143 Tryz.prog Tryz.lays143_ren:={
 mixed:=by kernel_rfl
 f143:=Tryz.func141.trans (congrArg some (by kernel_rfl))
 f217:=Tryz.func207.trans (congrArg some (by kernel_rfl))
 f219:=Tryz.func182.trans (congrArg some (by kernel_rfl))
 f224:=Tryz.func205.trans (congrArg some (by kernel_rfl))
 f225:=Tryz.func206.trans (congrArg some (by kernel_rfl))
 f266:=Tryz.func223.trans (congrArg some (by kernel_rfl))
 f267:=Tryz.func208.trans (congrArg some (by kernel_rfl))
 f314:=Tryz.func224.trans (congrArg some (by kernel_rfl))
 t3:=Tryz.underlying3
 a3:=Tryz.isAgg3
 z3:=Tryz.sizeOf3
 v3:=Tryz.zeroValue3
 t4:=Tryz.underlying4
 a4:=Tryz.isAgg4
 z4:=Tryz.sizeOf4
 v4:=Tryz.zeroValue4
 t5:=Tryz.underlying5
 a5:=Tryz.isAgg5
 z5:=Tryz.sizeOf5
 v5:=Tryz.zeroValue5
 t9:=Tryz.underlying9
 a9:=Tryz.isAgg9
 z9:=Tryz.sizeOf9
 v9:=Tryz.zeroValue9
 t46:=Tryz.underlying140
 a46:=Tryz.isAgg140
 z46:=Tryz.sizeOf140
 v46:=Tryz.zeroValue140
 t51:=Tryz.underlying172
 a51:=Tryz.isAgg172
 z51:=Tryz.sizeOf172
 v51:=Tryz.zeroValue172
 t146:=Tryz.underlying176
 a146:=Tryz.isAgg176
 z146:=Tryz.sizeOf176
 v146:=Tryz.zeroValue176
 g1:=by kernel_rfl }
open Go.RowKit Go.Lib in
open Go.RowKit Go.Lib in
theorem Tryz.strings_Index(s sub:Bt)(m:Int)(w:World)(hs:s.size<4294967281)(hm:w.cell? ⟨2,0,none⟩=some (.int .i64 m)):
 Calls Tryz.prog 141 #[.string s,.string sub] w fun e w'=>e=.returned (.int .i64 (Lib.index s.data.toList sub.data.toList))∧w'=w:=Any.strings_Index Tryz.lays143 s sub m w hs hm
def Tryz.lays144_ren:Go.Shelf.Ren:=⟨fun|144=>93|143=>141|219=>182|217=>207|225=>206|224=>205|267=>208|266=>223|314=>224|n=>n,fun|9=>9|4=>4|3=>3|5=>5|46=>140|146=>176|51=>172|n=>n,fun|1=>2|n=>n⟩
theorem Tryz.lays144:Go.Proofs.Lays.n144 Tryz.prog Tryz.lays144_ren:={
 mixed:=by kernel_rfl
 f143:=Tryz.func141.trans (congrArg some (by kernel_rfl))
 f144:=Tryz.func93.trans (congrArg some (by kernel_rfl))
 f217:=Tryz.func207.trans (congrArg some (by kernel_rfl))
 f219:=Tryz.func182.trans (congrArg some (by kernel_rfl))
 f224:=Tryz.func205.trans (congrArg some (by kernel_rfl))
 f225:=Tryz.func206.trans (congrArg some (by kernel_rfl))
 f266:=Tryz.func223.trans (congrArg some (by kernel_rfl))
 f267:=Tryz.func208.trans (congrArg some (by kernel_rfl))
 f314:=Tryz.func224.trans (congrArg some (by kernel_rfl))
 t3:=Tryz.underlying3
 a3:=Tryz.isAgg3
 z3:=Tryz.sizeOf3
 v3:=Tryz.zeroValue3
 t4:=Tryz.underlying4
 a4:=Tryz.isAgg4
 z4:=Tryz.sizeOf4
 v4:=Tryz.zeroValue4
 t5:=Tryz.underlying5
 a5:=Tryz.isAgg5
 z5:=Tryz.sizeOf5
 v5:=Tryz.zeroValue5
 t9:=Tryz.underlying9
 a9:=Tryz.isAgg9
 z9:=Tryz.sizeOf9
 v9:=Tryz.zeroValue9
 t46:=Tryz.underlying140
 a46:=Tryz.isAgg140
 z46:=Tryz.sizeOf140
 v46:=Tryz.zeroValue140
 t51:=Tryz.underlying172
 a51:=Tryz.isAgg172
 z51:=Tryz.sizeOf172
 v51:=Tryz.zeroValue172
 t146:=Tryz.underlying176
 a146:=Tryz.isAgg176
 z146:=Tryz.sizeOf176
 v146:=Tryz.zeroValue176
 g1:=by kernel_rfl }
open Go.RowKit Go.Lib in
open Go.RowKit Go.Lib in
theorem Tryz.strings_Contains(s sub:Bt)(m:Int)(w:World)(hs:s.size<4294967281)(hm:w.cell? ⟨2,0,none⟩=some (.int .i64 m)):
 Calls Tryz.prog 93 #[.string s,.string sub] w fun e w'=>e=.returned (.bool (Lib.contains s.data.toList sub.data.toList))∧w'=w:=Any.strings_Contains Tryz.lays144 s sub m w hs hm
open Go.RowKit Go.Lib in
def Tryz.lays145_ren:Go.Shelf.Ren:=⟨fun|145=>188|220=>209|219=>182|217=>207|225=>206|224=>205|267=>208|266=>223|314=>224|n=>n,fun|9=>9|4=>4|59=>149|3=>3|5=>5|46=>140|146=>176|51=>172|n=>n,fun|1=>2|n=>n⟩
theorem Tryz.lays145:Go.Proofs.Lays.n145 Tryz.prog Tryz.lays145_ren:={
 mixed:=by kernel_rfl
 f145:=Tryz.func188.trans (congrArg some (by kernel_rfl))
 f217:=Tryz.func207.trans (congrArg some (by kernel_rfl))
 f219:=Tryz.func182.trans (congrArg some (by kernel_rfl))
 f220:=Tryz.func209.trans (congrArg some (by kernel_rfl))
 f224:=Tryz.func205.trans (congrArg some (by kernel_rfl))
 f225:=Tryz.func206.trans (congrArg some (by kernel_rfl))
 f266:=Tryz.func223.trans (congrArg some (by kernel_rfl))
 f267:=Tryz.func208.trans (congrArg some (by kernel_rfl))
 f314:=Tryz.func224.trans (congrArg some (by kernel_rfl))
 t3:=Tryz.underlying3
 a3:=Tryz.isAgg3
 z3:=Tryz.sizeOf3
 v3:=Tryz.zeroValue3
 t4:=Tryz.underlying4
 a4:=Tryz.isAgg4
 z4:=Tryz.sizeOf4
 v4:=Tryz.zeroValue4
 t5:=Tryz.underlying5
 a5:=Tryz.isAgg5
 z5:=Tryz.sizeOf5
 v5:=Tryz.zeroValue5
 t9:=Tryz.underlying9
 a9:=Tryz.isAgg9
 z9:=Tryz.sizeOf9
 v9:=Tryz.zeroValue9
 t46:=Tryz.underlying140
 a46:=Tryz.isAgg140
 z46:=Tryz.sizeOf140
 v46:=Tryz.zeroValue140
 t51:=Tryz.underlying172
 a51:=Tryz.isAgg172
 z51:=Tryz.sizeOf172
 v51:=Tryz.zeroValue172
 t59:=Tryz.underlying149
 a59:=Tryz.isAgg149
 z59:=Tryz.sizeOf149
 v59:=Tryz.zeroValue149
 t146:=Tryz.underlying176
 a146:=Tryz.isAgg176
 z146:=Tryz.sizeOf176
 v146:=Tryz.zeroValue176
 g1:=by kernel_rfl }
open Go.RowKit Go.Lib in
theorem Tryz.strings_Cut(s sep:Bt)(m:Int)(w:World)(hs:s.size<4294967281)(hm:w.cell? ⟨2,0,none⟩=some (.int .i64 m)):
 Calls Tryz.prog 188 #[.string s,.string sep] w fun e w'=>e=.returned (.tuple #[.string ⟨(Lib.cut s.data.toList sep.data.toList).1.toArray⟩,.string ⟨(Lib.cut s.data.toList sep.data.toList).2.1.toArray⟩,.bool (Lib.cut s.data.toList sep.data.toList).2.2])∧∃n,w'=w.drewN n:=Any.strings_Cut Tryz.lays145 s sep m w hs hm
open Go.RowKit Go.Lib in
open Go.RowKit Go.Lib in
open Go.RowKit Go.Lib in
open Go.RowKit Go.Lib in
open Go.RowKit Go.Lib in
open Go.RowKit Go.Lib in
open Go.RowKit Go.Lib in
open Go.RowKit Go.Lib in
open Go.RowKit Go.Lib in
def Tryz.lays99_ren:Go.Shelf.Ren:=⟨fun|99=>94|206=>142|n=>n,fun|9=>9|4=>4|3=>3|n=>n,fun|n=>n⟩
theorem Tryz.lays99:Go.Proofs.Lays.n99 Tryz.prog Tryz.lays99_ren:={
 mixed:=by kernel_rfl
 f99:=Tryz.func94.trans (congrArg some (by kernel_rfl))
 f206:=Tryz.func142.trans (congrArg some (by kernel_rfl))
 t3:=Tryz.underlying3
 a3:=Tryz.isAgg3
 z3:=Tryz.sizeOf3
 v3:=Tryz.zeroValue3
 t4:=Tryz.underlying4
 a4:=Tryz.isAgg4
 z4:=Tryz.sizeOf4
 v4:=Tryz.zeroValue4
 t9:=Tryz.underlying9
 a9:=Tryz.isAgg9
 z9:=Tryz.sizeOf9
 v9:=Tryz.zeroValue9 }
open Go.RowKit Go.Lib in
theorem Tryz.strings_HasPrefix(s p:Bt)(w:World):
 Calls Tryz.prog 94 #[.string s,.string p] w fun e w'=>e=.returned (.bool (Lib.hasPrefix s.data.toList p.data.toList))∧w'=w:=Any.strings_HasPrefix Tryz.lays99 s p w
open Go.RowKit Go.Lib in
def Tryz.lays100_ren:Go.Shelf.Ren:=⟨fun|100=>97|207=>145|n=>n,fun|9=>9|4=>4|3=>3|n=>n,fun|n=>n⟩
theorem Tryz.lays100:Go.Proofs.Lays.n100 Tryz.prog Tryz.lays100_ren:={
 mixed:=by kernel_rfl
 f100:=Tryz.func97.trans (congrArg some (by kernel_rfl))
 f207:=Tryz.func145.trans (congrArg some (by kernel_rfl))
 t3:=Tryz.underlying3
 a3:=Tryz.isAgg3
 z3:=Tryz.sizeOf3
 v3:=Tryz.zeroValue3
 t4:=Tryz.underlying4
 a4:=Tryz.isAgg4
 z4:=Tryz.sizeOf4
 v4:=Tryz.zeroValue4
 t9:=Tryz.underlying9
 a9:=Tryz.isAgg9
 z9:=Tryz.sizeOf9
 v9:=Tryz.zeroValue9 }
open Go.RowKit Go.Lib in
theorem Tryz.strings_HasSuffix(s p:Bt)(w:World)(hs:s.size≤9223372036854775807):
 Calls Tryz.prog 97 #[.string s,.string p] w fun e w'=>e=.returned (.bool (Lib.hasSuffix s.data.toList p.data.toList))∧w'=w:=Any.strings_HasSuffix Tryz.lays100 s p w hs
open Go.RowKit Go.Lib in
open Go.RowKit Go.Lib in
open Go.RowKit Go.Lib in
open Go.RowKit Go.Lib in
open Go.RowKit Go.Lib in
def Tryz.lays155_ren:Go.Shelf.Ren:=⟨fun|155=>160|154=>195|138=>216|165=>217|143=>141|166=>135|197=>218|169=>138|195=>231|218=>232|240=>174|241=>233|219=>182|260=>234|276=>201|277=>245|217=>207|225=>206|224=>205|267=>208|266=>223|314=>224|n=>n,fun|9=>9|3=>3|4=>4|72=>106|0=>0|76=>110|105=>170|21=>21|5=>5|70=>104|20=>20|37=>43|75=>109|127=>134|164=>157|46=>140|119=>136|139=>139|138=>138|146=>176|51=>172|80=>113|n=>n,fun|1=>2|3=>0|4=>1|n=>n⟩
theorem Tryz.lays155:Go.Proofs.Lays.n155 Tryz.prog Tryz.lays155_ren:={
 mixed:=by kernel_rfl
 f138:=Tryz.func216.trans (congrArg some (by kernel_rfl))
 f143:=Tryz.func141.trans (congrArg some (by kernel_rfl))
 f154:=Tryz.func195.trans (congrArg some (by kernel_rfl))
 f155:=Tryz.func160.trans (congrArg some (by kernel_rfl))
 f165:=Tryz.func217.trans (congrArg some (by kernel_rfl))
 f166:=Tryz.func135.trans (congrArg some (by kernel_rfl))
 f169:=Tryz.func138.trans (congrArg some (by kernel_rfl))
 f195:=Tryz.func231.trans (congrArg some (by kernel_rfl))
 f197:=Tryz.func218.trans (congrArg some (by kernel_rfl))
 f217:=Tryz.func207.trans (congrArg some (by kernel_rfl))
 f218:=Tryz.func232.trans (congrArg some (by kernel_rfl))
 f219:=Tryz.func182.trans (congrArg some (by kernel_rfl))
 f224:=Tryz.func205.trans (congrArg some (by kernel_rfl))
 f225:=Tryz.func206.trans (congrArg some (by kernel_rfl))
 f240:=Tryz.func174.trans (congrArg some (by kernel_rfl))
 f241:=Tryz.func233.trans (congrArg some (by kernel_rfl))
 f260:=Tryz.func234.trans (congrArg some (by kernel_rfl))
 f266:=Tryz.func223.trans (congrArg some (by kernel_rfl))
 f267:=Tryz.func208.trans (congrArg some (by kernel_rfl))
 f276:=Tryz.func201.trans (congrArg some (by kernel_rfl))
 f277:=Tryz.func245.trans (congrArg some (by kernel_rfl))
 f314:=Tryz.func224.trans (congrArg some (by kernel_rfl))
 t0:=Tryz.underlying0
 a0:=Tryz.isAgg0
 z0:=Tryz.sizeOf0
 v0:=Tryz.zeroValue0
 t3:=Tryz.underlying3
 a3:=Tryz.isAgg3
 z3:=Tryz.sizeOf3
 v3:=Tryz.zeroValue3
 t4:=Tryz.underlying4
 a4:=Tryz.isAgg4
 z4:=Tryz.sizeOf4
 v4:=Tryz.zeroValue4
 t5:=Tryz.underlying5
 a5:=Tryz.isAgg5
 z5:=Tryz.sizeOf5
 v5:=Tryz.zeroValue5
 t9:=Tryz.underlying9
 a9:=Tryz.isAgg9
 z9:=Tryz.sizeOf9
 v9:=Tryz.zeroValue9
 t20:=Tryz.underlying20
 a20:=Tryz.isAgg20
 z20:=Tryz.sizeOf20
 v20:=Tryz.zeroValue20
 t21:=Tryz.underlying21
 a21:=Tryz.isAgg21
 z21:=Tryz.sizeOf21
 v21:=Tryz.zeroValue21
 t37:=Tryz.underlying43
 a37:=Tryz.isAgg43
 z37:=Tryz.sizeOf43
 v37:=Tryz.zeroValue43
 t46:=Tryz.underlying140
 a46:=Tryz.isAgg140
 z46:=Tryz.sizeOf140
 v46:=Tryz.zeroValue140
 t51:=Tryz.underlying172
 a51:=Tryz.isAgg172
 z51:=Tryz.sizeOf172
 v51:=Tryz.zeroValue172
 t70:=Tryz.underlying104
 a70:=Tryz.isAgg104
 z70:=Tryz.sizeOf104
 v70:=Tryz.zeroValue104
 t72:=Tryz.underlying106
 a72:=Tryz.isAgg106
 z72:=Tryz.sizeOf106
 v72:=Tryz.zeroValue106
 t75:=Tryz.underlying109
 a75:=Tryz.isAgg109
 z75:=Tryz.sizeOf109
 v75:=Tryz.zeroValue109
 t76:=Tryz.underlying110
 a76:=Tryz.isAgg110
 z76:=Tryz.sizeOf110
 v76:=Tryz.zeroValue110
 t105:=Tryz.underlying170
 a105:=Tryz.isAgg170
 z105:=Tryz.sizeOf170
 v105:=Tryz.zeroValue170
 t119:=Tryz.underlying136
 a119:=Tryz.isAgg136
 z119:=Tryz.sizeOf136
 t127:=Tryz.underlying134
 a127:=Tryz.isAgg134
 z127:=Tryz.sizeOf134
 v127:=Tryz.zeroValue134
 t138:=Tryz.underlying138
 a138:=Tryz.isAgg138
 z138:=Tryz.sizeOf138
 v138:=Tryz.zeroValue138
 t139:=Tryz.underlying139
 a139:=Tryz.isAgg139
 z139:=Tryz.sizeOf139
 v139:=Tryz.zeroValue139
 t146:=Tryz.underlying176
 a146:=Tryz.isAgg176
 z146:=Tryz.sizeOf176
 v146:=Tryz.zeroValue176
 t164:=Tryz.underlying157
 a164:=Tryz.isAgg157
 z164:=Tryz.sizeOf157
 v164:=Tryz.zeroValue157
 g1:=by kernel_rfl
 g3:=by kernel_rfl
 g4:=by kernel_rfl }
theorem Tryz.Builder_Extra_155:Builder.Extra Tryz.prog Tryz.lays155_ren:={
 sizeBuilder:=by kernel_rfl
 liesBuilder:=by kernel_rfl
 t5:=Tryz.underlying5
 a5:=Tryz.isAgg5
 z5:=Tryz.sizeOf5
 v5:=Tryz.zeroValue5
 infoByte:=by kernel_rfl
 cellsByte:=by kernel_rfl
 sizeByte:=by kernel_rfl
 neB5:=by decide }
open Go.RowKit Go.Lib in
theorem Tryz.strings_ReplaceAll(s old new:Bt)(m:Int)(w:World)(hs:s.size<4294967281)(hm:w.cell? ⟨2,0,none⟩=some (.int .i64 m))(h1:1≤old.size)(hlen:s.size+Lib.countB s old * new.size≤140737488355328):
 Calls Tryz.prog 160 #[.string s,.string old,.string new] w fun e w'=>
  e=.returned (.string ⟨(Lib.replaceAll s.data.toList old.data.toList new.data.toList).toArray⟩)∧Below w.heap.size w w':=Any.strings_ReplaceAll Tryz.lays155 Tryz.Builder_Extra_155 s old new m w hs hm h1 hlen
def Tryz.lays152_ren:Go.Shelf.Ren:=⟨fun|152=>178|137=>203|119=>204|224=>205|225=>206|217=>207|266=>223|n=>n,fun|9=>9|21=>21|3=>3|4=>4|5=>5|0=>0|46=>140|n=>n,fun|n=>n⟩
theorem Tryz.lays152:Go.Proofs.Lays.n152 Tryz.prog Tryz.lays152_ren:={
 mixed:=by kernel_rfl
 f119:=Tryz.func204.trans (congrArg some (by kernel_rfl))
 f137:=Tryz.func203.trans (congrArg some (by kernel_rfl))
 f152:=Tryz.func178.trans (congrArg some (by kernel_rfl))
 f217:=Tryz.func207.trans (congrArg some (by kernel_rfl))
 f224:=Tryz.func205.trans (congrArg some (by kernel_rfl))
 f225:=Tryz.func206.trans (congrArg some (by kernel_rfl))
 f266:=Tryz.func223.trans (congrArg some (by kernel_rfl))
 t0:=Tryz.underlying0
 a0:=Tryz.isAgg0
 z0:=Tryz.sizeOf0
 v0:=Tryz.zeroValue0
 t3:=Tryz.underlying3
 a3:=Tryz.isAgg3
 z3:=Tryz.sizeOf3
 v3:=Tryz.zeroValue3
 t4:=Tryz.underlying4
 a4:=Tryz.isAgg4
 z4:=Tryz.sizeOf4
 v4:=Tryz.zeroValue4
 t5:=Tryz.underlying5
 a5:=Tryz.isAgg5
 z5:=Tryz.sizeOf5
 v5:=Tryz.zeroValue5
 t9:=Tryz.underlying9
 a9:=Tryz.isAgg9
 z9:=Tryz.sizeOf9
 v9:=Tryz.zeroValue9
 t21:=Tryz.underlying21
 a21:=Tryz.isAgg21
 z21:=Tryz.sizeOf21
 v21:=Tryz.zeroValue21
 t46:=Tryz.underlying140
 a46:=Tryz.isAgg140
 z46:=Tryz.sizeOf140
 v46:=Tryz.zeroValue140 }
open Go.RowKit Go.Lib in
theorem Tryz.strings_IndexRune_ascii(s:Bt)(r:Int)(w:World)(h0:0≤r)(h1:r<128):
 Calls Tryz.prog 178 #[.string s,.int .i32 r] w fun e w'=>e=.returned (.int .i64 (Lib.indexByte s.data.toList r.toNat.toUInt8))∧w'=w:=Any.strings_IndexRune_ascii Tryz.lays152 s r w h0 h1
open Go.RowKit Go.Lib in
def Tryz.lays226_ren:Go.Shelf.Ren:=⟨fun|226=>179|n=>n,fun|3=>3|4=>4|n=>n,fun|n=>n⟩
theorem Tryz.lays226:Go.Proofs.Lays.n226 Tryz.prog Tryz.lays226_ren:={
 mixed:=by kernel_rfl
 f226:=Tryz.func179.trans (congrArg some (by kernel_rfl))
 t3:=Tryz.underlying3
 a3:=Tryz.isAgg3
 z3:=Tryz.sizeOf3
 v3:=Tryz.zeroValue3
 t4:=Tryz.underlying4
 a4:=Tryz.isAgg4
 z4:=Tryz.sizeOf4
 v4:=Tryz.zeroValue4 }
open Go.RowKit Go.Lib in
theorem Tryz.strings_shouldUseASCIISet(n:Int)(w:World):
 Calls Tryz.prog 179 #[.int .i64 n] w fun e w'=>e=.returned (.bool (decide (8<n)))∧w'=w:=Any.strings_shouldUseASCIISet Tryz.lays226 n w
def Tryz.lays153_ren:Go.Shelf.Ren:=⟨fun|153=>140|152=>178|226=>179|227=>180|228=>181|137=>203|119=>204|224=>205|225=>206|217=>207|266=>223|n=>n,fun|9=>9|3=>3|4=>4|5=>5|21=>21|117=>145|116=>144|0=>0|46=>140|124=>164|n=>n,fun|n=>n⟩
theorem Tryz.lays153:Go.Proofs.Lays.n153 Tryz.prog Tryz.lays153_ren:={
 mixed:=by kernel_rfl
 f119:=Tryz.func204.trans (congrArg some (by kernel_rfl))
 f137:=Tryz.func203.trans (congrArg some (by kernel_rfl))
 f152:=Tryz.func178.trans (congrArg some (by kernel_rfl))
 f153:=Tryz.func140.trans (congrArg some (by kernel_rfl))
 f217:=Tryz.func207.trans (congrArg some (by kernel_rfl))
 f224:=Tryz.func205.trans (congrArg some (by kernel_rfl))
 f225:=Tryz.func206.trans (congrArg some (by kernel_rfl))
 f226:=Tryz.func179.trans (congrArg some (by kernel_rfl))
 f227:=Tryz.func180.trans (congrArg some (by kernel_rfl))
 f228:=Tryz.func181.trans (congrArg some (by kernel_rfl))
 f266:=Tryz.func223.trans (congrArg some (by kernel_rfl))
 t0:=Tryz.underlying0
 a0:=Tryz.isAgg0
 z0:=Tryz.sizeOf0
 v0:=Tryz.zeroValue0
 t3:=Tryz.underlying3
 a3:=Tryz.isAgg3
 z3:=Tryz.sizeOf3
 v3:=Tryz.zeroValue3
 t4:=Tryz.underlying4
 a4:=Tryz.isAgg4
 z4:=Tryz.sizeOf4
 v4:=Tryz.zeroValue4
 t5:=Tryz.underlying5
 a5:=Tryz.isAgg5
 z5:=Tryz.sizeOf5
 v5:=Tryz.zeroValue5
 t9:=Tryz.underlying9
 a9:=Tryz.isAgg9
 z9:=Tryz.sizeOf9
 v9:=Tryz.zeroValue9
 t21:=Tryz.underlying21
 a21:=Tryz.isAgg21
 z21:=Tryz.sizeOf21
 v21:=Tryz.zeroValue21
 t46:=Tryz.underlying140
 a46:=Tryz.isAgg140
 z46:=Tryz.sizeOf140
 v46:=Tryz.zeroValue140
 t116:=Tryz.underlying144
 a116:=Tryz.isAgg144
 z116:=Tryz.sizeOf144
 t117:=Tryz.underlying145
 a117:=Tryz.isAgg145
 z117:=Tryz.sizeOf145
 v117:=Tryz.zeroValue145
 t124:=Tryz.underlying164
 a124:=Tryz.isAgg164
 z124:=Tryz.sizeOf164
 v124:=Tryz.zeroValue164 }
open Go.RowKit Go.Lib in
open Go.RowKit Go.Lib in
open Go.RowKit Go.Lib in
open Go.RowKit Go.Lib in
open Go.RowKit Go.Lib in
open Go.RowKit Go.Lib in
theorem Tryz.strings_IndexAny_long(hv116:∀w,(zeroValue 144).run Tryz.prog w=.ok (.agg (Array.replicate 256 (.bool false))) w)(s chars:Bt)(w:World)(h2:2≤chars.size)(h8:8<s.size)(hs:s.size<4294967281)(hcs:chars.size<4294967281)(hascii:∀(j:Nat) b,chars.data.toList[j]?=some b→b.toNat<128):
 Calls Tryz.prog 140 #[.string s,.string chars] w fun e w'=>e=.returned (.int .i64 (Lib.indexAny s.data.toList chars.data.toList))∧w'=((w.alloc (.cells (Lib.setCells chars.data.toList) 144)).alloc (.cells (Lib.setCells chars.data.toList) 144)):=Any.strings_IndexAny_long Tryz.lays153 hv116 (by kernel_rfl) s chars w h2 h8 hs hcs hascii
open Go.RowKit Go.Lib in
def Tryz.lays150_ren:Go.Shelf.Ren:=⟨fun|150=>92|153=>140|152=>178|226=>179|227=>180|228=>181|137=>203|119=>204|224=>205|225=>206|217=>207|266=>223|n=>n,fun|9=>9|4=>4|3=>3|5=>5|21=>21|117=>145|116=>144|0=>0|46=>140|124=>164|n=>n,fun|n=>n⟩
theorem Tryz.lays150:Go.Proofs.Lays.n150 Tryz.prog Tryz.lays150_ren:={
 mixed:=by kernel_rfl
 f119:=Tryz.func204.trans (congrArg some (by kernel_rfl))
 f137:=Tryz.func203.trans (congrArg some (by kernel_rfl))
 f150:=Tryz.func92.trans (congrArg some (by kernel_rfl))
 f152:=Tryz.func178.trans (congrArg some (by kernel_rfl))
 f153:=Tryz.func140.trans (congrArg some (by kernel_rfl))
 f217:=Tryz.func207.trans (congrArg some (by kernel_rfl))
 f224:=Tryz.func205.trans (congrArg some (by kernel_rfl))
 f225:=Tryz.func206.trans (congrArg some (by kernel_rfl))
 f226:=Tryz.func179.trans (congrArg some (by kernel_rfl))
 f227:=Tryz.func180.trans (congrArg some (by kernel_rfl))
 f228:=Tryz.func181.trans (congrArg some (by kernel_rfl))
 f266:=Tryz.func223.trans (congrArg some (by kernel_rfl))
 t0:=Tryz.underlying0
 a0:=Tryz.isAgg0
 z0:=Tryz.sizeOf0
 v0:=Tryz.zeroValue0
 t3:=Tryz.underlying3
 a3:=Tryz.isAgg3
 z3:=Tryz.sizeOf3
 v3:=Tryz.zeroValue3
 t4:=Tryz.underlying4
 a4:=Tryz.isAgg4
 z4:=Tryz.sizeOf4
 v4:=Tryz.zeroValue4
 t5:=Tryz.underlying5
 a5:=Tryz.isAgg5
 z5:=Tryz.sizeOf5
 v5:=Tryz.zeroValue5
 t9:=Tryz.underlying9
 a9:=Tryz.isAgg9
 z9:=Tryz.sizeOf9
 v9:=Tryz.zeroValue9
 t21:=Tryz.underlying21
 a21:=Tryz.isAgg21
 z21:=Tryz.sizeOf21
 v21:=Tryz.zeroValue21
 t46:=Tryz.underlying140
 a46:=Tryz.isAgg140
 z46:=Tryz.sizeOf140
 v46:=Tryz.zeroValue140
 t116:=Tryz.underlying144
 a116:=Tryz.isAgg144
 z116:=Tryz.sizeOf144
 t117:=Tryz.underlying145
 a117:=Tryz.isAgg145
 z117:=Tryz.sizeOf145
 v117:=Tryz.zeroValue145
 t124:=Tryz.underlying164
 a124:=Tryz.isAgg164
 z124:=Tryz.sizeOf164
 v124:=Tryz.zeroValue164 }
open Go.RowKit Go.Lib in
theorem Tryz.strings_ContainsAny(hv116:∀w,(zeroValue 144).run Tryz.prog w=.ok (.agg (Array.replicate 256 (.bool false))) w)(s chars:Bt)(w:World)(hs:s.size<4294967281)(hcs:chars.size<4294967281)(has:∀(j:Nat) b,s.data.toList[j]?=some b→b.toNat<128)(hac:∀(j:Nat) b,chars.data.toList[j]?=some b→b.toNat<128):
 Calls Tryz.prog 92 #[.string s,.string chars] w fun e w'=>e=.returned (.bool (Lib.containsAny s.data.toList chars.data.toList))∧Below w.heap.size w w':=Any.strings_ContainsAny Tryz.lays150 hv116 (by kernel_rfl) s chars w hs hcs has hac
open Go.RowKit Go.Lib in
open Go.RowKit Go.Lib in
open Go.RowKit Go.Lib in
open Go.RowKit Go.Lib in
open Go.Lib in
open Go.Lib in
def Tryz.lays110_ren:Go.Shelf.Ren:=⟨fun|110=>114|109=>152|n=>n,fun|31=>41|9=>9|4=>4|3=>3|0=>0|n=>n,fun|n=>n⟩
theorem Tryz.lays110:Go.Proofs.Lays.n110 Tryz.prog Tryz.lays110_ren:={
 mixed:=by kernel_rfl
 f109:=Tryz.func152.trans (congrArg some (by kernel_rfl))
 f110:=Tryz.func114.trans (congrArg some (by kernel_rfl))
 t0:=Tryz.underlying0
 a0:=Tryz.isAgg0
 z0:=Tryz.sizeOf0
 v0:=Tryz.zeroValue0
 t3:=Tryz.underlying3
 a3:=Tryz.isAgg3
 z3:=Tryz.sizeOf3
 v3:=Tryz.zeroValue3
 t4:=Tryz.underlying4
 a4:=Tryz.isAgg4
 z4:=Tryz.sizeOf4
 v4:=Tryz.zeroValue4
 t9:=Tryz.underlying9
 a9:=Tryz.isAgg9
 z9:=Tryz.sizeOf9
 v9:=Tryz.zeroValue9
 t31:=Tryz.underlying41
 a31:=Tryz.isAgg41
 z31:=Tryz.sizeOf41
 v31:=Tryz.zeroValue41 }
open Go.Lib in
theorem Tryz.slices_Contains_string(b off n c:Nat)(zs:List Bt)(x:Bt)(w:World)(hz:n≤zs.length)(hbig:n≤9223372036854775807)(hc:∀j,j<zs.length→w.cell? ⟨b,off+j,none⟩=some (.string (zs.getD j ByteArray.empty))):
 Calls Tryz.prog 114 #[.slice (some ⟨b,off,none⟩) n c,.string x] w fun e w'=>e=.returned (.bool (Lib.containsS (zs.take n) x))∧w'=w:=Any.slices_Contains_string Tryz.lays110 b off n c zs x w hz hbig hc
open Go.Lib in
theorem Tryz.slices_Contains_string_empty(a:Option Addr)(c:Nat)(x:Bt)(w:World):
 Calls Tryz.prog 114 #[.slice a 0 c,.string x] w fun e w'=>e=.returned (.bool false)∧w'=w:=Any.slices_Contains_string_empty Tryz.lays110 a c x w
end Go.Proofs
