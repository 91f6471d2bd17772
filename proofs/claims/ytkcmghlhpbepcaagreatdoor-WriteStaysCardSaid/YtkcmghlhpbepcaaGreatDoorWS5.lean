/- Lemmas and walks, part 5. -/
import Derived.Test.YtkcmghlhpbepcaaGreatDoorProg
import Derived.Test.YtkcmghlhpbepcaaGreatDoorWS4
import Derived.Lib.Strings
import Derived.Lib.OthersKept
import Derived.Lib.Hide
import Derived.BigGuardPart
set_option linter.unusedVariables false
set_option linter.unusedSimpArgs false
set_option maxHeartbeats 8000000
set_option maxRecDepth 100000
namespace Go.Proofs.aj.W7
open Go.RowKit Go.Proofs.ah.aD Go.Proofs.ah.bG Go.Proofs.ah.bR
attribute [local go_sem] dD dF dV dW bU bV dG dH
def errW:Option Int→Value
 |none=>.nilIface
 |some c=>.iface 0 (.int .i64 c)
theorem aJ:errW none=.nilIface:=rfl
theorem aM(c:Int):errW (some c)=.iface 0 (.int .i64 c):=rfl
theorem Am:(Tryz.prog.info? 9).map (fun i=>(i.zero,i.size,i.bytes))=some (some (.string ⟨#[]⟩),1,16):=by kernel_rfl
theorem sO:(Tryz.prog.info? 34).map (fun i=>(i.zero,i.size,i.bytes))=some (some (.agg #[(.int .i64 0),(.int .i64 0),(.string ⟨#[]⟩),(.string ⟨#[]⟩),(.slice none 0 0)]),5,72):=by kernel_rfl
theorem Nu:(Tryz.prog.info? 36).map (fun i=>(i.zero,i.size,i.bytes))=some (some (.agg #[(.string ⟨#[]⟩),(.string ⟨#[]⟩)]),2,32):=by kernel_rfl
structure S36 where
 f0:Bt
 f1:Bt
def z36:S36:=⟨(⟨#[]⟩:Bt),(⟨#[]⟩:Bt)⟩
def k36:Kd S36:=Kd.iso (Kd.pair Kd.string Kd.string) (fun x:S36=>(x.f0,x.f1))
theorem k36_open{w:World}{x:S36}{cs:List Value}(h:k36.K w x cs):cs=[.string x.f0,.string x.f1]:=by
 obtain⟨_,_,rfl,rfl,rfl⟩:=h;exact rfl
theorem k36_mk(w:World)(x:S36):k36.K w x [.string x.f0,.string x.f1]:=⟨[.string x.f0],[.string x.f1],rfl,rfl,rfl⟩
theorem OO(w:World)(base:Nat)(ok:Nat→Prop)(x:S36):k36.M w base ok x [.string x.f0,.string x.f1]:=⟨[.string x.f0],[.string x.f1],rfl,rfl,rfl⟩
def bg(xs:List S36)(i:Int):S36:=xs.getD i.toNat z36
theorem l7{w:World}{A:Option Addr}{n:Nat}{xs:List S36}(h:Kd.C k36 w A n xs)(i:Int)(h0:0≤i)(h1:i<n):∃ad,A=some ad∧w.cell? (ad.add (i.toNat * 2))=some (.string (bg xs i).f0)∧w.cell? ⟨(ad.add (i.toNat * 2)).block,(ad.add (i.toNat * 2)).off+1,none⟩=some (.string (bg xs i).f1):=by
 obtain⟨ad,c,e,_,hK,hc0⟩:=Kd.C_get h z36 i h0 h1;have hc:∀j u,c[j]?=some u→w.cell? (ad.add (i.toNat * 2+j))=some u:=hc0
 obtain rfl:=k36_open hK;exact⟨ad,e,hc 0 _ rfl,by rw[←nC _ _ 1 (by omega)];exact hc 1 _ rfl⟩
def rd_L3(xs:List (List S36))(i:Int):(List S36):=xs.getD i.toNat ([] :List S36)
structure S34 where
 f0:Int
 f1:Int
 f2:Bt
 f3:Bt
 f4:(List S36)
def z34:S34:=⟨(0:Int),(0:Int),(⟨#[]⟩:Bt),(⟨#[]⟩:Bt),([] :List S36)⟩
def k34:Kd S34:=Kd.iso (Kd.pair (Kd.int .i64) (Kd.pair (Kd.int .i64) (Kd.pair Kd.string (Kd.pair Kd.string (Kd.slice 36 k36))))) (fun x:S34=>(x.f0,x.f1,x.f2,x.f3,x.f4))
theorem k34_open{w:World}{x:S34}{cs:List Value}(h:k34.K w x cs):∃A4 c4,cs=[.int .i64 x.f0,.int .i64 x.f1,.string x.f2,.string x.f3,.slice A4 x.f4.length c4]∧x.f4.length≤c4∧k36.C w A4 x.f4.length x.f4:=by
 obtain⟨_,_,rfl,rfl,⟨_,_,rfl,rfl,⟨_,_,rfl,rfl,⟨_,_,rfl,rfl,⟨A4,c4,rfl,l4,g4⟩⟩⟩⟩⟩:=h;exact⟨A4,c4,rfl,l4,g4⟩
theorem Ce{w:World}{base:Nat}{ok:Nat→Prop}{x:S34}{cs:List Value}(h:k34.M w base ok x cs):∃v4,cs=[.int .i64 x.f0,.int .i64 x.f1,.string x.f2,.string x.f3,v4]∧k36.R 36 w base ok v4 x.f4:=by
 obtain⟨_,_,rfl,rfl,⟨_,_,rfl,rfl,⟨_,_,rfl,rfl,⟨_,_,rfl,rfl,⟨v4,rfl,g4⟩⟩⟩⟩⟩:=h;exact⟨v4,rfl,g4⟩
theorem II(w:World)(x:S34){A4:Option Addr}{c4:Nat}(l4:x.f4.length≤c4)(g4:k36.C w A4 x.f4.length x.f4):k34.K w x [.int .i64 x.f0,.int .i64 x.f1,.string x.f2,.string x.f3,.slice A4 x.f4.length c4]:=⟨[.int .i64 x.f0],[.int .i64 x.f1,.string x.f2,.string x.f3,.slice A4 x.f4.length c4],rfl,rfl,⟨[.int .i64 x.f1],[.string x.f2,.string x.f3,.slice A4 x.f4.length c4],rfl,rfl,⟨[.string x.f2],[.string x.f3,.slice A4 x.f4.length c4],rfl,rfl,⟨[.string x.f3],[.slice A4 x.f4.length c4],rfl,rfl,⟨A4,c4,rfl,l4,g4⟩⟩⟩⟩⟩
theorem yC(w:World)(base:Nat)(ok:Nat→Prop)(x:S34){v4:Value}(g4:k36.R 36 w base ok v4 x.f4):k34.M w base ok x [.int .i64 x.f0,.int .i64 x.f1,.string x.f2,.string x.f3,v4]:=⟨[.int .i64 x.f0],[.int .i64 x.f1,.string x.f2,.string x.f3,v4],rfl,rfl,⟨[.int .i64 x.f1],[.string x.f2,.string x.f3,v4],rfl,rfl,⟨[.string x.f2],[.string x.f3,v4],rfl,rfl,⟨[.string x.f3],[v4],rfl,rfl,⟨v4,rfl,g4⟩⟩⟩⟩⟩
def au(xs:List S34)(i:Int):S34:=xs.getD i.toNat z34
theorem lg{w:World}{A:Option Addr}{n:Nat}{xs:List S34}(h:Kd.C k34 w A n xs)(i:Int)(h0:0≤i)(h1:i<n):∃ad A4 c4,A=some ad∧w.cell? (ad.add (i.toNat * 5))=some (.int .i64 (au xs i).f0)∧w.cell? ⟨(ad.add (i.toNat * 5)).block,(ad.add (i.toNat * 5)).off+1,none⟩=some (.int .i64 (au xs i).f1)∧w.cell? ⟨(ad.add (i.toNat * 5)).block,(ad.add (i.toNat * 5)).off+2,none⟩=some (.string (au xs i).f2)∧w.cell? ⟨(ad.add (i.toNat * 5)).block,(ad.add (i.toNat * 5)).off+3,none⟩=some (.string (au xs i).f3)∧w.cell? ⟨(ad.add (i.toNat * 5)).block,(ad.add (i.toNat * 5)).off+4,none⟩=some (.slice A4 (au xs i).f4.length c4)∧(au xs i).f4.length≤c4∧k36.C w A4 (au xs i).f4.length (au xs i).f4:=by
 obtain⟨ad,c,e,_,hK,hc0⟩:=Kd.C_get h z34 i h0 h1;have hc:∀j u,c[j]?=some u→w.cell? (ad.add (i.toNat * 5+j))=some u:=hc0
 obtain⟨A4,c4,rfl,l4,g4⟩:=k34_open hK;exact⟨ad,A4,c4,e,hc 0 _ rfl,by rw[←nC _ _ 1 (by omega)];exact hc 1 _ rfl,by rw[←nC _ _ 2 (by omega)];exact hc 2 _ rfl,by rw[←nC _ _ 3 (by omega)];exact hc 3 _ rfl,by rw[←nC _ _ 4 (by omega)];exact hc 4 _ rfl,l4,g4⟩
structure S65 where
 f0:Int
 f1:Bt
 f2:Bt
 f3:(List S36)
 f4:Bool
def z65:S65:=⟨(0:Int),(⟨#[]⟩:Bt),(⟨#[]⟩:Bt),([] :List S36),false⟩
def k65:Kd S65:=Kd.iso (Kd.pair (Kd.int .i64) (Kd.pair Kd.string (Kd.pair Kd.string (Kd.pair (Kd.slice 36 k36) Kd.bool)))) (fun x:S65=>(x.f0,x.f1,x.f2,x.f3,x.f4))
theorem k65_open{w:World}{x:S65}{cs:List Value}(h:k65.K w x cs):∃A3 c3,cs=[.int .i64 x.f0,.string x.f1,.string x.f2,.slice A3 x.f3.length c3,.bool x.f4]∧x.f3.length≤c3∧k36.C w A3 x.f3.length x.f3:=by
 obtain⟨_,_,rfl,rfl,⟨_,_,rfl,rfl,⟨_,_,rfl,rfl,⟨_,_,rfl,⟨A3,c3,rfl,l3,g3⟩,rfl⟩⟩⟩⟩:=h;exact⟨A3,c3,rfl,l3,g3⟩
theorem k65_mkM(w:World)(base:Nat)(ok:Nat→Prop)(x:S65){v3:Value}(g3:k36.R 36 w base ok v3 x.f3):k65.M w base ok x [.int .i64 x.f0,.string x.f1,.string x.f2,v3,.bool x.f4]:=⟨[.int .i64 x.f0],[.string x.f1,.string x.f2,v3,.bool x.f4],rfl,rfl,⟨[.string x.f1],[.string x.f2,v3,.bool x.f4],rfl,rfl,⟨[.string x.f2],[v3,.bool x.f4],rfl,rfl,⟨[v3],[.bool x.f4],rfl,⟨v3,rfl,g3⟩,rfl⟩⟩⟩⟩
def sP(xs:List S65)(i:Int):S65:=xs.getD i.toNat z65
theorem at_T65{w:World}{A:Option Addr}{n:Nat}{xs:List S65}(h:Kd.C k65 w A n xs)(i:Int)(h0:0≤i)(h1:i<n):∃ad A3 c3,A=some ad∧w.cell? (ad.add (i.toNat * 5))=some (.int .i64 (sP xs i).f0)∧w.cell? ⟨(ad.add (i.toNat * 5)).block,(ad.add (i.toNat * 5)).off+1,none⟩=some (.string (sP xs i).f1)∧w.cell? ⟨(ad.add (i.toNat * 5)).block,(ad.add (i.toNat * 5)).off+2,none⟩=some (.string (sP xs i).f2)∧w.cell? ⟨(ad.add (i.toNat * 5)).block,(ad.add (i.toNat * 5)).off+3,none⟩=some (.slice A3 (sP xs i).f3.length c3)∧w.cell? ⟨(ad.add (i.toNat * 5)).block,(ad.add (i.toNat * 5)).off+4,none⟩=some (.bool (sP xs i).f4)∧(sP xs i).f3.length≤c3∧k36.C w A3 (sP xs i).f3.length (sP xs i).f3:=by
 obtain⟨ad,c,e,_,hK,hc0⟩:=Kd.C_get h z65 i h0 h1;have hc:∀j u,c[j]?=some u→w.cell? (ad.add (i.toNat * 5+j))=some u:=hc0
 obtain⟨A3,c3,rfl,l3,g3⟩:=k65_open hK;exact⟨ad,A3,c3,e,hc 0 _ rfl,by rw[←nC _ _ 1 (by omega)];exact hc 1 _ rfl,by rw[←nC _ _ 2 (by omega)];exact hc 2 _ rfl,by rw[←nC _ _ 3 (by omega)];exact hc 3 _ rfl,by rw[←nC _ _ 4 (by omega)];exact hc 4 _ rfl,l3,g3⟩
end Go.Proofs.aj.W7
namespace Go.Proofs.YtkcmghlhpbepcaaGreatDoor
open Go.RowKit Go.Proofs
theorem zC{a b:Bt}(h:a.data.toList=b.data.toList):a=b:=by
 cases a;cases b;congr;exact Array.toList_inj.mp h
theorem ret_i32{a b:Int}(h:a=b):Ending.returned (.int .i32 a)=.returned (.int .i32 b):=by rw[h]
theorem ret_i64{a b:Int}(h:a=b):Ending.returned (.int .i64 a)=.returned (.int .i64 b):=by rw[h]
theorem xI{a b:Bool}(h:a=b):Ending.returned (.bool a)=.returned (.bool b):=by rw[h]
theorem ret_s{a b:Bt}(h:a.data.toList=b.data.toList):Ending.returned (.string a)=.returned (.string b):=by rw[zC h]
theorem ret_sb{a b:Bt}{x y:Bool}(h:a.data.toList=b.data.toList)(k:x=y):Ending.returned (.tuple #[.string a,.bool x])=.returned (.tuple #[.string b,.bool y]):=by rw[zC h,k]
theorem below_drewN{B:Nat}{w W:World}(h:Below B w W)(n:Nat):Below B w (W.drewN n):=⟨h.os,h.tape,h.output,h.size,h.block⟩
theorem bC{B:Nat}{w w1 w2:World}(h:Below B w w1)(hB:B≤w1.heap.size)(k:Below w1.heap.size w1 w2):Below B w w2:=
 h.trans ⟨k.os,k.tape,k.output,k.size,fun i hi=>k.block i (Nat.lt_of_lt_of_le hi hB)⟩
theorem pG{w w1 w2:World}(h:Below w.heap.size w w1)(k:Below w1.heap.size w1 w2):Below w.heap.size w w2:=bC h h.size k
theorem gT(l:List UInt8):(⟨l.toArray⟩:Bt).data.toList=l:=by simp
theorem qG(l:List UInt8):(⟨l.toArray⟩:Bt).size=l.length:=by rw[Lib.size_eq,gT]
@[go_sem] theorem ext_end (l : List UInt8) (a : Nat) : (⟨l.toArray⟩ : Bt).extract a l.length = ⟨(l.drop a).toArray⟩ := by
 rw[Lib.extract_eq,gT,List.take_of_length_le (by simp)]
@[go_sem] theorem ext_take (l : List UInt8) (n : Nat) : (⟨l.toArray⟩ : Bt).extract 0 n = ⟨(l.take n).toArray⟩ := by
 rw[Lib.extract_eq,gT];simp
@[go_sem] theorem get_mk (l : List UInt8) (k : Nat) (h : k < (⟨l.toArray⟩ : Bt).size) : (⟨l.toArray⟩ : Bt)[k]'h = l[k]'(by rwa [qG] at h) := by
 rw[ByteArray.getElem_eq_getElem_data];simp
def E8(base c:Nat):Bool:=decide ((48≤c∧c≤57)∨(base=16∧((97≤c∧c≤102)∨(65≤c∧c≤70))))
theorem Qp{base c:Nat}(h:¬((48≤c∧c≤57)∨(base=16∧((97≤c∧c≤102)∨(65≤c∧c≤70))))):E8 base c=false:=decide_eq_false h
theorem digN_yes{base c:Nat}(h:(48≤c∧c≤57)∨(base=16∧((97≤c∧c≤102)∨(65≤c∧c≤70)))):E8 base c=true:=decide_eq_true h
def jM(base:Nat)(l:List UInt8):Bool:=l.all (fun c=>E8 base c.toNat)&& !l.isEmpty
theorem NM{s:ByteArray}{p:UInt8→Bool}(h:∀j (hj:j<s.size),p (s[j]'hj)=true):s.toList.all p=true:=by
 rw[Lib.toList_data,List.all_eq_true];intro x hx;obtain⟨j,hj,e⟩:=List.getElem_of_mem hx;have hj':j<s.size:=by simpa using hj
 have:=h j hj';rw[←e];simpa [ByteArray.getElem_eq_getElem_data]using this
theorem E9{s:ByteArray}{p:UInt8→Bool}{j:Nat}(hj:j<s.size)(h:p (s[j]'hj)=false):s.toList.all p=false:=by
 rw[Lib.toList_data,List.all_eq_false];exact⟨s[j],by simp[ByteArray.getElem_eq_getElem_data],by simp[h]⟩
theorem G6{base:Nat}{s:ByteArray}{j:Nat}(hj:j<s.size)(h:E8 base (s[j]'hj).toNat=false):jM base s.toList=false:=by
 unfold jM;rw[E9 hj h];rfl
theorem NP{base:Nat}{s:ByteArray}(h:∀j (hj:j<s.size),E8 base (s[j]'hj).toNat=true):jM base s.toList=!s.toList.isEmpty:=by
 unfold jM;rw[NM h];rfl
theorem L9{base pos:Nat}{s:ByteArray}(h:∀j (hj:j<s.size),j<pos→E8 base (s[j]'hj).toNat=true)(hp:pos<s.size)(hd:E8 base (s[pos]'hp).toNat=true):
 ∀j (hj:j<s.size),j<pos+1→E8 base (s[j]'hj).toNat=true:=by
 intro j hj hlt
 by_cases e:j=pos
 ·subst e;exact hd
 ·exact h j hj (by omega)
theorem KT(base:Nat)(hb:base=10∨base=16)(s:ByteArray)(w:World)(hs:s.size≤9223372036854775807):
 Calls Tryz.prog 225 #[.string s,.int .i64 base] w fun e w'=>e=.returned (.bool (jM base s.toList))∧Below w.heap.size w w':=by
 go_enter Tryz.func225,Tryz.ntmps225;go_wp2
 go_loopw [] (fun wr=>∃(pos:Nat),pos≤s.size∧wr.heap[w.heap.size]?=some (.stringIter s pos)∧Below w.heap.size w wr∧Hid (∀j (hj:j<s.size),j<pos→E8 base (s[j]'hj).toNat=true)) (fun wr=>s.size - wr.iterPos w.heap.size)
 case atStart=>
  refine⟨0,by omega,by simpa using World.iter_heap w s 0,(Below.refl _ w).alloc (Nat.le_refl _) _,fun j _ h=>by omega⟩
 case round=>
  obtain⟨pos,hp,hit,hbw,hall⟩:=hrel
  by_cases hlt:pos<s.size
  ·by_cases ha:(s[pos]'hlt).toNat<128
   ·have hnx:∀ty,(Instr.next (.pointer (some ⟨w.heap.size,0,none⟩)) true ty).run Tryz.prog wr=_:=fun ty=>Lib.run_next_ascii_at wr w.heap.size s pos ty hit hlt ha
    generalize hc:(s[pos]'hlt).toNat=c at *;have hc':=Lib.hid hc;clear hc
    rcases hb with rfl|rfl
    all_goals
     go_wp2
     all_goals(try simp only[Bool.not_eq_true',Bool.not_eq_false',Bool.not_true,Bool.not_false,decide_eq_true_eq,decide_eq_false_iff_not]at *)
     all_goals first
      |(go_ret;refine⟨xI (G6 hlt ?_).symm,Lib.below_iterAt hbw (Nat.le_refl _) _ _⟩;rw[hc'.out];refine Qp ?_;omega)
      |(refine⟨⟨pos+1,?_,Lib.iterAt_heap _ _ _ _ _ hit,Lib.below_iterAt hbw (Nat.le_refl _) _ _,L9 hall.out hlt ?_⟩,?_⟩;omega;rw[hc'.out];refine digN_yes ?_;omega;simp only[World.iterPos,Lib.iterAt_heap _ _ _ _ _ hit,hit];omega)
      |skip
   ·have hh:=decode_high s pos hlt (by omega)
    obtain⟨hh1,hh2⟩:=hh;have hnx:∀ty,(Instr.next (.pointer (some ⟨w.heap.size,0,none⟩)) true ty).run Tryz.prog wr=_:=fun ty=>Lib.run_next_any_at wr w.heap.size s pos ty hit hlt
    have h64:(128:Int)≤(Utf8.decode s pos).1:=by omega
    have hle:=decode_le s pos;generalize (Utf8.decode s pos).1=c at *;generalize (Utf8.decode s pos).2=d at *
    have hno:E8 base (s[pos]'hlt).toNat=false:=by
     refine Qp ?_;omega
    have hno:=Lib.hid hno;rename_i hno0;clear hno0
    rcases hb with rfl|rfl
    all_goals
     go_wp2
     all_goals(try simp only[Bool.not_eq_true',Bool.not_eq_false',Bool.not_true,Bool.not_false,decide_eq_true_eq,decide_eq_false_iff_not]at *)
     all_goals first
      |(go_ret;refine⟨xI (G6 hlt hno.out).symm,Lib.below_iterAt hbw (Nat.le_refl _) _ _⟩)
      |(exfalso;omega)
  ·have hnx:∀ty,(Instr.next (.pointer (some ⟨w.heap.size,0,none⟩)) true ty).run Tryz.prog wr=_:=fun ty=>Lib.run_next_end_at wr w.heap.size s pos ty hit hlt
   have hy:=Lib.hid (NP fun j hj=>hall.out j hj (by omega));go_wp2;go_ret;refine⟨xI ?_,hbw⟩;rw[hy.out]
end Go.Proofs.YtkcmghlhpbepcaaGreatDoor
