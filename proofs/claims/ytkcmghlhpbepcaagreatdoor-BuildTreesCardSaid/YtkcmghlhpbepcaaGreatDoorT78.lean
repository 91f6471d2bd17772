/- Lemmas and walks, part 8. -/
import Derived.Test.YtkcmghlhpbepcaaGreatDoorT77
set_option linter.unusedVariables false
set_option linter.unusedSimpArgs false
set_option maxHeartbeats 8000000
set_option maxRecDepth 100000
namespace Go.Proofs.YtkcmghlhpbepcaaGreatDoor
open Go.Proofs
abbrev Txt:=List UInt8
structure Tok where
 kind:Int
 name:Txt
 attrs:List (Txt×Txt)
 data:Txt
 self:Bool
 deriving DecidableEq
def dQ(c:UInt8):Bool:=c==32||c==9||c==10||c==12||c==13
def Cx(c:UInt8):Bool:=(decide (97≤c.toNat)&&decide (c.toNat≤122))||(decide (65≤c.toNat)&&decide (c.toNat≤90))
def dY(c:UInt8):Bool:=dQ c||c==47||c==62
def lowB(c:UInt8):UInt8:=if 65≤c.toNat∧c.toNat≤90 then c+32 else c
def kQ(l:Txt):Txt:=l.map lowB
def rawsL:List Txt:=[[105,102,114,97,109,101],[110,111,101,109,98,101,100],[110,111,102,114,97,109,101,115],[115,99,114,105,112,116],[115,116,121,108,101],[120,109,112]]
def G6:List Txt:=[[116,101,120,116,97,114,101,97],[116,105,116,108,101]]
def inB(L:List Txt)(l:Txt):Bool:=L.contains l
def wP(l:Txt):Bool:=inB rawsL l
def oL(l:Txt):Bool:=inB G6 l
def jQ:Txt→Bool
 | []=>false
 |c::_=>Cx c
def zw(s:Txt):Nat:=1+s.tail.findIdx (fun c=>dY c||c==61)
def kI(s:Txt):Txt:=s.drop (s.findIdx (fun c=>!dQ c))
def xC(s:Txt):Nat:=s.findIdx (fun c=>dQ c||c==62)
def valF(nm s:Txt):(Txt×Txt)×Txt×Bool:=
 match s with
 | []=>((nm,[]),[],false)
 |q::t=>if q=34∨q=39 then((nm,iY (gI q t).1),(gI q t).2.1,(gI q t).2.2)else((nm,iY ((q::t).take (xC (q::t)))),(q::t).drop (xC (q::t)),decide (xC (q::t)<(q::t).length))
def attrR(nm s:Txt):(Txt×Txt)×Txt×Bool:=
 match kI s with
 | []=>((nm,[]),[],false)
 |c::t=>if c=61 then valF nm (kI t)else((nm,[]),s,true)
def pQ(s:Txt):(Txt×Txt)×Txt×Bool:=attrR (kQ (s.take (zw s))) (s.drop (zw s))
def addA(acc:List (Txt×Txt))(a:Txt×Txt):List (Txt×Txt):=if acc.any (fun b=>b.1==a.1)then acc else acc++[a]
def uT(s:Txt):Nat:=s.findIdx (fun c=>!dQ c&&c !=47)
def uq(s:Txt):Bool:=decide (0<uT s)&&(s[uT s - 1]? ==some 47)
def qX:Nat→List (Txt×Txt)→Txt→Option (List (Txt×Txt)×Bool×Txt)
 |0,_,_=>none
 |n+1,acc,s=>
  match s.drop (uT s)with
  | []=>none
  |c::s1=>
   if c=62 then some (acc,uq s,s1)
   else
    let r:=pQ (c::s1)
    if r.2.2 then qX n (addA acc r.1) r.2.1 else none
def lU(acc:List (Txt×Txt))(s:Txt):=qX (s.length+1) acc s
def fK(s:Txt):Option (Tok×Txt):=
 (lU [] (s.drop (s.findIdx dY))).map fun r=>(⟨0,kQ (s.take (s.findIdx dY)),r.1,[],r.2.1⟩,r.2.2)
def kZ(name s:Txt):Bool:=
 match s with
 |60::47::r=>decide (name.length<r.length)&&(kQ (r.take name.length)==kQ name)&&(match r.drop name.length with|c::_=>dY c| []=>false)
 |_=>false
def jo(name:Txt):Txt→Nat
 | []=>0
 |c::t=>if kZ name (c::t)then 0 else 1+jo name t
def mK(name s:Txt):List Tok:=
 if s.take (jo name s)=[]then []else [⟨0,[],[],if oL name then iY (s.take (jo name s))else s.take (jo name s),false⟩]
def mg(name s:Txt):Txt:=s.drop (jo name s)
def om(s:Txt):Txt:=((s.dropWhile dQ).reverse.dropWhile dQ).reverse
def jZ(s e:Txt):Txt×Txt:=((Lib.cut s e).1,(Lib.cut s e).2.1)
def qz(kind:Int)(s e:Txt):List Tok×Txt:=([⟨kind,[],[],if kind=4 then om (jZ s e).1 else(jZ s e).1,false⟩],(jZ s e).2)
def kX(s:Txt):List Tok×Txt:=
 if Lib.hasPrefix s [62]then([⟨3,[],[],[],false⟩],s.drop 1)
 else if Lib.hasPrefix s [45,62]then([⟨3,[],[],[],false⟩],s.drop 2)
 else qz 3 s (if 0≤Lib.index s [45,45,33,62]∧(Lib.index s [45,45,62]<0∨Lib.index s [45,45,33,62]<Lib.index s [45,45,62])then [45,45,33,62]else [45,45,62])
def jv(s:Txt):Bool:=decide (8≤s.length)&&(kQ (s.take 8)==[33,100,111,99,116,121,112,101])&& !jQ (s.drop 8)
def tJ(kind:Int)(s:Txt):List Tok×Txt:=
 match fK s with
 |none=>([],[])
 |some (t,r)=>
  if kind=2 then([⟨2,t.name,[],[],false⟩],r)
  else if wP t.name||oL t.name then(⟨kind,t.name,t.attrs,t.data,t.self⟩::mK t.name r,mg t.name r)
  else([⟨kind,t.name,t.attrs,t.data,t.self⟩],r)
def kJ(s:Txt):Option (List Tok×Txt):=
 if jQ s then some (tJ 1 s)
 else if Lib.hasPrefix s [47]&&jQ s.tail then some (tJ 2 s.tail)
 else if Lib.hasPrefix s [47,62]then some ([],s.drop 2)
 else if Lib.hasPrefix s [33,45,45]then some (kX (s.drop 3))
 else if jv s then some (qz 4 (s.drop 8) [62])
 else if Lib.hasPrefix s [33]then some (qz 3 s.tail [62])
 else if Lib.hasPrefix s [63]then some (qz 3 s [62])
 else if decide (1<s.length)&&Lib.hasPrefix s [47]then some (qz 3 s.tail [62])
 else none
def eT(t:Txt):List Tok:=if t=[]then []else [⟨0,[],[],iY t,false⟩]
def jC(s:Txt):Nat:=s.findIdx (fun c=>c==60)
def runN:Nat→Txt→Txt→List Tok
 |0,t,_=>eT t
 |n+1,t,s=>
  match s.drop (jC s)with
  | []=>eT (t++s.take (jC s))
  |_::s1=>
   match kJ s1 with
   |none=>runN n (t++s.take (jC s)++[60]) s1
   |some (ts,r)=>eT (t++s.take (jC s))++ts++runN n [] r
def pF(t s:Txt):List Tok:=runN (s.length+1) t s
def cutL(s:Txt):List Tok:=pF [] s
def inL(s name:Txt):List Tok:=if wP name||oL name then mK name s++pF [] (mg name s)else pF [] s
theorem lQ{p:UInt8→Bool}(h:(List.range 256).all (fun k=>p (UInt8.ofNat k))=true)(c:UInt8):p c=true:=by
 rw[List.all_eq_true]at h;have:=h c.toNat (by simp[c.toNat_lt]);simpa using this
end Go.Proofs.YtkcmghlhpbepcaaGreatDoor
namespace Go.Proofs.YtkcmghlhpbepcaaGreatDoor
open Go.RowKit Go.Proofs
theorem bSize:(Tryz.prog.info? 106).map (·.size)=some 2:=by kernel_rfl
theorem bLies:liesAt Tryz.prog Tryz.prog.depth 106 (2 / Tryz.prog.cellsOf 106) 0 106 1=true:=by kernel_rfl
theorem bByte:(Tryz.prog.info? 5).map (fun i=>(i.zero,i.size,i.bytes))=some (some (.int .u8 0),1,1):=by kernel_rfl
theorem zx(b:Nat)(w:World)(h0:w.cell? ⟨b,0,none⟩=some (.pointer (some ⟨b,0,none⟩))):
 Calls Tryz.prog 174 #[.pointer (some ⟨b,0,none⟩)] w fun e w'=>e=.returned (.tuple #[])∧w'=w:=by
 obtain⟨j,hj,_⟩:=Option.map_eq_some_iff.1 bSize;go_enter Tryz.func174,Tryz.ntmps174;go_wp2;rw[Lib.run_neq_ptr_same w _ Tryz.underlying104 hj];go_wp2;go_end0;exact⟨rfl,rfl⟩
theorem xX(b:Nat)(w:World)(h0:w.cell? ⟨b,0,none⟩=some (.pointer none))(hsh:w.shape? b=some (106,2))(hfz:w.frozen? ⟨b,0,none⟩=false):
 Calls Tryz.prog 174 #[.pointer (some ⟨b,0,none⟩)] w fun e w'=>e=.returned (.tuple #[])∧w'=w.setCell ⟨b,0,none⟩ (.pointer (some ⟨b,0,none⟩)):=by
 obtain⟨j,hj,hjs⟩:=Option.map_eq_some_iff.1 bSize;go_enter Tryz.func174,Tryz.ntmps174;go_wp2;rw[Lib.run_to_unsafe w ⟨b,0,none⟩ Tryz.underlying104 Tryz.underlying157 hj (by rw[hjs];decide) hsh (Nat.zero_lt_succ 1)];simp only[Result.andThen];rw[Oper.upon_value];go_wp2;rw[run_callFunc_extern Tryz.func201 (by kernel_rfl) (by kernel_rfl) (by kernel_rfl) (e:=Extern.AbiNoEscape.same) (by kernel_rfl)];rw[Lib.run_noEscape];simp only[Result.andThen];rw[Oper.upon_value];go_wp2;rw[Lib.run_from_unsafe w ⟨b,0,none⟩ Tryz.underlying157 Tryz.underlying104 hj hsh bLies];simp only[Result.andThen];rw[Oper.upon_value];go_wp2;go_end0;exact⟨rfl,rfl⟩
theorem xE(B b:Nat)(bs:List Value)(w:World)(h:Lib.IsBuilderF 106 5 B b bs w):
 Calls Tryz.prog 174 #[.pointer (some ⟨b,0,none⟩)] w fun e w'=>e=.returned (.tuple #[])∧(Lib.BuilderAtF 106 5 B b (.pointer (some ⟨b,0,none⟩)) bs w'∧Below B w w'∧Lib.OthersKept 5 (some b) w w'):=by
 rcases h with h|h
 ·refine(xX b w h.cell0 h.shape h.frozen0).mono ?_
  rintro e w' ⟨rfl,rfl⟩;exact⟨rfl,h.used _,(Below.refl B w).setCell (p:=⟨b,0,none⟩) h.1 _,(Lib.OthersKept.refl _ _ w).setCell ⟨b,0,none⟩ rfl _⟩
 ·refine(zx b w h.cell0).mono ?_
  rintro e w' ⟨rfl,rfl⟩;exact⟨rfl,h,Below.refl B _,Lib.OthersKept.refl _ _ _⟩
theorem Bp(B b:Nat)(bs:List Value)(s:Bt)(w:World)(h:Lib.IsBuilderF 106 5 B b bs w)(hlen:bs.length+s.size≤140737488355328)(hBw:B≤w.heap.size):
 Calls Tryz.prog 135 #[.pointer (some ⟨b,0,none⟩),.string s] w fun e w'=>e=.returned (.tuple #[.int .i64 s.size,.nilIface])∧(Lib.IsBuilderF 106 5 B b (bs++Lib.strCells s) w'∧Below B w w'∧Lib.OthersKept 5 (some b) w w'):=by
 obtain⟨i0,hi,hz0,hz1,hz2⟩:=info_parts bByte;go_enter Tryz.func135,Tryz.ntmps135
 go_wp2_with(go_at_call 174;refine(xE B b bs _ h).mono ?_)
 rintro e w1 ⟨rfl,h1,hb1,hk1⟩;obtain⟨hB,v,hbk,hown,hne⟩:=h1;have c0:w1.cell? ⟨b,0,none⟩=some (.pointer (some ⟨b,0,none⟩)):=by rw[Lib.cell_of_heap hbk];rfl
 have c1:w1.cell? ⟨b,1,none⟩=some v:=by rw[Lib.cell_of_heap hbk];rfl
 go_wp2_with(at_builtin;refine Lib.wpList_append_own_stringF _ rfl _ _ 43 9 rfl B 5 i0 Tryz.underlying43 Tryz.underlying9 hi hz0 hz1 hz2 _ _ _ rfl hown s rfl ?c3 ?c4 ?c5 ?_)
 case c3=>unfold maxLen;omega
 case c4=>omega
 case c5=>have:=hb1.size;omega
 intro v' w2 hown' hgrow _
 have hlt:b<w1.heap.size:=by
  rcases Nat.lt_or_ge b w1.heap.size with h'|h'
  ·exact h'
  ·simp[Array.getElem?_eq_none h']at hbk
 have hb2:w2.heap[b]?=some (.cells #[.pointer (some ⟨b,0,none⟩),v] 106 (0,0)):=by
  rw[hgrow.block b hlt (fun e=>hne e.symm)];exact hbk
 have d0:w2.cell? ⟨b,0,none⟩=some (.pointer (some ⟨b,0,none⟩)):=by rw[Lib.cell_of_heap hb2];rfl
 have d1:w2.cell? ⟨b,1,none⟩=some v:=by rw[Lib.cell_of_heap hb2];rfl
 have f1:w2.frozen? ⟨b,1,none⟩=false:=Lib.frozen_of_heap hb2 1
 obtain⟨ao,n',cap,rfl⟩:∃ao n' cap,v'=.slice ao n' cap:=by
  rcases hown'.2 with⟨hv,_⟩|⟨g,cap,cur,fz,hv,_⟩
  ·exact⟨_,_,_,hv⟩
  ·exact⟨_,_,_,hv⟩
 go_wp2
 go_ret2
 refine⟨rfl,Or.inr ?_,?_,(hk1.grown hgrow (Lib.ownsRowF_kind hown)).setCell ⟨b,1,none⟩ rfl _⟩
 ·exact Lib.BuilderAtF.put (T:=106) (e:=5) hB hb2 (bs':=bs++Lib.strCells s) (by simpa [Lib.strCells_length]using hown') (by decide)
 ·exact(hb1.grown hgrow (by have:=hb1.size;omega) (fun k hk=>(hown.lt k hk).1)).setCell (p:=⟨b,1,none⟩) hB _
theorem cut_c(l:List UInt8)(c:UInt8)(hl:l.length≤1000000000)(w:World)(hS:Std w):
 Calls Tryz.prog 188 #[.string ⟨l.toArray⟩,.string ⟨#[c]⟩] w fun e w'=>e=.returned (.tuple #[.string ⟨(gI c l).1.toArray⟩,.string ⟨(gI c l).2.1.toArray⟩,.bool (gI c l).2.2])∧Below w.heap.size w w':=by
 obtain⟨m,hm⟩:=hS.maxLen;refine(Tryz.strings_Cut ⟨l.toArray⟩ ⟨#[c]⟩ m w (by rw[Lib.size_eq];simp;omega) hm).mono ?_;rintro e w' ⟨rfl,n,rfl⟩;refine⟨?_,below_drewN (Below.refl _ _) n⟩;rw[show(⟨l.toArray⟩:Bt).data.toList=l from by simp,show(⟨#[c]⟩:Bt).data.toList=[c]from rfl,cut_eq]
theorem jI(l p:List UInt8)(w:World):
 Calls Tryz.prog 94 #[.string ⟨l.toArray⟩,.string ⟨p.toArray⟩] w fun e w'=>e=.returned (.bool (Lib.hasPrefix l p))∧w=w':=by
 refine(Tryz.strings_HasPrefix ⟨l.toArray⟩ ⟨p.toArray⟩ w).mono ?_;rintro e w' ⟨rfl,rfl⟩;exact⟨rfl,rfl⟩
theorem GL(l:List UInt8)(w:World):
 Calls Tryz.prog 210 #[.string ⟨l.toArray⟩] w fun e w'=>e=.returned (.int .i64 (tK l))∧Below w.heap.size w w':=by
 go_enter Tryz.func210,Tryz.ntmps210
 go_wp2_with(go_at_call 94;refine(jI _ _ _).mono ?_;rintro e w' ⟨rfl,rfl⟩)
 all_goals go_ret
 all_goals(refine⟨ret_i64 ?_,Below.refl _ _⟩;simp_all[tK])
theorem drop_le(l:List UInt8)(n:Nat):(l.drop n).length≤l.length:=by simp
theorem nu{l p:List UInt8}(h:Lib.hasPrefix l p=true):p.length≤l.length:=(List.isPrefixOf_iff_prefix.1 h).length_le
theorem Ih(base:Nat)(hb:base=10∨base=16)(l:List UInt8)(hl:l.length≤1000000000)(w:World)(hS:Std w):
 Calls Tryz.prog 211 #[.string ⟨l.toArray⟩,.int .i64 base] w fun e w'=>e=.returned (.tuple #[.string ⟨(jR base l).1.toArray⟩,.bool (jR base l).2])∧Below w.heap.size w w':=by
 have h:=coded_c base hb ⟨l.toArray⟩ (by rw[Lib.size_eq];simpa using hl) w hS
 rwa [Lib.toList_data,show(⟨l.toArray⟩:Bt).data.toList=l from by simp]at h
theorem named_l(l:List UInt8)(w:World):
 Calls Tryz.prog 212 #[.string ⟨l.toArray⟩] w fun e w'=>e=.returned (.tuple #[.string ⟨(rM l).1.toArray⟩,.bool (rM l).2])∧w=w':=by
 have h:=named_c ⟨l.toArray⟩ w
 rwa [Lib.toList_data,show(⟨l.toArray⟩:Bt).data.toList=l from by simp]at h
theorem coded_10(l:List UInt8)(hl:l.length≤1000000000)(w:World)(hS:Std w):
 Calls Tryz.prog 211 #[.string ⟨l.toArray⟩,.int .i64 10] w fun e w'=>e=.returned (.tuple #[.string ⟨(jR 10 l).1.toArray⟩,.bool (jR 10 l).2])∧Below w.heap.size w w':=Ih 10 (.inl rfl) l hl w hS
theorem coded_16(l:List UInt8)(hl:l.length≤1000000000)(w:World)(hS:Std w):
 Calls Tryz.prog 211 #[.string ⟨l.toArray⟩,.int .i64 16] w fun e w'=>e=.returned (.tuple #[.string ⟨(jR 16 l).1.toArray⟩,.bool (jR 16 l).2])∧Below w.heap.size w w':=Ih 16 (.inr rfl) l hl w hS
theorem meant_c(l:List UInt8)(hl:l.length≤1000000000)(w:World)(hS:Std w):
 Calls Tryz.prog 189 #[.string ⟨l.toArray⟩] w fun e w'=>e=.returned (.tuple #[.string ⟨(jD l).1.toArray⟩,.bool (jD l).2])∧Below w.heap.size w w':=by
 by_cases h2:tK l=2
 ·have e1:=Lib.hid (show jD l=jR 16 (l.drop 2) by unfold jD;rw[if_pos h2])
  have hk:=Lib.hid (GL l w);rw[h2]at hk
  have hlen:2≤l.length:=by
   unfold tK at h2
   split at h2
   ·rename_i h
    rw[Bool.or_eq_true]at h
    rcases h with h|h<;>exact nu h
   ·split at h2<;>cases h2
  clear h2;have hc:=Lib.hid (fun W hS=>coded_16 (l.drop 2) (Nat.le_trans (drop_le l 2) hl) W hS);go_enter Tryz.func189,Tryz.ntmps189
  go_wp2_with(first
   |(go_at_call 210;((with_reducible refine hk.out.mono ?_);rintro e w1 ⟨rfl,hb1⟩))
   |(go_at_call 211;((with_reducible refine(hc.out _ (hS.below hb1)).mono ?_);rintro e w2 ⟨rfl,hb2⟩)))
  go_ret2
  exact⟨by rw[e1.out];rfl,mh hb1 hb2⟩
 ·by_cases h1:tK l=1
  ·have e1:=Lib.hid (show jD l=jR 10 l.tail by unfold jD;rw[if_neg h2,if_pos h1])
   have hk:=Lib.hid (GL l w);rw[h1]at hk
   have hlen:1≤l.length:=by
    unfold tK at h1
    split at h1
    ·cases h1
    ·split at h1
     ·rename_i h
      exact nu h
     ·cases h1
   clear h2 h1;have hc:=Lib.hid (fun W hS=>coded_10 l.tail (by have:=List.length_tail (l:=l);omega) W hS);go_enter Tryz.func189,Tryz.ntmps189
   go_wp2_with(first
    |(go_at_call 210;((with_reducible refine hk.out.mono ?_);rintro e w1 ⟨rfl,hb1⟩))
    |(go_at_call 211;((with_reducible refine(hc.out _ (hS.below hb1)).mono ?_);rintro e w2 ⟨rfl,hb2⟩)))
   go_ret2
   exact⟨by rw[e1.out];rfl,mh hb1 hb2⟩
  ·have e1:=Lib.hid (show jD l=rM l by unfold jD;rw[if_neg h2,if_neg h1])
   have hk:=Lib.hid (GL l w)
   have h0:tK l=0:=by
    unfold tK at h2 h1⊢
    repeat' split
    all_goals simp_all
   rw[h0]at hk;clear h2 h1 h0;go_enter Tryz.func189,Tryz.ntmps189
   go_wp2_with(first
    |(go_at_call 210;((with_reducible refine hk.out.mono ?_);rintro e w1 ⟨rfl,hb1⟩))
    |(go_at_call 212;((with_reducible refine(named_l _ _).mono ?_);rintro e w2 ⟨rfl,rfl⟩)))
   go_ret2
   exact⟨by rw[e1.out];rfl,hb1⟩
theorem JN(l:List UInt8):Lib.strCells ⟨l.toArray⟩=Lib.byteCells l:=by
 unfold Lib.strCells Lib.byteCells;simp
theorem yC(B b:Nat)(acc l:List UInt8)(w:World)(h:Lib.IsBuilderF 106 5 B b (Lib.byteCells acc) w)(hlen:acc.length+l.length≤140737488355328)(hBw:B≤w.heap.size):
 Calls Tryz.prog 135 #[.pointer (some ⟨b,0,none⟩),.string ⟨l.toArray⟩] w fun e w'=>e=.returned (.tuple #[.int .i64 l.length,.nilIface])∧(Lib.IsBuilderF 106 5 B b (Lib.byteCells (acc++l)) w'∧Below B w w'∧Lib.OthersKept 5 (some b) w w'):=by
 refine(Bp B b _ ⟨l.toArray⟩ w h (by rw[Lib.byteCells_length,oD];exact hlen) hBw).mono ?_;rintro e w' ⟨rfl,h1,h2,h3⟩;rw[oD];rw[JN,←Lib.byteCells_append]at h1;exact⟨rfl,h1,h2,h3⟩
theorem jS{w w1:World}(h:Below w.heap.size w w1)(row:Option Nat):w.grownBy w1 row:=⟨h.os,h.tape,h.output,h.size,fun i hi _=>h.block i hi⟩
theorem sK{T e:TypeId}{B b:Nat}{bs:List Value}{w w1:World}(h:Lib.IsBuilderF T e B b bs w)(hb:Below w.heap.size w w1):Lib.IsBuilderF T e B b bs w1:=by
 have key:∀p,Lib.BuilderAtF T e B b p bs w→Lib.BuilderAtF T e B b p bs w1:=by
  intro p hp;have hlt:=hp.lt;obtain⟨hB,v,hv,hown,hne⟩:=hp;exact⟨hB,v,(hb.block b hlt).trans hv,hown.kept (jS hb none) (by cases hv:v.ownBlock<;>simp),hne⟩
 exact h.elim (fun x=>.inl (key _ x)) (fun x=>.inr (key _ x))
def zF:Value→Nat| .string s=>s.size|_=>0
theorem jN(l:List UInt8):zF (.string ⟨l.toArray⟩)=l.length:=oD l
theorem bld_new(B:Nat)(w:World)(h:B≤w.heap.size):Lib.IsBuilderF 106 5 B w.heap.size (Lib.byteCells []) (w.alloc (.cells #[.pointer none,.slice none 0 0] 106)):=by
 refine .inl ⟨h,.slice none 0 0,?_,World.ownsRowF_nil _ _ _ _,by simp[Value.ownBlock]⟩;show(w.heap.push _)[w.heap.size]?=_;simp
def DecRel(l:List UInt8)(w:World)(v:Value)(wr:World):Prop:=
 ∃(rest acc:List UInt8),v=.string ⟨rest.toArray⟩∧Lib.IsBuilderF 106 5 w.heap.size w.heap.size (Lib.byteCells acc) wr∧Below w.heap.size w wr∧w.heap.size<wr.heap.size∧iY l=acc++iY rest∧rest.length≤l.length∧acc.length+5 * rest.length≤5 * l.length
theorem pO(l:List UInt8)(hl:l.length≤1000000000)(w:World)(hS:Std w):
 Calls Tryz.prog 155 #[.string ⟨l.toArray⟩] w fun e w'=>e=.returned (.string ⟨(iY l).toArray⟩)∧Below w.heap.size w w':=by
 go_enter Tryz.func155,Tryz.ntmps155;go_wp2
 go_loopw [0] (fun v wr=>DecRel l w v wr) (fun v wr=>zF v)
 case atStart=>
  exact⟨l,[],rfl,bld_new _ _ (Nat.le_refl _),(Below.refl _ w).alloc (Nat.le_refl _) _,by simp,rfl,Nat.le_refl _,by simp⟩
 case round=>
  obtain⟨rest,acc,rfl,hI,hbw,hsz,hdec,hr1,hr2⟩:=hrel;have hSr:=hS.below hbw;have hcl:=nJ 38 rest;have hcut:=Lib.hid (cut_c rest 38 (by omega) wr hSr);cases hf:(gI 38 rest).2.2 with
  |false=>
   rw[hf]at hcut;have hd:=Lib.hid (hdec.trans (by rw[JQ hf]));clear hdec hf;have hcl1:(gI 38 rest).1.length≤rest.length:=by omega
   clear hcl;generalize (gI 38 rest).1=before at *;generalize (gI 38 rest).2.1=after at *
   go_wp2_with(go_at_call 188;((with_reducible refine hcut.out.mono ?_);rintro e w1 ⟨rfl,hb1⟩))
   have hI1:=sK hI hb1;have hz1:=hb1.size
   go_wp2_with(go_at_call 135;((with_reducible refine(yC _ _ acc before _ hI1 (by omega) (by omega)).mono ?_);rintro e w2 ⟨rfl,hI2,hb2,_⟩))
   have hz2:=hb2.size
   go_wp2_with(go_at_call 138;((with_reducible refine(Tryz.Builder_String_any_k _ _ _ _ hI2 (by omega)).mono ?_);rintro e w3 ⟨rfl,_,hb3,_⟩))
   go_wp2;go_ret;rw[hd.out];exact⟨rfl,((bO hbw (by omega) hb1).trans hb2).trans hb3⟩
  |true=>
   rw[hf]at hcut;have hd:=hdec.trans (by rw[decL_hit hf]);clear hdec;rw[if_pos hf]at hcl;clear hf;generalize (gI 38 rest).1=before at *;generalize (gI 38 rest).2.1=r2 at *;have hml:=GN (gI 59 r2).1;have hcut2:=Lib.hid (fun W hS=>cut_c r2 59 (by omega) W hS);have hm:=Lib.hid (fun W hS=>meant_c (gI 59 r2).1 (by have:=nJ 59 r2;omega) W hS);have hlen2:=nJ 59 r2;have hd1:=Lib.hid (fun h1 h2=>hd.trans (by rw[decL_ref h1 h2]));have hd2:=Lib.hid (fun h=>hd.trans (by rw[decL_amp h]));clear hd;generalize (gI 59 r2).2.2=ends at *;generalize (gI 59 r2).1=name at *;generalize (gI 59 r2).2.1=after at *;generalize (jD name).2=is at *;generalize (jD name).1=t at *;cases ends<;>cases is
   all_goals
    go_wp2_with(go_at_call 188;((with_reducible refine hcut.out.mono ?_);rintro e w1 ⟨rfl,hb1⟩))
    have hI1:=sK hI hb1;have hz1:=hb1.size
    go_wp2_with(go_at_call 135;((with_reducible refine(yC _ _ acc before _ hI1 (by omega) (by omega)).mono ?_);rintro e w2 ⟨rfl,hI2,hb2,_⟩))
    have hz2:=hb2.size;have hbw2:=(bO hbw (by omega) hb1).trans hb2;have hS2:=hS.below hbw2
    go_wp2_with(go_at_call 188;((with_reducible refine(hcut2.out _ hS2).mono ?_);rintro e w3 ⟨rfl,hb3⟩))
    have hS3:=hS2.below hb3;have hI3:=sK hI2 hb3;have hz3:=hb3.size
    go_wp2_with(go_at_call 189;((with_reducible refine(hm.out _ hS3).mono ?_);rintro e w4 ⟨rfl,hb4⟩))
    have hI4:=sK hI3 hb4;have hz4:=hb4.size;have hbw4:=bO (bO hbw2 (by omega) hb3) (by omega) hb4
    first
     |(have hd:Hid (iY l=acc++(before++38::iY r2)):=by first|exact hd2.out rfl|exact hd2.out trivial|exact hd2.out
       go_wp2_with(go_at_call 135;((with_reducible refine(yC _ _ _ [38] _ hI4 (by simp;omega) (by omega)).mono ?_);rintro e w5 ⟨rfl,hI5,hb5,_⟩))
       go_wp2
       go_roundw
       case rel=>exact⟨r2,acc++before++[38],rfl,hI5,hbw4.trans hb5,by have:=hb5.size;omega,by rw[hd.out];simp,by omega,by simp;omega⟩
       case measure=>rw[jN,jN];omega)
     |(have hd:Hid (iY l=acc++(before++(t++iY after))):=by first|exact hd1.out rfl rfl|exact hd1.out trivial trivial|exact hd1.out
       go_wp2_with(go_at_call 135;((with_reducible refine(yC _ _ _ t _ hI4 (by simp;omega) (by omega)).mono ?_);rintro e w5 ⟨rfl,hI5,hb5,_⟩))
       go_wp2
       go_roundw
       case rel=>exact⟨after,acc++before++t,rfl,hI5,hbw4.trans hb5,by have:=hb5.size;omega,by rw[hd.out];simp,by simp at hlen2;omega,by simp at hlen2⊢;omega⟩
       case measure=>rw[jN,jN];simp at hlen2;omega)
def escL(q:Bool)(c:UInt8):List UInt8:=
 if c=38 then [38,97,109,112,59]else if c=60 then [38,108,116,59]else if c=62 then [38,103,116,59]else if c=34∧q=true then [38,113,117,111,116,59]else [c]
def wrL(q:Bool):List UInt8→List UInt8
 | []=>[]
 | [c]=>escL q c
 |c::d::l=>if c=194∧d=160 then [38,110,98,115,112,59]++wrL q l else escL q c++wrL q (d::l)
def hardL(l:List UInt8):Bool:=Lib.hasPrefix l [194,160]
theorem u8_eq{c:UInt8}{n:Nat}(h:c.toNat=n)(hn:n<256):c=UInt8.ofNat n:=by
 apply UInt8.toNat_inj.1;rw[h];simp[Nat.mod_eq_of_lt hn]
theorem bR(w:World)(cs:Array Value)(t:TypeId):(w.alloc (.cells cs t)).heap[w.heap.size]?=some (.cells cs t (0,0)):=by
 show(w.heap.push _)[w.heap.size]?=_;simp
def oK(b n:Nat)(L:List (List UInt8))(w:World):Prop:=∀k,k<n→w.cell? ⟨b,k,none⟩=some (.string ⟨(L.getD k []).toArray⟩)
def AO(b n:Nat)(L:List Int)(w:World):Prop:=∀k,k<n→w.cell? ⟨b,k,none⟩=some (.int .i64 (L.getD k 0))
theorem oK.below{b n:Nat}{L:List (List UInt8)}{w w':World}(h:oK b n L w)(hb:Below w.heap.size w w'):oK b n L w':=fun k hk=>dG (h k hk) hb
theorem AO.below{b n:Nat}{L:List Int}{w w':World}(h:AO b n L w)(hb:Below w.heap.size w w'):AO b n L w':=fun k hk=>dG (h k hk) hb
theorem oK.of{b n:Nat}{L:List (List UInt8)}{w:World}{cs:Array Value}{t:TypeId}{fr:Nat×Nat}(h:w.heap[b]?=some (.cells cs t fr))(hc:cs.toList=L.map fun l=>Value.string ⟨l.toArray⟩)(hn:n≤L.length):oK b n L w:=by
 intro k hk;rw[Lib.cell_of_heap h,←Array.getElem?_toList,hc,List.getElem?_map,List.getElem?_eq_getElem (show k<L.length by omega)];simp[List.getD,List.getElem?_eq_getElem (show k<L.length by omega)]
theorem AO.of{b n:Nat}{L:List Int}{w:World}{cs:Array Value}{t:TypeId}{fr:Nat×Nat}(h:w.heap[b]?=some (.cells cs t fr))(hc:cs.toList=L.map fun l=>Value.int .i64 l)(hn:n≤L.length):AO b n L w:=by
 intro k hk;rw[Lib.cell_of_heap h,←Array.getElem?_toList,hc,List.getElem?_map,List.getElem?_eq_getElem (show k<L.length by omega)];simp[List.getD,List.getElem?_eq_getElem (show k<L.length by omega)]
def Bts(w:World)(base:Nat)(v:Value)(l:List UInt8):Prop:=w.ownsRow base 5 1 v l.length (Lib.byteCells l)
theorem Bts.below{w w1:World}{base:Nat}{v:Value}{l:List UInt8}(h:Bts w base v l)(hb:Below w.heap.size w w1):Bts w1 base v l:=
 World.ownsRow.kept h (jS hb none) (by cases hv:v.ownBlock<;>simp)
theorem Bts.nil(w:World)(base:Nat):Bts w base (.slice none 0 0) []:=World.ownsRow_nil _ _ _ _
theorem Bts.new(w:World)(base:Nat)(hB:base≤w.heap.size):Bts (w.alloc (.cells #[] 5)) base (.slice (some ⟨w.heap.size,0,none⟩) 0 0) []:=
 ⟨rfl,.inr ⟨w.heap.size,0,#[],rfl,hB,bR _ _ _,Nat.le_refl _,by unfold maxLen;omega,rfl,rfl⟩⟩
theorem lV{w:World}{base:Nat}{e:TypeId}{size n:Nat}{v:Value}{xs:List Value}(h:w.ownsRow base e size v n xs){k:Nat}(hk:v.ownBlock=some k):base≤k:=by
 rcases h.2 with⟨rfl,_⟩|⟨g,cap,cur,rfl,hb,_⟩
 ·simp[Value.ownBlock]at hk
 ·have:g=k:=by simpa [Value.ownBlock]using hk
  omega
def kM(n:Int):Bool:=n==32||n==9||n==10||n==12||n==13
def uR(n:Int):Bool:=(decide (97≤n)&&decide (n≤122))||(decide (65≤n)&&decide (n≤90))
theorem wL(c:UInt8):kM c.toNat=dQ c:=by
 have:=lQ (p:=fun c=>kM c.toNat==dQ c) (by decide +kernel) c;simpa using this
theorem GZ(c:UInt8):uR c.toNat=Cx c:=by
 have:=lQ (p:=fun c=>uR c.toNat==Cx c) (by decide +kernel) c;simpa using this
theorem lS(n:Int)(w:World):
 Calls Tryz.prog 128 #[.int .u8 n] w fun e w'=>e=.returned (.bool (kM n))∧w=w':=by
 go_enter Tryz.func128,Tryz.ntmps128;go_wp2
 all_goals go_ret
 all_goals(refine⟨rJ ?_,rfl⟩;simp_all[kM])
theorem EC(n:Int)(w:World):
 Calls Tryz.prog 80 #[.int .u8 n] w fun e w'=>e=.returned (.bool (uR n))∧w=w':=by
 go_enter Tryz.func80,Tryz.ntmps80;go_wp2
 all_goals go_ret
 all_goals(refine⟨rJ ?_,rfl⟩;simp_all[uR];try omega)
end Go.Proofs.YtkcmghlhpbepcaaGreatDoor
