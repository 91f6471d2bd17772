/- Lemmas and walks, part 8. -/
import Derived.Test.YtkcmghlhpbepcaaGreatDoorWS7
set_option linter.unusedVariables false
set_option linter.unusedSimpArgs false
set_option maxHeartbeats 8000000
set_option maxRecDepth 100000
namespace Go.Proofs.YtkcmghlhpbepcaaGreatDoor
open Go.Proofs
abbrev Txt:=List UInt8
structure Tok where
 kind:Int
 name:Txt
 attrs:List (Txt×Txt)
 data:Txt
 self:Bool
 deriving DecidableEq
def cO(c:UInt8):Bool:=c==32||c==9||c==10||c==12||c==13
def lI(c:UInt8):Bool:=(decide (97≤c.toNat)&&decide (c.toNat≤122))||(decide (65≤c.toNat)&&decide (c.toNat≤90))
def bS(c:UInt8):Bool:=cO c||c==47||c==62
def lJ(c:UInt8):UInt8:=if 65≤c.toNat∧c.toNat≤90 then c+32 else c
def iJ(l:Txt):Txt:=l.map lJ
def EI:List Txt:=[[105,102,114,97,109,101],[110,111,101,109,98,101,100],[110,111,102,114,97,109,101,115],[115,99,114,105,112,116],[115,116,121,108,101],[120,109,112]]
def IK:List Txt:=[[116,101,120,116,97,114,101,97],[116,105,116,108,101]]
def inB(L:List Txt)(l:Txt):Bool:=L.contains l
def mJ(l:Txt):Bool:=inB EI l
def mq(l:Txt):Bool:=inB IK l
def gu:Txt→Bool
 | []=>false
 |c::_=>lI c
def o9(s:Txt):Nat:=1+s.tail.findIdx (fun c=>bS c||c==61)
def lu(s:Txt):Txt:=s.drop (s.findIdx (fun c=>!cO c))
def Ad(s:Txt):Nat:=s.findIdx (fun c=>cO c||c==62)
def zB(nm s:Txt):(Txt×Txt)×Txt×Bool:=
 match s with
 | []=>((nm,[]),[],false)
 |q::t=>if q=34∨q=39 then((nm,iK (gH q t).1),(gH q t).2.1,(gH q t).2.2)else((nm,iK ((q::t).take (Ad (q::t)))),(q::t).drop (Ad (q::t)),decide (Ad (q::t)<(q::t).length))
def qZ(nm s:Txt):(Txt×Txt)×Txt×Bool:=
 match lu s with
 | []=>((nm,[]),[],false)
 |c::t=>if c=61 then zB nm (lu t)else((nm,[]),s,true)
def kV(s:Txt):(Txt×Txt)×Txt×Bool:=qZ (iJ (s.take (o9 s))) (s.drop (o9 s))
def za(acc:List (Txt×Txt))(a:Txt×Txt):List (Txt×Txt):=if acc.any (fun b=>b.1==a.1)then acc else acc++[a]
def qm(s:Txt):Nat:=s.findIdx (fun c=>!cO c&&c !=47)
def vv(s:Txt):Bool:=decide (0<qm s)&&(s[qm s - 1]? ==some 47)
def kU:Nat→List (Txt×Txt)→Txt→Option (List (Txt×Txt)×Bool×Txt)
 |0,_,_=>none
 |n+1,acc,s=>
  match s.drop (qm s)with
  | []=>none
  |c::s1=>
   if c=62 then some (acc,vv s,s1)
   else
    let r:=kV (c::s1)
    if r.2.2 then kU n (za acc r.1) r.2.1 else none
def ku(acc:List (Txt×Txt))(s:Txt):=kU (s.length+1) acc s
def eG(s:Txt):Option (Tok×Txt):=
 (ku [] (s.drop (s.findIdx bS))).map fun r=>(⟨0,iJ (s.take (s.findIdx bS)),r.1,[],r.2.1⟩,r.2.2)
def gD(name s:Txt):Bool:=
 match s with
 |60::47::r=>decide (name.length<r.length)&&(iJ (r.take name.length)==iJ name)&&(match r.drop name.length with|c::_=>bS c| []=>false)
 |_=>false
def iy(name:Txt):Txt→Nat
 | []=>0
 |c::t=>if gD name (c::t)then 0 else 1+iy name t
def jq(name s:Txt):List Tok:=
 if s.take (iy name s)=[]then []else [⟨0,[],[],if mq name then iK (s.take (iy name s))else s.take (iy name s),false⟩]
def jo(name s:Txt):Txt:=s.drop (iy name s)
def jK(s:Txt):Txt:=((s.dropWhile cO).reverse.dropWhile cO).reverse
def jB(s e:Txt):Txt×Txt:=((Lib.cut s e).1,(Lib.cut s e).2.1)
def lG(kind:Int)(s e:Txt):List Tok×Txt:=([⟨kind,[],[],if kind=4 then jK (jB s e).1 else(jB s e).1,false⟩],(jB s e).2)
def iV(s:Txt):List Tok×Txt:=
 if Lib.hasPrefix s [62]then([⟨3,[],[],[],false⟩],s.drop 1)
 else if Lib.hasPrefix s [45,62]then([⟨3,[],[],[],false⟩],s.drop 2)
 else lG 3 s (if 0≤Lib.index s [45,45,33,62]∧(Lib.index s [45,45,62]<0∨Lib.index s [45,45,33,62]<Lib.index s [45,45,62])then [45,45,33,62]else [45,45,62])
def jC(s:Txt):Bool:=decide (8≤s.length)&&(iJ (s.take 8)==[33,100,111,99,116,121,112,101])&& !gu (s.drop 8)
def oq(kind:Int)(s:Txt):List Tok×Txt:=
 match eG s with
 |none=>([],[])
 |some (t,r)=>
  if kind=2 then([⟨2,t.name,[],[],false⟩],r)
  else if mJ t.name||mq t.name then(⟨kind,t.name,t.attrs,t.data,t.self⟩::jq t.name r,jo t.name r)
  else([⟨kind,t.name,t.attrs,t.data,t.self⟩],r)
def iL(s:Txt):Option (List Tok×Txt):=
 if gu s then some (oq 1 s)
 else if Lib.hasPrefix s [47]&&gu s.tail then some (oq 2 s.tail)
 else if Lib.hasPrefix s [47,62]then some ([],s.drop 2)
 else if Lib.hasPrefix s [33,45,45]then some (iV (s.drop 3))
 else if jC s then some (lG 4 (s.drop 8) [62])
 else if Lib.hasPrefix s [33]then some (lG 3 s.tail [62])
 else if Lib.hasPrefix s [63]then some (lG 3 s [62])
 else if decide (1<s.length)&&Lib.hasPrefix s [47]then some (lG 3 s.tail [62])
 else none
def eO(t:Txt):List Tok:=if t=[]then []else [⟨0,[],[],iK t,false⟩]
def gI(s:Txt):Nat:=s.findIdx (fun c=>c==60)
def runN:Nat→Txt→Txt→List Tok
 |0,t,_=>eO t
 |n+1,t,s=>
  match s.drop (gI s)with
  | []=>eO (t++s.take (gI s))
  |_::s1=>
   match iL s1 with
   |none=>runN n (t++s.take (gI s)++[60]) s1
   |some (ts,r)=>eO (t++s.take (gI s))++ts++runN n [] r
def nk(t s:Txt):List Tok:=runN (s.length+1) t s
def cutL(s:Txt):List Tok:=nk [] s
def inL(s name:Txt):List Tok:=if mJ name||mq name then jq name s++nk [] (jo name s)else nk [] s
theorem jh{p:UInt8→Bool}(h:(List.range 256).all (fun k=>p (UInt8.ofNat k))=true)(c:UInt8):p c=true:=by
 rw[List.all_eq_true]at h;have:=h c.toNat (by simp[c.toNat_lt]);simpa using this
end Go.Proofs.YtkcmghlhpbepcaaGreatDoor
namespace Go.Proofs.YtkcmghlhpbepcaaGreatDoor
open Go.RowKit Go.Proofs
theorem bSize:(Tryz.prog.info? 106).map (·.size)=some 2:=by kernel_rfl
theorem bLies:liesAt Tryz.prog Tryz.prog.depth 106 (2 / Tryz.prog.cellsOf 106) 0 106 1=true:=by kernel_rfl
theorem bByte:(Tryz.prog.info? 5).map (fun i=>(i.zero,i.size,i.bytes))=some (some (.int .u8 0),1,1):=by kernel_rfl
theorem En(b:Nat)(w:World)(h0:w.cell? ⟨b,0,none⟩=some (.pointer (some ⟨b,0,none⟩))):
 Calls Tryz.prog 174 #[.pointer (some ⟨b,0,none⟩)] w fun e w'=>e=.returned (.tuple #[])∧w'=w:=by
 obtain⟨j,hj,_⟩:=Option.map_eq_some_iff.1 bSize;go_enter Tryz.func174,Tryz.ntmps174;go_wp2;rw[Lib.run_neq_ptr_same w _ Tryz.underlying104 hj];go_wp2;go_end0;exact⟨rfl,rfl⟩
theorem Dy(b:Nat)(w:World)(h0:w.cell? ⟨b,0,none⟩=some (.pointer none))(hsh:w.shape? b=some (106,2))(hfz:w.frozen? ⟨b,0,none⟩=false):
 Calls Tryz.prog 174 #[.pointer (some ⟨b,0,none⟩)] w fun e w'=>e=.returned (.tuple #[])∧w'=w.setCell ⟨b,0,none⟩ (.pointer (some ⟨b,0,none⟩)):=by
 obtain⟨j,hj,hjs⟩:=Option.map_eq_some_iff.1 bSize;go_enter Tryz.func174,Tryz.ntmps174;go_wp2;rw[Lib.run_to_unsafe w ⟨b,0,none⟩ Tryz.underlying104 Tryz.underlying157 hj (by rw[hjs];decide) hsh (Nat.zero_lt_succ 1)];simp only[Result.andThen];rw[Oper.upon_value];go_wp2;rw[run_callFunc_extern Tryz.func201 (by kernel_rfl) (by kernel_rfl) (by kernel_rfl) (e:=Extern.AbiNoEscape.same) (by kernel_rfl)];rw[Lib.run_noEscape];simp only[Result.andThen];rw[Oper.upon_value];go_wp2;rw[Lib.run_from_unsafe w ⟨b,0,none⟩ Tryz.underlying157 Tryz.underlying104 hj hsh bLies];simp only[Result.andThen];rw[Oper.upon_value];go_wp2;go_end0;exact⟨rfl,rfl⟩
theorem xJ(B b:Nat)(bs:List Value)(w:World)(h:Lib.IsBuilderF 106 5 B b bs w):
 Calls Tryz.prog 174 #[.pointer (some ⟨b,0,none⟩)] w fun e w'=>e=.returned (.tuple #[])∧(Lib.BuilderAtF 106 5 B b (.pointer (some ⟨b,0,none⟩)) bs w'∧Below B w w'∧Lib.OthersKept 5 (some b) w w'):=by
 rcases h with h|h
 ·refine(Dy b w h.cell0 h.shape h.frozen0).mono ?_
  rintro e w' ⟨rfl,rfl⟩;exact⟨rfl,h.used _,(Below.refl B w).setCell (p:=⟨b,0,none⟩) h.1 _,(Lib.OthersKept.refl _ _ w).setCell ⟨b,0,none⟩ rfl _⟩
 ·refine(En b w h.cell0).mono ?_
  rintro e w' ⟨rfl,rfl⟩;exact⟨rfl,h,Below.refl B _,Lib.OthersKept.refl _ _ _⟩
theorem KP(B b:Nat)(bs:List Value)(c:Int)(w:World)(h:Lib.IsBuilderF 106 5 B b bs w)(hlen:bs.length+1≤140737488355328)(hBw:B≤w.heap.size):
 Calls Tryz.prog 202 #[.pointer (some ⟨b,0,none⟩),.int .u8 c] w fun e w'=>e=.returned .nilIface∧(Lib.IsBuilderF 106 5 B b (bs++[.int .u8 c]) w'∧Below B w w'∧Lib.OthersKept 5 (some b) w w'):=by
 obtain⟨i0,hi,hz0,hz1,hz2⟩:=info_parts bByte;go_enter Tryz.func202,Tryz.ntmps202
 go_wp2_with(go_at_call 174;refine(xJ B b bs _ h).mono ?_)
 rintro e w1 ⟨rfl,h1,hb1,hk1⟩;obtain⟨hB,v,hbk,hown,hne⟩:=h1;have c0:w1.cell? ⟨b,0,none⟩=some (.pointer (some ⟨b,0,none⟩)):=by rw[Lib.cell_of_heap hbk];rfl
 have c1:w1.cell? ⟨b,1,none⟩=some v:=by rw[Lib.cell_of_heap hbk];rfl
 go_wp2_with(at_builtin;refine wpList_append_ownF _ rfl _ _ 43 rfl B 5 i0 (.int .u8 0) 1 1 Tryz.underlying43 hi hz0 hz1 hz2 rfl (by decide) _ _ _ rfl (hown.alloc _) ⟨w1.heap.size,0,none⟩ 1 1 [.int .u8 c] rfl rfl ?c1 ?c2 ?c3 ?c4 ?c5 ?_)
 case c1=>
  intro j u hj
  match j,hj with
  |0,hj=>simp at hj;subst hj;simp[Addr.add]
 case c2=>intro u hu;simp at hu;subst hu;rfl
 case c3=>unfold maxLen;omega
 case c4=>omega
 case c5=>have:=hb1.size;simp;omega
 intro v' w2 hown' hgrow _
 have hlt:b<w1.heap.size:=by
  rcases Nat.lt_or_ge b w1.heap.size with h'|h'
  ·exact h'
  ·simp[Array.getElem?_eq_none h']at hbk
 have hb2:w2.heap[b]?=some (.cells #[.pointer (some ⟨b,0,none⟩),v] 106 (0,0)):=by
  rw[hgrow.block b (by simp;omega) (fun e=>hne e.symm),Lib.alloc_old w1 _ b hlt];exact hbk
 have d0:w2.cell? ⟨b,0,none⟩=some (.pointer (some ⟨b,0,none⟩)):=by rw[Lib.cell_of_heap hb2];rfl
 have d1:w2.cell? ⟨b,1,none⟩=some v:=by rw[Lib.cell_of_heap hb2];rfl
 have f1:w2.frozen? ⟨b,1,none⟩=false:=Lib.frozen_of_heap hb2 1
 obtain⟨g,cap,rfl⟩:∃g cap,v'=.slice (some ⟨g,0,none⟩) (bs.length+1) cap:=by
  rcases hown'.2 with⟨_,h0⟩|⟨g,cap,cur,fz,hv,_⟩
  ·omega
  ·exact⟨g,cap,hv⟩
 go_wp2;go_ret;refine⟨rfl,Or.inr ?_,?_,((hk1.alloc _).grown hgrow (Lib.ownsRowF_kind (hown.alloc _))).setCell ⟨b,1,none⟩ rfl _⟩
 ·exact Lib.BuilderAtF.put (T:=106) (e:=5) hB hb2 (bs':=bs++[.int .u8 c]) (by simpa using hown') (by decide)
 ·exact((hb1.alloc (by have:=hb1.size;omega) _).grown hgrow (by have:=hb1.size;simp;omega) (fun k hk=>(hown.lt k hk).1)).setCell (p:=⟨b,1,none⟩) hB _
theorem Gs(B b:Nat)(bs:List Value)(s:Bt)(w:World)(h:Lib.IsBuilderF 106 5 B b bs w)(hlen:bs.length+s.size≤140737488355328)(hBw:B≤w.heap.size):
 Calls Tryz.prog 135 #[.pointer (some ⟨b,0,none⟩),.string s] w fun e w'=>e=.returned (.tuple #[.int .i64 s.size,.nilIface])∧(Lib.IsBuilderF 106 5 B b (bs++Lib.strCells s) w'∧Below B w w'∧Lib.OthersKept 5 (some b) w w'):=by
 obtain⟨i0,hi,hz0,hz1,hz2⟩:=info_parts bByte;go_enter Tryz.func135,Tryz.ntmps135
 go_wp2_with(go_at_call 174;refine(xJ B b bs _ h).mono ?_)
 rintro e w1 ⟨rfl,h1,hb1,hk1⟩;obtain⟨hB,v,hbk,hown,hne⟩:=h1;have c0:w1.cell? ⟨b,0,none⟩=some (.pointer (some ⟨b,0,none⟩)):=by rw[Lib.cell_of_heap hbk];rfl
 have c1:w1.cell? ⟨b,1,none⟩=some v:=by rw[Lib.cell_of_heap hbk];rfl
 go_wp2_with(at_builtin;refine Lib.wpList_append_own_stringF _ rfl _ _ 43 9 rfl B 5 i0 Tryz.underlying43 Tryz.underlying9 hi hz0 hz1 hz2 _ _ _ rfl hown s rfl ?c3 ?c4 ?c5 ?_)
 case c3=>unfold maxLen;omega
 case c4=>omega
 case c5=>have:=hb1.size;omega
 intro v' w2 hown' hgrow _
 have hlt:b<w1.heap.size:=by
  rcases Nat.lt_or_ge b w1.heap.size with h'|h'
  ·exact h'
  ·simp[Array.getElem?_eq_none h']at hbk
 have hb2:w2.heap[b]?=some (.cells #[.pointer (some ⟨b,0,none⟩),v] 106 (0,0)):=by
  rw[hgrow.block b hlt (fun e=>hne e.symm)];exact hbk
 have d0:w2.cell? ⟨b,0,none⟩=some (.pointer (some ⟨b,0,none⟩)):=by rw[Lib.cell_of_heap hb2];rfl
 have d1:w2.cell? ⟨b,1,none⟩=some v:=by rw[Lib.cell_of_heap hb2];rfl
 have f1:w2.frozen? ⟨b,1,none⟩=false:=Lib.frozen_of_heap hb2 1
 obtain⟨ao,n',cap,rfl⟩:∃ao n' cap,v'=.slice ao n' cap:=by
  rcases hown'.2 with⟨hv,_⟩|⟨g,cap,cur,fz,hv,_⟩
  ·exact⟨_,_,_,hv⟩
  ·exact⟨_,_,_,hv⟩
 go_wp2
 go_ret2
 refine⟨rfl,Or.inr ?_,?_,(hk1.grown hgrow (Lib.ownsRowF_kind hown)).setCell ⟨b,1,none⟩ rfl _⟩
 ·exact Lib.BuilderAtF.put (T:=106) (e:=5) hB hb2 (bs':=bs++Lib.strCells s) (by simpa [Lib.strCells_length]using hown') (by decide)
 ·exact(hb1.grown hgrow (by have:=hb1.size;omega) (fun k hk=>(hown.lt k hk).1)).setCell (p:=⟨b,1,none⟩) hB _
theorem cut_c(l:List UInt8)(c:UInt8)(hl:l.length≤1000000000)(w:World)(hS:Std w):
 Calls Tryz.prog 188 #[.string ⟨l.toArray⟩,.string ⟨#[c]⟩] w fun e w'=>e=.returned (.tuple #[.string ⟨(gH c l).1.toArray⟩,.string ⟨(gH c l).2.1.toArray⟩,.bool (gH c l).2.2])∧Below w.heap.size w w':=by
 obtain⟨m,hm⟩:=hS.maxLen;refine(Tryz.strings_Cut ⟨l.toArray⟩ ⟨#[c]⟩ m w (by rw[Lib.size_eq];simp;omega) hm).mono ?_;rintro e w' ⟨rfl,n,rfl⟩;refine⟨?_,below_drewN (Below.refl _ _) n⟩;rw[show(⟨l.toArray⟩:Bt).data.toList=l from by simp,show(⟨#[c]⟩:Bt).data.toList=[c]from rfl,Nr]
theorem kI(l p:List UInt8)(w:World):
 Calls Tryz.prog 94 #[.string ⟨l.toArray⟩,.string ⟨p.toArray⟩] w fun e w'=>e=.returned (.bool (Lib.hasPrefix l p))∧w=w':=by
 refine(Tryz.strings_HasPrefix ⟨l.toArray⟩ ⟨p.toArray⟩ w).mono ?_;rintro e w' ⟨rfl,rfl⟩;exact⟨rfl,rfl⟩
theorem Ns(l:List UInt8)(w:World):
 Calls Tryz.prog 210 #[.string ⟨l.toArray⟩] w fun e w'=>e=.returned (.int .i64 (zm l))∧Below w.heap.size w w':=by
 go_enter Tryz.func210,Tryz.ntmps210
 go_wp2_with(go_at_call 94;refine(kI _ _ _).mono ?_;rintro e w' ⟨rfl,rfl⟩)
 all_goals go_ret
 all_goals(refine⟨ret_i64 ?_,Below.refl _ _⟩;simp_all[zm])
theorem drop_le(l:List UInt8)(n:Nat):(l.drop n).length≤l.length:=by simp
theorem qb{l p:List UInt8}(h:Lib.hasPrefix l p=true):p.length≤l.length:=(List.isPrefixOf_iff_prefix.1 h).length_le
theorem OM(base:Nat)(hb:base=10∨base=16)(l:List UInt8)(hl:l.length≤1000000000)(w:World)(hS:Std w):
 Calls Tryz.prog 211 #[.string ⟨l.toArray⟩,.int .i64 base] w fun e w'=>e=.returned (.tuple #[.string ⟨(j6 base l).1.toArray⟩,.bool (j6 base l).2])∧Below w.heap.size w w':=by
 have h:=coded_c base hb ⟨l.toArray⟩ (by rw[Lib.size_eq];simpa using hl) w hS
 rwa [Lib.toList_data,show(⟨l.toArray⟩:Bt).data.toList=l from by simp]at h
theorem named_l(l:List UInt8)(w:World):
 Calls Tryz.prog 212 #[.string ⟨l.toArray⟩] w fun e w'=>e=.returned (.tuple #[.string ⟨(ru l).1.toArray⟩,.bool (ru l).2])∧w=w':=by
 have h:=named_c ⟨l.toArray⟩ w
 rwa [Lib.toList_data,show(⟨l.toArray⟩:Bt).data.toList=l from by simp]at h
theorem coded_10(l:List UInt8)(hl:l.length≤1000000000)(w:World)(hS:Std w):
 Calls Tryz.prog 211 #[.string ⟨l.toArray⟩,.int .i64 10] w fun e w'=>e=.returned (.tuple #[.string ⟨(j6 10 l).1.toArray⟩,.bool (j6 10 l).2])∧Below w.heap.size w w':=OM 10 (.inl rfl) l hl w hS
theorem coded_16(l:List UInt8)(hl:l.length≤1000000000)(w:World)(hS:Std w):
 Calls Tryz.prog 211 #[.string ⟨l.toArray⟩,.int .i64 16] w fun e w'=>e=.returned (.tuple #[.string ⟨(j6 16 l).1.toArray⟩,.bool (j6 16 l).2])∧Below w.heap.size w w':=OM 16 (.inr rfl) l hl w hS
theorem meant_c(l:List UInt8)(hl:l.length≤1000000000)(w:World)(hS:Std w):
 Calls Tryz.prog 189 #[.string ⟨l.toArray⟩] w fun e w'=>e=.returned (.tuple #[.string ⟨(iM l).1.toArray⟩,.bool (iM l).2])∧Below w.heap.size w w':=by
 by_cases h2:zm l=2
 ·have e1:=Lib.hid (show iM l=j6 16 (l.drop 2) by unfold iM;rw[if_pos h2])
  have hk:=Lib.hid (Ns l w);rw[h2]at hk
  have hlen:2≤l.length:=by
   unfold zm at h2
   split at h2
   ·rename_i h
    rw[Bool.or_eq_true]at h
    rcases h with h|h<;>exact qb h
   ·split at h2<;>cases h2
  clear h2;have hc:=Lib.hid (fun W hS=>coded_16 (l.drop 2) (Nat.le_trans (drop_le l 2) hl) W hS);go_enter Tryz.func189,Tryz.ntmps189
  go_wp2_with(first
   |(go_at_call 210;((with_reducible refine hk.out.mono ?_);rintro e w1 ⟨rfl,hb1⟩))
   |(go_at_call 211;((with_reducible refine(hc.out _ (hS.below hb1)).mono ?_);rintro e w2 ⟨rfl,hb2⟩)))
  go_ret2
  exact⟨by rw[e1.out];rfl,pG hb1 hb2⟩
 ·by_cases h1:zm l=1
  ·have e1:=Lib.hid (show iM l=j6 10 l.tail by unfold iM;rw[if_neg h2,if_pos h1])
   have hk:=Lib.hid (Ns l w);rw[h1]at hk
   have hlen:1≤l.length:=by
    unfold zm at h1
    split at h1
    ·cases h1
    ·split at h1
     ·rename_i h
      exact qb h
     ·cases h1
   clear h2 h1;have hc:=Lib.hid (fun W hS=>coded_10 l.tail (by have:=List.length_tail (l:=l);omega) W hS);go_enter Tryz.func189,Tryz.ntmps189
   go_wp2_with(first
    |(go_at_call 210;((with_reducible refine hk.out.mono ?_);rintro e w1 ⟨rfl,hb1⟩))
    |(go_at_call 211;((with_reducible refine(hc.out _ (hS.below hb1)).mono ?_);rintro e w2 ⟨rfl,hb2⟩)))
   go_ret2
   exact⟨by rw[e1.out];rfl,pG hb1 hb2⟩
  ·have e1:=Lib.hid (show iM l=ru l by unfold iM;rw[if_neg h2,if_neg h1])
   have hk:=Lib.hid (Ns l w)
   have h0:zm l=0:=by
    unfold zm at h2 h1⊢
    repeat' split
    all_goals simp_all
   rw[h0]at hk;clear h2 h1 h0;go_enter Tryz.func189,Tryz.ntmps189
   go_wp2_with(first
    |(go_at_call 210;((with_reducible refine hk.out.mono ?_);rintro e w1 ⟨rfl,hb1⟩))
    |(go_at_call 212;((with_reducible refine(named_l _ _).mono ?_);rintro e w2 ⟨rfl,rfl⟩)))
   go_ret2
   exact⟨by rw[e1.out];rfl,hb1⟩
theorem Rn(l:List UInt8):Lib.strCells ⟨l.toArray⟩=Lib.byteCells l:=by
 unfold Lib.strCells Lib.byteCells;simp
theorem uS(B b:Nat)(acc l:List UInt8)(w:World)(h:Lib.IsBuilderF 106 5 B b (Lib.byteCells acc) w)(hlen:acc.length+l.length≤140737488355328)(hBw:B≤w.heap.size):
 Calls Tryz.prog 135 #[.pointer (some ⟨b,0,none⟩),.string ⟨l.toArray⟩] w fun e w'=>e=.returned (.tuple #[.int .i64 l.length,.nilIface])∧(Lib.IsBuilderF 106 5 B b (Lib.byteCells (acc++l)) w'∧Below B w w'∧Lib.OthersKept 5 (some b) w w'):=by
 refine(Gs B b _ ⟨l.toArray⟩ w h (by rw[Lib.byteCells_length,qG];exact hlen) hBw).mono ?_;rintro e w' ⟨rfl,h1,h2,h3⟩;rw[qG];rw[Rn,←Lib.byteCells_append]at h1;exact⟨rfl,h1,h2,h3⟩
theorem mO{w w1:World}(h:Below w.heap.size w w1)(row:Option Nat):w.grownBy w1 row:=⟨h.os,h.tape,h.output,h.size,fun i hi _=>h.block i hi⟩
theorem tQ{T e:TypeId}{B b:Nat}{bs:List Value}{w w1:World}(h:Lib.IsBuilderF T e B b bs w)(hb:Below w.heap.size w w1):Lib.IsBuilderF T e B b bs w1:=by
 have key:∀p,Lib.BuilderAtF T e B b p bs w→Lib.BuilderAtF T e B b p bs w1:=by
  intro p hp;have hlt:=hp.lt;obtain⟨hB,v,hv,hown,hne⟩:=hp;exact⟨hB,v,(hb.block b hlt).trans hv,hown.kept (mO hb none) (by cases hv:v.ownBlock<;>simp),hne⟩
 exact h.elim (fun x=>.inl (key _ x)) (fun x=>.inr (key _ x))
def Es:Value→Nat| .string s=>s.size|_=>0
theorem l5(l:List UInt8):Es (.string ⟨l.toArray⟩)=l.length:=qG l
theorem DN(B:Nat)(w:World)(h:B≤w.heap.size):Lib.IsBuilderF 106 5 B w.heap.size (Lib.byteCells []) (w.alloc (.cells #[.pointer none,.slice none 0 0] 106)):=by
 refine .inl ⟨h,.slice none 0 0,?_,World.ownsRowF_nil _ _ _ _,by simp[Value.ownBlock]⟩;show(w.heap.push _)[w.heap.size]?=_;simp
def DecRel(l:List UInt8)(w:World)(v:Value)(wr:World):Prop:=
 ∃(rest acc:List UInt8),v=.string ⟨rest.toArray⟩∧Lib.IsBuilderF 106 5 w.heap.size w.heap.size (Lib.byteCells acc) wr∧Below w.heap.size w wr∧w.heap.size<wr.heap.size∧iK l=acc++iK rest∧rest.length≤l.length∧acc.length+5 * rest.length≤5 * l.length
theorem tL(l:List UInt8)(hl:l.length≤1000000000)(w:World)(hS:Std w):
 Calls Tryz.prog 155 #[.string ⟨l.toArray⟩] w fun e w'=>e=.returned (.string ⟨(iK l).toArray⟩)∧Below w.heap.size w w':=by
 go_enter Tryz.func155,Tryz.ntmps155;go_wp2
 go_loopw [0] (fun v wr=>DecRel l w v wr) (fun v wr=>Es v)
 case atStart=>
  exact⟨l,[],rfl,DN _ _ (Nat.le_refl _),(Below.refl _ w).alloc (Nat.le_refl _) _,by simp,rfl,Nat.le_refl _,by simp⟩
 case round=>
  obtain⟨rest,acc,rfl,hI,hbw,hsz,hdec,hr1,hr2⟩:=hrel;have hSr:=hS.below hbw;have hcl:=mK 38 rest;have hcut:=Lib.hid (cut_c rest 38 (by omega) wr hSr);cases hf:(gH 38 rest).2.2 with
  |false=>
   rw[hf]at hcut;have hd:=Lib.hid (hdec.trans (by rw[GH hf]));clear hdec hf;have hcl1:(gH 38 rest).1.length≤rest.length:=by omega
   clear hcl;generalize (gH 38 rest).1=before at *;generalize (gH 38 rest).2.1=after at *
   go_wp2_with(go_at_call 188;((with_reducible refine hcut.out.mono ?_);rintro e w1 ⟨rfl,hb1⟩))
   have hI1:=tQ hI hb1;have hz1:=hb1.size
   go_wp2_with(go_at_call 135;((with_reducible refine(uS _ _ acc before _ hI1 (by omega) (by omega)).mono ?_);rintro e w2 ⟨rfl,hI2,hb2,_⟩))
   have hz2:=hb2.size
   go_wp2_with(go_at_call 138;((with_reducible refine(Tryz.Builder_String_any_k _ _ _ _ hI2 (by omega)).mono ?_);rintro e w3 ⟨rfl,_,hb3,_⟩))
   go_wp2;go_ret;rw[hd.out];exact⟨rfl,((bC hbw (by omega) hb1).trans hb2).trans hb3⟩
  |true=>
   rw[hf]at hcut;have hd:=hdec.trans (by rw[KW hf]);clear hdec;rw[if_pos hf]at hcl;clear hf;generalize (gH 38 rest).1=before at *;generalize (gH 38 rest).2.1=r2 at *;have hml:=Ep (gH 59 r2).1;have hcut2:=Lib.hid (fun W hS=>cut_c r2 59 (by omega) W hS);have hm:=Lib.hid (fun W hS=>meant_c (gH 59 r2).1 (by have:=mK 59 r2;omega) W hS);have hlen2:=mK 59 r2;have hd1:=Lib.hid (fun h1 h2=>hd.trans (by rw[El h1 h2]));have hd2:=Lib.hid (fun h=>hd.trans (by rw[KX h]));clear hd;generalize (gH 59 r2).2.2=ends at *;generalize (gH 59 r2).1=name at *;generalize (gH 59 r2).2.1=after at *;generalize (iM name).2=is at *;generalize (iM name).1=t at *;cases ends<;>cases is
   all_goals
    go_wp2_with(go_at_call 188;((with_reducible refine hcut.out.mono ?_);rintro e w1 ⟨rfl,hb1⟩))
    have hI1:=tQ hI hb1;have hz1:=hb1.size
    go_wp2_with(go_at_call 135;((with_reducible refine(uS _ _ acc before _ hI1 (by omega) (by omega)).mono ?_);rintro e w2 ⟨rfl,hI2,hb2,_⟩))
    have hz2:=hb2.size;have hbw2:=(bC hbw (by omega) hb1).trans hb2;have hS2:=hS.below hbw2
    go_wp2_with(go_at_call 188;((with_reducible refine(hcut2.out _ hS2).mono ?_);rintro e w3 ⟨rfl,hb3⟩))
    have hS3:=hS2.below hb3;have hI3:=tQ hI2 hb3;have hz3:=hb3.size
    go_wp2_with(go_at_call 189;((with_reducible refine(hm.out _ hS3).mono ?_);rintro e w4 ⟨rfl,hb4⟩))
    have hI4:=tQ hI3 hb4;have hz4:=hb4.size;have hbw4:=bC (bC hbw2 (by omega) hb3) (by omega) hb4
    first
     |(have hd:Hid (iK l=acc++(before++38::iK r2)):=by first|exact hd2.out rfl|exact hd2.out trivial|exact hd2.out
       go_wp2_with(go_at_call 135;((with_reducible refine(uS _ _ _ [38] _ hI4 (by simp;omega) (by omega)).mono ?_);rintro e w5 ⟨rfl,hI5,hb5,_⟩))
       go_wp2
       go_roundw
       case rel=>exact⟨r2,acc++before++[38],rfl,hI5,hbw4.trans hb5,by have:=hb5.size;omega,by rw[hd.out];simp,by omega,by simp;omega⟩
       case measure=>rw[l5,l5];omega)
     |(have hd:Hid (iK l=acc++(before++(t++iK after))):=by first|exact hd1.out rfl rfl|exact hd1.out trivial trivial|exact hd1.out
       go_wp2_with(go_at_call 135;((with_reducible refine(uS _ _ _ t _ hI4 (by simp;omega) (by omega)).mono ?_);rintro e w5 ⟨rfl,hI5,hb5,_⟩))
       go_wp2
       go_roundw
       case rel=>exact⟨after,acc++before++t,rfl,hI5,hbw4.trans hb5,by have:=hb5.size;omega,by rw[hd.out];simp,by simp at hlen2;omega,by simp at hlen2⊢;omega⟩
       case measure=>rw[l5,l5];simp at hlen2;omega)
end Go.Proofs.YtkcmghlhpbepcaaGreatDoor
