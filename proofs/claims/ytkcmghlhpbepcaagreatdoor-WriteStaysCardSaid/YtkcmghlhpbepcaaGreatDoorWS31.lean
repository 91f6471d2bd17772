/- Lemmas and walks, part 31. -/
import Derived.Shelf.Strings.BuilderRune
import Derived.Test.YtkcmghlhpbepcaaGreatDoorWS21
set_option linter.unusedVariables false
set_option linter.unusedSimpArgs false
set_option maxHeartbeats 8000000
set_option maxRecDepth 1000000
namespace Go.Proofs.YtkcmghlhpbepcaaGreatDoor.Ch
open Go.RowKit Go.Proofs Go.Shelf
def OL:Go.Shelf.Ren:=⟨fun|242=>196|278=>219|n=>n,fun|0=>0|3=>3|4=>4|5=>5|9=>9|21=>21|37=>43|46=>140|51=>172|72=>106|n=>n,fun|n=>n⟩
theorem runeLays:Go.Proofs.Lays.n242 Tryz.prog OL:={
 mixed:=by kernel_rfl
 f242:=Tryz.func196.trans (congrArg some (by kernel_rfl))
 f278:=Tryz.func219.trans (congrArg some (by kernel_rfl))
 t4:=Tryz.underlying4
 a4:=Tryz.isAgg4
 z4:=Tryz.sizeOf4
 v4:=Tryz.zeroValue4
 t5:=Tryz.underlying5
 a5:=Tryz.isAgg5
 z5:=Tryz.sizeOf5
 v5:=Tryz.zeroValue5
 t21:=Tryz.underlying21
 a21:=Tryz.isAgg21
 z21:=Tryz.sizeOf21
 v21:=Tryz.zeroValue21
 t37:=Tryz.underlying43
 a37:=Tryz.isAgg43
 z37:=Tryz.sizeOf43
 v37:=Tryz.zeroValue43
 t46:=Tryz.underlying140
 a46:=Tryz.isAgg140
 z46:=Tryz.sizeOf140
 v46:=Tryz.zeroValue140
 t51:=Tryz.underlying172
 a51:=Tryz.isAgg172
 z51:=Tryz.sizeOf172
 v51:=Tryz.zeroValue172 }
theorem Rj:Builder.Extra Tryz.prog OL:={
 sizeBuilder:=by kernel_rfl
 liesBuilder:=by kernel_rfl
 t5:=Tryz.underlying5
 a5:=Tryz.isAgg5
 z5:=Tryz.sizeOf5
 v5:=Tryz.zeroValue5
 infoByte:=by kernel_rfl
 cellsByte:=by kernel_rfl
 sizeByte:=by kernel_rfl
 neB5:=by decide }
theorem CZ(B b:Nat)(bs:List Value)(r:Int)(hr0: -2147483648≤r)(hr1:r≤2147483647)(w:World)(h:Lib.IsBuilderF 106 5 B b bs w)(hlen:bs.length+4≤140737488355328)(hBw:B≤w.heap.size):
 Calls Tryz.prog 161 #[.pointer (some ⟨b,0,none⟩),.int .i32 r] w fun e w'=>e=.returned (.tuple #[.int .i64 (Lib.runeCells r).length,.nilIface])∧(Lib.IsBuilderF 106 5 B b (bs++Lib.runeCells r) w'∧Below B w w'∧Lib.OthersKept 5 (some b) w w'):=by
 have hk4:=Lib.runeCells_le r;go_enter Tryz.func161,Tryz.ntmps161
 go_wp2_with(go_at_call 174;refine(xJ B b bs _ h).mono ?_)
 rintro e w1 ⟨rfl,h1,hb1,hk1⟩;obtain⟨hB,v,hbk,hown,hne⟩:=h1
 obtain⟨ao,cap,rfl⟩:∃ao cap,v=.slice ao bs.length cap:=by
  rcases hown.2 with⟨hv,h0⟩|⟨g,cap,cur,fz,hv,_⟩
  ·exact⟨none,0,by rw[hv,h0]⟩
  ·exact⟨_,_,hv⟩
 have c0:w1.cell? ⟨b,0,none⟩=some (.pointer (some ⟨b,0,none⟩)):=by rw[Lib.cell_of_heap hbk];rfl
 have c1:w1.cell? ⟨b,1,none⟩=some (.slice ao bs.length cap):=by rw[Lib.cell_of_heap hbk];rfl
 go_wp2_with(go_at_call 196;refine(Any.utf8_AppendRune_own runeLays Rj B _ bs.length bs r hr0 hr1 _ hown hlen (by have:=hb1.size;omega)).mono ?_)
 rintro e w2 ⟨v',rfl,hown',o,hgrow⟩
 have hlt:b<w1.heap.size:=by
  rcases Nat.lt_or_ge b w1.heap.size with h'|h'
  ·exact h'
  ·simp[Array.getElem?_eq_none h']at hbk
 have hb2:w2.heap[b]?=some (.cells #[.pointer (some ⟨b,0,none⟩),.slice ao bs.length cap] 106 (0,0)):=by
  rw[hgrow.block b (by simp;omega) (fun e=>hne e.symm),Lib.alloc_old w1 _ b hlt];exact hbk
 have d0:w2.cell? ⟨b,0,none⟩=some (.pointer (some ⟨b,0,none⟩)):=by rw[Lib.cell_of_heap hb2];rfl
 have d1:w2.cell? ⟨b,1,none⟩=some (.slice ao bs.length cap):=by rw[Lib.cell_of_heap hb2];rfl
 have f1:w2.frozen? ⟨b,1,none⟩=false:=Lib.frozen_of_heap hb2 1
 obtain⟨g,cap',rfl⟩:∃g cap',v'=.slice (some ⟨g,0,none⟩) (bs.length+(Lib.runeCells r).length) cap':=by
  rcases hown'.2 with⟨_,h0⟩|⟨g,cap',cur,fz,hv,_⟩
  ·omega
  ·exact⟨g,cap',hv⟩
 go_wp2
 go_ret2
 refine⟨?_,Or.inr ?_,?_,((hk1.alloc _).grown hgrow (Lib.ownsRowF_kind (hown.alloc _))).setCell ⟨b,1,none⟩ rfl _⟩
 ·have e:((bs.length:Int)+((Lib.runeCells r).length:Int) - (bs.length:Int))=((Lib.runeCells r).length:Int):=by omega
  simp[e]
 ·exact Lib.BuilderAtF.put (T:=106) (e:=5) hB hb2 (bs':=bs++Lib.runeCells r) (by rw[List.length_append];exact hown') (by decide)
 ·exact((hb1.alloc (by have:=hb1.size;omega) _).grown hgrow (by have:=hb1.size;simp;omega) (fun k hk=>(hown.lt k hk).1)).setCell (p:=⟨b,1,none⟩) hB _
def ruF(r:Nat):List UInt8:=Lib.encodeRune (if r=0 then 65533 else(r:Int))
def mM(s:Bt):Nat→Nat→List UInt8
 |0,_=>[]
 |fuel+1,pos=>if pos<s.size then ruF (Utf8.decode s pos).1++mM s fuel (pos+(Utf8.decode s pos).2)else []
def deF(s:Bt):List UInt8:=mM s s.size 0
theorem width_pos(s:Bt)(pos:Nat)(h:pos<s.size):1≤(Utf8.decode s pos).2:=by
 by_cases ha:(s[pos]'h).toNat<128
 ·rw[decode_ascii s pos h ha]
  exact Nat.le_refl _
 ·exact(decode_high s pos h (by omega)).2
theorem Nn(s:Bt)(fuel pos:Nat)(h:¬pos<s.size):mM s fuel pos=[]:=by
 cases fuel with
 |zero=>rfl
 |succ f=>simp[mM,h]
theorem KQ(s:Bt)(w:World)(hs:s.size≤35184372088832):
 Calls Tryz.prog 118 #[.string s] w fun e w'=>e=.returned (.string ⟨(deF s).toArray⟩)∧Below w.heap.size w w':=by
 go_enter Tryz.func118,Tryz.ntmps118;go_wp2
 go_loopw [] (fun wr=>∃(pos fuel:Nat) (acc:List UInt8),Lib.IsBuilderF 106 5 w.heap.size w.heap.size (Lib.byteCells acc) wr∧wr.heap[w.heap.size+1]?=some (.stringIter s pos)∧Below w.heap.size w wr∧Hid (acc++mM s fuel pos=deF s)∧s.size≤pos+fuel∧acc.length≤4 * pos) (fun wr=>s.size - wr.iterPos (w.heap.size+1))
 case atStart=>
  refine⟨0,s.size,[],(Lib.IsBuilderF.of (Lib.fresh_isBuilder 106 5 w)).alloc _,?_,((Below.refl _ w).alloc (Nat.le_refl _) _).alloc (by simp) _,rfl,by omega,by simp⟩;have:=World.iter_heap (w.alloc (.cells #[.pointer none,.slice none 0 0] 106)) s 0;simpa using this
 case round=>
  obtain⟨pos,fuel,acc,hI,hit,hbw,hacc,hfu,hal⟩:=hrel;have hsz:w.heap.size+1<wr.heap.size:=(Array.getElem?_eq_some_iff.1 hit).1
  by_cases hp:pos<s.size
  ·have hnx:∀ty,(Instr.next (.pointer (some ⟨w.heap.size+1,0,none⟩)) true ty).run Tryz.prog wr=_:=fun ty=>Lib.run_next_any_at wr (w.heap.size+1) s pos ty hit hp
   have hwd:=width_pos s pos hp;have hd1:=decode_le s pos;have hI2:=hI.iterAt hit (pos+(Utf8.decode s pos).2);have hit2:=Lib.iterAt_heap wr (w.heap.size+1) s pos (pos+(Utf8.decode s pos).2) hit;have hbw2:=Lib.below_iterAt hbw (k:=w.heap.size+1) (by omega) s (pos+(Utf8.decode s pos).2);have hsz2:w.heap.size≤(wr.iterAt (w.heap.size+1) s (pos+(Utf8.decode s pos).2)).heap.size:=by rw[Lib.iterAt_size];omega
   obtain⟨f,rfl⟩:∃f,fuel=f+1:=⟨fuel - 1,by omega⟩
   have tO:=hacc.out;simp only[mM]at tO;rw[if_pos hp]at tO
   by_cases h0:(Utf8.decode s pos).1=0
   ·have g1:(((Utf8.decode s pos).1:Int)==0)=true:=by rw[h0];rfl
    go_wp2_with(go_at_call 161;refine(CZ w.heap.size w.heap.size _ 65533 (by omega) (by omega) _ hI2 (by rw[Lib.byteCells_length];omega) hsz2).mono ?_)
    rintro e W1 ⟨rfl,h1,b1,k1⟩;go_wp2
    go_roundw
    case rel=>
     have hl4:=Lib.runeCells_le (65533:Int);rw[Lib.runeCells_length]at hl4;have he:ruF (Utf8.decode s pos).1=Lib.encodeRune 65533:=by rw[h0];rfl
     refine⟨pos+(Utf8.decode s pos).2,f,acc++Lib.encodeRune 65533,?_,k1.iter hit2 (by omega),hbw2.trans b1,?_,by omega,by simp;omega⟩
     ·rw[Lib.byteCells_append,Lib.byteCells_encodeRune];exact h1
     ·rw[he]at tO
      exact Lib.hid (by rw[←tO,List.append_assoc])
    case measure=>
     simp only[World.iterPos,k1.iter hit2 (by omega),hit];omega
   ·have g1:(((Utf8.decode s pos).1:Int)==0)=false:=by rw[beq_eq_false_iff_ne];omega
    have g2:((Utf8.decode s pos).1:Int)≠0:=by omega
    go_wp2_with(go_at_call 161;refine(CZ w.heap.size w.heap.size _ _ (by omega) (by omega) _ hI2 (by rw[Lib.byteCells_length];omega) hsz2).mono ?_)
    rintro e W1 ⟨rfl,h1,b1,k1⟩;go_wp2
    go_roundw
    case rel=>
     have hl4:=Lib.runeCells_le ((Utf8.decode s pos).1:Int);rw[Lib.runeCells_length]at hl4;have he:ruF (Utf8.decode s pos).1=Lib.encodeRune ((Utf8.decode s pos).1:Int):=by unfold ruF;rw[if_neg h0]
     refine⟨pos+(Utf8.decode s pos).2,f,acc++Lib.encodeRune (Utf8.decode s pos).1,?_,k1.iter hit2 (by omega),hbw2.trans b1,?_,by omega,by simp;omega⟩
     ·rw[Lib.byteCells_append,Lib.byteCells_encodeRune];exact h1
     ·rw[he]at tO
      exact Lib.hid (by rw[←tO,List.append_assoc])
    case measure=>
     simp only[World.iterPos,k1.iter hit2 (by omega),hit];omega
  ·have hnx:∀ty,(Instr.next (.pointer (some ⟨w.heap.size+1,0,none⟩)) true ty).run Tryz.prog wr=_:=fun ty=>Lib.run_next_end_at wr (w.heap.size+1) s pos ty hit hp
   go_wp2_with(go_at_call 138;refine(Tryz.Builder_String_any_k w.heap.size w.heap.size acc _ hI (by omega)).mono ?_)
   rintro e W1 ⟨rfl,_,b1,_⟩;go_wp2;go_ret;have tO:=hacc.out;rw[Nn s fuel pos hp,List.append_nil]at tO;subst tO;exact⟨rfl,hbw.trans b1⟩
theorem Af(old new:List UInt8)(h:new.length≤old.length):∀(k:Nat) (s:List UInt8),(Lib.replaceK old new k s).length≤s.length
 |0,s=>Nat.le_refl _
 |k+1,s=>by
  by_cases hm:(Lib.index s old== -1)=true
  ·rw[Lib.replaceK,if_pos hm]
   exact Nat.le_refl _
  ·have hge:=Lib.index_ge s old
   have h0:0≤Lib.index s old:=by
    have:Lib.index s old≠ -1:=fun e=>hm (by rw[e];rfl)
    omega
   have hr:=Lib.index_room s old h0;have ih:=Af old new h k (s.drop ((Lib.index s old).toNat+old.length));rw[Lib.replaceK,if_neg hm,List.length_append,List.length_append,List.length_take];rw[List.length_drop]at ih;omega
theorem q9(s old new:List UInt8)(h:new.length≤old.length):(Lib.replaceAll s old new).length≤s.length:=by
 unfold Lib.replaceAll Lib.replace
 split
 ·exact Nat.le_refl _
 ·exact Af old new h _ s
def C8(l:List UInt8):List UInt8:=Lib.replaceAll (Lib.replaceAll l [13,10] [10]) [13] [10]
theorem KR(s old new:Bt)(h1:1≤old.size)(h2:new.size≤old.size)(hs:s.size≤4000000000)(w:World)(hS:Std w):
 Calls Tryz.prog 160 #[.string s,.string old,.string new] w fun e w'=>e=.returned (.string ⟨(Lib.replaceAll s.data.toList old.data.toList new.data.toList).toArray⟩)∧Below w.heap.size w w':=by
 obtain⟨m,hm⟩:=hS.maxLen;have hc:=Lib.countB_mul_le old h1 s.size s (Nat.le_refl _);have hm2:=Nat.mul_le_mul_left (Lib.countB s old) h2;exact Tryz.strings_ReplaceAll s old new m w (by omega) hm h1 (by omega)
theorem lines_c(s:Bt)(hs:s.size≤4000000000)(w:World)(hS:Std w):
 Calls Tryz.prog 117 #[.string s] w fun e w'=>e=.returned (.string ⟨(C8 s.data.toList).toArray⟩)∧Below w.heap.size w w':=by
 have c1:=Lib.hid (KR s ⟨#[13,10]⟩ ⟨#[10]⟩ (by decide) (by decide) hs w hS);have hl:=q9 s.data.toList [13,10] [10] (by decide);have hz:s.size=s.data.toList.length:=(Array.length_toList).symm;have c2:=Lib.hid (fun(W:World) (hW:Below w.heap.size w W)=>KR ⟨(Lib.replaceAll s.data.toList [13,10] [10]).toArray⟩ ⟨#[13]⟩ ⟨#[10]⟩ (by decide) (by decide) (by show(List.toArray _).size≤_;rw[List.size_toArray];omega) W (hS.below hW));go_enter Tryz.func117,Tryz.ntmps117
 go_wp2_with(first
  |(go_at_call 160;((with_reducible refine c1.out.mono ?_);rintro e w1 ⟨rfl,hb1⟩))
  |(go_at_call 160;((with_reducible refine(c2.out _ hb1).mono ?_);rintro e w2 ⟨rfl,hb2⟩)))
 go_ret;exact⟨rfl,hb1.trans (hb2.mono hb1.size)⟩
def kG(l:List UInt8):List UInt8:=C8 (deF ⟨l.toArray⟩)
theorem zD(s:Bt):∀(fuel pos:Nat),(mM s fuel pos).length≤4 * fuel
 |0,pos=>by simp[mM]
 |fuel+1,pos=>by
  simp only[mM]
  by_cases h:pos<s.size
  ·rw[if_pos h]
   have ih:=zD s fuel (pos+(Utf8.decode s pos).2)
   have h4:(ruF (Utf8.decode s pos).1).length≤4:=by
    unfold ruF Lib.encodeRune;rw[List.length_map];exact(Lib.encodeRuneZ_length _).2
   simp only[List.length_append];omega
  ·rw[if_neg h]
   exact Nat.zero_le _
theorem ready_c(l:List UInt8)(hl:l.length≤100000000)(w:World)(hS:Std w):
 Calls Tryz.prog 73 #[.string ⟨l.toArray⟩] w fun e w'=>e=.returned (.string ⟨(kG l).toArray⟩)∧Below w.heap.size w w':=by
 have hz:(⟨l.toArray⟩:Bt).size=l.length:=List.size_toArray;have hd:=zD ⟨l.toArray⟩ (⟨l.toArray⟩:Bt).size 0;have c1:=Lib.hid (KQ ⟨l.toArray⟩ w (by omega));have c2:=Lib.hid (fun(W:World) (hW:Below w.heap.size w W)=>lines_c ⟨(deF ⟨l.toArray⟩).toArray⟩ (by show(List.toArray _).size≤_;rw[List.size_toArray];unfold deF;omega) W (hS.below hW));go_enter Tryz.func73,Tryz.ntmps73
 go_wp2_with(first
  |(go_at_call 118;((with_reducible refine c1.out.mono ?_);rintro e w1 ⟨rfl,hb1⟩))
  |(go_at_call 117;((with_reducible refine(c2.out _ hb1).mono ?_);rintro e w2 ⟨rfl,hb2⟩)))
 go_ret;exact⟨rfl,hb1.trans (hb2.mono hb1.size)⟩
end Go.Proofs.YtkcmghlhpbepcaaGreatDoor.Ch
namespace Go.Proofs.YtkcmghlhpbepcaaGreatDoor.Ch
open Go Go.RowKit
theorem get_cons(c:UInt8)(l:List UInt8)(k:Nat):(⟨(c::l).toArray⟩:Bt).get! (k+1)=(⟨l.toArray⟩:Bt).get! k:=by
 simp[ByteArray.get!]
theorem MH(c:UInt8)(l:List UInt8)(p:Nat):Utf8.decode ⟨(c::l).toArray⟩ (p+1)=Utf8.decode ⟨l.toArray⟩ p:=by
 have h:∀k,(⟨(c::l).toArray⟩:Bt).get! (p+1+k)=(⟨l.toArray⟩:Bt).get! (p+k):=fun k=>by
  rw[show p+1+k=(p+k)+1 from by omega];exact get_cons c l _
 have hz:∀k,decide (p+1+k<(⟨(c::l).toArray⟩:Bt).size)=decide (p+k<(⟨l.toArray⟩:Bt).size):=fun k=>by
  show decide (p+1+k<(List.toArray (c::l)).size)=decide (p+k<(List.toArray l).size);simp only[List.size_toArray,List.length_cons];rw[decide_eq_decide];omega
 simp only[Utf8.decode,h,hz]
theorem MN(c:UInt8)(l old new:List UInt8)(h:old.isPrefixOf (c::l)=false)(h0:old≠[]):Lib.replaceAll (c::l) old new=c::Lib.replaceAll l old new:=by
 unfold Lib.replaceAll Lib.replace
 by_cases e:(old==new)=true
 ·rw[if_pos e,if_pos e]
 rw[if_neg e,if_neg e];have hix:Lib.index (c::l) old=if Lib.index l old== -1 then -1 else Lib.index l old+1:=by rw[Lib.index,h];simp
 by_cases hm:Lib.index l old= -1
 ·have h2:Lib.index (c::l) old= -1:=by rw[hix,if_pos (beq_iff_eq.2 hm)]
  simp[Lib.replaceNum,Lib.count_miss hm,Lib.count_miss h2,Lib.replaceK]
 ·have hge:=Lib.index_ge l old
  obtain⟨j,hj⟩:∃j:Nat,Lib.index l old=j:=⟨(Lib.index l old).toNat,by omega⟩
  have hj':Lib.index (c::l) old=((j+1:Nat):Int):=by rw[hix,if_neg (fun e=>hm (beq_iff_eq.1 e)),hj];omega
  have e1:Lib.replaceNum l old (-1)=Lib.count (l.drop (j+old.length)) old+1:=by
   unfold Lib.replaceNum;rw[if_pos (Or.inl (by decide)),Lib.count_hit h0 hj,Nat.add_comm]
  have hd:(c::l).drop (j+1+old.length)=l.drop (j+old.length):=by
   rw[show j+1+old.length=(j+old.length)+1 from by omega,List.drop_succ_cons]
  have e2:Lib.replaceNum (c::l) old (-1)=Lib.count (l.drop (j+old.length)) old+1:=by
   unfold Lib.replaceNum;rw[if_pos (Or.inl (by decide)),Lib.count_hit h0 hj',hd,Nat.add_comm]
  rw[e1,e2,Lib.replaceK_hit _ _ _ _ _ hj,Lib.replaceK_hit _ _ _ _ _ hj',hd];simp
theorem Ol(c:UInt8)(l:List UInt8)(h:c≠13):C8 (c::l)=c::C8 l:=by
 unfold C8;rw[MN c l [13,10] [10] (by simp[List.isPrefixOf,Ne.symm h]) (by simp),MN c _ [13] [10] (by simp[List.isPrefixOf,Ne.symm h]) (by simp)]
def easyB(c:UInt8):Bool:=decide (c≠0)&&decide (c≠13)&&decide (c.toNat<128)
theorem wW(l:List UInt8):(kG l).length≤4 * l.length:=by
 have hd:=zD ⟨l.toArray⟩ (⟨l.toArray⟩:Bt).size 0
 have h2:(kG l).length≤(deF ⟨l.toArray⟩).length:=by
  unfold kG C8;exact Nat.le_trans (q9 _ _ _ (by decide)) (q9 _ _ _ (by decide))
 have hz:(⟨l.toArray⟩:Bt).size=l.length:=by show(List.toArray l).size=_;simp
 unfold deF at h2;omega
end Go.Proofs.YtkcmghlhpbepcaaGreatDoor.Ch
namespace Go.Proofs.aj.W7
open Go.RowKit Go.Proofs Go.Proofs.YtkcmghlhpbepcaaGreatDoor Go.Proofs.ah.aD
theorem GJ{α:Type}{R:α→List Value→Prop}{size:Nat}(g:α→List Value):∀(ps:List α),(∀p∈ps,R p (g p)∧(g p).length=size)→bJ R size ps (ps.flatMap g)
 | [],_=>by simpa using bJ.none R size
 |p::ps,h=>by
  have ih:=GJ g ps (fun q hq=>h q (by simp[hq]));obtain⟨h1,h2⟩:=h p (by simp);refine⟨by rw[List.flatMap_cons,List.length_append,ih.1,h2,List.length_cons,Nat.succ_mul,Nat.add_comm],fun j q hq=>?_⟩;cases j with
  |zero=>
   simp at hq;subst hq;rw[Nat.zero_mul,List.drop_zero,List.flatMap_cons,List.take_append_of_le_length (by omega),List.take_of_length_le (by omega)];exact h1
  |succ j=>
   have:=ih.2 j q (by simpa using hq);rw[List.flatMap_cons,Nat.succ_mul,Nat.add_comm,←List.drop_drop,List.drop_left' h2];exact this
theorem Ru(l:List S36):(l.flatMap fun a=>[Value.string a.f0,.string a.f1])=ql (l.map kJ):=by
 induction l with
 |nil=>rfl
 |cons a l ih=>rw[List.flatMap_cons,ih];rfl
theorem Rv{w:World}{base:Nat}{ok:Nat→Prop}{v:Value}{l:List (Txt×Txt)}(h:ji w base v l)(hok:∀k,v.ownBlock=some k→ok k):k36.R 36 w base ok v (l.map pairT):=by
 refine⟨hok,ql l,?_,?_⟩
 ·rw[List.length_map];exact h
 ·have:=Ru (l.map pairT)
  rw[EF]at this;rw[←this];exact GJ _ _ (fun p _=>⟨OO _ _ _ _,rfl⟩)
theorem Rq{w:World}{base:Nat}{v:Value}{l:List Tok}(h:mW w base v l):k65.R 65 w base (fun _=>True) v (l.map l9):=by
 obtain⟨ps,h1,h2,h3⟩:=h;refine⟨fun _ _=>trivial,ps.flatMap (fun p=>xP p.1 p.2),by rw[List.length_map];exact h2,?_⟩;have hl:l.map l9=ps.map (fun p=>l9 p.1):=by rw[←h1,List.map_map];rfl
 rw[hl]
 have key:∀(ps:List (Tok×Value)),(∀p∈ps,ji w base p.2 p.1.attrs)→bJ (k65.M w base (fun k=>True∧some k≠v.ownBlock)) 5 (ps.map fun p=>l9 p.1) (ps.flatMap fun p=>xP p.1 p.2):=by
  intro ps
  induction ps with
  |nil=>intro _;exact bJ.none _ _
  |cons p ps ih=>
   intro hp;have ih:=ih (fun q hq=>hp q (by simp[hq]));have hA:=hp p (by simp)
   have hR:=Rv (ok:=fun k=>True∧some k≠v.ownBlock) hA (fun k hk=>⟨trivial,fun e=>by
    obtain⟨c1,e1⟩:=yF hA hk;obtain⟨c2,e2⟩:=yF h2 e.symm;rw[e1]at e2;injection e2 with e2
    injection e2 with _ e2
    exact absurd e2 (by decide)⟩)
   have hM:=k65_mkM w base (fun k=>True∧some k≠v.ownBlock) (l9 p.1) hR;refine⟨by rw[List.map_cons,List.flatMap_cons,List.length_append,ih.1,List.length_cons,Nat.succ_mul,Nat.add_comm];rfl,fun j q hq=>?_⟩;cases j with
   |zero=>
    simp at hq;subst hq;exact hM
   |succ j=>
    have:=ih.2 j q (by simpa using hq);rw[List.flatMap_cons,Nat.succ_mul,Nat.add_comm,←List.drop_drop];exact this
 exact key ps h3
end Go.Proofs.aj.W7
namespace Go.Proofs.YtkcmghlhpbepcaaGreatDoor
open Go.RowKit Go.Proofs
theorem Rx{L:List Txt}{l:Txt}{k:Nat}(hk:k<L.length)(h:L.getD k []=l):inB L l=true:=by
 unfold inB;rw[List.contains_iff_mem,←h];simp[List.getD,List.getElem?_eq_getElem hk]
theorem among_no{L:List Txt}{l:Txt}(h:∀k,k<L.length→L.getD k []≠l):inB L l=false:=by
 unfold inB;cases hc:L.contains l with
 |false=>rfl
 |true=>
  rw[List.contains_iff_mem]at hc;obtain⟨k,hk,e⟩:=List.getElem_of_mem hc;exact absurd (by simp[List.getD,List.getElem?_eq_getElem hk,e]) (h k hk)
theorem OV(b n:Nat)(L:List Txt)(l:Txt)(hn:n=L.length)(hN:n≤1000000)(w:World)(ht:r9 b n L w):
 Calls Tryz.prog 81 #[.string ⟨l.toArray⟩,.slice (some ⟨b,0,none⟩) n n] w fun e w'=>e=.returned (.bool (inB L l))∧w=w':=by
 go_enter Tryz.func81,Tryz.ntmps81;go_wp2
 go_loop [6,9] (fun _ v=>∃(k:Nat),v=.int .i64 k∧k≤n∧Hid (∀j,j<k→L.getD j []≠l)) (fun _ v=>n - (intOf v).toNat)
 case atStart=>exact⟨0,rfl,by omega,fun j h=>by omega⟩
 case round=>
  obtain⟨k,rfl,hk,hno⟩:=hrel
  by_cases hlt:k<n
  ·have c1:=ht k hlt
   by_cases he:L.getD k []=l
   ·have hy:=Lib.hid (Rx (by omega) he)
    rw[he]at c1;have hbe:(l==l)=true:=by simp
    clear he;go_wp2;go_ret;rw[hy.out];exact⟨rfl,rfl⟩
   ·have oh:=Lib.hid (show∀j,j<k+1→L.getD j []≠l by
     intro j hj
     by_cases e:j=k
     ·subst e;exact he
     ·exact hno.out j (by omega))
    have hbe:(L.getD k []==l)=false:=by simpa using he
    clear he;generalize L.getD k []=nm at *;go_wp2;refine⟨⟨k+1,rfl,by omega,oh⟩,by simp[intOf];omega⟩
  ·have hm:=Lib.hid (among_no (L:=L) (l:=l) fun k hk=>hno.out k (by omega))
   go_wp2;go_ret;rw[hm.out];exact⟨rfl,rfl⟩
theorem raw_c(l:Txt)(w:World):
 Calls Tryz.prog 32 #[.string ⟨l.toArray⟩] w fun e w'=>e=.returned (.bool (mJ l))∧Below w.heap.size w w':=by
 go_enter Tryz.func32,Tryz.ntmps32
 go_wp2_with(go_at_call 81;((refine(OV _ 6 EI _ (by rfl) (by decide) _ (r9.of (bM _ _ _) (by rfl) (by decide))).mono ?_);rintro e w1 ⟨rfl,rfl⟩))
 go_ret;exact⟨rfl,(Below.refl _ w).alloc (Nat.le_refl _) _⟩
theorem EJ(l:Txt)(w:World):
 Calls Tryz.prog 33 #[.string ⟨l.toArray⟩] w fun e w'=>e=.returned (.bool (mq l))∧Below w.heap.size w w':=by
 go_enter Tryz.func33,Tryz.ntmps33
 go_wp2_with(go_at_call 81;((refine(OV _ 2 IK _ (by rfl) (by decide) _ (r9.of (bM _ _ _) (by rfl) (by decide))).mono ?_);rintro e w1 ⟨rfl,rfl⟩))
 go_ret;exact⟨rfl,(Below.refl _ w).alloc (Nat.le_refl _) _⟩
def Env(w:World)(base:Nat):Prop:=∃w0,Std w0∧w0.heap.size=base∧Below base w0 w
theorem Env.std{w:World}{base:Nat}(h:Env w base):Std w:=by
 obtain⟨w0,h1,rfl,h3⟩:=h;exact h1.below h3
theorem Env.below{w w':World}{base:Nat}(h:Env w base)(hb:Below base w w'):Env w' base:=by
 obtain⟨w0,h1,h2,h3⟩:=h;exact⟨w0,h1,h2,h3.trans hb⟩
theorem Env.le{w:World}{base:Nat}(h:Env w base):base≤w.heap.size:=by
 obtain⟨w0,h1,rfl,h3⟩:=h;exact h3.size
theorem jy{w w':World}{base:Nat}(hb:Below w.heap.size w w')(h:base≤w.heap.size):Below base w w':=⟨hb.os,hb.tape,hb.output,hb.size,fun i hi=>hb.block i (by omega)⟩
theorem aN{w:World}{b:Nat}{v0 v1 v2:Value}{t:TypeId}(h:w.heap[b]?=some (.cells #[v0,v1,v2] t (0,0))):
 (w.cell? ⟨b,0,none⟩=some v0∧w.cell? ⟨b,1,none⟩=some v1∧w.cell? ⟨b,2,none⟩=some v2)∧(∀j,w.frozen? ⟨b,j,none⟩=false):=by
 refine⟨⟨?_,?_,?_⟩,fun j=>frozen_of_row w b j _ _ h⟩<;>(rw[Lib.cell_of_heap h];rfl)
theorem cutg_c(s e:Txt)(hs:s.length≤1000000000)(w:World)(hS:Std w):
 Calls Tryz.prog 188 #[.string ⟨s.toArray⟩,.string ⟨e.toArray⟩] w fun r w'=>r=.returned (.tuple #[.string ⟨(Lib.cut s e).1.toArray⟩,.string ⟨(Lib.cut s e).2.1.toArray⟩,.bool (Lib.cut s e).2.2])∧Below w.heap.size w w':=by
 obtain⟨m,hm⟩:=hS.maxLen;refine(Tryz.strings_Cut ⟨s.toArray⟩ ⟨e.toArray⟩ m w (by rw[qG];omega) hm).mono ?_;rintro e w' ⟨rfl,n,rfl⟩;refine⟨?_,below_drewN (Below.refl _ _) n⟩;rw[gT,gT]
theorem RA{s e:Txt}(h:(Lib.cut s e).2.2=false):Lib.cut s e=(s,[],false):=by
 unfold Lib.cut at *
 split
 ·rename_i h0
  rw[if_pos h0]at h;simp at h
 ·rfl
theorem Qq(base b:Nat)(s t e:Txt)(l:List Tok)(hs:s.length≤1000000000)(w:World)(hsc:Sc w base b s t l)(hE:Env w base):
 Calls Tryz.prog 214 #[.pointer (some ⟨b,0,none⟩),.string ⟨e.toArray⟩] w fun r w'=>r=.returned (.string ⟨(jB s e).1.toArray⟩)∧Sc w' base b (jB s e).2 t l∧Below base w w':=by
 have hS:=hE.std;have hle:=hE.le;have hbb:=hsc.1;have hcut:=Lib.hid (fun W hS=>cutg_c s e hs W hS);unfold jB;have hcf:=Lib.hid (fun h=>RA (s:=s) (e:=e) h);generalize Lib.cut s e=c at *;obtain⟨v1,v2,fd⟩:=c;obtain⟨_,v,hh,hT⟩:=id hsc;obtain⟨⟨c0,c1,c2⟩,c5⟩:=aN hh;cases fd with
 |true=>
  go_enter Tryz.func214,Tryz.ntmps214
  go_wp2_with(go_at_call 188;((with_reducible refine(hcut.out _ hS).mono ?_);rintro e w2 ⟨rfl,hb2⟩;have hsc2:=hsc.below hb2;obtain⟨_,v2',hh2,hT2⟩:=id hsc2;obtain⟨⟨d0,d1,d2⟩,d5⟩:=aN hh2))
  go_ret;exact⟨rfl,hsc2.rM v2,aH (jy hb2 hle) hbb _⟩
 |false=>
  have hcc:=hcf.out rfl;simp only[Prod.mk.injEq]at hcc;obtain⟨rfl,rfl,_⟩:=hcc;go_enter Tryz.func214,Tryz.ntmps214
  go_wp2_with(go_at_call 188;((with_reducible refine(hcut.out _ hS).mono ?_);rintro e w2 ⟨rfl,hb2⟩;have hsc2:=hsc.below hb2;obtain⟨_,v2',hh2,hT2⟩:=id hsc2;obtain⟨⟨d0,d1,d2⟩,d5⟩:=aN hh2))
  go_ret;exact⟨rfl,hsc2.rM [],aH (jy hb2 hle) hbb _⟩
theorem Ma(s:Txt)(hs:s.length≤1000000000)(w:World):
 Calls Tryz.prog 193 #[.string ⟨s.toArray⟩] w fun r w'=>r=.returned (.bool (jC s))∧Below w.heap.size w w':=by
 have h1:=Lib.hid (fun W=>wP (s.take 8) [33,100,111,99,116,121,112,101] (by simp;omega) (by simp) W);have h2:=Lib.hid (fun W=>Fa (s.drop 8) W);have hd:Hid (jC s=(decide (8≤s.length)&&zw (s.take 8) [33,100,111,99,116,121,112,101]&& !gu (s.drop 8))):=rfl;generalize jC s=r at *;generalize zw (s.take 8) [33,100,111,99,116,121,112,101]=q at *;generalize gu (s.drop 8)=p at *
 by_cases hl:8≤s.length
 ·have hlI:(8:Int)≤s.length:=by omega
  cases q with
  |true=>
   have hr:=hd.out;simp only[hl,decide_true,Bool.true_and]at hr;have hr:=Lib.hid hr;rename_i hr0;clear hr0;go_enter Tryz.func193,Tryz.ntmps193
   go_wp2_with(first
    |(go_at_call 153;((with_reducible refine(h1.out _).mono ?_);rintro e w1 ⟨rfl,hb⟩))
    |(go_at_call 190;((with_reducible refine(h2.out _).mono ?_);rintro e w2 ⟨rfl,rfl⟩)))
   go_ret;rw[hr.out];exact⟨rfl,hb⟩
  |false=>
   have hr:=hd.out;simp only[Bool.and_false,Bool.false_and]at hr;subst hr;go_enter Tryz.func193,Tryz.ntmps193
   go_wp2_with(first
    |(go_at_call 153;((with_reducible refine(h1.out _).mono ?_);rintro e w1 ⟨rfl,hb⟩))
    |(go_at_call 190;((with_reducible refine(h2.out _).mono ?_);rintro e w2 ⟨rfl,rfl⟩)))
   go_ret;exact⟨rfl,hb⟩
 ·have hlI:¬(8:Int)≤s.length:=by omega
  have hr:=hd.out;simp only[hl,decide_false,Bool.false_and]at hr;subst hr;go_enter Tryz.func193,Tryz.ntmps193;go_wp2;go_ret;exact⟨rfl,Below.refl _ _⟩
theorem mW.len{w:World}{base:Nat}{v:Value}{l:List Tok}(h:mW w base v l):∃a c,v=.slice a l.length c:=by
 obtain⟨ps,h1,h2,h3⟩:=h
 rcases h2.2 with⟨rfl,h0⟩|⟨g,cap,cur,rfl,_⟩
 ·exact⟨none,0,by rw[h0]⟩
 ·exact⟨_,_,rfl⟩
theorem mW.alloc{w:World}{base:Nat}{v:Value}{l:List Tok}(h:mW w base v l)(o:Obj):mW (w.alloc o) base v l:=h.below ((Below.refl _ _).alloc (Nat.le_refl _) o)
theorem rO{w:World}{ops:Array Oper}{o:Oper}{a:Act}{K:Act→World→Prop}{Q:Exit→Act→World→Prop}{E:Prop}(hgd:o.guard=none)(sl x:Operand)
 (ho:o.op=.call {callee:=.builtin .append,args:=#[sl,x],argTypes:=#[26,26] })
 (base g:Nat) (v va:Value) (l:List Tok) (t:Tok) (hs:a.eval sl=v) (hown:mW w base v l) (hx:a.eval x=.slice (some ⟨g,0,none⟩) 1 1)
 (hc0:w.cell? ⟨g,0,none⟩=some (.int .i64 t.kind)) (hc1:w.cell? ⟨g,1,none⟩=some (.string ⟨t.name.toArray⟩)) (hc2:w.cell? ⟨g,2,none⟩=some (.string ⟨t.data.toArray⟩)) (hc3:w.cell? ⟨g,3,none⟩=some va) (hc4:w.cell? ⟨g,4,none⟩=some (.bool t.self))
 (hat:ji w base va t.attrs) (hlen:l.length+1≤1000000000000) (hbase:base≤w.heap.size)
 (h:∀v' w',mW w' base v' (l++[t])→w.grownBy w' v.ownBlock→Below base w w'→(∀(b:Nat) (cur:Array Value) (e:TypeId) (fz:Nat×Nat),w.heap[b]?=some (.cells cur e fz)→e≠65→w'.heap[b]?=some (.cells cur e fz))→K (a.put o.dst v') w'):if Region.wanted o (yielded ops a.tmps)=true then Oper.wp Tryz.prog o a w K Q else E:=by
 have hw:Region.wanted o (yielded ops a.tmps)=true:=by simp[Region.wanted,hgd]
 rw[if_pos hw];obtain⟨i,z,hi,hz,h2,h3,hzs⟩:=Qr;obtain⟨ps,k1,k2,k3⟩:=hown;refine wp_append_own _ sl x 26 ho base 65 i z 5 72 Tryz.underlying26 hi hz h2 h3 hzs (by decide) v l.length _ hs k2 ⟨g,0,none⟩ 1 1 (xP t va) hx rfl ?_ ?_ (by unfold maxLen;omega) (by omega) hbase ?_
 ·intro j u hj
  rw[addr_add]
  match j,hj with
  |0,hj=>simp[xP]at hj;subst hj;exact hc0
  |1,hj=>simp[xP]at hj;subst hj;exact hc1
  |2,hj=>simp[xP]at hj;subst hj;exact hc2
  |3,hj=>simp[xP]at hj;subst hj;exact hc3
  |4,hj=>simp[xP]at hj;subst hj;exact hc4
 ·intro u hu
  simp[xP]at hu
  rcases hu with rfl|rfl|rfl|rfl|rfl
  ·rfl
  ·rfl
  ·rfl
  ·exact Qs hat
  ·rfl
 ·intro v' w' hown' hgrow _
  refine h v' w' ⟨ps++[(t,va)],by simp[k1],by simpa using hown',?_⟩ hgrow ((Below.refl base w).grown hgrow hbase (fun k hk=>oN k2 hk)) ?_
  ·intro p hp
   rw[List.mem_append]at hp
   rcases hp with hp|hp
   ·exact uD (k3 p hp) k2 hgrow (by decide)
   ·simp at hp
    subst hp;exact uD hat k2 hgrow (by decide)
  ·intro b cur e fz hb hne
   rw[hgrow.block b (Array.getElem?_eq_some_iff.1 hb).1 (fun e0=>own_ne k2 hb hne e0.symm)];exact hb
theorem qD(base b:Nat)(s t:Txt)(l:List Tok)(ht:t.length≤1000000000)(hl:l.length≤100000000000)(w:World)(hsc:Sc w base b s t l)(hE:Env w base):
 Calls Tryz.prog 159 #[.pointer (some ⟨b,0,none⟩)] w fun r w'=>r=.returned (.tuple #[])∧Sc w' base b s [] (l++eO t)∧Below base w w':=by
 have hS:=hE.std;have hle:=hE.le;have hbb:=hsc.1;obtain⟨_,v,hh,hT⟩:=id hsc;obtain⟨ad,cp,rfl⟩:=hT.len;obtain⟨⟨c0,c1,c2⟩,c5⟩:=aN hh;cases t with
 |nil=>
  go_enter Tryz.func159,Tryz.ntmps159;go_wp2;go_end0;refine⟨rfl,?_,aH (Below.refl _ _) hbb _⟩;have:=hsc.G7 [];simpa [eO]using this
 |cons c u=>
  obtain⟨q,hq⟩:∃q,c::u=q:=⟨_,rfl⟩
  have htl:eO (c::u)=[⟨0,[],[],iK (c::u),false⟩]:=by simp[eO]
  have hne:(q==[])=false:=by rw[←hq];rfl
  rw[htl];rw[hq]at hsc hh c1 ht⊢;clear htl hq;have hdec:=Lib.hid (fun W hS=>tL q ht W hS);generalize iK q=dq at *;have hSd:=hS.drew;have hscd:=hsc.below (Below.refl _ w).drew;go_enter Tryz.func159,Tryz.ntmps159;go_wp2
  go_region_law (first
   |(refine rO rfl (.tmp 11) (.tmp 18) rfl base w2.heap.size (.slice ad l.length cp) (.slice none 0 0) l ⟨0,[],[],dq,false⟩ rfl hT3 rfl k0 k1 k2 k3 k4 (ji.nil _ _) (by omega) hle3 ?_;intro v5 w5 hT5 hg5 hb5 hk5;obtain⟨ad5,cp5,rfl⟩:=hT5.len;rw[show(l++[(⟨0,[],[],dq,false⟩:Tok)]).length=l.length+1 from List.length_append]at hT5;have hh5:=hk5 _ _ _ _ hh3 (by decide);obtain⟨⟨e0,e1,e2⟩,e5⟩:=aN hh5;have hB5:=hB3.trans hb5)
   |(go_simp;go_at_call 155;((with_reducible refine(hdec.out _ hSd).mono ?_);rintro e w2 ⟨rfl,hb2⟩;have hh2:=aQ (w:=w.drew) hh hb2;have hT2:=(hT.below (Below.refl _ w).drew).below hb2;obtain⟨⟨d0,d1,d2⟩,d5⟩:=aN hh2;have hT3:=hT2.alloc (.cells #[.int .i64 0,.string ⟨#[]⟩,.string ⟨dq.toArray⟩,.slice none 0 0,.bool false] 65);have hh3:=dN hh2 (.cells #[.int .i64 0,.string ⟨#[]⟩,.string ⟨dq.toArray⟩,.slice none 0 0,.bool false] 65);obtain⟨⟨k0,k1,k2,k3,k4⟩,k5⟩:=aT (bM w2 #[.int .i64 0,.string ⟨#[]⟩,.string ⟨dq.toArray⟩,.slice none 0 0,.bool false] 65);obtain⟨⟨f0,f1,f2⟩,f5⟩:=aN hh3;have hB2:=bC ((Below.refl base w).drew) hle hb2;have hle2:base≤w2.heap.size:=Nat.le_trans hle hB2.size;have hB3:=hB2.alloc hle2 (.cells #[.int .i64 0,.string ⟨#[]⟩,.string ⟨dq.toArray⟩,.slice none 0 0,.bool false] 65);have hle3:base≤(w2.alloc (.cells #[.int .i64 0,.string ⟨#[]⟩,.string ⟨dq.toArray⟩,.slice none 0 0,.bool false] 65)).heap.size:=(by rw[World.size_alloc];omega))))
  all_goals
   have hfin:=(Sc.uE (l:=l) hbb hh5 hT5).G7 [];have hbf:=fun x y=>aH (j:=1) (aH (j:=2) hB5 hbb x) hbb y
   go_wp2;go_end0;exact⟨rfl,hfin,hbf _ _⟩
end Go.Proofs.YtkcmghlhpbepcaaGreatDoor
