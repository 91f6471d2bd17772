/- Lemmas and walks, part 5. -/
import Derived.Test.YtkcmghlhpbepcaaGreatDoorWI4
import Derived.WalkLawsBesides
import Derived.Lib.IfaceNeq
set_option linter.unusedVariables false
set_option linter.unusedSimpArgs false
set_option maxHeartbeats 8000000
set_option maxRecDepth 100000
namespace Go.Proofs.YtkcmghlhpbepcaaGreatDoor
open Go.RowKit Go.Proofs
def oF(c:Nat):Nat:=if c≤57 then c - 48 else if 97≤c then c - 87 else c - 55
def ow(base:Nat):Nat→List UInt8→Nat
 |n,[]=>n
 |n,c::l=>ow base (n * base+oF c.toNat) l
def oU(base:Nat)(l:List UInt8):Nat:=ow base 0 l
theorem Hr(base:Nat)(hb:1≤base)(l:List UInt8):∀n,n≤ow base n l:=by
 induction l with
 |nil=>intro n;exact Nat.le_refl _
 |cons c l ih=>
  intro n;refine Nat.le_trans ?_ (ih (n * base+oF c.toNat));have:n * 1≤n * base:=Nat.mul_le_mul_left n hb;omega
theorem Oa(c:Int)(h:97≤c∧c≤102):Go.bits .or .u8 c 32=c:=by
 have:c=97∨c=98∨c=99∨c=100∨c=101∨c=102:=by omega
 rcases this with rfl|rfl|rfl|rfl|rfl|rfl<;>decide
theorem Ob(c:Int)(h:65≤c∧c≤70):Go.bits .or .u8 c 32=c+32:=by
 have:c=65∨c=66∨c=67∨c=68∨c=69∨c=70:=by omega
 rcases this with rfl|rfl|rfl|rfl|rfl|rfl<;>decide
theorem FX(c:Int)(w:World):
 Calls Tryz.prog 251 #[.int .u8 c] w fun e w'=>e=.returned (.int .u8 (Go.bits .or .u8 c 32))∧w=w':=by
 go_enter Tryz.func251,Tryz.ntmps251;go_wp2;go_ret;exact⟨rfl,rfl⟩
def pU(T:TypeId)(N:Nat):Value:=if N<18446744073709551616 then .tuple #[.int .u64 N,.nilIface]else .tuple #[.int .u64 18446744073709551615,.iface T (.int .i64 1)]
theorem pU_ok{T:TypeId}{N:Nat}(h:N<18446744073709551616):pU T N=.tuple #[.int .u64 N,.nilIface]:=if_pos h
theorem Du{T:TypeId}{N:Nat}(h:18446744073709551616≤N):pU T N=.tuple #[.int .u64 18446744073709551615,.iface T (.int .i64 1)]:=if_neg (by omega)
theorem Cy(base n:Nat)(c:UInt8)(l:List UInt8):ow base n (c::l)=ow base (n * base+oF c.toNat) l:=rfl
theorem Px{base:Nat}{s:Bt}(h:jU base s.toList=true){k:Nat}(hk:k<s.size):Ht base (s.data.toList.getD k 0).toNat=true:=by
 unfold jU at h;rw[Bool.and_eq_true,List.all_eq_true,Lib.toList_data]at h;have e:s.data.toList.getD k 0=s.data.toList[k]'(by simpa using hk):=by simp[List.getD,hk]
 rw[e];exact h.1 _ (List.getElem_mem _)
theorem Gi{base:Nat}{s:Bt}(h:jU base s.toList=true):s.toList.isEmpty=false:=by
 unfold jU at h;rw[Bool.and_eq_true]at h;simpa using h.2
theorem BG(t:Bt)(hd:jU 10 t.toList=true)(hmax:t.size≤9223372036854775806)(w:World):
 Calls Tryz.prog 246 #[.string t,.int .i64 10,.int .i64 64] w fun e w'=>e=.returned (pU 187 (oU 10 t.data.toList))∧Below w.heap.size w w':=by
 have hemp:t.toList.isEmpty=false:=Gi hd;have hdig:=Lib.hid (fun k (hk:k<t.size)=>Px hd hk);clear hd;have hcv:=Lib.run_convert_string_bytes (P:=Tryz.prog) w 9 43 5 t (u:=.string) Tryz.underlying9 Tryz.underlying43 Tryz.underlying5;have hB:∀j,j<t.size→(Lib.bytesWorld w 5 t).cell? ⟨w.heap.size,j,none⟩=some (.int .u8 (t.data.toList.getD j 0).toNat):=fun j hj=>Lib.bytesWorld_cell w 5 t j hj
 have hbel:=Lib.bytesWorld_below w 5 t;obtain⟨W1,hW1⟩:∃W1,W1=Lib.bytesWorld w 5 t:=⟨_,rfl⟩
 rw[←hW1]at hcv hB hbel;clear hW1;have hLn:t.data.toList.length=t.size:=by simp
 have hLn1:t.data.toList.length≤t.size:=by omega
 have hLn2:t.size≤t.data.toList.length:=by omega
 clear hLn;generalize t.data.toList=bs at *
 have hmv:IntKind.u64.wrap (IntKind.u64.wrap 18446744073709551616 - 1)=18446744073709551615:=by
  rw[IntKind.wrap_u64,IntKind.wrap_u64]
  decide
 go_enter Tryz.func246,Tryz.ntmps246;go_wp2
 go_loop [12,13,101] (fun vu vn vi=>∃(k acc:Nat) (a:Int),vu=.bool false∧vn=.int .u64 a∧vi=.int .i64 k∧k≤t.size∧Hid (a=(acc:Int)∧acc<18446744073709551616∧oU 10 bs=ow 10 acc (bs.drop k)))
  (fun _ _ vi=>t.size - (intOf vi).toNat)
 case atStart=>exact⟨0,0,0,rfl,rfl,rfl,by omega,rfl,by omega,rfl⟩
 case round=>
  obtain⟨k,acc,a,rfl,rfl,rfl,hk,hh⟩:=hrel;obtain⟨ha,hacc,hdec⟩:=hh.out;clear hh;have a0:0≤a:=by omega
  have a1:a<18446744073709551616:=by omega
  by_cases hkn:k<t.size
  ·have hc:=hB k hkn
   have hdg:=hdig.out k hkn;have hdrop:bs.drop k=bs[k]'(by omega)::bs.drop (k+1):=List.drop_eq_getElem_cons (by omega);have hget:bs.getD k 0=bs[k]'(by omega):=by simp[List.getD,List.getElem?_eq_getElem (show k<bs.length by omega)]
   rw[hdrop,Cy]at hdec;rw[hget]at hc hdg;generalize bs[k]'(by omega)=c at hc hdec hdg;have hc256:c.toNat<256:=c.toNat_lt;generalize c.toNat=n at *;clear hB hdrop hget hdig;have hge:=Hr 10 (by omega) (bs.drop (k+1)) (acc * 10+oF n);have hdg':=of_decide_eq_true hdg;clear hdg;obtain⟨hd0,hd1⟩:(48:Int)≤n∧(n:Int)≤57:=by omega
   clear hdg';have hV:oF n=n - 48:=by unfold oF;rw[if_pos (by omega)]
   by_cases hcut:1844674407370955162≤acc
   ·have hP:=Lib.hid (show pU 187 (oU 10 bs)=.tuple #[.int .u64 18446744073709551615,.iface 187 (.int .i64 1)]from Du (by omega))
    have icut:1844674407370955162≤a:=by omega
    clear hcut hacc hdec hge ha hV;go_wp2
    all_goals first|(exfalso;omega)|skip
    go_ret2
    exact⟨by rw[hP.out];rfl,hbel⟩
   ·have icut:a<1844674407370955162:=by omega
    by_cases hov:18446744073709551616≤acc * 10+oF n
    ·have hP:=Lib.hid (show pU 187 (oU 10 bs)=.tuple #[.int .u64 18446744073709551615,.iface 187 (.int .i64 1)]from Du (by omega))
     have iov:18446744073709551616≤a * 10+((n:Int) - 48):=by omega
     have hwr:IntKind.u64.wrap (a * 10+((n:Int) - 48))=a * 10+((n:Int) - 48) - 18446744073709551616:=by
      rw[IntKind.wrap_u64];omega
     clear hcut hacc hov ha hdec hge hV;go_wp2
     go_ret2
     exact⟨by rw[hP.out];rfl,hbel⟩
    ·have HN:Hid (a * 10+((n:Int) - 48)=((acc * 10+oF n:Nat):Int)∧acc * 10+oF n<18446744073709551616∧oU 10 bs=ow 10 (acc * 10+oF n) (bs.drop (k+1))):=Lib.hid ⟨by omega,by omega,hdec⟩
     have iov:a * 10+((n:Int) - 48)<18446744073709551616:=by omega
     clear hcut hacc hov hdec ha hge hV;go_wp2
     all_goals first|(exfalso;omega)|skip
     refine⟨⟨k+1,acc * 10+oF n,a * 10+((n:Int) - 48),rfl,(by first|rfl|(congr 1;omega)),(by first|rfl|(congr 1;omega)),by omega,HN⟩,by simp[intOf];omega⟩
  ·have hkk:k=t.size:=by omega
   subst hkk;have hF:ow 10 acc (bs.drop t.size)=acc:=by rw[List.drop_eq_nil_of_le (by omega)];rfl
   rw[hF]at hdec;have hP:=Lib.hid (show pU 187 (oU 10 bs)=.tuple #[.int .u64 a,.nilIface] by rw[hdec,pU_ok hacc,ha]);clear hacc hF hdec ha hdig hB;go_wp2
   go_ret2
   exact⟨by rw[hP.out];rfl,hbel⟩
theorem BH(t:Bt)(hd:jU 16 t.toList=true)(hmax:t.size≤9223372036854775806)(w:World):
 Calls Tryz.prog 246 #[.string t,.int .i64 16,.int .i64 64] w fun e w'=>e=.returned (pU 187 (oU 16 t.data.toList))∧Below w.heap.size w w':=by
 have hemp:t.toList.isEmpty=false:=Gi hd;have hdig:=Lib.hid (fun k (hk:k<t.size)=>Px hd hk);clear hd;have hcv:=Lib.run_convert_string_bytes (P:=Tryz.prog) w 9 43 5 t (u:=.string) Tryz.underlying9 Tryz.underlying43 Tryz.underlying5;have hB:∀j,j<t.size→(Lib.bytesWorld w 5 t).cell? ⟨w.heap.size,j,none⟩=some (.int .u8 (t.data.toList.getD j 0).toNat):=fun j hj=>Lib.bytesWorld_cell w 5 t j hj
 have hbel:=Lib.bytesWorld_below w 5 t;obtain⟨W1,hW1⟩:∃W1,W1=Lib.bytesWorld w 5 t:=⟨_,rfl⟩
 rw[←hW1]at hcv hB hbel;clear hW1;have hLn:t.data.toList.length=t.size:=by simp
 have hLn1:t.data.toList.length≤t.size:=by omega
 have hLn2:t.size≤t.data.toList.length:=by omega
 clear hLn;generalize t.data.toList=bs at *
 have hmv:IntKind.u64.wrap (IntKind.u64.wrap 18446744073709551616 - 1)=18446744073709551615:=by
  rw[IntKind.wrap_u64,IntKind.wrap_u64]
  decide
 go_enter Tryz.func246,Tryz.ntmps246;go_wp2
 go_loop [12,13,101] (fun vu vn vi=>∃(k acc:Nat) (a:Int),vu=.bool false∧vn=.int .u64 a∧vi=.int .i64 k∧k≤t.size∧Hid (a=(acc:Int)∧acc<18446744073709551616∧oU 16 bs=ow 16 acc (bs.drop k)))
  (fun _ _ vi=>t.size - (intOf vi).toNat)
 case atStart=>exact⟨0,0,0,rfl,rfl,rfl,by omega,rfl,by omega,rfl⟩
 case round=>
  obtain⟨k,acc,a,rfl,rfl,rfl,hk,hh⟩:=hrel;obtain⟨ha,hacc,hdec⟩:=hh.out;clear hh;have a0:0≤a:=by omega
  have a1:a<18446744073709551616:=by omega
  by_cases hkn:k<t.size
  ·have hc:=hB k hkn
   have hdg:=hdig.out k hkn;have hdrop:bs.drop k=bs[k]'(by omega)::bs.drop (k+1):=List.drop_eq_getElem_cons (by omega);have hget:bs.getD k 0=bs[k]'(by omega):=by simp[List.getD,List.getElem?_eq_getElem (show k<bs.length by omega)]
   rw[hdrop,Cy]at hdec;rw[hget]at hc hdg;generalize bs[k]'(by omega)=c at hc hdec hdg;have hc256:c.toNat<256:=c.toNat_lt;generalize c.toNat=n at *;clear hB hdrop hget hdig;have hge:=Hr 16 (by omega) (bs.drop (k+1)) (acc * 16+oF n);have hdg':=of_decide_eq_true hdg;clear hdg;have hdg'':(48≤n∧n≤57)∨(97≤n∧n≤102)∨(65≤n∧n≤70):=by omega
   clear hdg'
   rcases hdg'' with h|h|h
   ·obtain⟨hd0,hd1⟩:(48:Int)≤n∧(n:Int)≤57:=by omega
    clear h;have hV:oF n=n - 48:=by unfold oF;rw[if_pos (by omega)]
    by_cases hcut:1152921504606846976≤acc
    ·have hP:=Lib.hid (show pU 187 (oU 16 bs)=.tuple #[.int .u64 18446744073709551615,.iface 187 (.int .i64 1)]from Du (by omega))
     have icut:1152921504606846976≤a:=by omega
     clear hcut hacc hdec hge ha hV;go_wp2
     all_goals first|(exfalso;omega)|skip
     go_ret2
     exact⟨by rw[hP.out];rfl,hbel⟩
    ·have icut:a<1152921504606846976:=by omega
     by_cases hov:18446744073709551616≤acc * 16+oF n
     ·exfalso;omega
     ·have HN:Hid (a * 16+((n:Int) - 48)=((acc * 16+oF n:Nat):Int)∧acc * 16+oF n<18446744073709551616∧oU 16 bs=ow 16 (acc * 16+oF n) (bs.drop (k+1))):=Lib.hid ⟨by omega,by omega,hdec⟩
      have iov:a * 16+((n:Int) - 48)<18446744073709551616:=by omega
      clear hcut hacc hov hdec ha hge hV;go_wp2
      all_goals first|(exfalso;omega)|skip
      refine⟨⟨k+1,acc * 16+oF n,a * 16+((n:Int) - 48),rfl,(by first|rfl|(congr 1;omega)),(by first|rfl|(congr 1;omega)),by omega,HN⟩,by simp[intOf];omega⟩
   ·obtain⟨hd0,hd1⟩:(97:Int)≤n∧(n:Int)≤102:=by omega
    clear h;have hV:oF n=n - 87:=by unfold oF;rw[if_neg (by omega),if_pos (by omega)]
    have hlow:Go.bits .or .u8 (n:Int) 32=n:=Oa n (by omega)
    by_cases hcut:1152921504606846976≤acc
    ·have hP:=Lib.hid (show pU 187 (oU 16 bs)=.tuple #[.int .u64 18446744073709551615,.iface 187 (.int .i64 1)]from Du (by omega))
     have icut:1152921504606846976≤a:=by omega
     clear hcut hacc hdec hge ha hV
     go_wp2_with(go_at_call 251;refine(FX _ _).mono ?_;rintro e w' ⟨rfl,rfl⟩;try simp only[hlow])
     all_goals first|(exfalso;omega)|skip
     go_ret2
     exact⟨by rw[hP.out];rfl,hbel⟩
    ·have icut:a<1152921504606846976:=by omega
     by_cases hov:18446744073709551616≤acc * 16+oF n
     ·exfalso;omega
     ·have HN:Hid (a * 16+((n:Int) - 87)=((acc * 16+oF n:Nat):Int)∧acc * 16+oF n<18446744073709551616∧oU 16 bs=ow 16 (acc * 16+oF n) (bs.drop (k+1))):=Lib.hid ⟨by omega,by omega,hdec⟩
      have iov:a * 16+((n:Int) - 87)<18446744073709551616:=by omega
      clear hcut hacc hov hdec ha hge hV
      go_wp2_with(go_at_call 251;refine(FX _ _).mono ?_;rintro e w' ⟨rfl,rfl⟩;try simp only[hlow])
      all_goals first|(exfalso;omega)|skip
      refine⟨⟨k+1,acc * 16+oF n,a * 16+((n:Int) - 87),rfl,(by first|rfl|(congr 1;omega)),(by first|rfl|(congr 1;omega)),by omega,HN⟩,by simp[intOf];omega⟩
   ·obtain⟨hd0,hd1⟩:(65:Int)≤n∧(n:Int)≤70:=by omega
    clear h;have hV:oF n=n - 55:=by unfold oF;rw[if_neg (by omega),if_neg (by omega)]
    have hlow:Go.bits .or .u8 (n:Int) 32=n+32:=Ob n (by omega)
    by_cases hcut:1152921504606846976≤acc
    ·have hP:=Lib.hid (show pU 187 (oU 16 bs)=.tuple #[.int .u64 18446744073709551615,.iface 187 (.int .i64 1)]from Du (by omega))
     have icut:1152921504606846976≤a:=by omega
     clear hcut hacc hdec hge ha hV
     go_wp2_with(go_at_call 251;refine(FX _ _).mono ?_;rintro e w' ⟨rfl,rfl⟩;try simp only[hlow])
     all_goals first|(exfalso;omega)|skip
     go_ret2
     exact⟨by rw[hP.out];rfl,hbel⟩
    ·have icut:a<1152921504606846976:=by omega
     by_cases hov:18446744073709551616≤acc * 16+oF n
     ·exfalso;omega
     ·have HN:Hid (a * 16+((n:Int) - 55)=((acc * 16+oF n:Nat):Int)∧acc * 16+oF n<18446744073709551616∧oU 16 bs=ow 16 (acc * 16+oF n) (bs.drop (k+1))):=Lib.hid ⟨by omega,by omega,hdec⟩
      have iov:a * 16+((n:Int) - 55)<18446744073709551616:=by omega
      clear hcut hacc hov hdec ha hge hV
      go_wp2_with(go_at_call 251;refine(FX _ _).mono ?_;rintro e w' ⟨rfl,rfl⟩;try simp only[hlow])
      all_goals first|(exfalso;omega)|skip
      refine⟨⟨k+1,acc * 16+oF n,a * 16+((n:Int) - 55),rfl,(by first|rfl|(congr 1;omega)),(by first|rfl|(congr 1;omega)),by omega,HN⟩,by simp[intOf];omega⟩
  ·have hkk:k=t.size:=by omega
   subst hkk;have hF:ow 16 acc (bs.drop t.size)=acc:=by rw[List.drop_eq_nil_of_le (by omega)];rfl
   rw[hF]at hdec;have hP:=Lib.hid (show pU 187 (oU 16 bs)=.tuple #[.int .u64 a,.nilIface] by rw[hdec,pU_ok hacc,ha]);clear hacc hF hdec ha hdig hB;go_wp2
   go_ret2
   exact⟨by rw[hP.out];rfl,hbel⟩
structure Std (w:World):Prop where
 maxLen:∃m,w.cell? ⟨2,0,none⟩=some (.int .i64 m)
 errRange:∃te pe,w.cell? ⟨4,0,none⟩=some (.iface te pe)
 tabs:Lib.Utf8Tabs 0 1 w
theorem block_lt{w:World}{a:Addr}{v:Value}(h:w.cell? a=some v):a.block<w.heap.size:=by
 rcases Nat.lt_or_ge a.block w.heap.size with h'|h'
 ·exact h'
 ·simp[World.cell?,Array.getElem?_eq_none h']at h
theorem aV{w w':World}{a:Addr}{v:Value}(h:w.cell? a=some v)(hb:Below w.heap.size w w'):w'.cell? a=some v:=(hb.cell (block_lt h)).trans h
theorem Std.below{w w':World}(h:Std w)(hb:Below w.heap.size w w'):Std w':=by
 obtain⟨⟨m,hm⟩,⟨te,pe,he⟩,h1,h2⟩:=h;exact⟨⟨m,aV hm hb⟩,⟨te,pe,aV he hb⟩,fun c hc=>aV (h1 c hc) hb,fun i hi=>⟨aV (h2 i hi).1 hb,aV (h2 i hi).2 hb⟩⟩
theorem Std.drewN{w:World}(h:Std w)(n:Nat):Std (w.drewN n):=h.below (below_drewN (Below.refl _ _) n)
theorem Std.drew{w:World}(h:Std w):Std w.drew:=h.below (Below.refl _ _).drew
theorem Std.alloc{w:World}(h:Std w)(o:Obj):Std (w.alloc o):=h.below ((Below.refl _ _).alloc (Nat.le_refl _) o)
def mJ(l:List UInt8):Int:=
 if l=[97,109,112]then 38 else if l=[108,116]then 60 else if l=[103,116]then 62 else if l=[113,117,111,116]then 34
 else if l=[97,112,111,115]then 39 else if l=[110,98,115,112]then 160 else if l=[99,111,112,121]then 169 else if l=[114,101,103]then 174
 else if l=[112,97,114,97]then 182 else if l=[109,105,100,100,111,116]then 183 else if l=[101,97,99,117,116,101]then 233
 else if l=[97,117,109,108]then 228 else if l=[111,117,109,108]then 246 else if l=[117,117,109,108]then 252 else if l=[115,122,108,105,103]then 223
 else if l=[101,117,114,111]then 8364 else if l=[104,101,108,108,105,112]then 8230 else if l=[110,100,97,115,104]then 8211
 else if l=[109,100,97,115,104]then 8212 else if l=[98,117,108,108]then 8226 else if l=[84,97,98]then 9 else if l=[78,101,119,76,105,110,101]then 10
 else if l=[99,111,108,111,110]then 58 else if l=[108,112,97,114]then 40 else 0
theorem number_c(s:ByteArray)(w:World):
 Calls Tryz.prog 228 #[.string s] w fun e w'=>e=.returned (.int .i32 (mJ s.toList))∧w=w':=by
 go_enter Tryz.func228,Tryz.ntmps228;go_wp2
 all_goals go_ret
 all_goals(refine⟨ret_i32 ?_,rfl⟩;simp_all[mJ])
def sV(l:List UInt8):List UInt8×Bool:=if mJ l=0 then([],false)else((Utf8.encode (mJ l)).data.toList,true)
theorem named_c(s:ByteArray)(w:World):
 Calls Tryz.prog 212 #[.string s] w fun e w'=>e=.returned (.tuple #[.string ⟨(sV s.toList).1.toArray⟩,.bool (sV s.toList).2])∧w=w':=by
 go_enter Tryz.func212,Tryz.ntmps212
 go_wp2_with(go_at_call 228;refine(number_c _ _).mono ?_;rintro e w' ⟨rfl,rfl⟩)
 all_goals go_ret2
 all_goals(refine⟨ret_sb ?_ ?_,rfl⟩<;>simp_all[sV])
def BI(n:Int):Int:=if n<1∨1114111<n∨(55296≤n∧n≤57343)then 65533 else if n=13 then 10 else n
def Ae(n:Int):List UInt8:=(Utf8.encode (BI n)).data.toList
theorem code_c(n:Int)(w:World)(h0: -9223372036854775808≤n)(h1:n≤9223372036854775807):
 Calls Tryz.prog 227 #[.int .i64 n] w fun e w'=>e=.returned (.string ⟨(Ae n).toArray⟩)∧w=w':=by
 go_enter Tryz.func227,Tryz.ntmps227;go_wp2
 all_goals go_ret
 all_goals(refine⟨ret_s ?_,rfl⟩)
 all_goals(simp only[Ae,BI];try simp only[beq_iff_eq,beq_eq_false_iff_ne]at *)
 all_goals first
  |(rw[if_pos (by omega)];decide)
  |(rw[if_neg (by omega),if_pos (by omega)])
  |(rw[if_neg (by omega),if_neg (by omega)])
theorem MQ{base:Nat}{s:Bt}(h:jU base s.toList=true):∃(h0:0<s.size),48≤(s[0]'h0).toNat:=by
 have hne:=Gi h
 have h0:0<s.size:=by
  rcases Nat.eq_zero_or_pos s.size with e|e
  ·rw[Lib.toList_data]at hne
   have:s.data.toList=[]:=by
    apply List.eq_nil_of_length_eq_zero;simpa using e
   rw[this]at hne;cases hne
  ·exact e
 refine⟨h0,?_⟩;have:=of_decide_eq_true (Px h h0);have e:s.data.toList.getD 0 0=s[0]'h0:=by simp[List.getD,h0,ByteArray.getElem_eq_getElem_data]
 rw[e]at this;omega
theorem Ud(base:Nat)(hb:base=10∨base=16)(s:Bt)(hd:jU base s.toList=true)(hs:s.size≤1000000000)(hn:oU base s.data.toList<9223372036854775808)(w:World):
 Calls Tryz.prog 239 #[.string s,.int .i64 base,.int .i64 64] w fun e w'=>e=.returned (.tuple #[.int .i64 (oU base s.data.toList),.nilIface])∧Below w.heap.size w w':=by
 obtain⟨h0,h48⟩:=MQ hd;have hne:=Gi hd
 have hc:Calls Tryz.prog 246 #[.string s,.int .i64 base,.int .i64 64] w fun e w'=>e=.returned (pU 187 (oU base s.data.toList))∧Below w.heap.size w w':=by
  rcases hb with rfl|rfl
  ·exact BG s hd (by omega) w
  ·exact BH s hd (by omega) w
 rw[pU_ok (by omega)]at hc;obtain⟨a,ha⟩:∃a:Int,a=(oU base s.data.toList:Nat):=⟨_,rfl⟩
 rw[←ha]at hc⊢;have hc:=Lib.hid hc;rename_i hc0;clear hc0;have hni:a<9223372036854775808:=by omega
 have hn0:0≤a:=by omega
 clear ha hn;have h48i:(48:Int)≤(s[0]'h0).toNat:=by omega
 clear hb hd h48;generalize (base:Int)=b at *;have hmv:IntKind.u64.wrap 9223372036854775808=9223372036854775808:=by rw[IntKind.wrap_u64];decide
 go_enter Tryz.func239,Tryz.ntmps239
 go_wp2_with(go_at_call 246;refine hc.out.mono ?_;rintro e w' ⟨rfl,hb1⟩)
 all_goals first|(exfalso;omega)|skip
 go_ret2
 exact⟨rfl,hb1⟩
theorem Py(base:Nat)(hb:base=10∨base=16)(s:Bt)(hd:jU base s.toList=true)(hs:s.size≤1000000000)(hn:9223372036854775808≤oU base s.data.toList)(w:World):
 Calls Tryz.prog 239 #[.string s,.int .i64 base,.int .i64 64] w fun e w'=>e=.returned (.tuple #[.int .i64 9223372036854775807,.iface 187 (.int .i64 1)])∧Below w.heap.size w w':=by
 obtain⟨h0,h48⟩:=MQ hd;have hne:=Gi hd
 have hc:Calls Tryz.prog 246 #[.string s,.int .i64 base,.int .i64 64] w fun e w'=>e=.returned (pU 187 (oU base s.data.toList))∧Below w.heap.size w w':=by
  rcases hb with rfl|rfl
  ·exact BG s hd (by omega) w
  ·exact BH s hd (by omega) w
 by_cases hlt:oU base s.data.toList<18446744073709551616
 ·rw[pU_ok hlt]at hc
  obtain⟨a,ha⟩:∃a:Int,a=(oU base s.data.toList:Nat):=⟨_,rfl⟩
  rw[←ha]at hc;have hc:=Lib.hid hc;rename_i hc0;clear hc0;have hni:9223372036854775808≤a:=by omega
  have hn0:a<18446744073709551616:=by omega
  clear ha hn hlt;have h48i:(48:Int)≤(s[0]'h0).toNat:=by omega
  clear hb hd h48;generalize (base:Int)=b at *;have hmv:IntKind.u64.wrap 9223372036854775808=9223372036854775808:=by rw[IntKind.wrap_u64];decide
  go_enter Tryz.func239,Tryz.ntmps239
  go_wp2_with(go_at_call 246;refine hc.out.mono ?_;rintro e w' ⟨rfl,hb1⟩)
  all_goals first|(exfalso;omega)|skip
  go_ret2
  exact⟨rfl,hb1⟩
 ·rw[Du (by omega)]at hc
  have hc:=Lib.hid hc;rename_i hc0;clear hc0 hn hlt;have hq1:∀W,(binOp .neq 109 (.iface 187 (.int .i64 1)) (.iface 187 (.int .i64 1))).run Tryz.prog W=.ok (.bool false) W:=fun W=>Lib.run_neq_iface_int W 1 1 Tryz.underlying109 (by kernel_rfl) Tryz.underlying187
  have h48i:(48:Int)≤(s[0]'h0).toNat:=by omega
  clear hb hd h48;generalize (base:Int)=b at *;have hmv:IntKind.u64.wrap 9223372036854775808=9223372036854775808:=by rw[IntKind.wrap_u64];decide
  go_enter Tryz.func239,Tryz.ntmps239
  go_wp2_with(go_at_call 246;refine hc.out.mono ?_;rintro e w' ⟨rfl,hb1⟩)
  all_goals first|(exfalso;omega)|skip
  go_ret2
  exact⟨rfl,hb1⟩
theorem parse_ok(base:Nat)(hb:base=10∨base=16)(s:Bt)(hd:jU base s.toList=true)(hs:s.size≤1000000000)(hn:oU base s.data.toList<9223372036854775808)(w:World):
 Calls Tryz.prog 226 #[.string s,.int .i64 base,.int .i64 64] w fun e w'=>e=.returned (.tuple #[.int .i64 (oU base s.data.toList),.nilIface])∧Below w.heap.size w w':=by
 have hc:=Lib.hid (Ud base hb s hd hs hn w);generalize oU base s.data.toList=n at *;generalize (base:Int)=b at *;generalize (n:Int)=a at *;clear hn;go_enter Tryz.func226,Tryz.ntmps226
 go_wp2_with(go_at_call 239;refine hc.out.mono ?_;rintro e w' ⟨rfl,hb1⟩)
 go_ret2
 exact⟨rfl,hb1⟩
def PBig(w:World)(e:Ending)(w':World):Prop:=∃p,e=.returned (.tuple #[.int .i64 9223372036854775807,.iface 190 (.pointer (some p))])∧Below w.heap.size w w'
theorem Ue(base:Nat)(hb:base=10∨base=16)(s:Bt)(hd:jU base s.toList=true)(hs:s.size≤1000000000)(hn:9223372036854775808≤oU base s.data.toList)(w:World)(hS:Std w):
 Calls Tryz.prog 226 #[.string s,.int .i64 base,.int .i64 64] w (PBig w):=by
 have hc:=Lib.hid (Py base hb s hd hs hn w);generalize (base:Int)=b at *;clear hn;go_enter Tryz.func226,Tryz.ntmps226
 go_wp2_with(go_at_call 239;refine hc.out.mono ?_;rintro e w1 ⟨rfl,hb1⟩)
 obtain⟨te,pe,hev⟩:=(hS.below hb1).errRange;refine(Tryz.strconv_toError_range _ s _ _ (.iface te pe) w1 (by omega) hev (.inr ⟨_,_,rfl⟩)).mono ?_;rintro e w2 ⟨q,rfl,_,_,hb2⟩;go_wp2
 go_ret2
 exact⟨_,rfl,qG hb1 hb2⟩
def kM(base:Nat)(l:List UInt8):List UInt8×Bool:=if jU base l then(Ae (oU base l),true)else([],false)
theorem Uf(n:Int)(h:1114111<n):Ae n=[239,191,189]:=by
 unfold Ae BI;rw[if_pos (by omega)]
 decide
theorem coded_c(base:Nat)(hb:base=10∨base=16)(s:Bt)(hs:s.size≤1000000000)(w:World)(hS:Std w):
 Calls Tryz.prog 211 #[.string s,.int .i64 base] w fun e w'=>e=.returned (.tuple #[.string ⟨(kM base s.toList).1.toArray⟩,.bool (kM base s.toList).2])∧Below w.heap.size w w':=by
 cases hd:jU base s.toList with
 |false=>
  have e1:kM base s.toList=([],false):=by unfold kM;rw[hd];rfl
  rw[e1];have hc:=Lib.hid (MR base hb s w (by omega));clear e1;generalize (base:Int)=b at *;go_enter Tryz.func211,Tryz.ntmps211
  go_wp2_with(go_at_call 225;refine hc.out.mono ?_;rintro e w1 ⟨rfl,hb1⟩)
  go_ret2
  exact⟨rfl,hb1⟩
 |true=>
  have e1:kM base s.toList=(Ae (oU base s.toList),true):=by unfold kM;rw[hd];rfl
  rw[e1,Lib.toList_data];have hc:=Lib.hid (MR base hb s w (by omega))
  by_cases hn:oU base s.data.toList<9223372036854775808
  ·have hp:=Lib.hid (fun W=>parse_ok base hb s hd hs hn W)
   clear e1;generalize oU base s.data.toList=n at *;obtain⟨a,ha⟩:∃a:Int,a=(n:Nat):=⟨_,rfl⟩
   rw[←ha]at hp⊢;have a0:0≤a:=by omega
   have a1:a<9223372036854775808:=by omega
   clear ha hn;generalize (base:Int)=b at *;go_enter Tryz.func211,Tryz.ntmps211
   go_wp2_with(first
    |(go_at_call 225;refine hc.out.mono ?_;rintro e w1 ⟨rfl,hb1⟩)
    |(go_at_call 226;refine(hp.out _).mono ?_;rintro e w2 ⟨rfl,hb2⟩)
    |(go_at_call 227;refine(code_c _ _ (by omega) (by omega)).mono ?_;rintro e w3 ⟨rfl,rfl⟩))
   go_ret2
   exact⟨rfl,qG hb1 hb2⟩
  ·have hp:=Lib.hid (fun W hS=>Ue base hb s hd hs (by omega) W hS)
   rw[Uf _ (by omega)];clear e1 hn;generalize (base:Int)=b at *;go_enter Tryz.func211,Tryz.ntmps211
   go_wp2_with(first
    |(go_at_call 225;refine hc.out.mono ?_;rintro e w1 ⟨rfl,hb1⟩)
    |(go_at_call 226;refine(hp.out _ (hS.below hb1)).mono ?_;rintro e w2 ⟨p,rfl,hb2⟩))
   go_ret2
   exact⟨rfl,qG hb1 hb2⟩
def gW(c:UInt8):List UInt8→List UInt8×List UInt8×Bool
 | []=>([],[],false)
 |x::l=>if x=c then([],l,true)else(x::(gW c l).1,(gW c l).2.1,(gW c l).2.2)
theorem Pz(c:UInt8)(l:List UInt8):Lib.cut l [c]=gW c l:=by
 induction l with
 |nil=>rfl
 |cons x l ih=>
  unfold Lib.cut at ih⊢;unfold gW Lib.index
  by_cases h:x=c
  ·subst h
   simp
  ·have hp:List.isPrefixOf [c] (x::l)=false:=by simp[List.isPrefixOf,Ne.symm h]
   rw[hp,if_neg h,←ih];have hge:=Lib.index_ge l [c]
   by_cases h1:Lib.index l [c]= -1
   ·simp[h1]
   ·have h2:0≤Lib.index l [c]:=by omega
    have h3:(Lib.index l [c] +1).toNat=(Lib.index l [c]).toNat+1:=by omega
    have h4:0≤Lib.index l [c] +1:=by omega
    simp[h1,h2,h3,h4]
theorem nO(c:UInt8)(l:List UInt8):(gW c l).1.length+(gW c l).2.1.length+(if(gW c l).2.2 then 1 else 0)=l.length:=by
 induction l with
 |nil=>rfl
 |cons x l ih=>
  unfold gW
  by_cases h:x=c
  ·simp[h]
  ·simp only[if_neg h,List.length_cons]
   omega
theorem MS{c:UInt8}{l:List UInt8}(h:(gW c l).2.2=true):l=(gW c l).1++c::(gW c l).2.1:=by
 induction l with
 |nil=>cases h
 |cons x l ih=>
  unfold gW at h⊢
  by_cases e:x=c
  ·simp[e]
  ·simp only[if_neg e]at h⊢
   rw[List.cons_append,←ih h]
theorem Ko{c:UInt8}{l:List UInt8}(h:(gW c l).2.2=false):(gW c l).1=l∧c∉l:=by
 induction l with
 |nil=>exact⟨rfl,by simp⟩
 |cons x l ih=>
  unfold gW at h⊢
  by_cases e:x=c
  ·simp[e]at h
  ·simp only[if_neg e]at h⊢
   exact⟨by rw[(ih h).1],by simp[(ih h).2,Ne.symm e]⟩
theorem MU(c:UInt8)(l:List UInt8):c∉(gW c l).1:=by
 induction l with
 |nil=>simp[gW]
 |cons x l ih=>
  unfold gW
  by_cases e:x=c
  ·simp[e]
  ·simp[if_neg e,ih,Ne.symm e]
def Af(l:List UInt8):Int:=if Lib.hasPrefix l [35,120] ||Lib.hasPrefix l [35,88]then 2 else if Lib.hasPrefix l [35]then 1 else 0
def je(l:List UInt8):List UInt8×Bool:=if Af l=2 then kM 16 (l.drop 2)else if Af l=1 then kM 10 l.tail else sV l
theorem enc_len(n:Int):(Utf8.encode n).data.toList.length≤4:=by
 have:=encode_size_le n
 rwa [Lib.size_eq]at this
theorem Gj(l:List UInt8):(je l).1.length≤4:=by
 unfold je kM sV Ae
 repeat' split
 all_goals first|exact enc_len _|simp
def jc:List UInt8→List UInt8
 | []=>[]
 |c::l=>if c=38 then(if(gW 59 l).2.2&&(je (gW 59 l).1).2 then(je (gW 59 l).1).1++jc (gW 59 l).2.1 else 38::jc l)else c::jc l
termination_by l=>l.length
decreasing_by
 all_goals simp only[List.length_cons]
 all_goals have:=nO 59 l
 all_goals omega
theorem q9:jc []=[]:=by rw[jc]
theorem sI(c:UInt8)(l:List UInt8):jc (c::l)=if c=38 then(if(gW 59 l).2.2&&(je (gW 59 l).1).2 then(je (gW 59 l).1).1++jc (gW 59 l).2.1 else 38::jc l)else c::jc l:=by rw[jc]
theorem Gl(a l:List UInt8)(h:(38:UInt8)∉a):jc (a++l)=a++jc l:=by
 induction a with
 |nil=>rfl
 |cons x a ih=>
  rw[List.cons_append,sI,if_neg (fun e=>h (by simp[e])),ih (fun e=>h (by simp[e])),List.cons_append]
theorem Uh{l:List UInt8}(h:(38:UInt8)∉l):jc l=l:=by
 have:=Gl l [] h;simpa [q9]using this
theorem Jt{l:List UInt8}(h:(gW 38 l).2.2=false):jc l=(gW 38 l).1:=by
 rw[(Ko h).1];exact Uh (Ko h).2
theorem MV{l:List UInt8}(h:(gW 38 l).2.2=true):jc l=(gW 38 l).1++jc (38::(gW 38 l).2.1):=by
 conv=>lhs;rw[MS h]
 exact Gl _ _ (MU 38 l)
theorem Gg{l:List UInt8}(h1:(gW 59 l).2.2=true)(h2:(je (gW 59 l).1).2=true):jc (38::l)=(je (gW 59 l).1).1++jc (gW 59 l).2.1:=by
 rw[sI,if_pos rfl,h1,h2];rfl
theorem MW{l:List UInt8}(h:((gW 59 l).2.2&&(je (gW 59 l).1).2)=false):jc (38::l)=38::jc l:=by
 rw[sI,if_pos rfl,h];rfl
end Go.Proofs.YtkcmghlhpbepcaaGreatDoor
namespace Go.Proofs.YtkcmghlhpbepcaaGreatDoor
open Go.Proofs
abbrev Txt:=List UInt8
structure Tok where
 kind:Int
 name:Txt
 attrs:List (Txt×Txt)
 data:Txt
 self:Bool
 deriving DecidableEq
def dz(c:UInt8):Bool:=c==32||c==9||c==10||c==12||c==13
def mH(c:UInt8):Bool:=(decide (97≤c.toNat)&&decide (c.toNat≤122))||(decide (65≤c.toNat)&&decide (c.toNat≤90))
def bY(c:UInt8):Bool:=dz c||c==47||c==62
def mI(c:UInt8):UInt8:=if 65≤c.toNat∧c.toNat≤90 then c+32 else c
def iZ(l:Txt):Txt:=l.map mI
def Ep:List Txt:=[[105,102,114,97,109,101],[110,111,101,109,98,101,100],[110,111,102,114,97,109,101,115],[115,99,114,105,112,116],[115,116,121,108,101],[120,109,112]]
def GD:List Txt:=[[116,101,120,116,97,114,101,97],[116,105,116,108,101]]
def inB(L:List Txt)(l:Txt):Bool:=L.contains l
def kX(l:Txt):Bool:=inB Ep l
def kV(l:Txt):Bool:=inB GD l
def gP:Txt→Bool
 | []=>false
 |c::_=>mH c
def qB(s:Txt):Nat:=1+s.tail.findIdx (fun c=>bY c||c==61)
def mg(s:Txt):Txt:=s.drop (s.findIdx (fun c=>!dz c))
def BA(s:Txt):Nat:=s.findIdx (fun c=>dz c||c==62)
def Aw(nm s:Txt):(Txt×Txt)×Txt×Bool:=
 match s with
 | []=>((nm,[]),[],false)
 |q::t=>if q=34∨q=39 then((nm,jc (gW q t).1),(gW q t).2.1,(gW q t).2.2)else((nm,jc ((q::t).take (BA (q::t)))),(q::t).drop (BA (q::t)),decide (BA (q::t)<(q::t).length))
def sS(nm s:Txt):(Txt×Txt)×Txt×Bool:=
 match mg s with
 | []=>((nm,[]),[],false)
 |c::t=>if c=61 then Aw nm (mg t)else((nm,[]),s,true)
def lU(s:Txt):(Txt×Txt)×Txt×Bool:=sS (iZ (s.take (qB s))) (s.drop (qB s))
def z8(acc:List (Txt×Txt))(a:Txt×Txt):List (Txt×Txt):=if acc.any (fun b=>b.1==a.1)then acc else acc++[a]
def rC(s:Txt):Nat:=s.findIdx (fun c=>!dz c&&c !=47)
def wU(s:Txt):Bool:=decide (0<rC s)&&(s[rC s - 1]? ==some 47)
def lS:Nat→List (Txt×Txt)→Txt→Option (List (Txt×Txt)×Bool×Txt)
 |0,_,_=>none
 |n+1,acc,s=>
  match s.drop (rC s)with
  | []=>none
  |c::s1=>
   if c=62 then some (acc,wU s,s1)
   else
    let r:=lU (c::s1)
    if r.2.2 then lS n (z8 acc r.1) r.2.1 else none
def kR(acc:List (Txt×Txt))(s:Txt):=lS (s.length+1) acc s
def fC(s:Txt):Option (Tok×Txt):=
 (kR [] (s.drop (s.findIdx bY))).map fun r=>(⟨0,iZ (s.take (s.findIdx bY)),r.1,[],r.2.1⟩,r.2.2)
def gQ(name s:Txt):Bool:=
 match s with
 |60::47::r=>decide (name.length<r.length)&&(iZ (r.take name.length)==iZ name)&&(match r.drop name.length with|c::_=>bY c| []=>false)
 |_=>false
def iL(name:Txt):Txt→Nat
 | []=>0
 |c::t=>if gQ name (c::t)then 0 else 1+iL name t
def jE(name s:Txt):List Tok:=
 if s.take (iL name s)=[]then []else [⟨0,[],[],if kV name then jc (s.take (iL name s))else s.take (iL name s),false⟩]
def jD(name s:Txt):Txt:=s.drop (iL name s)
def jS(s:Txt):Txt:=((s.dropWhile dz).reverse.dropWhile dz).reverse
def jM(s e:Txt):Txt×Txt:=((Lib.cut s e).1,(Lib.cut s e).2.1)
def mF(kind:Int)(s e:Txt):List Tok×Txt:=([⟨kind,[],[],if kind=4 then jS (jM s e).1 else(jM s e).1,false⟩],(jM s e).2)
def jk(s:Txt):List Tok×Txt:=
 if Lib.hasPrefix s [62]then([⟨3,[],[],[],false⟩],s.drop 1)
 else if Lib.hasPrefix s [45,62]then([⟨3,[],[],[],false⟩],s.drop 2)
 else mF 3 s (if 0≤Lib.index s [45,45,33,62]∧(Lib.index s [45,45,62]<0∨Lib.index s [45,45,33,62]<Lib.index s [45,45,62])then [45,45,33,62]else [45,45,62])
def jN(s:Txt):Bool:=decide (8≤s.length)&&(iZ (s.take 8)==[33,100,111,99,116,121,112,101])&& !gP (s.drop 8)
def pq(kind:Int)(s:Txt):List Tok×Txt:=
 match fC s with
 |none=>([],[])
 |some (t,r)=>
  if kind=2 then([⟨2,t.name,[],[],false⟩],r)
  else if kX t.name||kV t.name then(⟨kind,t.name,t.attrs,t.data,t.self⟩::jE t.name r,jD t.name r)
  else([⟨kind,t.name,t.attrs,t.data,t.self⟩],r)
def jd(s:Txt):Option (List Tok×Txt):=
 if gP s then some (pq 1 s)
 else if Lib.hasPrefix s [47]&&gP s.tail then some (pq 2 s.tail)
 else if Lib.hasPrefix s [47,62]then some ([],s.drop 2)
 else if Lib.hasPrefix s [33,45,45]then some (jk (s.drop 3))
 else if jN s then some (mF 4 (s.drop 8) [62])
 else if Lib.hasPrefix s [33]then some (mF 3 s.tail [62])
 else if Lib.hasPrefix s [63]then some (mF 3 s [62])
 else if decide (1<s.length)&&Lib.hasPrefix s [47]then some (mF 3 s.tail [62])
 else none
def fE(t:Txt):List Tok:=if t=[]then []else [⟨0,[],[],jc t,false⟩]
def gT(s:Txt):Nat:=s.findIdx (fun c=>c==60)
def runN:Nat→Txt→Txt→List Tok
 |0,t,_=>fE t
 |n+1,t,s=>
  match s.drop (gT s)with
  | []=>fE (t++s.take (gT s))
  |_::s1=>
   match jd s1 with
   |none=>runN n (t++s.take (gT s)++[60]) s1
   |some (ts,r)=>fE (t++s.take (gT s))++ts++runN n [] r
def nZ(t s:Txt):List Tok:=runN (s.length+1) t s
def cutL(s:Txt):List Tok:=nZ [] s
def inL(s name:Txt):List Tok:=if kX name||kV name then jE name s++nZ [] (jD name s)else nZ [] s
theorem jw{p:UInt8→Bool}(h:(List.range 256).all (fun k=>p (UInt8.ofNat k))=true)(c:UInt8):p c=true:=by
 rw[List.all_eq_true]at h;have:=h c.toNat (by simp[c.toNat_lt]);simpa using this
end Go.Proofs.YtkcmghlhpbepcaaGreatDoor
namespace Go.Proofs.YtkcmghlhpbepcaaGreatDoor
open Go.RowKit Go.Proofs
theorem bSize:(Tryz.prog.info? 106).map (·.size)=some 2:=by kernel_rfl
theorem bLies:liesAt Tryz.prog Tryz.prog.depth 106 (2 / Tryz.prog.cellsOf 106) 0 106 1=true:=by kernel_rfl
theorem bByte:(Tryz.prog.info? 5).map (fun i=>(i.zero,i.size,i.bytes))=some (some (.int .u8 0),1,1):=by kernel_rfl
theorem Gh(b:Nat)(w:World)(h0:w.cell? ⟨b,0,none⟩=some (.pointer (some ⟨b,0,none⟩))):
 Calls Tryz.prog 174 #[.pointer (some ⟨b,0,none⟩)] w fun e w'=>e=.returned (.tuple #[])∧w'=w:=by
 obtain⟨j,hj,_⟩:=Option.map_eq_some_iff.1 bSize;go_enter Tryz.func174,Tryz.ntmps174;go_wp2;rw[Lib.run_neq_ptr_same w _ Tryz.underlying104 hj];go_wp2;go_end0;exact⟨rfl,rfl⟩
theorem ES(b:Nat)(w:World)(h0:w.cell? ⟨b,0,none⟩=some (.pointer none))(hsh:w.shape? b=some (106,2))(hfz:w.frozen? ⟨b,0,none⟩=false):
 Calls Tryz.prog 174 #[.pointer (some ⟨b,0,none⟩)] w fun e w'=>e=.returned (.tuple #[])∧w'=w.setCell ⟨b,0,none⟩ (.pointer (some ⟨b,0,none⟩)):=by
 obtain⟨j,hj,hjs⟩:=Option.map_eq_some_iff.1 bSize;go_enter Tryz.func174,Tryz.ntmps174;go_wp2;rw[Lib.run_to_unsafe w ⟨b,0,none⟩ Tryz.underlying104 Tryz.underlying157 hj (by rw[hjs];decide) hsh (Nat.zero_lt_succ 1)];simp only[Result.andThen];rw[Oper.upon_value];go_wp2;rw[run_callFunc_extern Tryz.func201 (by kernel_rfl) (by kernel_rfl) (by kernel_rfl) (e:=Extern.AbiNoEscape.same) (by kernel_rfl)];rw[Lib.run_noEscape];simp only[Result.andThen];rw[Oper.upon_value];go_wp2;rw[Lib.run_from_unsafe w ⟨b,0,none⟩ Tryz.underlying157 Tryz.underlying104 hj hsh bLies];simp only[Result.andThen];rw[Oper.upon_value];go_wp2;go_end0;exact⟨rfl,rfl⟩
theorem yR(B b:Nat)(bs:List Value)(w:World)(h:Lib.IsBuilderF 106 5 B b bs w):
 Calls Tryz.prog 174 #[.pointer (some ⟨b,0,none⟩)] w fun e w'=>e=.returned (.tuple #[])∧(Lib.BuilderAtF 106 5 B b (.pointer (some ⟨b,0,none⟩)) bs w'∧Below B w w'∧Lib.OthersKept 5 (some b) w w'):=by
 rcases h with h|h
 ·refine(ES b w h.cell0 h.shape h.frozen0).mono ?_
  rintro e w' ⟨rfl,rfl⟩;exact⟨rfl,h.used _,(Below.refl B w).setCell (p:=⟨b,0,none⟩) h.1 _,(Lib.OthersKept.refl _ _ w).setCell ⟨b,0,none⟩ rfl _⟩
 ·refine(Gh b w h.cell0).mono ?_
  rintro e w' ⟨rfl,rfl⟩;exact⟨rfl,h,Below.refl B _,Lib.OthersKept.refl _ _ _⟩
theorem MN(B b:Nat)(bs:List Value)(c:Int)(w:World)(h:Lib.IsBuilderF 106 5 B b bs w)(hlen:bs.length+1≤140737488355328)(hBw:B≤w.heap.size):
 Calls Tryz.prog 202 #[.pointer (some ⟨b,0,none⟩),.int .u8 c] w fun e w'=>e=.returned .nilIface∧(Lib.IsBuilderF 106 5 B b (bs++[.int .u8 c]) w'∧Below B w w'∧Lib.OthersKept 5 (some b) w w'):=by
 obtain⟨i0,hi,hz0,hz1,hz2⟩:=info_parts bByte;go_enter Tryz.func202,Tryz.ntmps202
 go_wp2_with(go_at_call 174;refine(yR B b bs _ h).mono ?_)
 rintro e w1 ⟨rfl,h1,hb1,hk1⟩;obtain⟨hB,v,hbk,hown,hne⟩:=h1;have c0:w1.cell? ⟨b,0,none⟩=some (.pointer (some ⟨b,0,none⟩)):=by rw[Lib.cell_of_heap hbk];rfl
 have c1:w1.cell? ⟨b,1,none⟩=some v:=by rw[Lib.cell_of_heap hbk];rfl
 go_wp2_with(at_builtin;refine wpList_append_ownF _ rfl _ _ 43 rfl B 5 i0 (.int .u8 0) 1 1 Tryz.underlying43 hi hz0 hz1 hz2 rfl (by decide) _ _ _ rfl (hown.alloc _) ⟨w1.heap.size,0,none⟩ 1 1 [.int .u8 c] rfl rfl ?c1 ?c2 ?c3 ?c4 ?c5 ?_)
 case c1=>
  intro j u hj
  match j,hj with
  |0,hj=>simp at hj;subst hj;simp[Addr.add]
 case c2=>intro u hu;simp at hu;subst hu;rfl
 case c3=>unfold maxLen;omega
 case c4=>omega
 case c5=>have:=hb1.size;simp;omega
 intro v' w2 hown' hgrow _
 have hlt:b<w1.heap.size:=by
  rcases Nat.lt_or_ge b w1.heap.size with h'|h'
  ·exact h'
  ·simp[Array.getElem?_eq_none h']at hbk
 have hb2:w2.heap[b]?=some (.cells #[.pointer (some ⟨b,0,none⟩),v] 106 (0,0)):=by
  rw[hgrow.block b (by simp;omega) (fun e=>hne e.symm),Lib.alloc_old w1 _ b hlt];exact hbk
 have d0:w2.cell? ⟨b,0,none⟩=some (.pointer (some ⟨b,0,none⟩)):=by rw[Lib.cell_of_heap hb2];rfl
 have d1:w2.cell? ⟨b,1,none⟩=some v:=by rw[Lib.cell_of_heap hb2];rfl
 have f1:w2.frozen? ⟨b,1,none⟩=false:=Lib.frozen_of_heap hb2 1
 obtain⟨g,cap,rfl⟩:∃g cap,v'=.slice (some ⟨g,0,none⟩) (bs.length+1) cap:=by
  rcases hown'.2 with⟨_,h0⟩|⟨g,cap,cur,fz,hv,_⟩
  ·omega
  ·exact⟨g,cap,hv⟩
 go_wp2;go_ret;refine⟨rfl,Or.inr ?_,?_,((hk1.alloc _).grown hgrow (Lib.ownsRowF_kind (hown.alloc _))).setCell ⟨b,1,none⟩ rfl _⟩
 ·exact Lib.BuilderAtF.put (T:=106) (e:=5) hB hb2 (bs':=bs++[.int .u8 c]) (by simpa using hown') (by decide)
 ·exact((hb1.alloc (by have:=hb1.size;omega) _).grown hgrow (by have:=hb1.size;simp;omega) (fun k hk=>(hown.lt k hk).1)).setCell (p:=⟨b,1,none⟩) hB _
theorem Ji(B b:Nat)(bs:List Value)(s:Bt)(w:World)(h:Lib.IsBuilderF 106 5 B b bs w)(hlen:bs.length+s.size≤140737488355328)(hBw:B≤w.heap.size):
 Calls Tryz.prog 135 #[.pointer (some ⟨b,0,none⟩),.string s] w fun e w'=>e=.returned (.tuple #[.int .i64 s.size,.nilIface])∧(Lib.IsBuilderF 106 5 B b (bs++Lib.strCells s) w'∧Below B w w'∧Lib.OthersKept 5 (some b) w w'):=by
 obtain⟨i0,hi,hz0,hz1,hz2⟩:=info_parts bByte;go_enter Tryz.func135,Tryz.ntmps135
 go_wp2_with(go_at_call 174;refine(yR B b bs _ h).mono ?_)
 rintro e w1 ⟨rfl,h1,hb1,hk1⟩;obtain⟨hB,v,hbk,hown,hne⟩:=h1;have c0:w1.cell? ⟨b,0,none⟩=some (.pointer (some ⟨b,0,none⟩)):=by rw[Lib.cell_of_heap hbk];rfl
 have c1:w1.cell? ⟨b,1,none⟩=some v:=by rw[Lib.cell_of_heap hbk];rfl
 go_wp2_with(at_builtin;refine Lib.wpList_append_own_stringF _ rfl _ _ 43 9 rfl B 5 i0 Tryz.underlying43 Tryz.underlying9 hi hz0 hz1 hz2 _ _ _ rfl hown s rfl ?c3 ?c4 ?c5 ?_)
 case c3=>unfold maxLen;omega
 case c4=>omega
 case c5=>have:=hb1.size;omega
 intro v' w2 hown' hgrow _
 have hlt:b<w1.heap.size:=by
  rcases Nat.lt_or_ge b w1.heap.size with h'|h'
  ·exact h'
  ·simp[Array.getElem?_eq_none h']at hbk
 have hb2:w2.heap[b]?=some (.cells #[.pointer (some ⟨b,0,none⟩),v] 106 (0,0)):=by
  rw[hgrow.block b hlt (fun e=>hne e.symm)];exact hbk
 have d0:w2.cell? ⟨b,0,none⟩=some (.pointer (some ⟨b,0,none⟩)):=by rw[Lib.cell_of_heap hb2];rfl
 have d1:w2.cell? ⟨b,1,none⟩=some v:=by rw[Lib.cell_of_heap hb2];rfl
 have f1:w2.frozen? ⟨b,1,none⟩=false:=Lib.frozen_of_heap hb2 1
 obtain⟨ao,n',cap,rfl⟩:∃ao n' cap,v'=.slice ao n' cap:=by
  rcases hown'.2 with⟨hv,_⟩|⟨g,cap,cur,fz,hv,_⟩
  ·exact⟨_,_,_,hv⟩
  ·exact⟨_,_,_,hv⟩
 go_wp2
 go_ret2
 refine⟨rfl,Or.inr ?_,?_,(hk1.grown hgrow (Lib.ownsRowF_kind hown)).setCell ⟨b,1,none⟩ rfl _⟩
 ·exact Lib.BuilderAtF.put (T:=106) (e:=5) hB hb2 (bs':=bs++Lib.strCells s) (by simpa [Lib.strCells_length]using hown') (by decide)
 ·exact(hb1.grown hgrow (by have:=hb1.size;omega) (fun k hk=>(hown.lt k hk).1)).setCell (p:=⟨b,1,none⟩) hB _
theorem cut_c(l:List UInt8)(c:UInt8)(hl:l.length≤1000000000)(w:World)(hS:Std w):
 Calls Tryz.prog 188 #[.string ⟨l.toArray⟩,.string ⟨#[c]⟩] w fun e w'=>e=.returned (.tuple #[.string ⟨(gW c l).1.toArray⟩,.string ⟨(gW c l).2.1.toArray⟩,.bool (gW c l).2.2])∧Below w.heap.size w w':=by
 obtain⟨m,hm⟩:=hS.maxLen;refine(Tryz.strings_Cut ⟨l.toArray⟩ ⟨#[c]⟩ m w (by rw[Lib.size_eq];simp;omega) hm).mono ?_;rintro e w' ⟨rfl,n,rfl⟩;refine⟨?_,below_drewN (Below.refl _ _) n⟩;rw[show(⟨l.toArray⟩:Bt).data.toList=l from by simp,show(⟨#[c]⟩:Bt).data.toList=[c]from rfl,Pz]
theorem kY(l p:List UInt8)(w:World):
 Calls Tryz.prog 94 #[.string ⟨l.toArray⟩,.string ⟨p.toArray⟩] w fun e w'=>e=.returned (.bool (Lib.hasPrefix l p))∧w=w':=by
 refine(Tryz.strings_HasPrefix ⟨l.toArray⟩ ⟨p.toArray⟩ w).mono ?_;rintro e w' ⟨rfl,rfl⟩;exact⟨rfl,rfl⟩
theorem PD(l:List UInt8)(w:World):
 Calls Tryz.prog 210 #[.string ⟨l.toArray⟩] w fun e w'=>e=.returned (.int .i64 (Af l))∧Below w.heap.size w w':=by
 go_enter Tryz.func210,Tryz.ntmps210
 go_wp2_with(go_at_call 94;refine(kY _ _ _).mono ?_;rintro e w' ⟨rfl,rfl⟩)
 all_goals go_ret
 all_goals(refine⟨ret_i64 ?_,Below.refl _ _⟩;simp_all[Af])
theorem drop_le(l:List UInt8)(n:Nat):(l.drop n).length≤l.length:=by simp
theorem qV{l p:List UInt8}(h:Lib.hasPrefix l p=true):p.length≤l.length:=(List.isPrefixOf_iff_prefix.1 h).length_le
theorem QU(base:Nat)(hb:base=10∨base=16)(l:List UInt8)(hl:l.length≤1000000000)(w:World)(hS:Std w):
 Calls Tryz.prog 211 #[.string ⟨l.toArray⟩,.int .i64 base] w fun e w'=>e=.returned (.tuple #[.string ⟨(kM base l).1.toArray⟩,.bool (kM base l).2])∧Below w.heap.size w w':=by
 have h:=coded_c base hb ⟨l.toArray⟩ (by rw[Lib.size_eq];simpa using hl) w hS
 rwa [Lib.toList_data,show(⟨l.toArray⟩:Bt).data.toList=l from by simp]at h
theorem named_l(l:List UInt8)(w:World):
 Calls Tryz.prog 212 #[.string ⟨l.toArray⟩] w fun e w'=>e=.returned (.tuple #[.string ⟨(sV l).1.toArray⟩,.bool (sV l).2])∧w=w':=by
 have h:=named_c ⟨l.toArray⟩ w
 rwa [Lib.toList_data,show(⟨l.toArray⟩:Bt).data.toList=l from by simp]at h
theorem coded_10(l:List UInt8)(hl:l.length≤1000000000)(w:World)(hS:Std w):
 Calls Tryz.prog 211 #[.string ⟨l.toArray⟩,.int .i64 10] w fun e w'=>e=.returned (.tuple #[.string ⟨(kM 10 l).1.toArray⟩,.bool (kM 10 l).2])∧Below w.heap.size w w':=QU 10 (.inl rfl) l hl w hS
theorem coded_16(l:List UInt8)(hl:l.length≤1000000000)(w:World)(hS:Std w):
 Calls Tryz.prog 211 #[.string ⟨l.toArray⟩,.int .i64 16] w fun e w'=>e=.returned (.tuple #[.string ⟨(kM 16 l).1.toArray⟩,.bool (kM 16 l).2])∧Below w.heap.size w w':=QU 16 (.inr rfl) l hl w hS
theorem meant_c(l:List UInt8)(hl:l.length≤1000000000)(w:World)(hS:Std w):
 Calls Tryz.prog 189 #[.string ⟨l.toArray⟩] w fun e w'=>e=.returned (.tuple #[.string ⟨(je l).1.toArray⟩,.bool (je l).2])∧Below w.heap.size w w':=by
 by_cases h2:Af l=2
 ·have e1:=Lib.hid (show je l=kM 16 (l.drop 2) by unfold je;rw[if_pos h2])
  have hk:=Lib.hid (PD l w);rw[h2]at hk
  have hlen:2≤l.length:=by
   unfold Af at h2
   split at h2
   ·rename_i h
    rw[Bool.or_eq_true]at h
    rcases h with h|h<;>exact qV h
   ·split at h2<;>cases h2
  clear h2;have hc:=Lib.hid (fun W hS=>coded_16 (l.drop 2) (Nat.le_trans (drop_le l 2) hl) W hS);go_enter Tryz.func189,Tryz.ntmps189
  go_wp2_with(first
   |(go_at_call 210;((with_reducible refine hk.out.mono ?_);rintro e w1 ⟨rfl,hb1⟩))
   |(go_at_call 211;((with_reducible refine(hc.out _ (hS.below hb1)).mono ?_);rintro e w2 ⟨rfl,hb2⟩)))
  go_ret2
  exact⟨by rw[e1.out];rfl,qG hb1 hb2⟩
 ·by_cases h1:Af l=1
  ·have e1:=Lib.hid (show je l=kM 10 l.tail by unfold je;rw[if_neg h2,if_pos h1])
   have hk:=Lib.hid (PD l w);rw[h1]at hk
   have hlen:1≤l.length:=by
    unfold Af at h1
    split at h1
    ·cases h1
    ·split at h1
     ·rename_i h
      exact qV h
     ·cases h1
   clear h2 h1;have hc:=Lib.hid (fun W hS=>coded_10 l.tail (by have:=List.length_tail (l:=l);omega) W hS);go_enter Tryz.func189,Tryz.ntmps189
   go_wp2_with(first
    |(go_at_call 210;((with_reducible refine hk.out.mono ?_);rintro e w1 ⟨rfl,hb1⟩))
    |(go_at_call 211;((with_reducible refine(hc.out _ (hS.below hb1)).mono ?_);rintro e w2 ⟨rfl,hb2⟩)))
   go_ret2
   exact⟨by rw[e1.out];rfl,qG hb1 hb2⟩
  ·have e1:=Lib.hid (show je l=sV l by unfold je;rw[if_neg h2,if_neg h1])
   have hk:=Lib.hid (PD l w)
   have h0:Af l=0:=by
    unfold Af at h2 h1⊢
    repeat' split
    all_goals simp_all
   rw[h0]at hk;clear h2 h1 h0;go_enter Tryz.func189,Tryz.ntmps189
   go_wp2_with(first
    |(go_at_call 210;((with_reducible refine hk.out.mono ?_);rintro e w1 ⟨rfl,hb1⟩))
    |(go_at_call 212;((with_reducible refine(named_l _ _).mono ?_);rintro e w2 ⟨rfl,rfl⟩)))
   go_ret2
   exact⟨by rw[e1.out];rfl,hb1⟩
theorem Ug(l:List UInt8):Lib.strCells ⟨l.toArray⟩=Lib.byteCells l:=by
 unfold Lib.strCells Lib.byteCells;simp
theorem wL(B b:Nat)(acc l:List UInt8)(w:World)(h:Lib.IsBuilderF 106 5 B b (Lib.byteCells acc) w)(hlen:acc.length+l.length≤140737488355328)(hBw:B≤w.heap.size):
 Calls Tryz.prog 135 #[.pointer (some ⟨b,0,none⟩),.string ⟨l.toArray⟩] w fun e w'=>e=.returned (.tuple #[.int .i64 l.length,.nilIface])∧(Lib.IsBuilderF 106 5 B b (Lib.byteCells (acc++l)) w'∧Below B w w'∧Lib.OthersKept 5 (some b) w w'):=by
 refine(Ji B b _ ⟨l.toArray⟩ w h (by rw[Lib.byteCells_length,rU];exact hlen) hBw).mono ?_;rintro e w' ⟨rfl,h1,h2,h3⟩;rw[rU];rw[Ug,←Lib.byteCells_append]at h1;exact⟨rfl,h1,h2,h3⟩
theorem nQ{w w1:World}(h:Below w.heap.size w w1)(row:Option Nat):w.grownBy w1 row:=⟨h.os,h.tape,h.output,h.size,fun i hi _=>h.block i hi⟩
theorem vP{T e:TypeId}{B b:Nat}{bs:List Value}{w w1:World}(h:Lib.IsBuilderF T e B b bs w)(hb:Below w.heap.size w w1):Lib.IsBuilderF T e B b bs w1:=by
 have key:∀p,Lib.BuilderAtF T e B b p bs w→Lib.BuilderAtF T e B b p bs w1:=by
  intro p hp;have hlt:=hp.lt;obtain⟨hB,v,hv,hown,hne⟩:=hp;exact⟨hB,v,(hb.block b hlt).trans hv,hown.kept (nQ hb none) (by cases hv:v.ownBlock<;>simp),hne⟩
 exact h.elim (fun x=>.inl (key _ x)) (fun x=>.inr (key _ x))
def Gm:Value→Nat| .string s=>s.size|_=>0
theorem mZ(l:List UInt8):Gm (.string ⟨l.toArray⟩)=l.length:=rU l
theorem E8(B:Nat)(w:World)(h:B≤w.heap.size):Lib.IsBuilderF 106 5 B w.heap.size (Lib.byteCells []) (w.alloc (.cells #[.pointer none,.slice none 0 0] 106)):=by
 refine .inl ⟨h,.slice none 0 0,?_,World.ownsRowF_nil _ _ _ _,by simp[Value.ownBlock]⟩;show(w.heap.push _)[w.heap.size]?=_;simp
def DecRel(l:List UInt8)(w:World)(v:Value)(wr:World):Prop:=
 ∃(rest acc:List UInt8),v=.string ⟨rest.toArray⟩∧Lib.IsBuilderF 106 5 w.heap.size w.heap.size (Lib.byteCells acc) wr∧Below w.heap.size w wr∧w.heap.size<wr.heap.size∧jc l=acc++jc rest∧rest.length≤l.length∧acc.length+5 * rest.length≤5 * l.length
theorem vM(l:List UInt8)(hl:l.length≤1000000000)(w:World)(hS:Std w):
 Calls Tryz.prog 155 #[.string ⟨l.toArray⟩] w fun e w'=>e=.returned (.string ⟨(jc l).toArray⟩)∧Below w.heap.size w w':=by
 go_enter Tryz.func155,Tryz.ntmps155;go_wp2
 go_loopw [0] (fun v wr=>DecRel l w v wr) (fun v wr=>Gm v)
 case atStart=>
  exact⟨l,[],rfl,E8 _ _ (Nat.le_refl _),(Below.refl _ w).alloc (Nat.le_refl _) _,by simp,rfl,Nat.le_refl _,by simp⟩
 case round=>
  obtain⟨rest,acc,rfl,hI,hbw,hsz,hdec,hr1,hr2⟩:=hrel;have hSr:=hS.below hbw;have hcl:=nO 38 rest;have hcut:=Lib.hid (cut_c rest 38 (by omega) wr hSr);cases hf:(gW 38 rest).2.2 with
  |false=>
   rw[hf]at hcut;have hd:=Lib.hid (hdec.trans (by rw[Jt hf]));clear hdec hf;have hcl1:(gW 38 rest).1.length≤rest.length:=by omega
   clear hcl;generalize (gW 38 rest).1=before at *;generalize (gW 38 rest).2.1=after at *
   go_wp2_with(go_at_call 188;((with_reducible refine hcut.out.mono ?_);rintro e w1 ⟨rfl,hb1⟩))
   have hI1:=vP hI hb1;have hz1:=hb1.size
   go_wp2_with(go_at_call 135;((with_reducible refine(wL _ _ acc before _ hI1 (by omega) (by omega)).mono ?_);rintro e w2 ⟨rfl,hI2,hb2,_⟩))
   have hz2:=hb2.size
   go_wp2_with(go_at_call 138;((with_reducible refine(Tryz.Builder_String_any_k _ _ _ _ hI2 (by omega)).mono ?_);rintro e w3 ⟨rfl,_,hb3,_⟩))
   go_wp2;go_ret;rw[hd.out];exact⟨rfl,((bB hbw (by omega) hb1).trans hb2).trans hb3⟩
  |true=>
   rw[hf]at hcut;have hd:=hdec.trans (by rw[MV hf]);clear hdec;rw[if_pos hf]at hcl;clear hf;generalize (gW 38 rest).1=before at *;generalize (gW 38 rest).2.1=r2 at *;have hml:=Gj (gW 59 r2).1;have hcut2:=Lib.hid (fun W hS=>cut_c r2 59 (by omega) W hS);have hm:=Lib.hid (fun W hS=>meant_c (gW 59 r2).1 (by have:=nO 59 r2;omega) W hS);have hlen2:=nO 59 r2;have hd1:=Lib.hid (fun h1 h2=>hd.trans (by rw[Gg h1 h2]));have hd2:=Lib.hid (fun h=>hd.trans (by rw[MW h]));clear hd;generalize (gW 59 r2).2.2=ends at *;generalize (gW 59 r2).1=name at *;generalize (gW 59 r2).2.1=after at *;generalize (je name).2=is at *;generalize (je name).1=t at *;cases ends<;>cases is
   all_goals
    go_wp2_with(go_at_call 188;((with_reducible refine hcut.out.mono ?_);rintro e w1 ⟨rfl,hb1⟩))
    have hI1:=vP hI hb1;have hz1:=hb1.size
    go_wp2_with(go_at_call 135;((with_reducible refine(wL _ _ acc before _ hI1 (by omega) (by omega)).mono ?_);rintro e w2 ⟨rfl,hI2,hb2,_⟩))
    have hz2:=hb2.size;have hbw2:=(bB hbw (by omega) hb1).trans hb2;have hS2:=hS.below hbw2
    go_wp2_with(go_at_call 188;((with_reducible refine(hcut2.out _ hS2).mono ?_);rintro e w3 ⟨rfl,hb3⟩))
    have hS3:=hS2.below hb3;have hI3:=vP hI2 hb3;have hz3:=hb3.size
    go_wp2_with(go_at_call 189;((with_reducible refine(hm.out _ hS3).mono ?_);rintro e w4 ⟨rfl,hb4⟩))
    have hI4:=vP hI3 hb4;have hz4:=hb4.size;have hbw4:=bB (bB hbw2 (by omega) hb3) (by omega) hb4
    first
     |(have hd:Hid (jc l=acc++(before++38::jc r2)):=by first|exact hd2.out rfl|exact hd2.out trivial|exact hd2.out
       go_wp2_with(go_at_call 135;((with_reducible refine(wL _ _ _ [38] _ hI4 (by simp;omega) (by omega)).mono ?_);rintro e w5 ⟨rfl,hI5,hb5,_⟩))
       go_wp2
       go_roundw
       case rel=>exact⟨r2,acc++before++[38],rfl,hI5,hbw4.trans hb5,by have:=hb5.size;omega,by rw[hd.out];simp,by omega,by simp;omega⟩
       case measure=>rw[mZ,mZ];omega)
     |(have hd:Hid (jc l=acc++(before++(t++jc after))):=by first|exact hd1.out rfl rfl|exact hd1.out trivial trivial|exact hd1.out
       go_wp2_with(go_at_call 135;((with_reducible refine(wL _ _ _ t _ hI4 (by simp;omega) (by omega)).mono ?_);rintro e w5 ⟨rfl,hI5,hb5,_⟩))
       go_wp2
       go_roundw
       case rel=>exact⟨after,acc++before++t,rfl,hI5,hbw4.trans hb5,by have:=hb5.size;omega,by rw[hd.out];simp,by simp at hlen2;omega,by simp at hlen2⊢;omega⟩
       case measure=>rw[mZ,mZ];simp at hlen2;omega)
end Go.Proofs.YtkcmghlhpbepcaaGreatDoor
