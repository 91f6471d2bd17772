/- Lemmas and walks, part 5. -/
import Derived.Test.YtkcmghlhpbepcaaGreatDoorNB4
import Derived.WalkLawsBesides
import Derived.Lib.IfaceNeq
set_option linter.unusedVariables false
set_option linter.unusedSimpArgs false
set_option maxHeartbeats 8000000
set_option maxRecDepth 100000
namespace Go.Proofs.YtkcmghlhpbepcaaGreatDoor
open Go.RowKit Go.Proofs
def nD(c:Nat):Nat:=if c≤57 then c - 48 else if 97≤c then c - 87 else c - 55
def mY(base:Nat):Nat→List UInt8→Nat
 |n,[]=>n
 |n,c::l=>mY base (n * base+nD c.toNat) l
def nP(base:Nat)(l:List UInt8):Nat:=mY base 0 l
theorem Eu(base:Nat)(hb:1≤base)(l:List UInt8):∀n,n≤mY base n l:=by
 induction l with
 |nil=>intro n;exact Nat.le_refl _
 |cons c l ih=>
  intro n;refine Nat.le_trans ?_ (ih (n * base+nD c.toNat));have:n * 1≤n * base:=Nat.mul_le_mul_left n hb;omega
theorem KM(c:Int)(h:97≤c∧c≤102):Go.bits .or .u8 c 32=c:=by
 have:c=97∨c=98∨c=99∨c=100∨c=101∨c=102:=by omega
 rcases this with rfl|rfl|rfl|rfl|rfl|rfl<;>decide
theorem KN(c:Int)(h:65≤c∧c≤70):Go.bits .or .u8 c 32=c+32:=by
 have:c=65∨c=66∨c=67∨c=68∨c=69∨c=70:=by omega
 rcases this with rfl|rfl|rfl|rfl|rfl|rfl<;>decide
theorem Dm(c:Int)(w:World):
 Calls Tryz.prog 251 #[.int .u8 c] w fun e w'=>e=.returned (.int .u8 (Go.bits .or .u8 c 32))∧w=w':=by
 go_enter Tryz.func251,Tryz.ntmps251;go_wp2;go_ret;exact⟨rfl,rfl⟩
def pU(T:TypeId)(N:Nat):Value:=if N<18446744073709551616 then .tuple #[.int .u64 N,.nilIface]else .tuple #[.int .u64 18446744073709551615,.iface T (.int .i64 1)]
theorem pU_ok{T:TypeId}{N:Nat}(h:N<18446744073709551616):pU T N=.tuple #[.int .u64 N,.nilIface]:=if_pos h
theorem Bl{T:TypeId}{N:Nat}(h:18446744073709551616≤N):pU T N=.tuple #[.int .u64 18446744073709551615,.iface T (.int .i64 1)]:=if_neg (by omega)
theorem Aw(base n:Nat)(c:UInt8)(l:List UInt8):mY base n (c::l)=mY base (n * base+nD c.toNat) l:=rfl
theorem LM{base:Nat}{s:ByteArray}(h:j4 base s.toList=true){k:Nat}(hk:k<s.size):Ew base (s.data.toList.getD k 0).toNat=true:=by
 unfold j4 at h;rw[Bool.and_eq_true,List.all_eq_true,Lib.toList_data]at h;have e:s.data.toList.getD k 0=s.data.toList[k]'(by simpa using hk):=by simp[List.getD,hk]
 rw[e];exact h.1 _ (List.getElem_mem _)
theorem DC{base:Nat}{s:ByteArray}(h:j4 base s.toList=true):s.toList.isEmpty=false:=by
 unfold j4 at h;rw[Bool.and_eq_true]at h;simpa using h.2
theorem zO(t:ByteArray)(hd:j4 10 t.toList=true)(hmax:t.size≤9223372036854775806)(w:World):
 Calls Tryz.prog 246 #[.string t,.int .i64 10,.int .i64 64] w fun e w'=>e=.returned (pU 187 (nP 10 t.data.toList))∧Below w.heap.size w w':=by
 have hemp:t.toList.isEmpty=false:=DC hd;have hdig:=Lib.hid (fun k (hk:k<t.size)=>LM hd hk);clear hd;have hcv:=Lib.run_convert_string_bytes (P:=Tryz.prog) w 9 43 5 t (u:=.string) Tryz.underlying9 Tryz.underlying43 Tryz.underlying5;have hB:∀j,j<t.size→(Lib.bytesWorld w 5 t).cell? ⟨w.heap.size,j,none⟩=some (.int .u8 (t.data.toList.getD j 0).toNat):=fun j hj=>Lib.bytesWorld_cell w 5 t j hj
 have hbel:=Lib.bytesWorld_below w 5 t;obtain⟨W1,hW1⟩:∃W1,W1=Lib.bytesWorld w 5 t:=⟨_,rfl⟩
 rw[←hW1]at hcv hB hbel;clear hW1;have hLn:t.data.toList.length=t.size:=by simp
 have hLn1:t.data.toList.length≤t.size:=by omega
 have hLn2:t.size≤t.data.toList.length:=by omega
 clear hLn;generalize t.data.toList=bs at *
 have hmv:IntKind.u64.wrap (IntKind.u64.wrap 18446744073709551616 - 1)=18446744073709551615:=by
  rw[IntKind.wrap_u64,IntKind.wrap_u64]
  decide
 go_enter Tryz.func246,Tryz.ntmps246;go_wp2
 go_loop [12,13,101] (fun vu vn vi=>∃(k acc:Nat) (a:Int),vu=.bool false∧vn=.int .u64 a∧vi=.int .i64 k∧k≤t.size∧Hid (a=(acc:Int)∧acc<18446744073709551616∧nP 10 bs=mY 10 acc (bs.drop k)))
  (fun _ _ vi=>t.size - (intOf vi).toNat)
 case atStart=>exact⟨0,0,0,rfl,rfl,rfl,by omega,rfl,by omega,rfl⟩
 case round=>
  obtain⟨k,acc,a,rfl,rfl,rfl,hk,hh⟩:=hrel;obtain⟨ha,hacc,hdec⟩:=hh.out;clear hh;have a0:0≤a:=by omega
  have a1:a<18446744073709551616:=by omega
  by_cases hkn:k<t.size
  ·have hc:=hB k hkn
   have hdg:=hdig.out k hkn;have hdrop:bs.drop k=bs[k]'(by omega)::bs.drop (k+1):=List.drop_eq_getElem_cons (by omega);have hget:bs.getD k 0=bs[k]'(by omega):=by simp[List.getD,List.getElem?_eq_getElem (show k<bs.length by omega)]
   rw[hdrop,Aw]at hdec;rw[hget]at hc hdg;generalize bs[k]'(by omega)=c at hc hdec hdg;have hc256:c.toNat<256:=c.toNat_lt;generalize c.toNat=n at *;clear hB hdrop hget hdig;have hge:=Eu 10 (by omega) (bs.drop (k+1)) (acc * 10+nD n);have hdg':=of_decide_eq_true hdg;clear hdg;obtain⟨hd0,hd1⟩:(48:Int)≤n∧(n:Int)≤57:=by omega
   clear hdg';have hV:nD n=n - 48:=by unfold nD;rw[if_pos (by omega)]
   by_cases hcut:1844674407370955162≤acc
   ·have hP:=Lib.hid (show pU 187 (nP 10 bs)=.tuple #[.int .u64 18446744073709551615,.iface 187 (.int .i64 1)]from Bl (by omega))
    have icut:1844674407370955162≤a:=by omega
    clear hcut hacc hdec hge ha hV;go_wp2
    all_goals first|(exfalso;omega)|skip
    go_ret2
    exact⟨by rw[hP.out];rfl,hbel⟩
   ·have icut:a<1844674407370955162:=by omega
    by_cases hov:18446744073709551616≤acc * 10+nD n
    ·have hP:=Lib.hid (show pU 187 (nP 10 bs)=.tuple #[.int .u64 18446744073709551615,.iface 187 (.int .i64 1)]from Bl (by omega))
     have iov:18446744073709551616≤a * 10+((n:Int) - 48):=by omega
     have hwr:IntKind.u64.wrap (a * 10+((n:Int) - 48))=a * 10+((n:Int) - 48) - 18446744073709551616:=by
      rw[IntKind.wrap_u64];omega
     clear hcut hacc hov ha hdec hge hV;go_wp2
     go_ret2
     exact⟨by rw[hP.out];rfl,hbel⟩
    ·have HN:Hid (a * 10+((n:Int) - 48)=((acc * 10+nD n:Nat):Int)∧acc * 10+nD n<18446744073709551616∧nP 10 bs=mY 10 (acc * 10+nD n) (bs.drop (k+1))):=Lib.hid ⟨by omega,by omega,hdec⟩
     have iov:a * 10+((n:Int) - 48)<18446744073709551616:=by omega
     clear hcut hacc hov hdec ha hge hV;go_wp2
     all_goals first|(exfalso;omega)|skip
     refine⟨⟨k+1,acc * 10+nD n,a * 10+((n:Int) - 48),rfl,(by first|rfl|(congr 1;omega)),(by first|rfl|(congr 1;omega)),by omega,HN⟩,by simp[intOf];omega⟩
  ·have hkk:k=t.size:=by omega
   subst hkk;have hF:mY 10 acc (bs.drop t.size)=acc:=by rw[List.drop_eq_nil_of_le (by omega)];rfl
   rw[hF]at hdec;have hP:=Lib.hid (show pU 187 (nP 10 bs)=.tuple #[.int .u64 a,.nilIface] by rw[hdec,pU_ok hacc,ha]);clear hacc hF hdec ha hdig hB;go_wp2
   go_ret2
   exact⟨by rw[hP.out];rfl,hbel⟩
theorem zP(t:ByteArray)(hd:j4 16 t.toList=true)(hmax:t.size≤9223372036854775806)(w:World):
 Calls Tryz.prog 246 #[.string t,.int .i64 16,.int .i64 64] w fun e w'=>e=.returned (pU 187 (nP 16 t.data.toList))∧Below w.heap.size w w':=by
 have hemp:t.toList.isEmpty=false:=DC hd;have hdig:=Lib.hid (fun k (hk:k<t.size)=>LM hd hk);clear hd;have hcv:=Lib.run_convert_string_bytes (P:=Tryz.prog) w 9 43 5 t (u:=.string) Tryz.underlying9 Tryz.underlying43 Tryz.underlying5;have hB:∀j,j<t.size→(Lib.bytesWorld w 5 t).cell? ⟨w.heap.size,j,none⟩=some (.int .u8 (t.data.toList.getD j 0).toNat):=fun j hj=>Lib.bytesWorld_cell w 5 t j hj
 have hbel:=Lib.bytesWorld_below w 5 t;obtain⟨W1,hW1⟩:∃W1,W1=Lib.bytesWorld w 5 t:=⟨_,rfl⟩
 rw[←hW1]at hcv hB hbel;clear hW1;have hLn:t.data.toList.length=t.size:=by simp
 have hLn1:t.data.toList.length≤t.size:=by omega
 have hLn2:t.size≤t.data.toList.length:=by omega
 clear hLn;generalize t.data.toList=bs at *
 have hmv:IntKind.u64.wrap (IntKind.u64.wrap 18446744073709551616 - 1)=18446744073709551615:=by
  rw[IntKind.wrap_u64,IntKind.wrap_u64]
  decide
 go_enter Tryz.func246,Tryz.ntmps246;go_wp2
 go_loop [12,13,101] (fun vu vn vi=>∃(k acc:Nat) (a:Int),vu=.bool false∧vn=.int .u64 a∧vi=.int .i64 k∧k≤t.size∧Hid (a=(acc:Int)∧acc<18446744073709551616∧nP 16 bs=mY 16 acc (bs.drop k)))
  (fun _ _ vi=>t.size - (intOf vi).toNat)
 case atStart=>exact⟨0,0,0,rfl,rfl,rfl,by omega,rfl,by omega,rfl⟩
 case round=>
  obtain⟨k,acc,a,rfl,rfl,rfl,hk,hh⟩:=hrel;obtain⟨ha,hacc,hdec⟩:=hh.out;clear hh;have a0:0≤a:=by omega
  have a1:a<18446744073709551616:=by omega
  by_cases hkn:k<t.size
  ·have hc:=hB k hkn
   have hdg:=hdig.out k hkn;have hdrop:bs.drop k=bs[k]'(by omega)::bs.drop (k+1):=List.drop_eq_getElem_cons (by omega);have hget:bs.getD k 0=bs[k]'(by omega):=by simp[List.getD,List.getElem?_eq_getElem (show k<bs.length by omega)]
   rw[hdrop,Aw]at hdec;rw[hget]at hc hdg;generalize bs[k]'(by omega)=c at hc hdec hdg;have hc256:c.toNat<256:=c.toNat_lt;generalize c.toNat=n at *;clear hB hdrop hget hdig;have hge:=Eu 16 (by omega) (bs.drop (k+1)) (acc * 16+nD n);have hdg':=of_decide_eq_true hdg;clear hdg;have hdg'':(48≤n∧n≤57)∨(97≤n∧n≤102)∨(65≤n∧n≤70):=by omega
   clear hdg'
   rcases hdg'' with h|h|h
   ·obtain⟨hd0,hd1⟩:(48:Int)≤n∧(n:Int)≤57:=by omega
    clear h;have hV:nD n=n - 48:=by unfold nD;rw[if_pos (by omega)]
    by_cases hcut:1152921504606846976≤acc
    ·have hP:=Lib.hid (show pU 187 (nP 16 bs)=.tuple #[.int .u64 18446744073709551615,.iface 187 (.int .i64 1)]from Bl (by omega))
     have icut:1152921504606846976≤a:=by omega
     clear hcut hacc hdec hge ha hV;go_wp2
     all_goals first|(exfalso;omega)|skip
     go_ret2
     exact⟨by rw[hP.out];rfl,hbel⟩
    ·have icut:a<1152921504606846976:=by omega
     by_cases hov:18446744073709551616≤acc * 16+nD n
     ·exfalso;omega
     ·have HN:Hid (a * 16+((n:Int) - 48)=((acc * 16+nD n:Nat):Int)∧acc * 16+nD n<18446744073709551616∧nP 16 bs=mY 16 (acc * 16+nD n) (bs.drop (k+1))):=Lib.hid ⟨by omega,by omega,hdec⟩
      have iov:a * 16+((n:Int) - 48)<18446744073709551616:=by omega
      clear hcut hacc hov hdec ha hge hV;go_wp2
      all_goals first|(exfalso;omega)|skip
      refine⟨⟨k+1,acc * 16+nD n,a * 16+((n:Int) - 48),rfl,(by first|rfl|(congr 1;omega)),(by first|rfl|(congr 1;omega)),by omega,HN⟩,by simp[intOf];omega⟩
   ·obtain⟨hd0,hd1⟩:(97:Int)≤n∧(n:Int)≤102:=by omega
    clear h;have hV:nD n=n - 87:=by unfold nD;rw[if_neg (by omega),if_pos (by omega)]
    have hlow:Go.bits .or .u8 (n:Int) 32=n:=KM n (by omega)
    by_cases hcut:1152921504606846976≤acc
    ·have hP:=Lib.hid (show pU 187 (nP 16 bs)=.tuple #[.int .u64 18446744073709551615,.iface 187 (.int .i64 1)]from Bl (by omega))
     have icut:1152921504606846976≤a:=by omega
     clear hcut hacc hdec hge ha hV
     go_wp2_with(go_at_call 251;refine(Dm _ _).mono ?_;rintro e w' ⟨rfl,rfl⟩;try simp only[hlow])
     all_goals first|(exfalso;omega)|skip
     go_ret2
     exact⟨by rw[hP.out];rfl,hbel⟩
    ·have icut:a<1152921504606846976:=by omega
     by_cases hov:18446744073709551616≤acc * 16+nD n
     ·exfalso;omega
     ·have HN:Hid (a * 16+((n:Int) - 87)=((acc * 16+nD n:Nat):Int)∧acc * 16+nD n<18446744073709551616∧nP 16 bs=mY 16 (acc * 16+nD n) (bs.drop (k+1))):=Lib.hid ⟨by omega,by omega,hdec⟩
      have iov:a * 16+((n:Int) - 87)<18446744073709551616:=by omega
      clear hcut hacc hov hdec ha hge hV
      go_wp2_with(go_at_call 251;refine(Dm _ _).mono ?_;rintro e w' ⟨rfl,rfl⟩;try simp only[hlow])
      all_goals first|(exfalso;omega)|skip
      refine⟨⟨k+1,acc * 16+nD n,a * 16+((n:Int) - 87),rfl,(by first|rfl|(congr 1;omega)),(by first|rfl|(congr 1;omega)),by omega,HN⟩,by simp[intOf];omega⟩
   ·obtain⟨hd0,hd1⟩:(65:Int)≤n∧(n:Int)≤70:=by omega
    clear h;have hV:nD n=n - 55:=by unfold nD;rw[if_neg (by omega),if_neg (by omega)]
    have hlow:Go.bits .or .u8 (n:Int) 32=n+32:=KN n (by omega)
    by_cases hcut:1152921504606846976≤acc
    ·have hP:=Lib.hid (show pU 187 (nP 16 bs)=.tuple #[.int .u64 18446744073709551615,.iface 187 (.int .i64 1)]from Bl (by omega))
     have icut:1152921504606846976≤a:=by omega
     clear hcut hacc hdec hge ha hV
     go_wp2_with(go_at_call 251;refine(Dm _ _).mono ?_;rintro e w' ⟨rfl,rfl⟩;try simp only[hlow])
     all_goals first|(exfalso;omega)|skip
     go_ret2
     exact⟨by rw[hP.out];rfl,hbel⟩
    ·have icut:a<1152921504606846976:=by omega
     by_cases hov:18446744073709551616≤acc * 16+nD n
     ·exfalso;omega
     ·have HN:Hid (a * 16+((n:Int) - 55)=((acc * 16+nD n:Nat):Int)∧acc * 16+nD n<18446744073709551616∧nP 16 bs=mY 16 (acc * 16+nD n) (bs.drop (k+1))):=Lib.hid ⟨by omega,by omega,hdec⟩
      have iov:a * 16+((n:Int) - 55)<18446744073709551616:=by omega
      clear hcut hacc hov hdec ha hge hV
      go_wp2_with(go_at_call 251;refine(Dm _ _).mono ?_;rintro e w' ⟨rfl,rfl⟩;try simp only[hlow])
      all_goals first|(exfalso;omega)|skip
      refine⟨⟨k+1,acc * 16+nD n,a * 16+((n:Int) - 55),rfl,(by first|rfl|(congr 1;omega)),(by first|rfl|(congr 1;omega)),by omega,HN⟩,by simp[intOf];omega⟩
  ·have hkk:k=t.size:=by omega
   subst hkk;have hF:mY 16 acc (bs.drop t.size)=acc:=by rw[List.drop_eq_nil_of_le (by omega)];rfl
   rw[hF]at hdec;have hP:=Lib.hid (show pU 187 (nP 16 bs)=.tuple #[.int .u64 a,.nilIface] by rw[hdec,pU_ok hacc,ha]);clear hacc hF hdec ha hdig hB;go_wp2
   go_ret2
   exact⟨by rw[hP.out];rfl,hbel⟩
structure Std (w:World):Prop where
 maxLen:∃m,w.cell? ⟨2,0,none⟩=some (.int .i64 m)
 errRange:∃te pe,w.cell? ⟨4,0,none⟩=some (.iface te pe)
 tabs:Lib.Utf8Tabs 0 1 w
theorem block_lt{w:World}{a:Addr}{v:Value}(h:w.cell? a=some v):a.block<w.heap.size:=by
 rcases Nat.lt_or_ge a.block w.heap.size with h'|h'
 ·exact h'
 ·simp[World.cell?,Array.getElem?_eq_none h']at h
theorem aV{w w':World}{a:Addr}{v:Value}(h:w.cell? a=some v)(hb:Below w.heap.size w w'):w'.cell? a=some v:=(hb.cell (block_lt h)).trans h
theorem Std.below{w w':World}(h:Std w)(hb:Below w.heap.size w w'):Std w':=by
 obtain⟨⟨m,hm⟩,⟨te,pe,he⟩,h1,h2⟩:=h;exact⟨⟨m,aV hm hb⟩,⟨te,pe,aV he hb⟩,fun c hc=>aV (h1 c hc) hb,fun i hi=>⟨aV (h2 i hi).1 hb,aV (h2 i hi).2 hb⟩⟩
theorem Std.drewN{w:World}(h:Std w)(n:Nat):Std (w.drewN n):=h.below (below_drewN (Below.refl _ _) n)
theorem Std.drew{w:World}(h:Std w):Std w.drew:=h.below (Below.refl _ _).drew
theorem Std.alloc{w:World}(h:Std w)(o:Obj):Std (w.alloc o):=h.below ((Below.refl _ _).alloc (Nat.le_refl _) o)
def Dn(l:List UInt8):Int:=
 if l=[97,109,112]then 38 else if l=[108,116]then 60 else if l=[103,116]then 62 else if l=[113,117,111,116]then 34
 else if l=[97,112,111,115]then 39 else if l=[110,98,115,112]then 160 else if l=[99,111,112,121]then 169 else if l=[114,101,103]then 174
 else if l=[112,97,114,97]then 182 else if l=[109,105,100,100,111,116]then 183 else if l=[101,97,99,117,116,101]then 233
 else if l=[97,117,109,108]then 228 else if l=[111,117,109,108]then 246 else if l=[117,117,109,108]then 252 else if l=[115,122,108,105,103]then 223
 else if l=[101,117,114,111]then 8364 else if l=[104,101,108,108,105,112]then 8230 else if l=[110,100,97,115,104]then 8211
 else if l=[109,100,97,115,104]then 8212 else if l=[98,117,108,108]then 8226 else if l=[84,97,98]then 9 else if l=[78,101,119,76,105,110,101]then 10
 else if l=[99,111,108,111,110]then 58 else if l=[108,112,97,114]then 40 else 0
theorem number_c(s:ByteArray)(w:World):
 Calls Tryz.prog 228 #[.string s] w fun e w'=>e=.returned (.int .i32 (Dn s.toList))∧w=w':=by
 go_enter Tryz.func228,Tryz.ntmps228;go_wp2
 all_goals go_ret
 all_goals(refine⟨ret_i32 ?_,rfl⟩;simp_all[Dn])
def wW(l:List UInt8):List UInt8×Bool:=if Dn l=0 then([],false)else((Utf8.encode (Dn l)).data.toList,true)
theorem named_c(s:ByteArray)(w:World):
 Calls Tryz.prog 212 #[.string s] w fun e w'=>e=.returned (.tuple #[.string ⟨(wW s.toList).1.toArray⟩,.bool (wW s.toList).2])∧w=w':=by
 go_enter Tryz.func212,Tryz.ntmps212
 go_wp2_with(go_at_call 228;refine(number_c _ _).mono ?_;rintro e w' ⟨rfl,rfl⟩)
 all_goals go_ret2
 all_goals(refine⟨ret_sb ?_ ?_,rfl⟩<;>simp_all[wW])
def codeI(n:Int):Int:=if n<1∨1114111<n∨(55296≤n∧n≤57343)then 65533 else if n=13 then 10 else n
def DF(n:Int):List UInt8:=(Utf8.encode (codeI n)).data.toList
theorem code_c(n:Int)(w:World)(h0: -9223372036854775808≤n)(h1:n≤9223372036854775807):
 Calls Tryz.prog 227 #[.int .i64 n] w fun e w'=>e=.returned (.string ⟨(DF n).toArray⟩)∧w=w':=by
 go_enter Tryz.func227,Tryz.ntmps227;go_wp2
 all_goals go_ret
 all_goals(refine⟨ret_s ?_,rfl⟩)
 all_goals(simp only[DF,codeI];try simp only[beq_iff_eq,beq_eq_false_iff_ne]at *)
 all_goals first
  |(rw[if_pos (by omega)];decide)
  |(rw[if_neg (by omega),if_pos (by omega)])
  |(rw[if_neg (by omega),if_neg (by omega)])
theorem JH{base:Nat}{s:ByteArray}(h:j4 base s.toList=true):∃(h0:0<s.size),48≤(s[0]'h0).toNat:=by
 have hne:=DC h
 have h0:0<s.size:=by
  rcases Nat.eq_zero_or_pos s.size with e|e
  ·rw[Lib.toList_data]at hne
   have:s.data.toList=[]:=by
    apply List.eq_nil_of_length_eq_zero;simpa using e
   rw[this]at hne;cases hne
  ·exact e
 refine⟨h0,?_⟩;have:=of_decide_eq_true (LM h h0);have e:s.data.toList.getD 0 0=s[0]'h0:=by simp[List.getD,h0,ByteArray.getElem_eq_getElem_data]
 rw[e]at this;omega
theorem Qa(base:Nat)(hb:base=10∨base=16)(s:ByteArray)(hd:j4 base s.toList=true)(hs:s.size≤1000000000)(hn:nP base s.data.toList<9223372036854775808)(w:World):
 Calls Tryz.prog 239 #[.string s,.int .i64 base,.int .i64 64] w fun e w'=>e=.returned (.tuple #[.int .i64 (nP base s.data.toList),.nilIface])∧Below w.heap.size w w':=by
 obtain⟨h0,h48⟩:=JH hd;have hne:=DC hd
 have hc:Calls Tryz.prog 246 #[.string s,.int .i64 base,.int .i64 64] w fun e w'=>e=.returned (pU 187 (nP base s.data.toList))∧Below w.heap.size w w':=by
  rcases hb with rfl|rfl
  ·exact zO s hd (by omega) w
  ·exact zP s hd (by omega) w
 rw[pU_ok (by omega)]at hc;obtain⟨a,ha⟩:∃a:Int,a=(nP base s.data.toList:Nat):=⟨_,rfl⟩
 rw[←ha]at hc⊢;have hc:=Lib.hid hc;rename_i hc0;clear hc0;have hni:a<9223372036854775808:=by omega
 have hn0:0≤a:=by omega
 clear ha hn;have h48i:(48:Int)≤(s[0]'h0).toNat:=by omega
 clear hb hd h48;generalize (base:Int)=b at *;have hmv:IntKind.u64.wrap 9223372036854775808=9223372036854775808:=by rw[IntKind.wrap_u64];decide
 go_enter Tryz.func239,Tryz.ntmps239
 go_wp2_with(go_at_call 246;refine hc.out.mono ?_;rintro e w' ⟨rfl,hb1⟩)
 all_goals first|(exfalso;omega)|skip
 go_ret2
 exact⟨rfl,hb1⟩
theorem LP(base:Nat)(hb:base=10∨base=16)(s:ByteArray)(hd:j4 base s.toList=true)(hs:s.size≤1000000000)(hn:9223372036854775808≤nP base s.data.toList)(w:World):
 Calls Tryz.prog 239 #[.string s,.int .i64 base,.int .i64 64] w fun e w'=>e=.returned (.tuple #[.int .i64 9223372036854775807,.iface 187 (.int .i64 1)])∧Below w.heap.size w w':=by
 obtain⟨h0,h48⟩:=JH hd;have hne:=DC hd
 have hc:Calls Tryz.prog 246 #[.string s,.int .i64 base,.int .i64 64] w fun e w'=>e=.returned (pU 187 (nP base s.data.toList))∧Below w.heap.size w w':=by
  rcases hb with rfl|rfl
  ·exact zO s hd (by omega) w
  ·exact zP s hd (by omega) w
 by_cases hlt:nP base s.data.toList<18446744073709551616
 ·rw[pU_ok hlt]at hc
  obtain⟨a,ha⟩:∃a:Int,a=(nP base s.data.toList:Nat):=⟨_,rfl⟩
  rw[←ha]at hc;have hc:=Lib.hid hc;rename_i hc0;clear hc0;have hni:9223372036854775808≤a:=by omega
  have hn0:a<18446744073709551616:=by omega
  clear ha hn hlt;have h48i:(48:Int)≤(s[0]'h0).toNat:=by omega
  clear hb hd h48;generalize (base:Int)=b at *;have hmv:IntKind.u64.wrap 9223372036854775808=9223372036854775808:=by rw[IntKind.wrap_u64];decide
  go_enter Tryz.func239,Tryz.ntmps239
  go_wp2_with(go_at_call 246;refine hc.out.mono ?_;rintro e w' ⟨rfl,hb1⟩)
  all_goals first|(exfalso;omega)|skip
  go_ret2
  exact⟨rfl,hb1⟩
 ·rw[Bl (by omega)]at hc
  have hc:=Lib.hid hc;rename_i hc0;clear hc0 hn hlt;have hq1:∀W,(binOp .neq 109 (.iface 187 (.int .i64 1)) (.iface 187 (.int .i64 1))).run Tryz.prog W=.ok (.bool false) W:=fun W=>Lib.run_neq_iface_int W 1 1 Tryz.underlying109 (by kernel_rfl) Tryz.underlying187
  have h48i:(48:Int)≤(s[0]'h0).toNat:=by omega
  clear hb hd h48;generalize (base:Int)=b at *;have hmv:IntKind.u64.wrap 9223372036854775808=9223372036854775808:=by rw[IntKind.wrap_u64];decide
  go_enter Tryz.func239,Tryz.ntmps239
  go_wp2_with(go_at_call 246;refine hc.out.mono ?_;rintro e w' ⟨rfl,hb1⟩)
  all_goals first|(exfalso;omega)|skip
  go_ret2
  exact⟨rfl,hb1⟩
theorem parse_ok(base:Nat)(hb:base=10∨base=16)(s:ByteArray)(hd:j4 base s.toList=true)(hs:s.size≤1000000000)(hn:nP base s.data.toList<9223372036854775808)(w:World):
 Calls Tryz.prog 226 #[.string s,.int .i64 base,.int .i64 64] w fun e w'=>e=.returned (.tuple #[.int .i64 (nP base s.data.toList),.nilIface])∧Below w.heap.size w w':=by
 have hc:=Lib.hid (Qa base hb s hd hs hn w);generalize nP base s.data.toList=n at *;generalize (base:Int)=b at *;generalize (n:Int)=a at *;clear hn;go_enter Tryz.func226,Tryz.ntmps226
 go_wp2_with(go_at_call 239;refine hc.out.mono ?_;rintro e w' ⟨rfl,hb1⟩)
 go_ret2
 exact⟨rfl,hb1⟩
def PBig(w:World)(e:Ending)(w':World):Prop:=∃p,e=.returned (.tuple #[.int .i64 9223372036854775807,.iface 190 (.pointer (some p))])∧Below w.heap.size w w'
theorem Qb(base:Nat)(hb:base=10∨base=16)(s:ByteArray)(hd:j4 base s.toList=true)(hs:s.size≤1000000000)(hn:9223372036854775808≤nP base s.data.toList)(w:World)(hS:Std w):
 Calls Tryz.prog 226 #[.string s,.int .i64 base,.int .i64 64] w (PBig w):=by
 have hc:=Lib.hid (LP base hb s hd hs hn w);generalize (base:Int)=b at *;clear hn;go_enter Tryz.func226,Tryz.ntmps226
 go_wp2_with(go_at_call 239;refine hc.out.mono ?_;rintro e w1 ⟨rfl,hb1⟩)
 obtain⟨te,pe,hev⟩:=(hS.below hb1).errRange;refine(Tryz.strconv_toError_range _ s _ _ (.iface te pe) w1 (by omega) hev (.inr ⟨_,_,rfl⟩)).mono ?_;rintro e w2 ⟨q,rfl,_,_,hb2⟩;go_wp2
 go_ret2
 exact⟨_,rfl,oP hb1 hb2⟩
def l5(base:Nat)(l:List UInt8):List UInt8×Bool:=if j4 base l then(DF (nP base l),true)else([],false)
theorem Qc(n:Int)(h:1114111<n):DF n=[239,191,189]:=by
 unfold DF codeI;rw[if_pos (by omega)]
 decide
theorem coded_c(base:Nat)(hb:base=10∨base=16)(s:ByteArray)(hs:s.size≤1000000000)(w:World)(hS:Std w):
 Calls Tryz.prog 211 #[.string s,.int .i64 base] w fun e w'=>e=.returned (.tuple #[.string ⟨(l5 base s.toList).1.toArray⟩,.bool (l5 base s.toList).2])∧Below w.heap.size w w':=by
 cases hd:j4 base s.toList with
 |false=>
  have e1:l5 base s.toList=([],false):=by unfold l5;rw[hd];rfl
  rw[e1];have hc:=Lib.hid (JI base hb s w (by omega));clear e1;generalize (base:Int)=b at *;go_enter Tryz.func211,Tryz.ntmps211
  go_wp2_with(go_at_call 225;refine hc.out.mono ?_;rintro e w1 ⟨rfl,hb1⟩)
  go_ret2
  exact⟨rfl,hb1⟩
 |true=>
  have e1:l5 base s.toList=(DF (nP base s.toList),true):=by unfold l5;rw[hd];rfl
  rw[e1,Lib.toList_data];have hc:=Lib.hid (JI base hb s w (by omega))
  by_cases hn:nP base s.data.toList<9223372036854775808
  ·have hp:=Lib.hid (fun W=>parse_ok base hb s hd hs hn W)
   clear e1;generalize nP base s.data.toList=n at *;obtain⟨a,ha⟩:∃a:Int,a=(n:Nat):=⟨_,rfl⟩
   rw[←ha]at hp⊢;have a0:0≤a:=by omega
   have a1:a<9223372036854775808:=by omega
   clear ha hn;generalize (base:Int)=b at *;go_enter Tryz.func211,Tryz.ntmps211
   go_wp2_with(first
    |(go_at_call 225;refine hc.out.mono ?_;rintro e w1 ⟨rfl,hb1⟩)
    |(go_at_call 226;refine(hp.out _).mono ?_;rintro e w2 ⟨rfl,hb2⟩)
    |(go_at_call 227;refine(code_c _ _ (by omega) (by omega)).mono ?_;rintro e w3 ⟨rfl,rfl⟩))
   go_ret2
   exact⟨rfl,oP hb1 hb2⟩
  ·have hp:=Lib.hid (fun W hS=>Qb base hb s hd hs (by omega) W hS)
   rw[Qc _ (by omega)];clear e1 hn;generalize (base:Int)=b at *;go_enter Tryz.func211,Tryz.ntmps211
   go_wp2_with(first
    |(go_at_call 225;refine hc.out.mono ?_;rintro e w1 ⟨rfl,hb1⟩)
    |(go_at_call 226;refine(hp.out _ (hS.below hb1)).mono ?_;rintro e w2 ⟨p,rfl,hb2⟩))
   go_ret2
   exact⟨rfl,oP hb1 hb2⟩
def gW(c:UInt8):List UInt8→List UInt8×List UInt8×Bool
 | []=>([],[],false)
 |x::l=>if x=c then([],l,true)else(x::(gW c l).1,(gW c l).2.1,(gW c l).2.2)
theorem cut_eq(c:UInt8)(l:List UInt8):Lib.cut l [c]=gW c l:=by
 induction l with
 |nil=>rfl
 |cons x l ih=>
  unfold Lib.cut at ih⊢;unfold gW Lib.index
  by_cases h:x=c
  ·subst h
   simp
  ·have hp:List.isPrefixOf [c] (x::l)=false:=by simp[List.isPrefixOf,Ne.symm h]
   rw[hp,if_neg h,←ih];have hge:=Lib.index_ge l [c]
   by_cases h1:Lib.index l [c]= -1
   ·simp[h1]
   ·have h2:0≤Lib.index l [c]:=by omega
    have h3:(Lib.index l [c] +1).toNat=(Lib.index l [c]).toNat+1:=by omega
    have h4:0≤Lib.index l [c] +1:=by omega
    simp[h1,h2,h3,h4]
theorem qP(c:UInt8)(l:List UInt8):(gW c l).1.length+(gW c l).2.1.length+(if(gW c l).2.2 then 1 else 0)=l.length:=by
 induction l with
 |nil=>rfl
 |cons x l ih=>
  unfold gW
  by_cases h:x=c
  ·simp[h]
  ·simp only[if_neg h,List.length_cons]
   omega
theorem cut1_yes{c:UInt8}{l:List UInt8}(h:(gW c l).2.2=true):l=(gW c l).1++c::(gW c l).2.1:=by
 induction l with
 |nil=>cases h
 |cons x l ih=>
  unfold gW at h⊢
  by_cases e:x=c
  ·simp[e]
  ·simp only[if_neg e]at h⊢
   rw[List.cons_append,←ih h]
theorem M6{c:UInt8}{l:List UInt8}(h:(gW c l).2.2=false):(gW c l).1=l∧c∉l:=by
 induction l with
 |nil=>exact⟨rfl,by simp⟩
 |cons x l ih=>
  unfold gW at h⊢
  by_cases e:x=c
  ·simp[e]at h
  ·simp only[if_neg e]at h⊢
   exact⟨by rw[(ih h).1],by simp[(ih h).2,Ne.symm e]⟩
theorem cut1_not(c:UInt8)(l:List UInt8):c∉(gW c l).1:=by
 induction l with
 |nil=>simp[gW]
 |cons x l ih=>
  unfold gW
  by_cases e:x=c
  ·simp[e]
  ·simp[if_neg e,ih,Ne.symm e]
def yP(l:List UInt8):Int:=if Lib.hasPrefix l [35,120] ||Lib.hasPrefix l [35,88]then 2 else if Lib.hasPrefix l [35]then 1 else 0
def jG(l:List UInt8):List UInt8×Bool:=if yP l=2 then l5 16 (l.drop 2)else if yP l=1 then l5 10 l.tail else wW l
theorem enc_len(n:Int):(Utf8.encode n).data.toList.length≤4:=by
 have:=encode_size_le n
 rwa [Lib.size_eq]at this
theorem LU(l:List UInt8):(jG l).1.length≤4:=by
 unfold jG l5 wW DF
 repeat' split
 all_goals first|exact enc_len _|simp
def iQ:List UInt8→List UInt8
 | []=>[]
 |c::l=>if c=38 then(if(gW 59 l).2.2&&(jG (gW 59 l).1).2 then(jG (gW 59 l).1).1++iQ (gW 59 l).2.1 else 38::iQ l)else c::iQ l
termination_by l=>l.length
decreasing_by
 all_goals simp only[List.length_cons]
 all_goals have:=qP 59 l
 all_goals omega
theorem zL:iQ []=[]:=by rw[iQ]
theorem xS(c:UInt8)(l:List UInt8):iQ (c::l)=if c=38 then(if(gW 59 l).2.2&&(jG (gW 59 l).1).2 then(jG (gW 59 l).1).1++iQ (gW 59 l).2.1 else 38::iQ l)else c::iQ l:=by rw[iQ]
theorem DI(a l:List UInt8)(h:(38:UInt8)∉a):iQ (a++l)=a++iQ l:=by
 induction a with
 |nil=>rfl
 |cons x a ih=>
  rw[List.cons_append,xS,if_neg (fun e=>h (by simp[e])),ih (fun e=>h (by simp[e])),List.cons_append]
theorem Qe{l:List UInt8}(h:(38:UInt8)∉l):iQ l=l:=by
 have:=DI l [] h;simpa [zL]using this
theorem Qf{l:List UInt8}(h:(gW 38 l).2.2=false):iQ l=(gW 38 l).1:=by
 rw[(M6 h).1];exact Qe (M6 h).2
theorem decL_hit{l:List UInt8}(h:(gW 38 l).2.2=true):iQ l=(gW 38 l).1++iQ (38::(gW 38 l).2.1):=by
 conv=>lhs;rw[cut1_yes h]
 exact DI _ _ (cut1_not 38 l)
theorem JC{l:List UInt8}(h1:(gW 59 l).2.2=true)(h2:(jG (gW 59 l).1).2=true):iQ (38::l)=(jG (gW 59 l).1).1++iQ (gW 59 l).2.1:=by
 rw[xS,if_pos rfl,h1,h2];rfl
theorem decL_amp{l:List UInt8}(h:((gW 59 l).2.2&&(jG (gW 59 l).1).2)=false):iQ (38::l)=38::iQ l:=by
 rw[xS,if_pos rfl,h];rfl
end Go.Proofs.YtkcmghlhpbepcaaGreatDoor
namespace Go.Proofs.YtkcmghlhpbepcaaGreatDoor
open Go.Proofs
abbrev Txt:=List UInt8
structure Tok where
 kind:Int
 name:Txt
 attrs:List (Txt×Txt)
 data:Txt
 self:Bool
 deriving DecidableEq
def dO(c:UInt8):Bool:=c==32||c==9||c==10||c==12||c==13
def uU(c:UInt8):Bool:=(decide (97≤c.toNat)&&decide (c.toNat≤122))||(decide (65≤c.toNat)&&decide (c.toNat≤90))
def eB(c:UInt8):Bool:=dO c||c==47||c==62
def lowB(c:UInt8):UInt8:=if 65≤c.toNat∧c.toNat≤90 then c+32 else c
def lY(l:Txt):Txt:=l.map lowB
def JY:List Txt:=[[105,102,114,97,109,101],[110,111,101,109,98,101,100],[110,111,102,114,97,109,101,115],[115,99,114,105,112,116],[115,116,121,108,101],[120,109,112]]
def Mf:List Txt:=[[116,101,120,116,97,114,101,97],[116,105,116,108,101]]
def inB(L:List Txt)(l:Txt):Bool:=L.contains l
def mD(l:Txt):Bool:=inB JY l
def kS(l:Txt):Bool:=inB Mf l
def jr:Txt→Bool
 | []=>false
 |c::_=>uU c
def zJ(s:Txt):Nat:=1+s.tail.findIdx (fun c=>eB c||c==61)
def lM(s:Txt):Txt:=s.drop (s.findIdx (fun c=>!dO c))
def BS(s:Txt):Nat:=s.findIdx (fun c=>dO c||c==62)
def valF(nm s:Txt):(Txt×Txt)×Txt×Bool:=
 match s with
 | []=>((nm,[]),[],false)
 |q::t=>if q=34∨q=39 then((nm,iQ (gW q t).1),(gW q t).2.1,(gW q t).2.2)else((nm,iQ ((q::t).take (BS (q::t)))),(q::t).drop (BS (q::t)),decide (BS (q::t)<(q::t).length))
def JB(nm s:Txt):(Txt×Txt)×Txt×Bool:=
 match lM s with
 | []=>((nm,[]),[],false)
 |c::t=>if c=61 then valF nm (lM t)else((nm,[]),s,true)
def qQ(s:Txt):(Txt×Txt)×Txt×Bool:=JB (lY (s.take (zJ s))) (s.drop (zJ s))
def addA(acc:List (Txt×Txt))(a:Txt×Txt):List (Txt×Txt):=if acc.any (fun b=>b.1==a.1)then acc else acc++[a]
def tT(s:Txt):Nat:=s.findIdx (fun c=>!dO c&&c !=47)
def uV(s:Txt):Bool:=decide (0<tT s)&&(s[tT s - 1]? ==some 47)
def wE:Nat→List (Txt×Txt)→Txt→Option (List (Txt×Txt)×Bool×Txt)
 |0,_,_=>none
 |n+1,acc,s=>
  match s.drop (tT s)with
  | []=>none
  |c::s1=>
   if c=62 then some (acc,uV s,s1)
   else
    let r:=qQ (c::s1)
    if r.2.2 then wE n (addA acc r.1) r.2.1 else none
def kV(acc:List (Txt×Txt))(s:Txt):=wE (s.length+1) acc s
def gB(s:Txt):Option (Tok×Txt):=
 (kV [] (s.drop (s.findIdx eB))).map fun r=>(⟨0,lY (s.take (s.findIdx eB)),r.1,[],r.2.1⟩,r.2.2)
def gV(name s:Txt):Bool:=
 match s with
 |60::47::r=>decide (name.length<r.length)&&(lY (r.take name.length)==lY name)&&(match r.drop name.length with|c::_=>eB c| []=>false)
 |_=>false
def jg(name:Txt):Txt→Nat
 | []=>0
 |c::t=>if gV name (c::t)then 0 else 1+jg name t
def kP(name s:Txt):List Tok:=
 if s.take (jg name s)=[]then []else [⟨0,[],[],if kS name then iQ (s.take (jg name s))else s.take (jg name s),false⟩]
def kF(name s:Txt):Txt:=s.drop (jg name s)
def ru(s:Txt):Txt:=((s.dropWhile dO).reverse.dropWhile dO).reverse
def kZ(s e:Txt):Txt×Txt:=((Lib.cut s e).1,(Lib.cut s e).2.1)
def rA(kind:Int)(s e:Txt):List Tok×Txt:=([⟨kind,[],[],if kind=4 then ru (kZ s e).1 else(kZ s e).1,false⟩],(kZ s e).2)
def lD(s:Txt):List Tok×Txt:=
 if Lib.hasPrefix s [62]then([⟨3,[],[],[],false⟩],s.drop 1)
 else if Lib.hasPrefix s [45,62]then([⟨3,[],[],[],false⟩],s.drop 2)
 else rA 3 s (if 0≤Lib.index s [45,45,33,62]∧(Lib.index s [45,45,62]<0∨Lib.index s [45,45,33,62]<Lib.index s [45,45,62])then [45,45,33,62]else [45,45,62])
def jY(s:Txt):Bool:=decide (8≤s.length)&&(lY (s.take 8)==[33,100,111,99,116,121,112,101])&& !jr (s.drop 8)
def wR(kind:Int)(s:Txt):List Tok×Txt:=
 match gB s with
 |none=>([],[])
 |some (t,r)=>
  if kind=2 then([⟨2,t.name,[],[],false⟩],r)
  else if mD t.name||kS t.name then(⟨kind,t.name,t.attrs,t.data,t.self⟩::kP t.name r,kF t.name r)
  else([⟨kind,t.name,t.attrs,t.data,t.self⟩],r)
def jJ(s:Txt):Option (List Tok×Txt):=
 if jr s then some (wR 1 s)
 else if Lib.hasPrefix s [47]&&jr s.tail then some (wR 2 s.tail)
 else if Lib.hasPrefix s [47,62]then some ([],s.drop 2)
 else if Lib.hasPrefix s [33,45,45]then some (lD (s.drop 3))
 else if jY s then some (rA 4 (s.drop 8) [62])
 else if Lib.hasPrefix s [33]then some (rA 3 s.tail [62])
 else if Lib.hasPrefix s [63]then some (rA 3 s [62])
 else if decide (1<s.length)&&Lib.hasPrefix s [47]then some (rA 3 s.tail [62])
 else none
def fC(t:Txt):List Tok:=if t=[]then []else [⟨0,[],[],iQ t,false⟩]
def jv(s:Txt):Nat:=s.findIdx (fun c=>c==60)
def runN:Nat→Txt→Txt→List Tok
 |0,t,_=>fC t
 |n+1,t,s=>
  match s.drop (jv s)with
  | []=>fC (t++s.take (jv s))
  |_::s1=>
   match jJ s1 with
   |none=>runN n (t++s.take (jv s)++[60]) s1
   |some (ts,r)=>fC (t++s.take (jv s))++ts++runN n [] r
def oK(t s:Txt):List Tok:=runN (s.length+1) t s
def cutL(s:Txt):List Tok:=oK [] s
def inL(s name:Txt):List Tok:=if mD name||kS name then kP name s++oK [] (kF name s)else oK [] s
theorem mo{p:UInt8→Bool}(h:(List.range 256).all (fun k=>p (UInt8.ofNat k))=true)(c:UInt8):p c=true:=by
 rw[List.all_eq_true]at h;have:=h c.toNat (by simp[c.toNat_lt]);simpa using this
end Go.Proofs.YtkcmghlhpbepcaaGreatDoor
namespace Go.Proofs.YtkcmghlhpbepcaaGreatDoor
open Go.RowKit Go.Proofs
theorem bSize:(Tryz.prog.info? 106).map (·.size)=some 2:=by kernel_rfl
theorem bLies:liesAt Tryz.prog Tryz.prog.depth 106 (2 / Tryz.prog.cellsOf 106) 0 106 1=true:=by kernel_rfl
theorem bByte:(Tryz.prog.info? 5).map (fun i=>(i.zero,i.size,i.bytes))=some (some (.int .u8 0),1,1):=by kernel_rfl
theorem Dx(b:Nat)(w:World)(h0:w.cell? ⟨b,0,none⟩=some (.pointer (some ⟨b,0,none⟩))):
 Calls Tryz.prog 174 #[.pointer (some ⟨b,0,none⟩)] w fun e w'=>e=.returned (.tuple #[])∧w'=w:=by
 obtain⟨j,hj,_⟩:=Option.map_eq_some_iff.1 bSize;go_enter Tryz.func174,Tryz.ntmps174;go_wp2;rw[Lib.run_neq_ptr_same w _ Tryz.underlying104 hj];go_wp2;go_end0;exact⟨rfl,rfl⟩
theorem CF(b:Nat)(w:World)(h0:w.cell? ⟨b,0,none⟩=some (.pointer none))(hsh:w.shape? b=some (106,2))(hfz:w.frozen? ⟨b,0,none⟩=false):
 Calls Tryz.prog 174 #[.pointer (some ⟨b,0,none⟩)] w fun e w'=>e=.returned (.tuple #[])∧w'=w.setCell ⟨b,0,none⟩ (.pointer (some ⟨b,0,none⟩)):=by
 obtain⟨j,hj,hjs⟩:=Option.map_eq_some_iff.1 bSize;go_enter Tryz.func174,Tryz.ntmps174;go_wp2;rw[Lib.run_to_unsafe w ⟨b,0,none⟩ Tryz.underlying104 Tryz.underlying157 hj (by rw[hjs];decide) hsh (Nat.zero_lt_succ 1)];simp only[Result.andThen];rw[Oper.upon_value];go_wp2;rw[run_callFunc_extern Tryz.func201 (by kernel_rfl) (by kernel_rfl) (by kernel_rfl) (e:=Extern.AbiNoEscape.same) (by kernel_rfl)];rw[Lib.run_noEscape];simp only[Result.andThen];rw[Oper.upon_value];go_wp2;rw[Lib.run_from_unsafe w ⟨b,0,none⟩ Tryz.underlying157 Tryz.underlying104 hj hsh bLies];simp only[Result.andThen];rw[Oper.upon_value];go_wp2;go_end0;exact⟨rfl,rfl⟩
theorem wV(B b:Nat)(bs:List Value)(w:World)(h:Lib.IsBuilderF 106 5 B b bs w):
 Calls Tryz.prog 174 #[.pointer (some ⟨b,0,none⟩)] w fun e w'=>e=.returned (.tuple #[])∧(Lib.BuilderAtF 106 5 B b (.pointer (some ⟨b,0,none⟩)) bs w'∧Below B w w'∧Lib.OthersKept 5 (some b) w w'):=by
 rcases h with h|h
 ·refine(CF b w h.cell0 h.shape h.frozen0).mono ?_
  rintro e w' ⟨rfl,rfl⟩;exact⟨rfl,h.used _,(Below.refl B w).setCell (p:=⟨b,0,none⟩) h.1 _,(Lib.OthersKept.refl _ _ w).setCell ⟨b,0,none⟩ rfl _⟩
 ·refine(Dx b w h.cell0).mono ?_
  rintro e w' ⟨rfl,rfl⟩;exact⟨rfl,h,Below.refl B _,Lib.OthersKept.refl _ _ _⟩
theorem JE(B b:Nat)(bs:List Value)(c:Int)(w:World)(h:Lib.IsBuilderF 106 5 B b bs w)(hlen:bs.length+1≤140737488355328)(hBw:B≤w.heap.size):
 Calls Tryz.prog 202 #[.pointer (some ⟨b,0,none⟩),.int .u8 c] w fun e w'=>e=.returned .nilIface∧(Lib.IsBuilderF 106 5 B b (bs++[.int .u8 c]) w'∧Below B w w'∧Lib.OthersKept 5 (some b) w w'):=by
 obtain⟨i0,hi,hz0,hz1,hz2⟩:=info_parts bByte;go_enter Tryz.func202,Tryz.ntmps202
 go_wp2_with(go_at_call 174;refine(wV B b bs _ h).mono ?_)
 rintro e w1 ⟨rfl,h1,hb1,hk1⟩;obtain⟨hB,v,hbk,hown,hne⟩:=h1;have c0:w1.cell? ⟨b,0,none⟩=some (.pointer (some ⟨b,0,none⟩)):=by rw[Lib.cell_of_heap hbk];rfl
 have c1:w1.cell? ⟨b,1,none⟩=some v:=by rw[Lib.cell_of_heap hbk];rfl
 go_wp2_with(at_builtin;refine wpList_append_ownF _ rfl _ _ 43 rfl B 5 i0 (.int .u8 0) 1 1 Tryz.underlying43 hi hz0 hz1 hz2 rfl (by decide) _ _ _ rfl (hown.alloc _) ⟨w1.heap.size,0,none⟩ 1 1 [.int .u8 c] rfl rfl ?c1 ?c2 ?c3 ?c4 ?c5 ?_)
 case c1=>
  intro j u hj
  match j,hj with
  |0,hj=>simp at hj;subst hj;simp[Addr.add]
 case c2=>intro u hu;simp at hu;subst hu;rfl
 case c3=>unfold maxLen;omega
 case c4=>omega
 case c5=>have:=hb1.size;simp;omega
 intro v' w2 hown' hgrow _
 have hlt:b<w1.heap.size:=by
  rcases Nat.lt_or_ge b w1.heap.size with h'|h'
  ·exact h'
  ·simp[Array.getElem?_eq_none h']at hbk
 have hb2:w2.heap[b]?=some (.cells #[.pointer (some ⟨b,0,none⟩),v] 106 (0,0)):=by
  rw[hgrow.block b (by simp;omega) (fun e=>hne e.symm),Lib.alloc_old w1 _ b hlt];exact hbk
 have d0:w2.cell? ⟨b,0,none⟩=some (.pointer (some ⟨b,0,none⟩)):=by rw[Lib.cell_of_heap hb2];rfl
 have d1:w2.cell? ⟨b,1,none⟩=some v:=by rw[Lib.cell_of_heap hb2];rfl
 have f1:w2.frozen? ⟨b,1,none⟩=false:=Lib.frozen_of_heap hb2 1
 obtain⟨g,cap,rfl⟩:∃g cap,v'=.slice (some ⟨g,0,none⟩) (bs.length+1) cap:=by
  rcases hown'.2 with⟨_,h0⟩|⟨g,cap,cur,fz,hv,_⟩
  ·omega
  ·exact⟨g,cap,hv⟩
 go_wp2;go_ret;refine⟨rfl,Or.inr ?_,?_,((hk1.alloc _).grown hgrow (Lib.ownsRowF_kind (hown.alloc _))).setCell ⟨b,1,none⟩ rfl _⟩
 ·exact Lib.BuilderAtF.put (T:=106) (e:=5) hB hb2 (bs':=bs++[.int .u8 c]) (by simpa using hown') (by decide)
 ·exact((hb1.alloc (by have:=hb1.size;omega) _).grown hgrow (by have:=hb1.size;simp;omega) (fun k hk=>(hown.lt k hk).1)).setCell (p:=⟨b,1,none⟩) hB _
theorem Fy(B b:Nat)(bs:List Value)(s:ByteArray)(w:World)(h:Lib.IsBuilderF 106 5 B b bs w)(hlen:bs.length+s.size≤140737488355328)(hBw:B≤w.heap.size):
 Calls Tryz.prog 135 #[.pointer (some ⟨b,0,none⟩),.string s] w fun e w'=>e=.returned (.tuple #[.int .i64 s.size,.nilIface])∧(Lib.IsBuilderF 106 5 B b (bs++Lib.strCells s) w'∧Below B w w'∧Lib.OthersKept 5 (some b) w w'):=by
 obtain⟨i0,hi,hz0,hz1,hz2⟩:=info_parts bByte;go_enter Tryz.func135,Tryz.ntmps135
 go_wp2_with(go_at_call 174;refine(wV B b bs _ h).mono ?_)
 rintro e w1 ⟨rfl,h1,hb1,hk1⟩;obtain⟨hB,v,hbk,hown,hne⟩:=h1;have c0:w1.cell? ⟨b,0,none⟩=some (.pointer (some ⟨b,0,none⟩)):=by rw[Lib.cell_of_heap hbk];rfl
 have c1:w1.cell? ⟨b,1,none⟩=some v:=by rw[Lib.cell_of_heap hbk];rfl
 go_wp2_with(at_builtin;refine Lib.wpList_append_own_stringF _ rfl _ _ 43 9 rfl B 5 i0 Tryz.underlying43 Tryz.underlying9 hi hz0 hz1 hz2 _ _ _ rfl hown s rfl ?c3 ?c4 ?c5 ?_)
 case c3=>unfold maxLen;omega
 case c4=>omega
 case c5=>have:=hb1.size;omega
 intro v' w2 hown' hgrow _
 have hlt:b<w1.heap.size:=by
  rcases Nat.lt_or_ge b w1.heap.size with h'|h'
  ·exact h'
  ·simp[Array.getElem?_eq_none h']at hbk
 have hb2:w2.heap[b]?=some (.cells #[.pointer (some ⟨b,0,none⟩),v] 106 (0,0)):=by
  rw[hgrow.block b hlt (fun e=>hne e.symm)];exact hbk
 have d0:w2.cell? ⟨b,0,none⟩=some (.pointer (some ⟨b,0,none⟩)):=by rw[Lib.cell_of_heap hb2];rfl
 have d1:w2.cell? ⟨b,1,none⟩=some v:=by rw[Lib.cell_of_heap hb2];rfl
 have f1:w2.frozen? ⟨b,1,none⟩=false:=Lib.frozen_of_heap hb2 1
 obtain⟨ao,n',cap,rfl⟩:∃ao n' cap,v'=.slice ao n' cap:=by
  rcases hown'.2 with⟨hv,_⟩|⟨g,cap,cur,fz,hv,_⟩
  ·exact⟨_,_,_,hv⟩
  ·exact⟨_,_,_,hv⟩
 go_wp2
 go_ret2
 refine⟨rfl,Or.inr ?_,?_,(hk1.grown hgrow (Lib.ownsRowF_kind hown)).setCell ⟨b,1,none⟩ rfl _⟩
 ·exact Lib.BuilderAtF.put (T:=106) (e:=5) hB hb2 (bs':=bs++Lib.strCells s) (by simpa [Lib.strCells_length]using hown') (by decide)
 ·exact(hb1.grown hgrow (by have:=hb1.size;omega) (fun k hk=>(hown.lt k hk).1)).setCell (p:=⟨b,1,none⟩) hB _
end Go.Proofs.YtkcmghlhpbepcaaGreatDoor
