/- Lemmas and walks, part 7. -/
import Derived.Test.YtkcmghlhpbepcaaGreatDoorT75
import Derived.Test.YtkcmghlhpbepcaaGreatDoorT76
import Derived.WalkLawsBesides
import Derived.Lib.IfaceNeq
set_option linter.unusedVariables false
set_option linter.unusedSimpArgs false
set_option maxHeartbeats 8000000
set_option maxRecDepth 100000
namespace Go.Proofs.YtkcmghlhpbepcaaGreatDoor
open Go.RowKit Go.Proofs
def kP(c:Nat):Nat:=if c≤57 then c - 48 else if 97≤c then c - 87 else c - 55
def kG(base:Nat):Nat→List UInt8→Nat
 |n,[]=>n
 |n,c::l=>kG base (n * base+kP c.toNat) l
def lg(base:Nat)(l:List UInt8):Nat:=kG base 0 l
theorem Au(base:Nat)(hb:1≤base)(l:List UInt8):∀n,n≤kG base n l:=by
 induction l with
 |nil=>intro n;exact Nat.le_refl _
 |cons c l ih=>
  intro n;refine Nat.le_trans ?_ (ih (n * base+kP c.toNat));have:n * 1≤n * base:=Nat.mul_le_mul_left n hb;omega
theorem Gf(c:Int)(h:97≤c∧c≤102):Go.bits .or .u8 c 32=c:=by
 have:c=97∨c=98∨c=99∨c=100∨c=101∨c=102:=by omega
 rcases this with rfl|rfl|rfl|rfl|rfl|rfl<;>decide
theorem Gg(c:Int)(h:65≤c∧c≤70):Go.bits .or .u8 c 32=c+32:=by
 have:c=65∨c=66∨c=67∨c=68∨c=69∨c=70:=by omega
 rcases this with rfl|rfl|rfl|rfl|rfl|rfl<;>decide
theorem zh(c:Int)(w:World):
 Calls Tryz.prog 251 #[.int .u8 c] w fun e w'=>e=.returned (.int .u8 (Go.bits .or .u8 c 32))∧w=w':=by
 go_enter Tryz.func251,Tryz.ntmps251;go_wp2;go_ret;exact⟨rfl,rfl⟩
def pU(T:TypeId)(N:Nat):Value:=if N<18446744073709551616 then .tuple #[.int .u64 N,.nilIface]else .tuple #[.int .u64 18446744073709551615,.iface T (.int .i64 1)]
theorem pU_ok{T:TypeId}{N:Nat}(h:N<18446744073709551616):pU T N=.tuple #[.int .u64 N,.nilIface]:=if_pos h
theorem wG{T:TypeId}{N:Nat}(h:18446744073709551616≤N):pU T N=.tuple #[.int .u64 18446744073709551615,.iface T (.int .i64 1)]:=if_neg (by omega)
theorem vX(base n:Nat)(c:UInt8)(l:List UInt8):kG base n (c::l)=kG base (n * base+kP c.toNat) l:=rfl
theorem GJ{base:Nat}{s:Bt}(h:iU base s.toList=true){k:Nat}(hk:k<s.size):Av base (s.data.toList.getD k 0).toNat=true:=by
 unfold iU at h;rw[Bool.and_eq_true,List.all_eq_true,Lib.toList_data]at h;have e:s.data.toList.getD k 0=s.data.toList[k]'(by simpa using hk):=by simp[List.getD,hk]
 rw[e];exact h.1 _ (List.getElem_mem _)
theorem zB{base:Nat}{s:Bt}(h:iU base s.toList=true):s.toList.isEmpty=false:=by
 unfold iU at h;rw[Bool.and_eq_true]at h;simpa using h.2
theorem uJ(t:Bt)(hd:iU 10 t.toList=true)(hmax:t.size≤9223372036854775806)(w:World):
 Calls Tryz.prog 246 #[.string t,.int .i64 10,.int .i64 64] w fun e w'=>e=.returned (pU 187 (lg 10 t.data.toList))∧Below w.heap.size w w':=by
 have hemp:t.toList.isEmpty=false:=zB hd;have hdig:=Lib.hid (fun k (hk:k<t.size)=>GJ hd hk);clear hd;have hcv:=Lib.run_convert_string_bytes (P:=Tryz.prog) w 9 43 5 t (u:=.string) Tryz.underlying9 Tryz.underlying43 Tryz.underlying5;have hB:∀j,j<t.size→(Lib.bytesWorld w 5 t).cell? ⟨w.heap.size,j,none⟩=some (.int .u8 (t.data.toList.getD j 0).toNat):=fun j hj=>Lib.bytesWorld_cell w 5 t j hj
 have hbel:=Lib.bytesWorld_below w 5 t;obtain⟨W1,hW1⟩:∃W1,W1=Lib.bytesWorld w 5 t:=⟨_,rfl⟩
 rw[←hW1]at hcv hB hbel;clear hW1;have hLn:t.data.toList.length=t.size:=by simp
 have hLn1:t.data.toList.length≤t.size:=by omega
 have hLn2:t.size≤t.data.toList.length:=by omega
 clear hLn;generalize t.data.toList=bs at *
 have hmv:IntKind.u64.wrap (IntKind.u64.wrap 18446744073709551616 - 1)=18446744073709551615:=by
  rw[IntKind.wrap_u64,IntKind.wrap_u64]
  decide
 go_enter Tryz.func246,Tryz.ntmps246;go_wp2
 go_loop [12,13,101] (fun vu vn vi=>∃(k acc:Nat) (a:Int),vu=.bool false∧vn=.int .u64 a∧vi=.int .i64 k∧k≤t.size∧Hid (a=(acc:Int)∧acc<18446744073709551616∧lg 10 bs=kG 10 acc (bs.drop k)))
  (fun _ _ vi=>t.size - (intOf vi).toNat)
 case atStart=>exact⟨0,0,0,rfl,rfl,rfl,by omega,rfl,by omega,rfl⟩
 case round=>
  obtain⟨k,acc,a,rfl,rfl,rfl,hk,hh⟩:=hrel;obtain⟨ha,hacc,hdec⟩:=hh.out;clear hh;have a0:0≤a:=by omega
  have a1:a<18446744073709551616:=by omega
  by_cases hkn:k<t.size
  ·have hc:=hB k hkn
   have hdg:=hdig.out k hkn;have hdrop:bs.drop k=bs[k]'(by omega)::bs.drop (k+1):=List.drop_eq_getElem_cons (by omega);have hget:bs.getD k 0=bs[k]'(by omega):=by simp[List.getD,List.getElem?_eq_getElem (show k<bs.length by omega)]
   rw[hdrop,vX]at hdec;rw[hget]at hc hdg;generalize bs[k]'(by omega)=c at hc hdec hdg;have hc256:c.toNat<256:=c.toNat_lt;generalize c.toNat=n at *;clear hB hdrop hget hdig;have hge:=Au 10 (by omega) (bs.drop (k+1)) (acc * 10+kP n);have hdg':=of_decide_eq_true hdg;clear hdg;obtain⟨hd0,hd1⟩:(48:Int)≤n∧(n:Int)≤57:=by omega
   clear hdg';have hV:kP n=n - 48:=by unfold kP;rw[if_pos (by omega)]
   by_cases hcut:1844674407370955162≤acc
   ·have hP:=Lib.hid (show pU 187 (lg 10 bs)=.tuple #[.int .u64 18446744073709551615,.iface 187 (.int .i64 1)]from wG (by omega))
    have icut:1844674407370955162≤a:=by omega
    clear hcut hacc hdec hge ha hV;go_wp2
    all_goals first|(exfalso;omega)|skip
    go_ret2
    exact⟨by rw[hP.out];rfl,hbel⟩
   ·have icut:a<1844674407370955162:=by omega
    by_cases hov:18446744073709551616≤acc * 10+kP n
    ·have hP:=Lib.hid (show pU 187 (lg 10 bs)=.tuple #[.int .u64 18446744073709551615,.iface 187 (.int .i64 1)]from wG (by omega))
     have iov:18446744073709551616≤a * 10+((n:Int) - 48):=by omega
     have hwr:IntKind.u64.wrap (a * 10+((n:Int) - 48))=a * 10+((n:Int) - 48) - 18446744073709551616:=by
      rw[IntKind.wrap_u64];omega
     clear hcut hacc hov ha hdec hge hV;go_wp2
     go_ret2
     exact⟨by rw[hP.out];rfl,hbel⟩
    ·have HN:Hid (a * 10+((n:Int) - 48)=((acc * 10+kP n:Nat):Int)∧acc * 10+kP n<18446744073709551616∧lg 10 bs=kG 10 (acc * 10+kP n) (bs.drop (k+1))):=Lib.hid ⟨by omega,by omega,hdec⟩
     have iov:a * 10+((n:Int) - 48)<18446744073709551616:=by omega
     clear hcut hacc hov hdec ha hge hV;go_wp2
     all_goals first|(exfalso;omega)|skip
     refine⟨⟨k+1,acc * 10+kP n,a * 10+((n:Int) - 48),rfl,(by first|rfl|(congr 1;omega)),(by first|rfl|(congr 1;omega)),by omega,HN⟩,by simp[intOf];omega⟩
  ·have hkk:k=t.size:=by omega
   subst hkk;have hF:kG 10 acc (bs.drop t.size)=acc:=by rw[List.drop_eq_nil_of_le (by omega)];rfl
   rw[hF]at hdec;have hP:=Lib.hid (show pU 187 (lg 10 bs)=.tuple #[.int .u64 a,.nilIface] by rw[hdec,pU_ok hacc,ha]);clear hacc hF hdec ha hdig hB;go_wp2
   go_ret2
   exact⟨by rw[hP.out];rfl,hbel⟩
theorem uK(t:Bt)(hd:iU 16 t.toList=true)(hmax:t.size≤9223372036854775806)(w:World):
 Calls Tryz.prog 246 #[.string t,.int .i64 16,.int .i64 64] w fun e w'=>e=.returned (pU 187 (lg 16 t.data.toList))∧Below w.heap.size w w':=by
 have hemp:t.toList.isEmpty=false:=zB hd;have hdig:=Lib.hid (fun k (hk:k<t.size)=>GJ hd hk);clear hd;have hcv:=Lib.run_convert_string_bytes (P:=Tryz.prog) w 9 43 5 t (u:=.string) Tryz.underlying9 Tryz.underlying43 Tryz.underlying5;have hB:∀j,j<t.size→(Lib.bytesWorld w 5 t).cell? ⟨w.heap.size,j,none⟩=some (.int .u8 (t.data.toList.getD j 0).toNat):=fun j hj=>Lib.bytesWorld_cell w 5 t j hj
 have hbel:=Lib.bytesWorld_below w 5 t;obtain⟨W1,hW1⟩:∃W1,W1=Lib.bytesWorld w 5 t:=⟨_,rfl⟩
 rw[←hW1]at hcv hB hbel;clear hW1;have hLn:t.data.toList.length=t.size:=by simp
 have hLn1:t.data.toList.length≤t.size:=by omega
 have hLn2:t.size≤t.data.toList.length:=by omega
 clear hLn;generalize t.data.toList=bs at *
 have hmv:IntKind.u64.wrap (IntKind.u64.wrap 18446744073709551616 - 1)=18446744073709551615:=by
  rw[IntKind.wrap_u64,IntKind.wrap_u64]
  decide
 go_enter Tryz.func246,Tryz.ntmps246;go_wp2
 go_loop [12,13,101] (fun vu vn vi=>∃(k acc:Nat) (a:Int),vu=.bool false∧vn=.int .u64 a∧vi=.int .i64 k∧k≤t.size∧Hid (a=(acc:Int)∧acc<18446744073709551616∧lg 16 bs=kG 16 acc (bs.drop k)))
  (fun _ _ vi=>t.size - (intOf vi).toNat)
 case atStart=>exact⟨0,0,0,rfl,rfl,rfl,by omega,rfl,by omega,rfl⟩
 case round=>
  obtain⟨k,acc,a,rfl,rfl,rfl,hk,hh⟩:=hrel;obtain⟨ha,hacc,hdec⟩:=hh.out;clear hh;have a0:0≤a:=by omega
  have a1:a<18446744073709551616:=by omega
  by_cases hkn:k<t.size
  ·have hc:=hB k hkn
   have hdg:=hdig.out k hkn;have hdrop:bs.drop k=bs[k]'(by omega)::bs.drop (k+1):=List.drop_eq_getElem_cons (by omega);have hget:bs.getD k 0=bs[k]'(by omega):=by simp[List.getD,List.getElem?_eq_getElem (show k<bs.length by omega)]
   rw[hdrop,vX]at hdec;rw[hget]at hc hdg;generalize bs[k]'(by omega)=c at hc hdec hdg;have hc256:c.toNat<256:=c.toNat_lt;generalize c.toNat=n at *;clear hB hdrop hget hdig;have hge:=Au 16 (by omega) (bs.drop (k+1)) (acc * 16+kP n);have hdg':=of_decide_eq_true hdg;clear hdg;have hdg'':(48≤n∧n≤57)∨(97≤n∧n≤102)∨(65≤n∧n≤70):=by omega
   clear hdg'
   rcases hdg'' with h|h|h
   ·obtain⟨hd0,hd1⟩:(48:Int)≤n∧(n:Int)≤57:=by omega
    clear h;have hV:kP n=n - 48:=by unfold kP;rw[if_pos (by omega)]
    by_cases hcut:1152921504606846976≤acc
    ·have hP:=Lib.hid (show pU 187 (lg 16 bs)=.tuple #[.int .u64 18446744073709551615,.iface 187 (.int .i64 1)]from wG (by omega))
     have icut:1152921504606846976≤a:=by omega
     clear hcut hacc hdec hge ha hV;go_wp2
     all_goals first|(exfalso;omega)|skip
     go_ret2
     exact⟨by rw[hP.out];rfl,hbel⟩
    ·have icut:a<1152921504606846976:=by omega
     by_cases hov:18446744073709551616≤acc * 16+kP n
     ·exfalso;omega
     ·have HN:Hid (a * 16+((n:Int) - 48)=((acc * 16+kP n:Nat):Int)∧acc * 16+kP n<18446744073709551616∧lg 16 bs=kG 16 (acc * 16+kP n) (bs.drop (k+1))):=Lib.hid ⟨by omega,by omega,hdec⟩
      have iov:a * 16+((n:Int) - 48)<18446744073709551616:=by omega
      clear hcut hacc hov hdec ha hge hV;go_wp2
      all_goals first|(exfalso;omega)|skip
      refine⟨⟨k+1,acc * 16+kP n,a * 16+((n:Int) - 48),rfl,(by first|rfl|(congr 1;omega)),(by first|rfl|(congr 1;omega)),by omega,HN⟩,by simp[intOf];omega⟩
   ·obtain⟨hd0,hd1⟩:(97:Int)≤n∧(n:Int)≤102:=by omega
    clear h;have hV:kP n=n - 87:=by unfold kP;rw[if_neg (by omega),if_pos (by omega)]
    have hlow:Go.bits .or .u8 (n:Int) 32=n:=Gf n (by omega)
    by_cases hcut:1152921504606846976≤acc
    ·have hP:=Lib.hid (show pU 187 (lg 16 bs)=.tuple #[.int .u64 18446744073709551615,.iface 187 (.int .i64 1)]from wG (by omega))
     have icut:1152921504606846976≤a:=by omega
     clear hcut hacc hdec hge ha hV
     go_wp2_with(go_at_call 251;refine(zh _ _).mono ?_;rintro e w' ⟨rfl,rfl⟩;try simp only[hlow])
     all_goals first|(exfalso;omega)|skip
     go_ret2
     exact⟨by rw[hP.out];rfl,hbel⟩
    ·have icut:a<1152921504606846976:=by omega
     by_cases hov:18446744073709551616≤acc * 16+kP n
     ·exfalso;omega
     ·have HN:Hid (a * 16+((n:Int) - 87)=((acc * 16+kP n:Nat):Int)∧acc * 16+kP n<18446744073709551616∧lg 16 bs=kG 16 (acc * 16+kP n) (bs.drop (k+1))):=Lib.hid ⟨by omega,by omega,hdec⟩
      have iov:a * 16+((n:Int) - 87)<18446744073709551616:=by omega
      clear hcut hacc hov hdec ha hge hV
      go_wp2_with(go_at_call 251;refine(zh _ _).mono ?_;rintro e w' ⟨rfl,rfl⟩;try simp only[hlow])
      all_goals first|(exfalso;omega)|skip
      refine⟨⟨k+1,acc * 16+kP n,a * 16+((n:Int) - 87),rfl,(by first|rfl|(congr 1;omega)),(by first|rfl|(congr 1;omega)),by omega,HN⟩,by simp[intOf];omega⟩
   ·obtain⟨hd0,hd1⟩:(65:Int)≤n∧(n:Int)≤70:=by omega
    clear h;have hV:kP n=n - 55:=by unfold kP;rw[if_neg (by omega),if_neg (by omega)]
    have hlow:Go.bits .or .u8 (n:Int) 32=n+32:=Gg n (by omega)
    by_cases hcut:1152921504606846976≤acc
    ·have hP:=Lib.hid (show pU 187 (lg 16 bs)=.tuple #[.int .u64 18446744073709551615,.iface 187 (.int .i64 1)]from wG (by omega))
     have icut:1152921504606846976≤a:=by omega
     clear hcut hacc hdec hge ha hV
     go_wp2_with(go_at_call 251;refine(zh _ _).mono ?_;rintro e w' ⟨rfl,rfl⟩;try simp only[hlow])
     all_goals first|(exfalso;omega)|skip
     go_ret2
     exact⟨by rw[hP.out];rfl,hbel⟩
    ·have icut:a<1152921504606846976:=by omega
     by_cases hov:18446744073709551616≤acc * 16+kP n
     ·exfalso;omega
     ·have HN:Hid (a * 16+((n:Int) - 55)=((acc * 16+kP n:Nat):Int)∧acc * 16+kP n<18446744073709551616∧lg 16 bs=kG 16 (acc * 16+kP n) (bs.drop (k+1))):=Lib.hid ⟨by omega,by omega,hdec⟩
      have iov:a * 16+((n:Int) - 55)<18446744073709551616:=by omega
      clear hcut hacc hov hdec ha hge hV
      go_wp2_with(go_at_call 251;refine(zh _ _).mono ?_;rintro e w' ⟨rfl,rfl⟩;try simp only[hlow])
      all_goals first|(exfalso;omega)|skip
      refine⟨⟨k+1,acc * 16+kP n,a * 16+((n:Int) - 55),rfl,(by first|rfl|(congr 1;omega)),(by first|rfl|(congr 1;omega)),by omega,HN⟩,by simp[intOf];omega⟩
  ·have hkk:k=t.size:=by omega
   subst hkk;have hF:kG 16 acc (bs.drop t.size)=acc:=by rw[List.drop_eq_nil_of_le (by omega)];rfl
   rw[hF]at hdec;have hP:=Lib.hid (show pU 187 (lg 16 bs)=.tuple #[.int .u64 a,.nilIface] by rw[hdec,pU_ok hacc,ha]);clear hacc hF hdec ha hdig hB;go_wp2
   go_ret2
   exact⟨by rw[hP.out];rfl,hbel⟩
structure Std (w:World):Prop where
 maxLen:∃m,w.cell? ⟨2,0,none⟩=some (.int .i64 m)
 errRange:∃te pe,w.cell? ⟨4,0,none⟩=some (.iface te pe)
 tabs:Lib.Utf8Tabs 0 1 w
theorem block_lt{w:World}{a:Addr}{v:Value}(h:w.cell? a=some v):a.block<w.heap.size:=by
 rcases Nat.lt_or_ge a.block w.heap.size with h'|h'
 ·exact h'
 ·simp[World.cell?,Array.getElem?_eq_none h']at h
theorem dG{w w':World}{a:Addr}{v:Value}(h:w.cell? a=some v)(hb:Below w.heap.size w w'):w'.cell? a=some v:=(hb.cell (block_lt h)).trans h
theorem Std.below{w w':World}(h:Std w)(hb:Below w.heap.size w w'):Std w':=by
 obtain⟨⟨m,hm⟩,⟨te,pe,he⟩,h1,h2⟩:=h;exact⟨⟨m,dG hm hb⟩,⟨te,pe,dG he hb⟩,fun c hc=>dG (h1 c hc) hb,fun i hi=>⟨dG (h2 i hi).1 hb,dG (h2 i hi).2 hb⟩⟩
theorem Std.drewN{w:World}(h:Std w)(n:Nat):Std (w.drewN n):=h.below (below_drewN (Below.refl _ _) n)
theorem Std.drew{w:World}(h:Std w):Std w.drew:=h.below (Below.refl _ _).drew
theorem Std.alloc{w:World}(h:Std w)(o:Obj):Std (w.alloc o):=h.below ((Below.refl _ _).alloc (Nat.le_refl _) o)
def zi(l:List UInt8):Int:=
 if l=[97,109,112]then 38 else if l=[108,116]then 60 else if l=[103,116]then 62 else if l=[113,117,111,116]then 34
 else if l=[97,112,111,115]then 39 else if l=[110,98,115,112]then 160 else if l=[99,111,112,121]then 169 else if l=[114,101,103]then 174
 else if l=[112,97,114,97]then 182 else if l=[109,105,100,100,111,116]then 183 else if l=[101,97,99,117,116,101]then 233
 else if l=[97,117,109,108]then 228 else if l=[111,117,109,108]then 246 else if l=[117,117,109,108]then 252 else if l=[115,122,108,105,103]then 223
 else if l=[101,117,114,111]then 8364 else if l=[104,101,108,108,105,112]then 8230 else if l=[110,100,97,115,104]then 8211
 else if l=[109,100,97,115,104]then 8212 else if l=[98,117,108,108]then 8226 else if l=[84,97,98]then 9 else if l=[78,101,119,76,105,110,101]then 10
 else if l=[99,111,108,111,110]then 58 else if l=[108,112,97,114]then 40 else 0
theorem number_c(s:ByteArray)(w:World):
 Calls Tryz.prog 228 #[.string s] w fun e w'=>e=.returned (.int .i32 (zi s.toList))∧w=w':=by
 go_enter Tryz.func228,Tryz.ntmps228;go_wp2
 all_goals go_ret
 all_goals(refine⟨ret_i32 ?_,rfl⟩;simp_all[zi])
def rM(l:List UInt8):List UInt8×Bool:=if zi l=0 then([],false)else((Utf8.encode (zi l)).data.toList,true)
theorem named_c(s:ByteArray)(w:World):
 Calls Tryz.prog 212 #[.string s] w fun e w'=>e=.returned (.tuple #[.string ⟨(rM s.toList).1.toArray⟩,.bool (rM s.toList).2])∧w=w':=by
 go_enter Tryz.func212,Tryz.ntmps212
 go_wp2_with(go_at_call 228;refine(number_c _ _).mono ?_;rintro e w' ⟨rfl,rfl⟩)
 all_goals go_ret2
 all_goals(refine⟨ret_sb ?_ ?_,rfl⟩<;>simp_all[rM])
def codeI(n:Int):Int:=if n<1∨1114111<n∨(55296≤n∧n≤57343)then 65533 else if n=13 then 10 else n
def zC(n:Int):List UInt8:=(Utf8.encode (codeI n)).data.toList
theorem code_c(n:Int)(w:World)(h0: -9223372036854775808≤n)(h1:n≤9223372036854775807):
 Calls Tryz.prog 227 #[.int .i64 n] w fun e w'=>e=.returned (.string ⟨(zC n).toArray⟩)∧w=w':=by
 go_enter Tryz.func227,Tryz.ntmps227;go_wp2
 all_goals go_ret
 all_goals(refine⟨ret_s ?_,rfl⟩)
 all_goals(simp only[zC,codeI];try simp only[beq_iff_eq,beq_eq_false_iff_ne]at *)
 all_goals first
  |(rw[if_pos (by omega)];decide)
  |(rw[if_neg (by omega),if_pos (by omega)])
  |(rw[if_neg (by omega),if_neg (by omega)])
theorem Ew{base:Nat}{s:Bt}(h:iU base s.toList=true):∃(h0:0<s.size),48≤(s[0]'h0).toNat:=by
 have hne:=zB h
 have h0:0<s.size:=by
  rcases Nat.eq_zero_or_pos s.size with e|e
  ·rw[Lib.toList_data]at hne
   have:s.data.toList=[]:=by
    apply List.eq_nil_of_length_eq_zero;simpa using e
   rw[this]at hne;cases hne
  ·exact e
 refine⟨h0,?_⟩;have:=of_decide_eq_true (GJ h h0);have e:s.data.toList.getD 0 0=s[0]'h0:=by simp[List.getD,h0,ByteArray.getElem_eq_getElem_data]
 rw[e]at this;omega
theorem JK(base:Nat)(hb:base=10∨base=16)(s:Bt)(hd:iU base s.toList=true)(hs:s.size≤1000000000)(hn:lg base s.data.toList<9223372036854775808)(w:World):
 Calls Tryz.prog 239 #[.string s,.int .i64 base,.int .i64 64] w fun e w'=>e=.returned (.tuple #[.int .i64 (lg base s.data.toList),.nilIface])∧Below w.heap.size w w':=by
 obtain⟨h0,h48⟩:=Ew hd;have hne:=zB hd
 have hc:Calls Tryz.prog 246 #[.string s,.int .i64 base,.int .i64 64] w fun e w'=>e=.returned (pU 187 (lg base s.data.toList))∧Below w.heap.size w w':=by
  rcases hb with rfl|rfl
  ·exact uJ s hd (by omega) w
  ·exact uK s hd (by omega) w
 rw[pU_ok (by omega)]at hc;obtain⟨a,ha⟩:∃a:Int,a=(lg base s.data.toList:Nat):=⟨_,rfl⟩
 rw[←ha]at hc⊢;have hc:=Lib.hid hc;rename_i hc0;clear hc0;have hni:a<9223372036854775808:=by omega
 have hn0:0≤a:=by omega
 clear ha hn;have h48i:(48:Int)≤(s[0]'h0).toNat:=by omega
 clear hb hd h48;generalize (base:Int)=b at *;have hmv:IntKind.u64.wrap 9223372036854775808=9223372036854775808:=by rw[IntKind.wrap_u64];decide
 go_enter Tryz.func239,Tryz.ntmps239
 go_wp2_with(go_at_call 246;refine hc.out.mono ?_;rintro e w' ⟨rfl,hb1⟩)
 all_goals first|(exfalso;omega)|skip
 go_ret2
 exact⟨rfl,hb1⟩
theorem GK(base:Nat)(hb:base=10∨base=16)(s:Bt)(hd:iU base s.toList=true)(hs:s.size≤1000000000)(hn:9223372036854775808≤lg base s.data.toList)(w:World):
 Calls Tryz.prog 239 #[.string s,.int .i64 base,.int .i64 64] w fun e w'=>e=.returned (.tuple #[.int .i64 9223372036854775807,.iface 187 (.int .i64 1)])∧Below w.heap.size w w':=by
 obtain⟨h0,h48⟩:=Ew hd;have hne:=zB hd
 have hc:Calls Tryz.prog 246 #[.string s,.int .i64 base,.int .i64 64] w fun e w'=>e=.returned (pU 187 (lg base s.data.toList))∧Below w.heap.size w w':=by
  rcases hb with rfl|rfl
  ·exact uJ s hd (by omega) w
  ·exact uK s hd (by omega) w
 by_cases hlt:lg base s.data.toList<18446744073709551616
 ·rw[pU_ok hlt]at hc
  obtain⟨a,ha⟩:∃a:Int,a=(lg base s.data.toList:Nat):=⟨_,rfl⟩
  rw[←ha]at hc;have hc:=Lib.hid hc;rename_i hc0;clear hc0;have hni:9223372036854775808≤a:=by omega
  have hn0:a<18446744073709551616:=by omega
  clear ha hn hlt;have h48i:(48:Int)≤(s[0]'h0).toNat:=by omega
  clear hb hd h48;generalize (base:Int)=b at *;have hmv:IntKind.u64.wrap 9223372036854775808=9223372036854775808:=by rw[IntKind.wrap_u64];decide
  go_enter Tryz.func239,Tryz.ntmps239
  go_wp2_with(go_at_call 246;refine hc.out.mono ?_;rintro e w' ⟨rfl,hb1⟩)
  all_goals first|(exfalso;omega)|skip
  go_ret2
  exact⟨rfl,hb1⟩
 ·rw[wG (by omega)]at hc
  have hc:=Lib.hid hc;rename_i hc0;clear hc0 hn hlt;have hq1:∀W,(binOp .neq 109 (.iface 187 (.int .i64 1)) (.iface 187 (.int .i64 1))).run Tryz.prog W=.ok (.bool false) W:=fun W=>Lib.run_neq_iface_int W 1 1 Tryz.underlying109 (by kernel_rfl) Tryz.underlying187
  have h48i:(48:Int)≤(s[0]'h0).toNat:=by omega
  clear hb hd h48;generalize (base:Int)=b at *;have hmv:IntKind.u64.wrap 9223372036854775808=9223372036854775808:=by rw[IntKind.wrap_u64];decide
  go_enter Tryz.func239,Tryz.ntmps239
  go_wp2_with(go_at_call 246;refine hc.out.mono ?_;rintro e w' ⟨rfl,hb1⟩)
  all_goals first|(exfalso;omega)|skip
  go_ret2
  exact⟨rfl,hb1⟩
theorem parse_ok(base:Nat)(hb:base=10∨base=16)(s:Bt)(hd:iU base s.toList=true)(hs:s.size≤1000000000)(hn:lg base s.data.toList<9223372036854775808)(w:World):
 Calls Tryz.prog 226 #[.string s,.int .i64 base,.int .i64 64] w fun e w'=>e=.returned (.tuple #[.int .i64 (lg base s.data.toList),.nilIface])∧Below w.heap.size w w':=by
 have hc:=Lib.hid (JK base hb s hd hs hn w);generalize lg base s.data.toList=n at *;generalize (base:Int)=b at *;generalize (n:Int)=a at *;clear hn;go_enter Tryz.func226,Tryz.ntmps226
 go_wp2_with(go_at_call 239;refine hc.out.mono ?_;rintro e w' ⟨rfl,hb1⟩)
 go_ret2
 exact⟨rfl,hb1⟩
def PBig(w:World)(e:Ending)(w':World):Prop:=∃p,e=.returned (.tuple #[.int .i64 9223372036854775807,.iface 190 (.pointer (some p))])∧Below w.heap.size w w'
theorem JL(base:Nat)(hb:base=10∨base=16)(s:Bt)(hd:iU base s.toList=true)(hs:s.size≤1000000000)(hn:9223372036854775808≤lg base s.data.toList)(w:World)(hS:Std w):
 Calls Tryz.prog 226 #[.string s,.int .i64 base,.int .i64 64] w (PBig w):=by
 have hc:=Lib.hid (GK base hb s hd hs hn w);generalize (base:Int)=b at *;clear hn;go_enter Tryz.func226,Tryz.ntmps226
 go_wp2_with(go_at_call 239;refine hc.out.mono ?_;rintro e w1 ⟨rfl,hb1⟩)
 obtain⟨te,pe,hev⟩:=(hS.below hb1).errRange;refine(Tryz.strconv_toError_range _ s _ _ (.iface te pe) w1 (by omega) hev (.inr ⟨_,_,rfl⟩)).mono ?_;rintro e w2 ⟨q,rfl,_,_,hb2⟩;go_wp2
 go_ret2
 exact⟨_,rfl,mh hb1 hb2⟩
def jR(base:Nat)(l:List UInt8):List UInt8×Bool:=if iU base l then(zC (lg base l),true)else([],false)
theorem JM(n:Int)(h:1114111<n):zC n=[239,191,189]:=by
 unfold zC codeI;rw[if_pos (by omega)]
 decide
theorem coded_c(base:Nat)(hb:base=10∨base=16)(s:Bt)(hs:s.size≤1000000000)(w:World)(hS:Std w):
 Calls Tryz.prog 211 #[.string s,.int .i64 base] w fun e w'=>e=.returned (.tuple #[.string ⟨(jR base s.toList).1.toArray⟩,.bool (jR base s.toList).2])∧Below w.heap.size w w':=by
 cases hd:iU base s.toList with
 |false=>
  have e1:jR base s.toList=([],false):=by unfold jR;rw[hd];rfl
  rw[e1];have hc:=Lib.hid (Ey base hb s w (by omega));clear e1;generalize (base:Int)=b at *;go_enter Tryz.func211,Tryz.ntmps211
  go_wp2_with(go_at_call 225;refine hc.out.mono ?_;rintro e w1 ⟨rfl,hb1⟩)
  go_ret2
  exact⟨rfl,hb1⟩
 |true=>
  have e1:jR base s.toList=(zC (lg base s.toList),true):=by unfold jR;rw[hd];rfl
  rw[e1,Lib.toList_data];have hc:=Lib.hid (Ey base hb s w (by omega))
  by_cases hn:lg base s.data.toList<9223372036854775808
  ·have hp:=Lib.hid (fun W=>parse_ok base hb s hd hs hn W)
   clear e1;generalize lg base s.data.toList=n at *;obtain⟨a,ha⟩:∃a:Int,a=(n:Nat):=⟨_,rfl⟩
   rw[←ha]at hp⊢;have a0:0≤a:=by omega
   have a1:a<9223372036854775808:=by omega
   clear ha hn;generalize (base:Int)=b at *;go_enter Tryz.func211,Tryz.ntmps211
   go_wp2_with(first
    |(go_at_call 225;refine hc.out.mono ?_;rintro e w1 ⟨rfl,hb1⟩)
    |(go_at_call 226;refine(hp.out _).mono ?_;rintro e w2 ⟨rfl,hb2⟩)
    |(go_at_call 227;refine(code_c _ _ (by omega) (by omega)).mono ?_;rintro e w3 ⟨rfl,rfl⟩))
   go_ret2
   exact⟨rfl,mh hb1 hb2⟩
  ·have hp:=Lib.hid (fun W hS=>JL base hb s hd hs (by omega) W hS)
   rw[JM _ (by omega)];clear e1 hn;generalize (base:Int)=b at *;go_enter Tryz.func211,Tryz.ntmps211
   go_wp2_with(first
    |(go_at_call 225;refine hc.out.mono ?_;rintro e w1 ⟨rfl,hb1⟩)
    |(go_at_call 226;refine(hp.out _ (hS.below hb1)).mono ?_;rintro e w2 ⟨p,rfl,hb2⟩))
   go_ret2
   exact⟨rfl,mh hb1 hb2⟩
def gI(c:UInt8):List UInt8→List UInt8×List UInt8×Bool
 | []=>([],[],false)
 |x::l=>if x=c then([],l,true)else(x::(gI c l).1,(gI c l).2.1,(gI c l).2.2)
theorem cut_eq(c:UInt8)(l:List UInt8):Lib.cut l [c]=gI c l:=by
 induction l with
 |nil=>rfl
 |cons x l ih=>
  unfold Lib.cut at ih⊢;unfold gI Lib.index
  by_cases h:x=c
  ·subst h
   simp
  ·have hp:List.isPrefixOf [c] (x::l)=false:=by simp[List.isPrefixOf,Ne.symm h]
   rw[hp,if_neg h,←ih];have hge:=Lib.index_ge l [c]
   by_cases h1:Lib.index l [c]= -1
   ·simp[h1]
   ·have h2:0≤Lib.index l [c]:=by omega
    have h3:(Lib.index l [c] +1).toNat=(Lib.index l [c]).toNat+1:=by omega
    have h4:0≤Lib.index l [c] +1:=by omega
    simp[h1,h2,h3,h4]
theorem nJ(c:UInt8)(l:List UInt8):(gI c l).1.length+(gI c l).2.1.length+(if(gI c l).2.2 then 1 else 0)=l.length:=by
 induction l with
 |nil=>rfl
 |cons x l ih=>
  unfold gI
  by_cases h:x=c
  ·simp[h]
  ·simp only[if_neg h,List.length_cons]
   omega
theorem cut1_yes{c:UInt8}{l:List UInt8}(h:(gI c l).2.2=true):l=(gI c l).1++c::(gI c l).2.1:=by
 induction l with
 |nil=>cases h
 |cons x l ih=>
  unfold gI at h⊢
  by_cases e:x=c
  ·simp[e]
  ·simp only[if_neg e]at h⊢
   rw[List.cons_append,←ih h]
theorem Ii{c:UInt8}{l:List UInt8}(h:(gI c l).2.2=false):(gI c l).1=l∧c∉l:=by
 induction l with
 |nil=>exact⟨rfl,by simp⟩
 |cons x l ih=>
  unfold gI at h⊢
  by_cases e:x=c
  ·simp[e]at h
  ·simp only[if_neg e]at h⊢
   exact⟨by rw[(ih h).1],by simp[(ih h).2,Ne.symm e]⟩
theorem cut1_not(c:UInt8)(l:List UInt8):c∉(gI c l).1:=by
 induction l with
 |nil=>simp[gI]
 |cons x l ih=>
  unfold gI
  by_cases e:x=c
  ·simp[e]
  ·simp[if_neg e,ih,Ne.symm e]
def tK(l:List UInt8):Int:=if Lib.hasPrefix l [35,120] ||Lib.hasPrefix l [35,88]then 2 else if Lib.hasPrefix l [35]then 1 else 0
def jD(l:List UInt8):List UInt8×Bool:=if tK l=2 then jR 16 (l.drop 2)else if tK l=1 then jR 10 l.tail else rM l
theorem enc_len(n:Int):(Utf8.encode n).data.toList.length≤4:=by
 have:=encode_size_le n
 rwa [Lib.size_eq]at this
theorem GN(l:List UInt8):(jD l).1.length≤4:=by
 unfold jD jR rM zC
 repeat' split
 all_goals first|exact enc_len _|simp
def iY:List UInt8→List UInt8
 | []=>[]
 |c::l=>if c=38 then(if(gI 59 l).2.2&&(jD (gI 59 l).1).2 then(jD (gI 59 l).1).1++iY (gI 59 l).2.1 else 38::iY l)else c::iY l
termination_by l=>l.length
decreasing_by
 all_goals simp only[List.length_cons]
 all_goals have:=nJ 59 l
 all_goals omega
theorem decL_nil:iY []=[]:=by rw[iY]
theorem wH(c:UInt8)(l:List UInt8):iY (c::l)=if c=38 then(if(gI 59 l).2.2&&(jD (gI 59 l).1).2 then(jD (gI 59 l).1).1++iY (gI 59 l).2.1 else 38::iY l)else c::iY l:=by rw[iY]
theorem zD(a l:List UInt8)(h:(38:UInt8)∉a):iY (a++l)=a++iY l:=by
 induction a with
 |nil=>rfl
 |cons x a ih=>
  rw[List.cons_append,wH,if_neg (fun e=>h (by simp[e])),ih (fun e=>h (by simp[e])),List.cons_append]
theorem JO{l:List UInt8}(h:(38:UInt8)∉l):iY l=l:=by
 have:=zD l [] h;simpa [decL_nil]using this
theorem JQ{l:List UInt8}(h:(gI 38 l).2.2=false):iY l=(gI 38 l).1:=by
 rw[(Ii h).1];exact JO (Ii h).2
theorem decL_hit{l:List UInt8}(h:(gI 38 l).2.2=true):iY l=(gI 38 l).1++iY (38::(gI 38 l).2.1):=by
 conv=>lhs;rw[cut1_yes h]
 exact zD _ _ (cut1_not 38 l)
theorem decL_ref{l:List UInt8}(h1:(gI 59 l).2.2=true)(h2:(jD (gI 59 l).1).2=true):iY (38::l)=(jD (gI 59 l).1).1++iY (gI 59 l).2.1:=by
 rw[wH,if_pos rfl,h1,h2];rfl
theorem decL_amp{l:List UInt8}(h:((gI 59 l).2.2&&(jD (gI 59 l).1).2)=false):iY (38::l)=38::iY l:=by
 rw[wH,if_pos rfl,h];rfl
end Go.Proofs.YtkcmghlhpbepcaaGreatDoor
