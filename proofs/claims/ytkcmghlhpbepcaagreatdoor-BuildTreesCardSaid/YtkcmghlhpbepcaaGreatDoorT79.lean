/- Lemmas and walks, part 9. -/
import Derived.Test.YtkcmghlhpbepcaaGreatDoorT78
set_option linter.unusedVariables false
set_option linter.unusedSimpArgs false
set_option maxHeartbeats 8000000
set_option maxRecDepth 100000
namespace Go.Proofs.YtkcmghlhpbepcaaGreatDoor
open Go.RowKit Go.Proofs
def ko(n:Int):Bool:=kM n||n==47||n==62
def op1I(n:Int):Bool:=!kM n&&n !=47
def at1I(n:Int):Bool:=ko n||n==61
def at2I(n:Int):Bool:=!kM n
def at4I(n:Int):Bool:=kM n||n==62
def all1I(n:Int):Bool:=n==60
theorem xQ(c:UInt8):ko c.toNat=dY c:=by
 have:=lQ (p:=fun c=>ko c.toNat==dY c) (by decide +kernel) c;simpa using this
theorem op1I_u8(c:UInt8):op1I c.toNat=(!dQ c&&c !=47):=by
 have:=lQ (p:=fun c=>op1I c.toNat==(!dQ c&&c !=47)) (by decide +kernel) c;simpa using this
theorem at1I_u8(c:UInt8):at1I c.toNat=(dY c||c==61):=by
 have:=lQ (p:=fun c=>at1I c.toNat==(dY c||c==61)) (by decide +kernel) c;simpa using this
theorem Jq(c:UInt8):at2I c.toNat=(!dQ c):=by
 have:=lQ (p:=fun c=>at2I c.toNat==(!dQ c)) (by decide +kernel) c;simpa using this
theorem at4I_u8(c:UInt8):at4I c.toNat=(dQ c||c==62):=by
 have:=lQ (p:=fun c=>at4I c.toNat==(dQ c||c==62)) (by decide +kernel) c;simpa using this
theorem all1I_u8(c:UInt8):all1I c.toNat=(c==60):=by
 have:=lQ (p:=fun c=>all1I c.toNat==(c==60)) (by decide +kernel) c;simpa using this
theorem lH(n:Int)(w:World):
 Calls Tryz.prog 154 #[.int .u8 n] w fun e w'=>e=.returned (.bool (ko n))∧w=w':=by
 have hs:=Lib.hid (fun W=>lS n W);go_enter Tryz.func154,Tryz.ntmps154;cases hb:kM n<;>rw[hb]at hs
 all_goals
  go_wp2_with(go_at_call 128;((with_reducible refine(hs.out _).mono ?_);rintro e w1 ⟨rfl,rfl⟩))
  all_goals go_ret
  all_goals(refine⟨rJ ?_,rfl⟩;simp_all[ko])
theorem op1_i(n:Int)(w:World):
 Calls Tryz.prog 229 #[.int .u8 n] w fun e w'=>e=.returned (.bool (op1I n))∧w=w':=by
 have hs:=Lib.hid (fun W=>lS n W);go_enter Tryz.func229,Tryz.ntmps229;cases hb:kM n<;>rw[hb]at hs
 all_goals
  go_wp2_with(go_at_call 128;((with_reducible refine(hs.out _).mono ?_);rintro e w1 ⟨rfl,rfl⟩))
  all_goals go_ret
  all_goals(refine⟨rJ ?_,rfl⟩;simp_all[op1I])
theorem at1_i(n:Int)(w:World):
 Calls Tryz.prog 241 #[.int .u8 n] w fun e w'=>e=.returned (.bool (at1I n))∧w=w':=by
 have hs:=Lib.hid (fun W=>lH n W);go_enter Tryz.func241,Tryz.ntmps241;cases hb:ko n<;>rw[hb]at hs
 all_goals
  go_wp2_with(go_at_call 154;((with_reducible refine(hs.out _).mono ?_);rintro e w1 ⟨rfl,rfl⟩))
  all_goals go_ret
  all_goals(refine⟨rJ ?_,rfl⟩;simp_all[at1I])
theorem at2_i(n:Int)(w:World):
 Calls Tryz.prog 242 #[.int .u8 n] w fun e w'=>e=.returned (.bool (at2I n))∧w=w':=by
 have hs:=Lib.hid (fun W=>lS n W);go_enter Tryz.func242,Tryz.ntmps242;cases hb:kM n<;>rw[hb]at hs
 all_goals
  go_wp2_with(go_at_call 128;((with_reducible refine(hs.out _).mono ?_);rintro e w1 ⟨rfl,rfl⟩))
  all_goals go_ret
  all_goals(refine⟨rJ ?_,rfl⟩;simp_all[at2I])
theorem at3_i(n:Int)(w:World):
 Calls Tryz.prog 243 #[.int .u8 n] w fun e w'=>e=.returned (.bool (at2I n))∧w=w':=by
 have hs:=Lib.hid (fun W=>lS n W);go_enter Tryz.func243,Tryz.ntmps243;cases hb:kM n<;>rw[hb]at hs
 all_goals
  go_wp2_with(go_at_call 128;((with_reducible refine(hs.out _).mono ?_);rintro e w1 ⟨rfl,rfl⟩))
  all_goals go_ret
  all_goals(refine⟨rJ ?_,rfl⟩;simp_all[at2I])
theorem at4_i(n:Int)(w:World):
 Calls Tryz.prog 244 #[.int .u8 n] w fun e w'=>e=.returned (.bool (at4I n))∧w=w':=by
 have hs:=Lib.hid (fun W=>lS n W);go_enter Tryz.func244,Tryz.ntmps244;cases hb:kM n<;>rw[hb]at hs
 all_goals
  go_wp2_with(go_at_call 128;((with_reducible refine(hs.out _).mono ?_);rintro e w1 ⟨rfl,rfl⟩))
  all_goals go_ret
  all_goals(refine⟨rJ ?_,rfl⟩;simp_all[at4I])
theorem all1_i(n:Int)(w:World):
 Calls Tryz.prog 157 #[.int .u8 n] w fun e w'=>e=.returned (.bool (all1I n))∧w=w':=by
 go_enter Tryz.func157,Tryz.ntmps157;go_wp2;go_ret;exact⟨rfl,rfl⟩
theorem AL{p:UInt8→Bool}{l:Txt}{k:Nat}(hk:k<l.length)(hno:∀j (hj:j<l.length),j<k→p l[j]=false)(hp:p l[k]=true):l.findIdx p=k:=by
 rw[List.findIdx_eq hk];exact⟨hp,fun j hj=>hno j (by omega) hj⟩
theorem uE{p:UInt8→Bool}{l:Txt}(hno:∀j (hj:j<l.length),p l[j]=false):l.findIdx p=l.length:=by
 rw[List.findIdx_eq_length];intro x hx;obtain⟨j,hj,rfl⟩:=List.getElem_of_mem hx;exact hno j hj
theorem Cz(l:Txt)(hl:l.length≤1000000000)(w:World):
 Calls Tryz.prog 156 #[.string ⟨l.toArray⟩,.func (.func 154) #[] #[]] w fun e w'=>e=.returned (.int .i64 (l.findIdx dY:Nat))∧w=w':=by
 go_enter Tryz.func156,Tryz.ntmps156;go_wp2
 go_loop [5,8] (fun _ v=>∃(k:Nat),v=.int .i64 k∧k≤l.length∧Hid (∀j (hj:j<l.length),j<k→dY l[j]=false)) (fun _ v=>l.length - (intOf v).toNat)
 case atStart=>exact⟨0,rfl,by omega,fun j _ h=>by omega⟩
 case round=>
  obtain⟨k,rfl,hk,hno⟩:=hrel
  by_cases hlt:k<l.length
  ·obtain⟨n,hn⟩:∃n,(l[k].toNat:Int)=n:=⟨_,rfl⟩
   have hu:=xQ l[k];rw[hn]at hu;have hc:=Lib.hid (fun W=>lH n W);cases hb:ko n with
   |true=>
    have hf:=Lib.hid (AL (p:=dY) hlt hno.out (hu.symm.trans hb));rw[hb]at hc;clear hu hb
    go_wp2_with(go_at_call 154;((with_reducible refine(hc.out _).mono ?_);rintro e w1 ⟨rfl,rfl⟩))
    go_ret;rw[hf.out];exact⟨rfl,rfl⟩
   |false=>
    have nK:=Lib.hid (show∀j (hj:j<l.length),j<k+1→dY l[j]=false by
     intro j hj hjk
     by_cases e:j=k
     ·subst e;exact hu.symm.trans hb
     ·exact hno.out j hj (by omega))
    rw[hb]at hc;clear hu hb hno
    go_wp2_with(go_at_call 154;((with_reducible refine(hc.out _).mono ?_);rintro e w1 ⟨rfl,rfl⟩))
    refine⟨⟨k+1,rfl,by omega,nK⟩,by simp[intOf];omega⟩
  ·have hf:=Lib.hid (uE (p:=dY) (l:=l) fun j hj=>hno.out j hj (by omega))
   go_wp2;go_ret;rw[hf.out];exact⟨rfl,rfl⟩
theorem span_op1(l:Txt)(hl:l.length≤1000000000)(w:World):
 Calls Tryz.prog 156 #[.string ⟨l.toArray⟩,.func (.func 229) #[] #[]] w fun e w'=>e=.returned (.int .i64 (l.findIdx (fun c=>!dQ c&&c !=47):Nat))∧w=w':=by
 go_enter Tryz.func156,Tryz.ntmps156;go_wp2
 go_loop [5,8] (fun _ v=>∃(k:Nat),v=.int .i64 k∧k≤l.length∧Hid (∀j (hj:j<l.length),j<k→(fun c=>!dQ c&&c !=47) l[j]=false)) (fun _ v=>l.length - (intOf v).toNat)
 case atStart=>exact⟨0,rfl,by omega,fun j _ h=>by omega⟩
 case round=>
  obtain⟨k,rfl,hk,hno⟩:=hrel
  by_cases hlt:k<l.length
  ·obtain⟨n,hn⟩:∃n,(l[k].toNat:Int)=n:=⟨_,rfl⟩
   have hu:=op1I_u8 l[k];rw[hn]at hu;have hc:=Lib.hid (fun W=>op1_i n W);cases hb:op1I n with
   |true=>
    have hf:=Lib.hid (AL (p:=(fun c=>!dQ c&&c !=47)) hlt hno.out (hu.symm.trans hb));rw[hb]at hc;clear hu hb
    go_wp2_with(go_at_call 229;((with_reducible refine(hc.out _).mono ?_);rintro e w1 ⟨rfl,rfl⟩))
    go_ret;rw[hf.out];exact⟨rfl,rfl⟩
   |false=>
    have nK:=Lib.hid (show∀j (hj:j<l.length),j<k+1→(fun c=>!dQ c&&c !=47) l[j]=false by
     intro j hj hjk
     by_cases e:j=k
     ·subst e;exact hu.symm.trans hb
     ·exact hno.out j hj (by omega))
    rw[hb]at hc;clear hu hb hno
    go_wp2_with(go_at_call 229;((with_reducible refine(hc.out _).mono ?_);rintro e w1 ⟨rfl,rfl⟩))
    refine⟨⟨k+1,rfl,by omega,nK⟩,by simp[intOf];omega⟩
  ·have hf:=Lib.hid (uE (p:=(fun c=>!dQ c&&c !=47)) (l:=l) fun j hj=>hno.out j hj (by omega))
   go_wp2;go_ret;rw[hf.out];exact⟨rfl,rfl⟩
theorem nH(l:Txt)(hl:l.length≤1000000000)(w:World):
 Calls Tryz.prog 156 #[.string ⟨l.toArray⟩,.func (.func 241) #[] #[]] w fun e w'=>e=.returned (.int .i64 (l.findIdx (fun c=>dY c||c==61):Nat))∧w=w':=by
 go_enter Tryz.func156,Tryz.ntmps156;go_wp2
 go_loop [5,8] (fun _ v=>∃(k:Nat),v=.int .i64 k∧k≤l.length∧Hid (∀j (hj:j<l.length),j<k→(fun c=>dY c||c==61) l[j]=false)) (fun _ v=>l.length - (intOf v).toNat)
 case atStart=>exact⟨0,rfl,by omega,fun j _ h=>by omega⟩
 case round=>
  obtain⟨k,rfl,hk,hno⟩:=hrel
  by_cases hlt:k<l.length
  ·obtain⟨n,hn⟩:∃n,(l[k].toNat:Int)=n:=⟨_,rfl⟩
   have hu:=at1I_u8 l[k];rw[hn]at hu;have hc:=Lib.hid (fun W=>at1_i n W);cases hb:at1I n with
   |true=>
    have hf:=Lib.hid (AL (p:=(fun c=>dY c||c==61)) hlt hno.out (hu.symm.trans hb));rw[hb]at hc;clear hu hb
    go_wp2_with(go_at_call 241;((with_reducible refine(hc.out _).mono ?_);rintro e w1 ⟨rfl,rfl⟩))
    go_ret;rw[hf.out];exact⟨rfl,rfl⟩
   |false=>
    have nK:=Lib.hid (show∀j (hj:j<l.length),j<k+1→(fun c=>dY c||c==61) l[j]=false by
     intro j hj hjk
     by_cases e:j=k
     ·subst e;exact hu.symm.trans hb
     ·exact hno.out j hj (by omega))
    rw[hb]at hc;clear hu hb hno
    go_wp2_with(go_at_call 241;((with_reducible refine(hc.out _).mono ?_);rintro e w1 ⟨rfl,rfl⟩))
    refine⟨⟨k+1,rfl,by omega,nK⟩,by simp[intOf];omega⟩
  ·have hf:=Lib.hid (uE (p:=(fun c=>dY c||c==61)) (l:=l) fun j hj=>hno.out j hj (by omega))
   go_wp2;go_ret;rw[hf.out];exact⟨rfl,rfl⟩
theorem nI(l:Txt)(hl:l.length≤1000000000)(w:World):
 Calls Tryz.prog 156 #[.string ⟨l.toArray⟩,.func (.func 242) #[] #[]] w fun e w'=>e=.returned (.int .i64 (l.findIdx (fun c=>!dQ c):Nat))∧w=w':=by
 go_enter Tryz.func156,Tryz.ntmps156;go_wp2
 go_loop [5,8] (fun _ v=>∃(k:Nat),v=.int .i64 k∧k≤l.length∧Hid (∀j (hj:j<l.length),j<k→(fun c=>!dQ c) l[j]=false)) (fun _ v=>l.length - (intOf v).toNat)
 case atStart=>exact⟨0,rfl,by omega,fun j _ h=>by omega⟩
 case round=>
  obtain⟨k,rfl,hk,hno⟩:=hrel
  by_cases hlt:k<l.length
  ·obtain⟨n,hn⟩:∃n,(l[k].toNat:Int)=n:=⟨_,rfl⟩
   have hu:=Jq l[k];rw[hn]at hu;have hc:=Lib.hid (fun W=>at2_i n W);cases hb:at2I n with
   |true=>
    have hf:=Lib.hid (AL (p:=(fun c=>!dQ c)) hlt hno.out (hu.symm.trans hb));rw[hb]at hc;clear hu hb
    go_wp2_with(go_at_call 242;((with_reducible refine(hc.out _).mono ?_);rintro e w1 ⟨rfl,rfl⟩))
    go_ret;rw[hf.out];exact⟨rfl,rfl⟩
   |false=>
    have nK:=Lib.hid (show∀j (hj:j<l.length),j<k+1→(fun c=>!dQ c) l[j]=false by
     intro j hj hjk
     by_cases e:j=k
     ·subst e;exact hu.symm.trans hb
     ·exact hno.out j hj (by omega))
    rw[hb]at hc;clear hu hb hno
    go_wp2_with(go_at_call 242;((with_reducible refine(hc.out _).mono ?_);rintro e w1 ⟨rfl,rfl⟩))
    refine⟨⟨k+1,rfl,by omega,nK⟩,by simp[intOf];omega⟩
  ·have hf:=Lib.hid (uE (p:=(fun c=>!dQ c)) (l:=l) fun j hj=>hno.out j hj (by omega))
   go_wp2;go_ret;rw[hf.out];exact⟨rfl,rfl⟩
theorem rH(l:Txt)(hl:l.length≤1000000000)(w:World):
 Calls Tryz.prog 156 #[.string ⟨l.toArray⟩,.func (.func 243) #[] #[]] w fun e w'=>e=.returned (.int .i64 (l.findIdx (fun c=>!dQ c):Nat))∧w=w':=by
 go_enter Tryz.func156,Tryz.ntmps156;go_wp2
 go_loop [5,8] (fun _ v=>∃(k:Nat),v=.int .i64 k∧k≤l.length∧Hid (∀j (hj:j<l.length),j<k→(fun c=>!dQ c) l[j]=false)) (fun _ v=>l.length - (intOf v).toNat)
 case atStart=>exact⟨0,rfl,by omega,fun j _ h=>by omega⟩
 case round=>
  obtain⟨k,rfl,hk,hno⟩:=hrel
  by_cases hlt:k<l.length
  ·obtain⟨n,hn⟩:∃n,(l[k].toNat:Int)=n:=⟨_,rfl⟩
   have hu:=Jq l[k];rw[hn]at hu;have hc:=Lib.hid (fun W=>at3_i n W);cases hb:at2I n with
   |true=>
    have hf:=Lib.hid (AL (p:=(fun c=>!dQ c)) hlt hno.out (hu.symm.trans hb));rw[hb]at hc;clear hu hb
    go_wp2_with(go_at_call 243;((with_reducible refine(hc.out _).mono ?_);rintro e w1 ⟨rfl,rfl⟩))
    go_ret;rw[hf.out];exact⟨rfl,rfl⟩
   |false=>
    have nK:=Lib.hid (show∀j (hj:j<l.length),j<k+1→(fun c=>!dQ c) l[j]=false by
     intro j hj hjk
     by_cases e:j=k
     ·subst e;exact hu.symm.trans hb
     ·exact hno.out j hj (by omega))
    rw[hb]at hc;clear hu hb hno
    go_wp2_with(go_at_call 243;((with_reducible refine(hc.out _).mono ?_);rintro e w1 ⟨rfl,rfl⟩))
    refine⟨⟨k+1,rfl,by omega,nK⟩,by simp[intOf];omega⟩
  ·have hf:=Lib.hid (uE (p:=(fun c=>!dQ c)) (l:=l) fun j hj=>hno.out j hj (by omega))
   go_wp2;go_ret;rw[hf.out];exact⟨rfl,rfl⟩
theorem Es(l:Txt)(hl:l.length≤1000000000)(w:World):
 Calls Tryz.prog 156 #[.string ⟨l.toArray⟩,.func (.func 244) #[] #[]] w fun e w'=>e=.returned (.int .i64 (l.findIdx (fun c=>dQ c||c==62):Nat))∧w=w':=by
 go_enter Tryz.func156,Tryz.ntmps156;go_wp2
 go_loop [5,8] (fun _ v=>∃(k:Nat),v=.int .i64 k∧k≤l.length∧Hid (∀j (hj:j<l.length),j<k→(fun c=>dQ c||c==62) l[j]=false)) (fun _ v=>l.length - (intOf v).toNat)
 case atStart=>exact⟨0,rfl,by omega,fun j _ h=>by omega⟩
 case round=>
  obtain⟨k,rfl,hk,hno⟩:=hrel
  by_cases hlt:k<l.length
  ·obtain⟨n,hn⟩:∃n,(l[k].toNat:Int)=n:=⟨_,rfl⟩
   have hu:=at4I_u8 l[k];rw[hn]at hu;have hc:=Lib.hid (fun W=>at4_i n W);cases hb:at4I n with
   |true=>
    have hf:=Lib.hid (AL (p:=(fun c=>dQ c||c==62)) hlt hno.out (hu.symm.trans hb));rw[hb]at hc;clear hu hb
    go_wp2_with(go_at_call 244;((with_reducible refine(hc.out _).mono ?_);rintro e w1 ⟨rfl,rfl⟩))
    go_ret;rw[hf.out];exact⟨rfl,rfl⟩
   |false=>
    have nK:=Lib.hid (show∀j (hj:j<l.length),j<k+1→(fun c=>dQ c||c==62) l[j]=false by
     intro j hj hjk
     by_cases e:j=k
     ·subst e;exact hu.symm.trans hb
     ·exact hno.out j hj (by omega))
    rw[hb]at hc;clear hu hb hno
    go_wp2_with(go_at_call 244;((with_reducible refine(hc.out _).mono ?_);rintro e w1 ⟨rfl,rfl⟩))
    refine⟨⟨k+1,rfl,by omega,nK⟩,by simp[intOf];omega⟩
  ·have hf:=Lib.hid (uE (p:=(fun c=>dQ c||c==62)) (l:=l) fun j hj=>hno.out j hj (by omega))
   go_wp2;go_ret;rw[hf.out];exact⟨rfl,rfl⟩
theorem J6(l:Txt)(hl:l.length≤1000000000)(w:World):
 Calls Tryz.prog 156 #[.string ⟨l.toArray⟩,.func (.func 157) #[] #[]] w fun e w'=>e=.returned (.int .i64 (l.findIdx (fun c=>c==60):Nat))∧w=w':=by
 go_enter Tryz.func156,Tryz.ntmps156;go_wp2
 go_loop [5,8] (fun _ v=>∃(k:Nat),v=.int .i64 k∧k≤l.length∧Hid (∀j (hj:j<l.length),j<k→(fun c=>c==60) l[j]=false)) (fun _ v=>l.length - (intOf v).toNat)
 case atStart=>exact⟨0,rfl,by omega,fun j _ h=>by omega⟩
 case round=>
  obtain⟨k,rfl,hk,hno⟩:=hrel
  by_cases hlt:k<l.length
  ·obtain⟨n,hn⟩:∃n,(l[k].toNat:Int)=n:=⟨_,rfl⟩
   have hu:=all1I_u8 l[k];rw[hn]at hu;have hc:=Lib.hid (fun W=>all1_i n W);cases hb:all1I n with
   |true=>
    have hf:=Lib.hid (AL (p:=(fun c=>c==60)) hlt hno.out (hu.symm.trans hb));rw[hb]at hc;clear hu hb
    go_wp2_with(go_at_call 157;((with_reducible refine(hc.out _).mono ?_);rintro e w1 ⟨rfl,rfl⟩))
    go_ret;rw[hf.out];exact⟨rfl,rfl⟩
   |false=>
    have nK:=Lib.hid (show∀j (hj:j<l.length),j<k+1→(fun c=>c==60) l[j]=false by
     intro j hj hjk
     by_cases e:j=k
     ·subst e;exact hu.symm.trans hb
     ·exact hno.out j hj (by omega))
    rw[hb]at hc;clear hu hb hno
    go_wp2_with(go_at_call 157;((with_reducible refine(hc.out _).mono ?_);rintro e w1 ⟨rfl,rfl⟩))
    refine⟨⟨k+1,rfl,by omega,nK⟩,by simp[intOf];omega⟩
  ·have hf:=Lib.hid (uE (p:=(fun c=>c==60)) (l:=l) fun j hj=>hno.out j hj (by omega))
   go_wp2;go_ret;rw[hf.out];exact⟨rfl,rfl⟩
def lowI(n:Int):Int:=if 65≤n∧n≤90 then n+32 else n
theorem lowI_u8(c:UInt8):lowI c.toNat=(lowB c).toNat:=by
 have:=lQ (p:=fun c=>decide (lowI c.toNat=(lowB c).toNat)) (by decide +kernel) c;simpa using this
def zL(w:World)(g n:Nat)(f:Nat→Int):Prop:=∀j,j<n→w.cell? ⟨g,j,none⟩=some (.int .u8 (f j))∧w.frozen? ⟨g,j,none⟩=false
def wO(l:Txt)(k j:Nat):Int:=if j<k then lowI (l.getD j 0).toNat else(l.getD j 0).toNat
theorem zL.conv(w:World)(l:Txt):zL (Lib.bytesWorld w 5 ⟨l.toArray⟩) w.heap.size l.length (wO l 0):=by
 intro j hj;refine⟨?_,?_⟩
 ·rw[Lib.bytesWorld_cell _ _ _ _ (by rw[oD];exact hj),fQ]
  rfl
 ·unfold World.frozen?
  rw[Lib.bytesWorld_at_new];have:l.length≤(Lib.bytesCells w 5 ⟨l.toArray⟩).size:=by simp[Lib.bytesCells]
  simp;omega
theorem EG(w:World)(l:Txt):Below w.heap.size w (Lib.bytesWorld w 5 ⟨l.toArray⟩):=
 ⟨rfl,rfl,rfl,by rw[Lib.bytesWorld_size];omega,fun i hi=>Lib.bytesWorld_at_old w _ _ i hi⟩
theorem zL.set{w:World}{g n:Nat}{f f':Nat→Int}(h:zL w g n f)(k:Nat)(v:Int)(hk:f' k=v)(ho:∀j,j≠k→f' j=f j):zL (w.setCell ⟨g,k,none⟩ (.int .u8 v)) g n f':=by
 intro j hj;obtain⟨h1,h2⟩:=h j hj;refine⟨?_,by rw[World.frozen?_setCell];exact h2⟩
 by_cases e:j=k
 ·subst e
  rw[World.cell?_setCell_same _ _ _ h1,hk]
 ·rw[World.cell?_setCell_other _ _ _ _ (by intro e';injection e' with _ e'';omega),ho j e]
  exact h1
theorem zL.same{w:World}{g n:Nat}{f f':Nat→Int}(h:zL w g n f)(ho:∀j,f' j=f j):zL w g n f':=fun j hj=>by rw[ho j];exact h j hj
theorem G5(l:Txt)(k j:Nat)(h:j≠k):wO l (k+1) j=wO l k j:=by
 unfold wO
 by_cases e:j<k
 ·rw[if_pos e,if_pos (by omega)]
 ·rw[if_neg e,if_neg (by omega)]
theorem lowF_at(l:Txt)(k:Nat):wO l (k+1) k=lowI (l.getD k 0).toNat:=by
 unfold wO;rw[if_pos (by omega)]
theorem BG(l:Txt)(k:Nat):wO l k k=(l.getD k 0).toNat:=by
 unfold wO;rw[if_neg (by omega)]
theorem low_conv{w:World}{g cap k:Nat}{l:Txt}(hk:l.length≤k)(h:zL w g l.length (wO l k)):(convert 43 9 (.slice (some ⟨g,0,none⟩) l.length cap)).run Tryz.prog w=.ok (.string ⟨(kQ l).toArray⟩) w:=by
 have hl:(kQ l).length=l.length:=by simp[kQ]
 rw[←hl];refine run_convert_bytes_back (P:=Tryz.prog) w 43 9 5 ⟨g,0,none⟩ cap (kQ l) Tryz.underlying43 Tryz.underlying5 Tryz.underlying9 (fun j hj=>?_);have ha:(⟨g,0,none⟩:Addr).add j=⟨g,j,none⟩:=by unfold Addr.add;split<;>simp_all
 have hj':j<l.length:=by rw[←hl];exact hj
 rw[ha,(h j hj').1];simp[wO,kQ,show j<k by omega,List.getD,hj',lowI_u8]
theorem kR(l:Txt)(hl:l.length≤1000000000)(w:World):
 Calls Tryz.prog 187 #[.string ⟨l.toArray⟩] w fun e w'=>e=.returned (.string ⟨(kQ l).toArray⟩)∧Below w.heap.size w w':=by
 have hcv:=Lib.run_convert_string_bytes (P:=Tryz.prog) w 9 43 5 ⟨l.toArray⟩ Tryz.underlying9 Tryz.underlying43 Tryz.underlying5;have hrow:=zL.conv w l;have hbel:=EG w l;rw[oD]at hcv;generalize Lib.bytesWorld w 5 ⟨l.toArray⟩=w1 at *;generalize grownCap w l.length 0 5=cap at *;go_enter Tryz.func187,Tryz.ntmps187;go_wp2;clear hcv
 go_loopw [4,5,10] (fun _ _ vk wr=>∃(k:Nat),vk=.int .i64 k∧k≤l.length∧zL wr w.heap.size l.length (wO l k)∧Below w.heap.size w wr) (fun _ _ vk _=>l.length - (intOf vk).toNat)
 case atStart=>exact⟨0,rfl,by omega,hrow,hbel⟩
 case round=>
  obtain⟨k,rfl,hk,hI,hbw⟩:=hrel
  by_cases hlt:k<l.length
  ·obtain⟨c1,c2⟩:=hI k hlt
   have hat:=lowF_at l k;have hother:=G5 l k;rw[BG]at c1;obtain⟨n,hn⟩:∃n,((l.getD k 0).toNat:Int)=n:=⟨_,rfl⟩
   rw[hn]at hat c1;have hn0:0≤n:=by omega
   have hn1:n≤255:=by have:=(l.getD k 0).toNat_lt;omega
   have hh:=BG l k;rw[hn]at hh;clear hn;have hst:=Lib.hid (fun(v:Int) (hv:lowI n=v)=>hI.set (f':=wO l (k+1)) k v (by rw[hat];exact hv) hother)
   have hsame:=Lib.hid (fun(hv:lowI n=n)=>hI.same (f':=wO l (k+1)) (fun j=>by
    by_cases e:j=k
    ·subst e;rw[hat,hh,hv]
    ·exact hother j e))
   clear hat hother hh;go_wp2
   all_goals(try simp only[decide_eq_true_eq,decide_eq_false_iff_not]at *)
   all_goals first
    |(refine⟨⟨k+1,rfl,by omega,hst.out _ (by unfold lowI;rw[if_pos ⟨by omega,by omega⟩];omega),hbw.setCell (p:=⟨w.heap.size,k,none⟩) (Nat.le_refl _) _⟩,by simp[intOf];omega⟩)
    |(refine⟨⟨k+1,rfl,by omega,hsame.out (by unfold lowI;rw[if_neg (by omega)]),hbw⟩,by simp[intOf];omega⟩)
  ·have hcv:=low_conv (cap:=cap) (by omega) hI
   go_wp2;go_ret;exact⟨rfl,hbw⟩
def tQ(a b:Txt):Bool:=kQ a==kQ b
theorem qV(a b:Txt)(ha:a.length≤1000000000)(hb:b.length≤1000000000)(w:World):
 Calls Tryz.prog 153 #[.string ⟨a.toArray⟩,.string ⟨b.toArray⟩] w fun e w'=>e=.returned (.bool (tQ a b))∧Below w.heap.size w w':=by
 have h1:=Lib.hid (fun W=>kR a ha W);have h2:=Lib.hid (fun W=>kR b hb W);have hs:(kQ a==kQ b)=tQ a b:=rfl;generalize tQ a b=r at *;generalize kQ a=la at *;generalize kQ b=lb at *;have hB:=Below.refl w.heap.size w;go_enter Tryz.func153,Tryz.ntmps153
 go_wp2_with(go_at_call 187;first
  |((with_reducible refine(h1.out _).mono ?_);rintro e w1 ⟨rfl,hb⟩;replace hB:=mh hB hb;clear hb)
  |((with_reducible refine(h2.out _).mono ?_);rintro e w1 ⟨rfl,hb⟩;replace hB:=mh hB hb;clear hb))
 go_ret;exact⟨rfl,hB⟩
theorem Ay(l:Txt)(w:World):
 Calls Tryz.prog 190 #[.string ⟨l.toArray⟩] w fun e w'=>e=.returned (.bool (jQ l))∧w=w':=by
 cases l with
 |nil=>
  go_enter Tryz.func190,Tryz.ntmps190;go_wp2;go_ret;exact⟨rfl,rfl⟩
 |cons c t=>
  have h1:=Lib.hid (fun n (hn:(c.toNat:Int)=n) W=>EC n W);have hu:uR c.toNat=jQ (c::t):=GZ c;obtain⟨n,hn⟩:∃n,(c.toNat:Int)=n:=⟨_,rfl⟩
  rw[hn]at hu;generalize jQ (c::t)=r at *;go_enter Tryz.func190,Tryz.ntmps190
  go_wp2_with(go_at_call 80;((with_reducible refine(EC _ _).mono ?_);rintro e w1 ⟨rfl,rfl⟩))
  go_ret;exact⟨rfl,rfl⟩
theorem D8{c:UInt8}{t:Txt}(h:dQ c=false):(c::t).dropWhile dQ=c::t:=by rw[List.dropWhile_cons,if_neg (by rw[h];simp)]
theorem D9{c:UInt8}{t:Txt}(h:dQ c=true):(c::t).dropWhile dQ=t.dropWhile dQ:=by rw[List.dropWhile_cons,if_pos h]
theorem AP{s l:Txt}(h:s=l.dropWhile dQ):((s.reverse).dropWhile dQ).reverse=om l:=by rw[h];rfl
theorem rG{c:UInt8}{t:Txt}:(⟨(c::t).toArray⟩:Bt).extract 1 (t.length+1)=⟨t.toArray⟩:=by
 have:=ext_end (c::t) 1;simpa using this
theorem ftrim_c(l:Txt)(hl:l.length≤1000000000)(w:World):
 Calls Tryz.prog 215 #[.string ⟨l.toArray⟩] w fun e w'=>e=.returned (.string ⟨(om l).toArray⟩)∧w=w':=by
 go_enter Tryz.func215,Tryz.ntmps215;go_wp2
 go_loop [0] (fun v=>∃(s:Txt),v=.string ⟨s.toArray⟩∧s.length≤l.length∧Hid (s.dropWhile dQ=l.dropWhile dQ)) (fun v=>zF v)
 case atStart=>exact⟨l,rfl,by omega,rfl⟩
 case round=>
  obtain⟨s,rfl,hk,hdec⟩:=hrel;cases s with
  |nil=>
   have hdec:=Lib.hid (show([] :Txt)=l.dropWhile dQ from hdec.out);rename_i hdec0;clear hdec0
   go_wp2_with fail
   go_loop [0] (fun v=>∃(r:Txt),v=.string ⟨r.reverse.toArray⟩∧r.length≤l.length∧Hid ((r.dropWhile dQ).reverse=om l)) (fun v=>zF v)
   case atStart=>exact⟨[].reverse,by simp,by simp,AP hdec.out⟩
   case round=>
    obtain⟨r,rfl,hk,sI⟩:=hrel;cases r with
    |nil=>
     have he:=Lib.hid (show om l=[]from sI.out.symm);go_wp2;go_ret;rw[he.out];exact⟨rfl,rfl⟩
    |cons c t=>
     obtain⟨n,hn⟩:∃n,(c.toNat:Int)=n:=⟨_,rfl⟩
     have hu:=wL c;rw[hn]at hu;obtain⟨q,hq⟩:∃q,(c::t).reverse=q:=⟨_,rfl⟩
     have hql:q.length=t.length+1:=by rw[←hq];simp
     have hx1:(⟨q.toArray⟩:Bt).extract 0 t.length=⟨t.reverse.toArray⟩:=by
      rw[Lib.extract_eq,fQ,←hq];simp
     have hget:∀(h:t.length<q.length),q[t.length]=c:=by
      intro h;subst hq;simp
     rw[hq];have ht1:t.length≤1000000000:=by simp only[List.length_cons]at hk;omega
     have hql0:(0:Int)<q.length:=by omega
     have hsub:(q.length:Int) - 1=t.length:=by omega
     have hne:q≠[]:=by rw[←hq];simp
     have hbe:(q==[])=false:=by simpa using hne
     cases hb:kM n with
     |true=>
      rw[hb]at hu;have hd:=Lib.hid (show(t.dropWhile dQ).reverse=om l by rw[←D9 hu.symm];exact sI.out);have hc:=Lib.hid (fun W=>lS n W);rw[hb]at hc;clear hu hb sI hq
      go_wp2_with(go_at_call 128;((with_reducible refine(hc.out _).mono ?_);rintro e w1 ⟨rfl,rfl⟩))
      exact⟨⟨t,rfl,by simp only[List.length_cons]at hk;omega,hd⟩,by rw[jN,jN,List.length_reverse];omega⟩
     |false=>
      rw[hb]at hu;have hd:=Lib.hid (show q=om l by rw[←hq,←sI.out,D8 hu.symm]);have hc:=Lib.hid (fun W=>lS n W);rw[hb]at hc;clear hu hb sI hq
      go_wp2_with(go_at_call 128;((with_reducible refine(hc.out _).mono ?_);rintro e w1 ⟨rfl,rfl⟩))
      go_ret;rw[←hd.out];exact⟨rfl,rfl⟩
  |cons c t=>
   obtain⟨n,hn⟩:∃n,(c.toNat:Int)=n:=⟨_,rfl⟩
   have hu:=wL c;rw[hn]at hu;cases hb:kM n with
   |true=>
    rw[hb]at hu;have hd:=Lib.hid (show t.dropWhile dQ=l.dropWhile dQ by rw[←D9 hu.symm];exact hdec.out);have hc:=Lib.hid (fun W=>lS n W);rw[hb]at hc;clear hu hb hdec
    go_wp2_with(go_at_call 128;((with_reducible refine(hc.out _).mono ?_);rintro e w1 ⟨rfl,rfl⟩))
    refine⟨⟨t,by rw[rG],by simp only[List.length_cons]at hk;omega,hd⟩,by rw[rG,jN,jN];simp⟩
   |false=>
    rw[hb]at hu;have hdec:=Lib.hid (show c::t=l.dropWhile dQ by rw[←D8 hu.symm];exact hdec.out);rename_i hdec0;have hc:=Lib.hid (fun W=>lS n W);rw[hb]at hc;clear hu hb hdec0
    go_wp2_with(go_at_call 128;((with_reducible refine(hc.out _).mono ?_);rintro e w1 ⟨rfl,rfl⟩))
    go_loop [0] (fun v=>∃(r:Txt),v=.string ⟨r.reverse.toArray⟩∧r.length≤l.length∧Hid ((r.dropWhile dQ).reverse=om l)) (fun v=>zF v)
    case atStart=>exact⟨(c::t).reverse,by simp,by simpa using hk,AP hdec.out⟩
    case round=>
     obtain⟨r,rfl,hk,sI⟩:=hrel;cases r with
     |nil=>
      have he:=Lib.hid (show om l=[]from sI.out.symm);go_wp2;go_ret;rw[he.out];exact⟨rfl,rfl⟩
     |cons c t=>
      obtain⟨n,hn⟩:∃n,(c.toNat:Int)=n:=⟨_,rfl⟩
      have hu:=wL c;rw[hn]at hu;obtain⟨q,hq⟩:∃q,(c::t).reverse=q:=⟨_,rfl⟩
      have hql:q.length=t.length+1:=by rw[←hq];simp
      have hx1:(⟨q.toArray⟩:Bt).extract 0 t.length=⟨t.reverse.toArray⟩:=by
       rw[Lib.extract_eq,fQ,←hq];simp
      have hget:∀(h:t.length<q.length),q[t.length]=c:=by
       intro h;subst hq;simp
      rw[hq];have ht1:t.length≤1000000000:=by simp only[List.length_cons]at hk;omega
      have hql0:(0:Int)<q.length:=by omega
      have hsub:(q.length:Int) - 1=t.length:=by omega
      have hne:q≠[]:=by rw[←hq];simp
      have hbe:(q==[])=false:=by simpa using hne
      cases hb:kM n with
      |true=>
       rw[hb]at hu;have hd:=Lib.hid (show(t.dropWhile dQ).reverse=om l by rw[←D9 hu.symm];exact sI.out);have hc:=Lib.hid (fun W=>lS n W);rw[hb]at hc;clear hu hb sI hq
       go_wp2_with(go_at_call 128;((with_reducible refine(hc.out _).mono ?_);rintro e w1 ⟨rfl,rfl⟩))
       exact⟨⟨t,rfl,by simp only[List.length_cons]at hk;omega,hd⟩,by rw[jN,jN,List.length_reverse];omega⟩
      |false=>
       rw[hb]at hu;have hd:=Lib.hid (show q=om l by rw[←hq,←sI.out,D8 hu.symm]);have hc:=Lib.hid (fun W=>lS n W);rw[hb]at hc;clear hu hb sI hq
       go_wp2_with(go_at_call 128;((with_reducible refine(hc.out _).mono ?_);rintro e w1 ⟨rfl,rfl⟩))
       go_ret;rw[←hd.out];exact⟨rfl,rfl⟩
end Go.Proofs.YtkcmghlhpbepcaaGreatDoor
