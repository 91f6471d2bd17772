/- Lemmas and walks, part 10. -/
import Derived.Test.YtkcmghlhpbepcaaGreatDoorWS9
set_option linter.unusedVariables false
set_option linter.unusedSimpArgs false
set_option maxHeartbeats 8000000
set_option maxRecDepth 100000
namespace Go.Proofs.YtkcmghlhpbepcaaGreatDoor
open Go.RowKit Go.Proofs
def lowI(n:Int):Int:=if 65≤n∧n≤90 then n+32 else n
theorem lowI_u8(c:UInt8):lowI c.toNat=(lJ c).toNat:=by
 have:=jh (p:=fun c=>decide (lowI c.toNat=(lJ c).toNat)) (by decide +kernel) c;simpa using this
def EG(w:World)(g n:Nat)(f:Nat→Int):Prop:=∀j,j<n→w.cell? ⟨g,j,none⟩=some (.int .u8 (f j))∧w.frozen? ⟨g,j,none⟩=false
def Ci(l:Txt)(k j:Nat):Int:=if j<k then lowI (l.getD j 0).toNat else(l.getD j 0).toNat
theorem EG.conv(w:World)(l:Txt):EG (Lib.bytesWorld w 5 ⟨l.toArray⟩) w.heap.size l.length (Ci l 0):=by
 intro j hj;refine⟨?_,?_⟩
 ·rw[Lib.bytesWorld_cell _ _ _ _ (by rw[qG];exact hj),gT]
  rfl
 ·unfold World.frozen?
  rw[Lib.bytesWorld_at_new];have:l.length≤(Lib.bytesCells w 5 ⟨l.toArray⟩).size:=by simp[Lib.bytesCells]
  simp;omega
theorem K9(w:World)(l:Txt):Below w.heap.size w (Lib.bytesWorld w 5 ⟨l.toArray⟩):=
 ⟨rfl,rfl,rfl,by rw[Lib.bytesWorld_size];omega,fun i hi=>Lib.bytesWorld_at_old w _ _ i hi⟩
theorem EG.set{w:World}{g n:Nat}{f f':Nat→Int}(h:EG w g n f)(k:Nat)(v:Int)(hk:f' k=v)(ho:∀j,j≠k→f' j=f j):EG (w.setCell ⟨g,k,none⟩ (.int .u8 v)) g n f':=by
 intro j hj;obtain⟨h1,h2⟩:=h j hj;refine⟨?_,by rw[World.frozen?_setCell];exact h2⟩
 by_cases e:j=k
 ·subst e
  rw[World.cell?_setCell_same _ _ _ h1,hk]
 ·rw[World.cell?_setCell_other _ _ _ _ (by intro e';injection e' with _ e'';omega),ho j e]
  exact h1
theorem EG.same{w:World}{g n:Nat}{f f':Nat→Int}(h:EG w g n f)(ho:∀j,f' j=f j):EG w g n f':=fun j hj=>by rw[ho j];exact h j hj
theorem NI(l:Txt)(k j:Nat)(h:j≠k):Ci l (k+1) j=Ci l k j:=by
 unfold Ci
 by_cases e:j<k
 ·rw[if_pos e,if_pos (by omega)]
 ·rw[if_neg e,if_neg (by omega)]
theorem lowF_at(l:Txt)(k:Nat):Ci l (k+1) k=lowI (l.getD k 0).toNat:=by
 unfold Ci;rw[if_pos (by omega)]
theorem GK(l:Txt)(k:Nat):Ci l k k=(l.getD k 0).toNat:=by
 unfold Ci;rw[if_neg (by omega)]
theorem low_conv{w:World}{g cap k:Nat}{l:Txt}(hk:l.length≤k)(h:EG w g l.length (Ci l k)):(convert 43 9 (.slice (some ⟨g,0,none⟩) l.length cap)).run Tryz.prog w=.ok (.string ⟨(iJ l).toArray⟩) w:=by
 have hl:(iJ l).length=l.length:=by simp[iJ]
 rw[←hl];refine run_convert_bytes_back (P:=Tryz.prog) w 43 9 5 ⟨g,0,none⟩ cap (iJ l) Tryz.underlying43 Tryz.underlying5 Tryz.underlying9 (fun j hj=>?_);have ha:(⟨g,0,none⟩:Addr).add j=⟨g,j,none⟩:=by unfold Addr.add;split<;>simp_all
 have hj':j<l.length:=by rw[←hl];exact hj
 rw[ha,(h j hj').1];simp[Ci,iJ,show j<k by omega,List.getD,hj',lowI_u8]
theorem nQ(l:Txt)(hl:l.length≤1000000000)(w:World):
 Calls Tryz.prog 187 #[.string ⟨l.toArray⟩] w fun e w'=>e=.returned (.string ⟨(iJ l).toArray⟩)∧Below w.heap.size w w':=by
 have hcv:=Lib.run_convert_string_bytes (P:=Tryz.prog) w 9 43 5 ⟨l.toArray⟩ Tryz.underlying9 Tryz.underlying43 Tryz.underlying5;have hrow:=EG.conv w l;have hbel:=K9 w l;rw[qG]at hcv;generalize Lib.bytesWorld w 5 ⟨l.toArray⟩=w1 at *;generalize grownCap w l.length 0 5=cap at *;go_enter Tryz.func187,Tryz.ntmps187;go_wp2;clear hcv
 go_loopw [4,5,10] (fun _ _ vk wr=>∃(k:Nat),vk=.int .i64 k∧k≤l.length∧EG wr w.heap.size l.length (Ci l k)∧Below w.heap.size w wr) (fun _ _ vk _=>l.length - (intOf vk).toNat)
 case atStart=>exact⟨0,rfl,by omega,hrow,hbel⟩
 case round=>
  obtain⟨k,rfl,hk,hI,hbw⟩:=hrel
  by_cases hlt:k<l.length
  ·obtain⟨c1,c2⟩:=hI k hlt
   have hat:=lowF_at l k;have hother:=NI l k;rw[GK]at c1;obtain⟨n,hn⟩:∃n,((l.getD k 0).toNat:Int)=n:=⟨_,rfl⟩
   rw[hn]at hat c1;have hn0:0≤n:=by omega
   have hn1:n≤255:=by have:=(l.getD k 0).toNat_lt;omega
   have hh:=GK l k;rw[hn]at hh;clear hn;have hst:=Lib.hid (fun(v:Int) (hv:lowI n=v)=>hI.set (f':=Ci l (k+1)) k v (by rw[hat];exact hv) hother)
   have hsame:=Lib.hid (fun(hv:lowI n=n)=>hI.same (f':=Ci l (k+1)) (fun j=>by
    by_cases e:j=k
    ·subst e;rw[hat,hh,hv]
    ·exact hother j e))
   clear hat hother hh;go_wp2
   all_goals(try simp only[decide_eq_true_eq,decide_eq_false_iff_not]at *)
   all_goals first
    |(refine⟨⟨k+1,rfl,by omega,hst.out _ (by unfold lowI;rw[if_pos ⟨by omega,by omega⟩];omega),hbw.setCell (p:=⟨w.heap.size,k,none⟩) (Nat.le_refl _) _⟩,by simp[intOf];omega⟩)
    |(refine⟨⟨k+1,rfl,by omega,hsame.out (by unfold lowI;rw[if_neg (by omega)]),hbw⟩,by simp[intOf];omega⟩)
  ·have hcv:=low_conv (cap:=cap) (by omega) hI
   go_wp2;go_ret;exact⟨rfl,hbw⟩
def zw(a b:Txt):Bool:=iJ a==iJ b
theorem wP(a b:Txt)(ha:a.length≤1000000000)(hb:b.length≤1000000000)(w:World):
 Calls Tryz.prog 153 #[.string ⟨a.toArray⟩,.string ⟨b.toArray⟩] w fun e w'=>e=.returned (.bool (zw a b))∧Below w.heap.size w w':=by
 have h1:=Lib.hid (fun W=>nQ a ha W);have h2:=Lib.hid (fun W=>nQ b hb W);have hs:(iJ a==iJ b)=zw a b:=rfl;generalize zw a b=r at *;generalize iJ a=la at *;generalize iJ b=lb at *;have hB:=Below.refl w.heap.size w;go_enter Tryz.func153,Tryz.ntmps153
 go_wp2_with(go_at_call 187;first
  |((with_reducible refine(h1.out _).mono ?_);rintro e w1 ⟨rfl,hb⟩;replace hB:=pG hB hb;clear hb)
  |((with_reducible refine(h2.out _).mono ?_);rintro e w1 ⟨rfl,hb⟩;replace hB:=pG hB hb;clear hb))
 go_ret;exact⟨rfl,hB⟩
theorem Fa(l:Txt)(w:World):
 Calls Tryz.prog 190 #[.string ⟨l.toArray⟩] w fun e w'=>e=.returned (.bool (gu l))∧w=w':=by
 cases l with
 |nil=>
  go_enter Tryz.func190,Tryz.ntmps190;go_wp2;go_ret;exact⟨rfl,rfl⟩
 |cons c t=>
  have h1:=Lib.hid (fun n (hn:(c.toNat:Int)=n) W=>K8 n W);have hu:Aw c.toNat=gu (c::t):=NH c;obtain⟨n,hn⟩:∃n,(c.toNat:Int)=n:=⟨_,rfl⟩
  rw[hn]at hu;generalize gu (c::t)=r at *;go_enter Tryz.func190,Tryz.ntmps190
  go_wp2_with(go_at_call 80;((with_reducible refine(K8 _ _).mono ?_);rintro e w1 ⟨rfl,rfl⟩))
  go_ret;exact⟨rfl,rfl⟩
theorem Kl{c:UInt8}{t:Txt}(h:cO c=false):(c::t).dropWhile cO=c::t:=by rw[List.dropWhile_cons,if_neg (by rw[h];simp)]
theorem Km{c:UInt8}{t:Txt}(h:cO c=true):(c::t).dropWhile cO=t.dropWhile cO:=by rw[List.dropWhile_cons,if_pos h]
theorem FD{s l:Txt}(h:s=l.dropWhile cO):((s.reverse).dropWhile cO).reverse=jK l:=by rw[h];rfl
theorem xG{c:UInt8}{t:Txt}:(⟨(c::t).toArray⟩:Bt).extract 1 (t.length+1)=⟨t.toArray⟩:=by
 have:=ext_end (c::t) 1;simpa using this
theorem ftrim_c(l:Txt)(hl:l.length≤1000000000)(w:World):
 Calls Tryz.prog 215 #[.string ⟨l.toArray⟩] w fun e w'=>e=.returned (.string ⟨(jK l).toArray⟩)∧w=w':=by
 go_enter Tryz.func215,Tryz.ntmps215;go_wp2
 go_loop [0] (fun v=>∃(s:Txt),v=.string ⟨s.toArray⟩∧s.length≤l.length∧Hid (s.dropWhile cO=l.dropWhile cO)) (fun v=>Es v)
 case atStart=>exact⟨l,rfl,by omega,rfl⟩
 case round=>
  obtain⟨s,rfl,hk,hdec⟩:=hrel;cases s with
  |nil=>
   have hdec:=Lib.hid (show([] :Txt)=l.dropWhile cO from hdec.out);rename_i hdec0;clear hdec0
   go_wp2_with fail
   go_loop [0] (fun v=>∃(r:Txt),v=.string ⟨r.reverse.toArray⟩∧r.length≤l.length∧Hid ((r.dropWhile cO).reverse=jK l)) (fun v=>Es v)
   case atStart=>exact⟨[].reverse,by simp,by simp,FD hdec.out⟩
   case round=>
    obtain⟨r,rfl,hk,yu⟩:=hrel;cases r with
    |nil=>
     have he:=Lib.hid (show jK l=[]from yu.out.symm);go_wp2;go_ret;rw[he.out];exact⟨rfl,rfl⟩
    |cons c t=>
     obtain⟨n,hn⟩:∃n,(c.toNat:Int)=n:=⟨_,rfl⟩
     have hu:=Cg c;rw[hn]at hu;obtain⟨q,hq⟩:∃q,(c::t).reverse=q:=⟨_,rfl⟩
     have hql:q.length=t.length+1:=by rw[←hq];simp
     have hx1:(⟨q.toArray⟩:Bt).extract 0 t.length=⟨t.reverse.toArray⟩:=by
      rw[Lib.extract_eq,gT,←hq];simp
     have hget:∀(h:t.length<q.length),q[t.length]=c:=by
      intro h;subst hq;simp
     rw[hq];have ht1:t.length≤1000000000:=by simp only[List.length_cons]at hk;omega
     have hql0:(0:Int)<q.length:=by omega
     have hsub:(q.length:Int) - 1=t.length:=by omega
     have hne:q≠[]:=by rw[←hq];simp
     have hbe:(q==[])=false:=by simpa using hne
     cases hb:nM n with
     |true=>
      rw[hb]at hu;have hd:=Lib.hid (show(t.dropWhile cO).reverse=jK l by rw[←Km hu.symm];exact yu.out);have hc:=Lib.hid (fun W=>oL n W);rw[hb]at hc;clear hu hb yu hq
      go_wp2_with(go_at_call 128;((with_reducible refine(hc.out _).mono ?_);rintro e w1 ⟨rfl,rfl⟩))
      exact⟨⟨t,rfl,by simp only[List.length_cons]at hk;omega,hd⟩,by rw[l5,l5,List.length_reverse];omega⟩
     |false=>
      rw[hb]at hu;have hd:=Lib.hid (show q=jK l by rw[←hq,←yu.out,Kl hu.symm]);have hc:=Lib.hid (fun W=>oL n W);rw[hb]at hc;clear hu hb yu hq
      go_wp2_with(go_at_call 128;((with_reducible refine(hc.out _).mono ?_);rintro e w1 ⟨rfl,rfl⟩))
      go_ret;rw[←hd.out];exact⟨rfl,rfl⟩
  |cons c t=>
   obtain⟨n,hn⟩:∃n,(c.toNat:Int)=n:=⟨_,rfl⟩
   have hu:=Cg c;rw[hn]at hu;cases hb:nM n with
   |true=>
    rw[hb]at hu;have hd:=Lib.hid (show t.dropWhile cO=l.dropWhile cO by rw[←Km hu.symm];exact hdec.out);have hc:=Lib.hid (fun W=>oL n W);rw[hb]at hc;clear hu hb hdec
    go_wp2_with(go_at_call 128;((with_reducible refine(hc.out _).mono ?_);rintro e w1 ⟨rfl,rfl⟩))
    refine⟨⟨t,by rw[xG],by simp only[List.length_cons]at hk;omega,hd⟩,by rw[xG,l5,l5];simp⟩
   |false=>
    rw[hb]at hu;have hdec:=Lib.hid (show c::t=l.dropWhile cO by rw[←Kl hu.symm];exact hdec.out);rename_i hdec0;have hc:=Lib.hid (fun W=>oL n W);rw[hb]at hc;clear hu hb hdec0
    go_wp2_with(go_at_call 128;((with_reducible refine(hc.out _).mono ?_);rintro e w1 ⟨rfl,rfl⟩))
    go_loop [0] (fun v=>∃(r:Txt),v=.string ⟨r.reverse.toArray⟩∧r.length≤l.length∧Hid ((r.dropWhile cO).reverse=jK l)) (fun v=>Es v)
    case atStart=>exact⟨(c::t).reverse,by simp,by simpa using hk,FD hdec.out⟩
    case round=>
     obtain⟨r,rfl,hk,yu⟩:=hrel;cases r with
     |nil=>
      have he:=Lib.hid (show jK l=[]from yu.out.symm);go_wp2;go_ret;rw[he.out];exact⟨rfl,rfl⟩
     |cons c t=>
      obtain⟨n,hn⟩:∃n,(c.toNat:Int)=n:=⟨_,rfl⟩
      have hu:=Cg c;rw[hn]at hu;obtain⟨q,hq⟩:∃q,(c::t).reverse=q:=⟨_,rfl⟩
      have hql:q.length=t.length+1:=by rw[←hq];simp
      have hx1:(⟨q.toArray⟩:Bt).extract 0 t.length=⟨t.reverse.toArray⟩:=by
       rw[Lib.extract_eq,gT,←hq];simp
      have hget:∀(h:t.length<q.length),q[t.length]=c:=by
       intro h;subst hq;simp
      rw[hq];have ht1:t.length≤1000000000:=by simp only[List.length_cons]at hk;omega
      have hql0:(0:Int)<q.length:=by omega
      have hsub:(q.length:Int) - 1=t.length:=by omega
      have hne:q≠[]:=by rw[←hq];simp
      have hbe:(q==[])=false:=by simpa using hne
      cases hb:nM n with
      |true=>
       rw[hb]at hu;have hd:=Lib.hid (show(t.dropWhile cO).reverse=jK l by rw[←Km hu.symm];exact yu.out);have hc:=Lib.hid (fun W=>oL n W);rw[hb]at hc;clear hu hb yu hq
       go_wp2_with(go_at_call 128;((with_reducible refine(hc.out _).mono ?_);rintro e w1 ⟨rfl,rfl⟩))
       exact⟨⟨t,rfl,by simp only[List.length_cons]at hk;omega,hd⟩,by rw[l5,l5,List.length_reverse];omega⟩
      |false=>
       rw[hb]at hu;have hd:=Lib.hid (show q=jK l by rw[←hq,←yu.out,Kl hu.symm]);have hc:=Lib.hid (fun W=>oL n W);rw[hb]at hc;clear hu hb yu hq
       go_wp2_with(go_at_call 128;((with_reducible refine(hc.out _).mono ?_);rintro e w1 ⟨rfl,rfl⟩))
       go_ret;rw[←hd.out];exact⟨rfl,rfl⟩
theorem own_ne{w:World}{base:Nat}{e e':TypeId}{size n b:Nat}{v:Value}{xs:List Value}{cur:Array Value}{fz:Nat×Nat}(h:w.ownsRow base e size v n xs)(hb:w.heap[b]?=some (.cells cur e' fz))(hne:e'≠e):v.ownBlock≠some b:=by
 rcases h.2 with⟨rfl,_⟩|⟨g,cap,cr,rfl,hg,hh,_⟩
 ·simp[Value.ownBlock]
 ·intro e0
  have:g=b:=by simpa [Value.ownBlock]using e0
  subst this;rw[hb]at hh;simp at hh;exact hne hh.2.1
theorem oz{w w':World}{base:Nat}{e e':TypeId}{size n b:Nat}{v:Value}{xs:List Value}{cur:Array Value}{fz:Nat×Nat}(h:w.ownsRow base e size v n xs)(hg:w.grownBy w' (some b))(hb:w.heap[b]?=some (.cells cur e' fz))(hne:e'≠e):w'.ownsRow base e size v n xs:=
 World.ownsRow.kept h hg (.inr (own_ne h hb hne))
theorem yF{w:World}{base:Nat}{e:TypeId}{size n b:Nat}{v:Value}{xs:List Value}(h:w.ownsRow base e size v n xs)(hv:v.ownBlock=some b):∃cur,w.heap[b]?=some (.cells cur e (0,0)):=by
 rcases h.2 with⟨rfl,_⟩|⟨g,cap,cr,rfl,hg,hh,_⟩
 ·simp[Value.ownBlock]at hv
 ·have:g=b:=by simpa [Value.ownBlock]using hv
  subst this;exact⟨cr,hh⟩
theorem uD{w w':World}{base base':Nat}{e e':TypeId}{size n size' n':Nat}{v v':Value}{xs xs':List Value}(h:w.ownsRow base e size v n xs)(h':w.ownsRow base' e' size' v' n' xs')(hg:w.grownBy w' v'.ownBlock)(hne:e'≠e):w'.ownsRow base e size v n xs:=by
 cases hv:v'.ownBlock with
 |none=>rw[hv]at hg;exact World.ownsRow.kept h hg (by cases hx:v.ownBlock<;>simp)
 |some b=>
  rw[hv]at hg;obtain⟨cur,hc⟩:=yF h' hv;exact oz h hg hc hne
theorem own_below{w w1:World}{base:Nat}{e:TypeId}{size n:Nat}{v:Value}{xs:List Value}(h:w.ownsRow base e size v n xs)(hb:Below w.heap.size w w1):w1.ownsRow base e size v n xs:=
 World.ownsRow.kept h (mO hb none) (by cases hv:v.ownBlock<;>simp)
def ql(l:List (Txt×Txt)):List Value:=l.flatMap fun a=>[.string ⟨a.1.toArray⟩,.string ⟨a.2.toArray⟩]
def ji(w:World)(base:Nat)(v:Value)(l:List (Txt×Txt)):Prop:=w.ownsRow base 36 2 v l.length (ql l)
def xP(t:Tok)(va:Value):List Value:=[.int .i64 t.kind,.string ⟨t.name.toArray⟩,.string ⟨t.data.toArray⟩,va,.bool t.self]
def mW(w:World)(base:Nat)(v:Value)(l:List Tok):Prop:=
 ∃ps:List (Tok×Value),ps.map Prod.fst=l∧w.ownsRow base 65 5 v l.length (ps.flatMap fun p=>xP p.1 p.2)∧∀p∈ps,ji w base p.2 p.1.attrs
theorem ji.nil(w:World)(base:Nat):ji w base (.slice none 0 0) []:=World.ownsRow_nil _ _ _ _
theorem mW.nil(w:World)(base:Nat):mW w base (.slice none 0 0) []:=⟨[],rfl,World.ownsRow_nil _ _ _ _,by simp⟩
theorem ji.below{w w1:World}{base:Nat}{v:Value}{l:List (Txt×Txt)}(h:ji w base v l)(hb:Below w.heap.size w w1):ji w1 base v l:=own_below h hb
theorem mW.below{w w1:World}{base:Nat}{v:Value}{l:List Tok}(h:mW w base v l)(hb:Below w.heap.size w w1):mW w1 base v l:=by
 obtain⟨ps,h1,h2,h3⟩:=h;exact⟨ps,h1,own_below h2 hb,fun p hp=>(h3 p hp).below hb⟩
theorem mW.other{w w':World}{base b:Nat}{v:Value}{l:List Tok}{cur:Array Value}{e':TypeId}{fz:Nat×Nat}(h:mW w base v l)(hg:w.grownBy w' (some b))(hb:w.heap[b]?=some (.cells cur e' fz))(h1:e'≠65)(h2:e'≠36):mW w' base v l:=by
 obtain⟨ps,k1,k2,k3⟩:=h;exact⟨ps,k1,oz k2 hg hb h1,fun p hp=>oz (k3 p hp) hg hb h2⟩
theorem Qr:∃i z,Tryz.prog.info? 65=some i∧i.zero=some z∧i.size=5∧i.bytes=72∧z.cells.size=5:=by
 have h:(Tryz.prog.info? 65).map (fun i=>(i.zero.map fun z=>z.cells.size,i.size,i.bytes))=some (some 5,5,72):=by kernel_rfl
 cases hi:Tryz.prog.info? 65 with
 |none=>rw[hi]at h;simp at h
 |some i=>
  rw[hi]at h;simp at h;obtain⟨⟨z,hz,hs⟩,h2,h3⟩:=h;exact⟨i,z,rfl,hz,h2,h3,hs⟩
theorem attrInfo:∃i z,Tryz.prog.info? 36=some i∧i.zero=some z∧i.size=2∧i.bytes=32∧z.cells.size=2:=by
 have h:(Tryz.prog.info? 36).map (fun i=>(i.zero.map fun z=>z.cells.size,i.size,i.bytes))=some (some 2,2,32):=by kernel_rfl
 cases hi:Tryz.prog.info? 36 with
 |none=>rw[hi]at h;simp at h
 |some i=>
  rw[hi]at h;simp at h;obtain⟨⟨z,hz,hs⟩,h2,h3⟩:=h;exact⟨i,z,rfl,hz,h2,h3,hs⟩
theorem addr_add(g j:Nat):(⟨g,0,none⟩:Addr).add j=⟨g,j,none⟩:=by unfold Addr.add;split<;>simp_all
theorem RJ(a b:List (Txt×Txt)):ql (a++b)=ql a++ql b:=by simp[ql]
theorem Qs{w:World}{base:Nat}{e:TypeId}{size n:Nat}{v:Value}{xs:List Value}(h:w.ownsRow base e size v n xs):v.oneCell'=true:=by
 rcases h.2 with⟨rfl,_⟩|⟨g,cap,cr,rfl,_⟩<;>rfl
theorem Lc{w:World}{ops:Array Oper}{rest:List Oper}{o:Oper}{a:Act}{Q:Exit→Act→World→Prop}(hgd:o.guard=none)(sl x:Operand)
 (ho:o.op=.call {callee:=.builtin .append,args:=#[sl,x],argTypes:=#[32,32] })
 (base g:Nat) (v:Value) (l:List (Txt×Txt)) (t:Txt×Txt) (hs:a.eval sl=v) (hown:ji w base v l) (hx:a.eval x=.slice (some ⟨g,0,none⟩) 1 1)
 (hc0:w.cell? ⟨g,0,none⟩=some (.string ⟨t.1.toArray⟩)) (hc1:w.cell? ⟨g,1,none⟩=some (.string ⟨t.2.toArray⟩))
 (hlen:l.length+1≤1000000000000) (hbase:base≤w.heap.size)
 (h:∀v' w',ji w' base v' (l++[t])→w.grownBy w' v.ownBlock→Below base w w'→wpList Tryz.prog ops Q rest (a.put o.dst v') w'):wpList Tryz.prog ops Q (o::rest) a w:=by
 obtain⟨i,z,hi,hz,h2,h3,hzs⟩:=attrInfo;refine wpList_append_own _ hgd sl x 32 ho base 36 i z 2 32 Tryz.underlying32 hi hz h2 h3 hzs (by decide) v l.length (ql l) hs hown ⟨g,0,none⟩ 1 1 (ql [t]) hx rfl ?_ ?_ (by unfold maxLen;omega) (by omega) hbase ?_
 ·intro j u hj
  rw[addr_add]
  match j,hj with
  |0,hj=>simp[ql]at hj;subst hj;exact hc0
  |1,hj=>simp[ql]at hj;subst hj;exact hc1
 ·intro u hu
  simp[ql]at hu
  rcases hu with rfl|rfl<;>rfl
 ·intro v' w' hown' hgrow _
  refine h v' w' ?_ hgrow ((Below.refl base w).grown hgrow hbase (fun k hk=>oN hown hk));unfold ji;rw[RJ];simpa using hown'
theorem sI{w:World}{ops:Array Oper}{rest:List Oper}{o:Oper}{a:Act}{Q:Exit→Act→World→Prop}(hgd:o.guard=none)(sl x:Operand)
 (ho:o.op=.call {callee:=.builtin .append,args:=#[sl,x],argTypes:=#[26,26] })
 (base g:Nat) (v va:Value) (l:List Tok) (t:Tok) (hs:a.eval sl=v) (hown:mW w base v l) (hx:a.eval x=.slice (some ⟨g,0,none⟩) 1 1)
 (hc0:w.cell? ⟨g,0,none⟩=some (.int .i64 t.kind)) (hc1:w.cell? ⟨g,1,none⟩=some (.string ⟨t.name.toArray⟩)) (hc2:w.cell? ⟨g,2,none⟩=some (.string ⟨t.data.toArray⟩)) (hc3:w.cell? ⟨g,3,none⟩=some va) (hc4:w.cell? ⟨g,4,none⟩=some (.bool t.self))
 (hat:ji w base va t.attrs) (hlen:l.length+1≤1000000000000) (hbase:base≤w.heap.size)
 (h:∀v' w',mW w' base v' (l++[t])→w.grownBy w' v.ownBlock→Below base w w'→(∀(b:Nat) (cur:Array Value) (e:TypeId) (fz:Nat×Nat),w.heap[b]?=some (.cells cur e fz)→e≠65→w'.heap[b]?=some (.cells cur e fz))→wpList Tryz.prog ops Q rest (a.put o.dst v') w'):wpList Tryz.prog ops Q (o::rest) a w:=by
 obtain⟨i,z,hi,hz,h2,h3,hzs⟩:=Qr;obtain⟨ps,k1,k2,k3⟩:=hown;refine wpList_append_own _ hgd sl x 26 ho base 65 i z 5 72 Tryz.underlying26 hi hz h2 h3 hzs (by decide) v l.length _ hs k2 ⟨g,0,none⟩ 1 1 (xP t va) hx rfl ?_ ?_ (by unfold maxLen;omega) (by omega) hbase ?_
 ·intro j u hj
  rw[addr_add]
  match j,hj with
  |0,hj=>simp[xP]at hj;subst hj;exact hc0
  |1,hj=>simp[xP]at hj;subst hj;exact hc1
  |2,hj=>simp[xP]at hj;subst hj;exact hc2
  |3,hj=>simp[xP]at hj;subst hj;exact hc3
  |4,hj=>simp[xP]at hj;subst hj;exact hc4
 ·intro u hu
  simp[xP]at hu
  rcases hu with rfl|rfl|rfl|rfl|rfl
  ·rfl
  ·rfl
  ·rfl
  ·exact Qs hat
  ·rfl
 ·intro v' w' hown' hgrow _
  refine h v' w' ⟨ps++[(t,va)],by simp[k1],by simpa using hown',?_⟩ hgrow ((Below.refl base w).grown hgrow hbase (fun k hk=>oN k2 hk)) ?_
  ·intro p hp
   rw[List.mem_append]at hp
   rcases hp with hp|hp
   ·exact uD (k3 p hp) k2 hgrow (by decide)
   ·simp at hp
    subst hp;exact uD hat k2 hgrow (by decide)
  ·intro b cur e fz hb hne
   rw[hgrow.block b (Array.getElem?_eq_some_iff.1 hb).1 (fun e0=>own_ne k2 hb hne e0.symm)];exact hb
def Sc(w:World)(base b:Nat)(s t:Txt)(l:List Tok):Prop:=
 base≤b∧∃v,w.heap[b]?=some (.cells #[.string ⟨s.toArray⟩,.string ⟨t.toArray⟩,v] 92 (0,0))∧mW w base v l
theorem Sc.below{w w1:World}{base b:Nat}{s t:Txt}{l:List Tok}(h:Sc w base b s t l)(hb:Below w.heap.size w w1):Sc w1 base b s t l:=by
 obtain⟨h1,v,h2,h3⟩:=h;exact⟨h1,v,(hb.block b (Array.getElem?_eq_some_iff.1 h2).1).trans h2,h3.below hb⟩
theorem jf(w:World)(a:Addr)(v:Value):w.grownBy (w.setCell a v) (some a.block):=
 ⟨rfl,rfl,rfl,by simp,fun k _ hk=>heap_setCell_other w a k v (fun e=>hk (by simp[e]))⟩
theorem aH{B b j:Nat}{w W:World}(h:Below B w W)(hb:B≤b)(v:Value):Below B w (W.setCell ⟨b,j,none⟩ v):=h.setCell (p:=⟨b,j,none⟩) hb v
theorem Sc.rM{w:World}{base b:Nat}{s t:Txt}{l:List Tok}(h:Sc w base b s t l)(s':Txt):Sc (w.setCell ⟨b,0,none⟩ (.string ⟨s'.toArray⟩)) base b s' t l:=by
 obtain⟨h1,v,h2,h3⟩:=h;exact⟨h1,v,heap_setCell_same w b 0 _ _ _ h2,h3.other (jf w ⟨b,0,none⟩ _) h2 (by decide) (by decide)⟩
theorem Sc.G7{w:World}{base b:Nat}{s t:Txt}{l:List Tok}(h:Sc w base b s t l)(t':Txt):Sc (w.setCell ⟨b,1,none⟩ (.string ⟨t'.toArray⟩)) base b s t' l:=by
 obtain⟨h1,v,h2,h3⟩:=h;exact⟨h1,v,heap_setCell_same w b 1 _ _ _ h2,h3.other (jf w ⟨b,1,none⟩ _) h2 (by decide) (by decide)⟩
theorem Sc.uE{w:World}{base b:Nat}{s t:Txt}{l l':List Tok}{v v':Value}(h1:base≤b)(h2:w.heap[b]?=some (.cells #[.string ⟨s.toArray⟩,.string ⟨t.toArray⟩,v] 92 (0,0)))(h3:mW w base v' l'):Sc (w.setCell ⟨b,2,none⟩ v') base b s t l':=
 ⟨h1,v',heap_setCell_same w b 2 _ _ _ h2,h3.other (jf w ⟨b,2,none⟩ _) h2 (by decide) (by decide)⟩
end Go.Proofs.YtkcmghlhpbepcaaGreatDoor
namespace Go.Proofs.YtkcmghlhpbepcaaGreatDoor
open Go.Proofs
theorem cut1_le(c:UInt8)(l:Txt):(gH c l).2.1.length≤l.length:=by
 have:=mK c l;omega
theorem Bu(s:Txt):(lu s).length≤s.length:=by
 unfold lu;simp
theorem valF_le(nm s:Txt):(zB nm s).2.1.length≤s.length:=by
 unfold zB
 split
 ·simp
 ·rename_i q t
  split
  ·have:=cut1_le q t
   simp only[List.length_cons];omega
  ·simp only[List.length_drop]
   omega
theorem attrR_le(nm s:Txt):(qZ nm s).2.1.length≤s.length:=by
 have h1:=Bu s;unfold qZ
 split
 ·simp
 ·rename_i c t h
  rw[h]at h1;simp only[List.length_cons]at h1
  split
  ·have h2:=valF_le nm (lu t)
   have h3:=Bu t;omega
  ·simp
theorem xQ(c:UInt8)(s:Txt):(kV (c::s)).2.1.length≤s.length:=by
 have h:=attrR_le (iJ ((c::s).take (o9 (c::s)))) ((c::s).drop (o9 (c::s)));have:1≤o9 (c::s):=by unfold o9;omega
 unfold kV;simp only[List.length_drop,List.length_cons]at h;omega
theorem Dm:∀(n m:Nat) (acc:List (Txt×Txt)) (s:Txt),s.length<n→s.length<m→kU n acc s=kU m acc s
 |0,_,_,_,h,_=>absurd h (Nat.not_lt_zero _)
 |_,0,_,_,_,h=>absurd h (Nat.not_lt_zero _)
 |n+1,m+1,acc,s,hn,hm=>by
  unfold kU;cases h:s.drop (qm s)with
  |nil=>rfl
  |cons c s1=>
   have h1:s1.length<s.length:=by
    have:=congrArg List.length h;simp at this;omega
   have h2:=xQ c s1;simp only
   split
   ·rfl
   ·split
    ·exact Dm n m _ _ (by omega) (by omega)
    ·rfl
theorem yH(acc:List (Txt×Txt))(s:Txt):ku acc s=match s.drop (qm s)with
 | []=>none
 |c::s1=>if c=62 then some (acc,vv s,s1)else if(kV (c::s1)).2.2 then ku (za acc (kV (c::s1)).1) (kV (c::s1)).2.1 else none:=by
 unfold ku;rw[kU];cases h:s.drop (qm s)with
 |nil=>rfl
 |cons c s1=>
  have h1:s1.length<s.length:=by
   have:=congrArg List.length h;simp at this;omega
  have h2:=xQ c s1;simp only
  split
  ·rfl
  ·split
   ·exact Dm _ _ _ _ (by omega) (by omega)
   ·rfl
theorem Hq:∀(n:Nat) (acc:List (Txt×Txt)) (s:Txt) r,kU n acc s=some r→r.2.2.length≤s.length
 |0,_,_,_,h=>by simp[kU]at h
 |n+1,acc,s,r,h=>by
  unfold kU at h;cases hd:s.drop (qm s)with
  |nil=>rw[hd]at h;simp at h
  |cons c s1=>
   rw[hd]at h
   have h1:s1.length<s.length:=by
    have:=congrArg List.length hd;simp at this;omega
   have h2:=xQ c s1;simp only at h
   split at h
   ·simp at h
    subst h;simp only;omega
   ·split at h
    ·have:=Hq n _ _ r h
     omega
    ·simp at h
theorem wR{s:Txt}{r:Tok×Txt}(h:eG s=some r):r.2.length≤s.length:=by
 unfold eG at h;cases ha:ku [] (s.drop (s.findIdx bS))with
 |none=>rw[ha]at h;simp at h
 |some q=>
  rw[ha]at h;simp at h;have:=Hq _ _ _ _ ha;subst h;simp only[List.length_drop]at *;omega
theorem QA(k:Int)(s:Txt):(oq k s).2.length≤s.length:=by
 unfold oq;cases ho:eG s with
 |none=>simp
 |some r=>
  have:=wR ho;simp only
  split
  ·simpa using this
  ·split
   ·simp only[jo,List.length_drop]
    omega
   ·simpa using this
theorem cut_le(s e:Txt):(Lib.cut s e).2.1.length≤s.length:=by
 unfold Lib.cut
 split
 ·simp
 ·simp
theorem yc(k:Int)(s e:Txt):(lG k s e).2.length≤s.length:=cut_le s e
theorem Mw(s:Txt):(iV s).2.length≤s.length:=by
 unfold iV
 split
 ·simp
 ·split
  ·simp
  ·exact yc _ _ _
theorem Br{s:Txt}{r:List Tok×Txt}(h:iL s=some r):r.2.length≤s.length:=by
 unfold iL at h;have hd:∀n,(s.drop n).length≤s.length:=by simp
 have ht:s.tail.length≤s.length:=by simp
 split at h
 ·simp at h;subst h;exact QA _ _
 ·split at h
  ·simp at h;subst h;exact Nat.le_trans (QA _ _) ht
  ·split at h
   ·simp at h;subst h;exact hd 2
   ·split at h
    ·simp at h;subst h;exact Nat.le_trans (Mw _) (hd 3)
    ·split at h
     ·simp at h;subst h;exact Nat.le_trans (yc _ _ _) (hd 8)
     ·split at h
      ·simp at h;subst h;exact Nat.le_trans (yc _ _ _) ht
      ·split at h
       ·simp at h;subst h;exact yc _ _ _
       ·split at h
        ·simp at h;subst h;exact Nat.le_trans (yc _ _ _) ht
        ·simp at h
theorem yQ:∀(n m:Nat) (t s:Txt),s.length<n→s.length<m→runN n t s=runN m t s
 |0,_,_,_,h,_=>absurd h (Nat.not_lt_zero _)
 |_,0,_,_,_,h=>absurd h (Nat.not_lt_zero _)
 |n+1,m+1,t,s,hn,hm=>by
  unfold runN;cases h:s.drop (gI s)with
  |nil=>rfl
  |cons c s1=>
   have h1:s1.length<s.length:=by
    have:=congrArg List.length h;simp at this;omega
   simp only;cases ho:iL s1 with
   |none=>exact yQ n m _ _ (by omega) (by omega)
   |some r=>
    have:=Br ho;obtain⟨ts,r⟩:=r;simp only at *;rw[yQ n m _ _ (by omega) (by omega)]
theorem yP(t s:Txt):nk t s=match s.drop (gI s)with
 | []=>eO (t++s.take (gI s))
 |_::s1=>
  match iL s1 with
  |none=>nk (t++s.take (gI s)++[60]) s1
  |some (ts,r)=>eO (t++s.take (gI s))++ts++nk [] r:=by
 unfold nk;rw[runN];cases h:s.drop (gI s)with
 |nil=>rfl
 |cons c s1=>
  have h1:s1.length<s.length:=by
   have:=congrArg List.length h;simp at this;omega
  simp only;cases ho:iL s1 with
  |none=>exact yQ _ _ _ _ (by omega) (by omega)
  |some r=>
   have:=Br ho;obtain⟨ts,r⟩:=r;simp only at *;rw[yQ s.length (r.length+1) [] r (by omega) (by omega)]
end Go.Proofs.YtkcmghlhpbepcaaGreatDoor
