/- Lemmas and walks, part 7. -/
import Derived.Test.YtkcmghlhpbepcaaGreatDoorNB6
set_option linter.unusedVariables false
set_option linter.unusedSimpArgs false
set_option maxHeartbeats 8000000
set_option maxRecDepth 100000
namespace Go.Proofs.YtkcmghlhpbepcaaGreatDoor
open Go.RowKit Go.Proofs
def lowI(n:Int):Int:=if 65≤n∧n≤90 then n+32 else n
theorem lowI_u8(c:UInt8):lowI c.toNat=(lowB c).toNat:=by
 have:=mo (p:=fun c=>decide (lowI c.toNat=(lowB c).toNat)) (by decide +kernel) c;simpa using this
def D7(w:World)(g n:Nat)(f:Nat→Int):Prop:=∀j,j<n→w.cell? ⟨g,j,none⟩=some (.int .u8 (f j))∧w.frozen? ⟨g,j,none⟩=false
def Bq(l:Txt)(k j:Nat):Int:=if j<k then lowI (l.getD j 0).toNat else(l.getD j 0).toNat
theorem D7.conv(w:World)(l:Txt):D7 (Lib.bytesWorld w 5 ⟨l.toArray⟩) w.heap.size l.length (Bq l 0):=by
 intro j hj;refine⟨?_,?_⟩
 ·rw[Lib.bytesWorld_cell _ _ _ _ (by rw[qy];exact hj),gP]
  rfl
 ·unfold World.frozen?
  rw[Lib.bytesWorld_at_new];have:l.length≤(Lib.bytesCells w 5 ⟨l.toArray⟩).size:=by simp[Lib.bytesCells]
  simp;omega
theorem JW(w:World)(l:Txt):Below w.heap.size w (Lib.bytesWorld w 5 ⟨l.toArray⟩):=
 ⟨rfl,rfl,rfl,by rw[Lib.bytesWorld_size];omega,fun i hi=>Lib.bytesWorld_at_old w _ _ i hi⟩
theorem D7.set{w:World}{g n:Nat}{f f':Nat→Int}(h:D7 w g n f)(k:Nat)(v:Int)(hk:f' k=v)(ho:∀j,j≠k→f' j=f j):D7 (w.setCell ⟨g,k,none⟩ (.int .u8 v)) g n f':=by
 intro j hj;obtain⟨h1,h2⟩:=h j hj;refine⟨?_,by rw[World.frozen?_setCell];exact h2⟩
 by_cases e:j=k
 ·subst e
  rw[World.cell?_setCell_same _ _ _ h1,hk]
 ·rw[World.cell?_setCell_other _ _ _ _ (by intro e';injection e' with _ e'';omega),ho j e]
  exact h1
theorem D7.same{w:World}{g n:Nat}{f f':Nat→Int}(h:D7 w g n f)(ho:∀j,f' j=f j):D7 w g n f':=fun j hj=>by rw[ho j];exact h j hj
theorem Me(l:Txt)(k j:Nat)(h:j≠k):Bq l (k+1) j=Bq l k j:=by
 unfold Bq
 by_cases e:j<k
 ·rw[if_pos e,if_pos (by omega)]
 ·rw[if_neg e,if_neg (by omega)]
theorem lowF_at(l:Txt)(k:Nat):Bq l (k+1) k=lowI (l.getD k 0).toNat:=by
 unfold Bq;rw[if_pos (by omega)]
theorem FQ(l:Txt)(k:Nat):Bq l k k=(l.getD k 0).toNat:=by
 unfold Bq;rw[if_neg (by omega)]
theorem low_conv{w:World}{g cap k:Nat}{l:Txt}(hk:l.length≤k)(h:D7 w g l.length (Bq l k)):(convert 43 9 (.slice (some ⟨g,0,none⟩) l.length cap)).run Tryz.prog w=.ok (.string ⟨(lY l).toArray⟩) w:=by
 have hl:(lY l).length=l.length:=by simp[lY]
 rw[←hl];refine run_convert_bytes_back (P:=Tryz.prog) w 43 9 5 ⟨g,0,none⟩ cap (lY l) Tryz.underlying43 Tryz.underlying5 Tryz.underlying9 (fun j hj=>?_);have ha:(⟨g,0,none⟩:Addr).add j=⟨g,j,none⟩:=by unfold Addr.add;split<;>simp_all
 have hj':j<l.length:=by rw[←hl];exact hj
 rw[ha,(h j hj').1];simp[Bq,lY,show j<k by omega,List.getD,hj',lowI_u8]
theorem nE(l:Txt)(hl:l.length≤1000000000)(w:World):
 Calls Tryz.prog 187 #[.string ⟨l.toArray⟩] w fun e w'=>e=.returned (.string ⟨(lY l).toArray⟩)∧Below w.heap.size w w':=by
 have hcv:=Lib.run_convert_string_bytes (P:=Tryz.prog) w 9 43 5 ⟨l.toArray⟩ Tryz.underlying9 Tryz.underlying43 Tryz.underlying5;have hrow:=D7.conv w l;have hbel:=JW w l;rw[qy]at hcv;generalize Lib.bytesWorld w 5 ⟨l.toArray⟩=w1 at *;generalize grownCap w l.length 0 5=cap at *;go_enter Tryz.func187,Tryz.ntmps187;go_wp2;clear hcv
 go_loopw [4,5,10] (fun _ _ vk wr=>∃(k:Nat),vk=.int .i64 k∧k≤l.length∧D7 wr w.heap.size l.length (Bq l k)∧Below w.heap.size w wr) (fun _ _ vk _=>l.length - (intOf vk).toNat)
 case atStart=>exact⟨0,rfl,by omega,hrow,hbel⟩
 case round=>
  obtain⟨k,rfl,hk,hI,hbw⟩:=hrel
  by_cases hlt:k<l.length
  ·obtain⟨c1,c2⟩:=hI k hlt
   have hat:=lowF_at l k;have hother:=Me l k;rw[FQ]at c1;obtain⟨n,hn⟩:∃n,((l.getD k 0).toNat:Int)=n:=⟨_,rfl⟩
   rw[hn]at hat c1;have hn0:0≤n:=by omega
   have hn1:n≤255:=by have:=(l.getD k 0).toNat_lt;omega
   have hh:=FQ l k;rw[hn]at hh;clear hn;have hst:=Lib.hid (fun(v:Int) (hv:lowI n=v)=>hI.set (f':=Bq l (k+1)) k v (by rw[hat];exact hv) hother)
   have hsame:=Lib.hid (fun(hv:lowI n=n)=>hI.same (f':=Bq l (k+1)) (fun j=>by
    by_cases e:j=k
    ·subst e;rw[hat,hh,hv]
    ·exact hother j e))
   clear hat hother hh;go_wp2
   all_goals(try simp only[decide_eq_true_eq,decide_eq_false_iff_not]at *)
   all_goals first
    |(refine⟨⟨k+1,rfl,by omega,hst.out _ (by unfold lowI;rw[if_pos ⟨by omega,by omega⟩];omega),hbw.setCell (p:=⟨w.heap.size,k,none⟩) (Nat.le_refl _) _⟩,by simp[intOf];omega⟩)
    |(refine⟨⟨k+1,rfl,by omega,hsame.out (by unfold lowI;rw[if_neg (by omega)]),hbw⟩,by simp[intOf];omega⟩)
  ·have hcv:=low_conv (cap:=cap) (by omega) hI
   go_wp2;go_ret;exact⟨rfl,hbw⟩
def yV(a b:Txt):Bool:=lY a==lY b
theorem wC(a b:Txt)(ha:a.length≤1000000000)(hb:b.length≤1000000000)(w:World):
 Calls Tryz.prog 153 #[.string ⟨a.toArray⟩,.string ⟨b.toArray⟩] w fun e w'=>e=.returned (.bool (yV a b))∧Below w.heap.size w w':=by
 have h1:=Lib.hid (fun W=>nE a ha W);have h2:=Lib.hid (fun W=>nE b hb W);have hs:(lY a==lY b)=yV a b:=rfl;generalize yV a b=r at *;generalize lY a=la at *;generalize lY b=lb at *;have hB:=Below.refl w.heap.size w;go_enter Tryz.func153,Tryz.ntmps153
 go_wp2_with(go_at_call 187;first
  |((with_reducible refine(h1.out _).mono ?_);rintro e w1 ⟨rfl,hb⟩;replace hB:=oP hB hb;clear hb)
  |((with_reducible refine(h2.out _).mono ?_);rintro e w1 ⟨rfl,hb⟩;replace hB:=oP hB hb;clear hb))
 go_ret;exact⟨rfl,hB⟩
theorem Ez(l:Txt)(w:World):
 Calls Tryz.prog 190 #[.string ⟨l.toArray⟩] w fun e w'=>e=.returned (.bool (jr l))∧w=w':=by
 cases l with
 |nil=>
  go_enter Tryz.func190,Tryz.ntmps190;go_wp2;go_ret;exact⟨rfl,rfl⟩
 |cons c t=>
  have h1:=Lib.hid (fun n (hn:(c.toNat:Int)=n) W=>JR n W);have hu:zW c.toNat=jr (c::t):=Mc c;obtain⟨n,hn⟩:∃n,(c.toNat:Int)=n:=⟨_,rfl⟩
  rw[hn]at hu;generalize jr (c::t)=r at *;go_enter Tryz.func190,Tryz.ntmps190
  go_wp2_with(go_at_call 80;((with_reducible refine(JR _ _).mono ?_);rintro e w1 ⟨rfl,rfl⟩))
  go_ret;exact⟨rfl,rfl⟩
theorem Jc{c:UInt8}{t:Txt}(h:dO c=false):(c::t).dropWhile dO=c::t:=by rw[List.dropWhile_cons,if_neg (by rw[h];simp)]
theorem Jd{c:UInt8}{t:Txt}(h:dO c=true):(c::t).dropWhile dO=t.dropWhile dO:=by rw[List.dropWhile_cons,if_pos h]
theorem EL{s l:Txt}(h:s=l.dropWhile dO):((s.reverse).dropWhile dO).reverse=ru l:=by rw[h];rfl
theorem wS{c:UInt8}{t:Txt}:(⟨(c::t).toArray⟩:ByteArray).extract 1 (t.length+1)=⟨t.toArray⟩:=by
 have:=ext_end (c::t) 1;simpa using this
theorem ftrim_c(l:Txt)(hl:l.length≤1000000000)(w:World):
 Calls Tryz.prog 215 #[.string ⟨l.toArray⟩] w fun e w'=>e=.returned (.string ⟨(ru l).toArray⟩)∧w=w':=by
 go_enter Tryz.func215,Tryz.ntmps215;go_wp2
 go_loop [0] (fun v=>∃(s:Txt),v=.string ⟨s.toArray⟩∧s.length≤l.length∧Hid (s.dropWhile dO=l.dropWhile dO)) (fun v=>DJ v)
 case atStart=>exact⟨l,rfl,by omega,rfl⟩
 case round=>
  obtain⟨s,rfl,hk,hdec⟩:=hrel;cases s with
  |nil=>
   have hdec:=Lib.hid (show([] :Txt)=l.dropWhile dO from hdec.out);rename_i hdec0;clear hdec0
   go_wp2_with fail
   go_loop [0] (fun v=>∃(r:Txt),v=.string ⟨r.reverse.toArray⟩∧r.length≤l.length∧Hid ((r.dropWhile dO).reverse=ru l)) (fun v=>DJ v)
   case atStart=>exact⟨[].reverse,by simp,by simp,EL hdec.out⟩
   case round=>
    obtain⟨r,rfl,hk,xL⟩:=hrel;cases r with
    |nil=>
     have he:=Lib.hid (show ru l=[]from xL.out.symm);go_wp2;go_ret;rw[he.out];exact⟨rfl,rfl⟩
    |cons c t=>
     obtain⟨n,hn⟩:∃n,(c.toNat:Int)=n:=⟨_,rfl⟩
     have hu:=Bp c;rw[hn]at hu;obtain⟨q,hq⟩:∃q,(c::t).reverse=q:=⟨_,rfl⟩
     have hql:q.length=t.length+1:=by rw[←hq];simp
     have hx1:(⟨q.toArray⟩:ByteArray).extract 0 t.length=⟨t.reverse.toArray⟩:=by
      rw[Lib.extract_eq,gP,←hq];simp
     have hget:∀(h:t.length<q.length),q[t.length]=c:=by
      intro h;subst hq;simp
     rw[hq];have ht1:t.length≤1000000000:=by simp only[List.length_cons]at hk;omega
     have hql0:(0:Int)<q.length:=by omega
     have hsub:(q.length:Int) - 1=t.length:=by omega
     have hne:q≠[]:=by rw[←hq];simp
     have hbe:(q==[])=false:=by simpa using hne
     cases hb:nA n with
     |true=>
      rw[hb]at hu;have hd:=Lib.hid (show(t.dropWhile dO).reverse=ru l by rw[←Jd hu.symm];exact xL.out);have hc:=Lib.hid (fun W=>ow n W);rw[hb]at hc;clear hu hb xL hq
      go_wp2_with(go_at_call 128;((with_reducible refine(hc.out _).mono ?_);rintro e w1 ⟨rfl,rfl⟩))
      exact⟨⟨t,rfl,by simp only[List.length_cons]at hk;omega,hd⟩,by rw[lG,lG,List.length_reverse];omega⟩
     |false=>
      rw[hb]at hu;have hd:=Lib.hid (show q=ru l by rw[←hq,←xL.out,Jc hu.symm]);have hc:=Lib.hid (fun W=>ow n W);rw[hb]at hc;clear hu hb xL hq
      go_wp2_with(go_at_call 128;((with_reducible refine(hc.out _).mono ?_);rintro e w1 ⟨rfl,rfl⟩))
      go_ret;rw[←hd.out];exact⟨rfl,rfl⟩
  |cons c t=>
   obtain⟨n,hn⟩:∃n,(c.toNat:Int)=n:=⟨_,rfl⟩
   have hu:=Bp c;rw[hn]at hu;cases hb:nA n with
   |true=>
    rw[hb]at hu;have hd:=Lib.hid (show t.dropWhile dO=l.dropWhile dO by rw[←Jd hu.symm];exact hdec.out);have hc:=Lib.hid (fun W=>ow n W);rw[hb]at hc;clear hu hb hdec
    go_wp2_with(go_at_call 128;((with_reducible refine(hc.out _).mono ?_);rintro e w1 ⟨rfl,rfl⟩))
    refine⟨⟨t,by rw[wS],by simp only[List.length_cons]at hk;omega,hd⟩,by rw[wS,lG,lG];simp⟩
   |false=>
    rw[hb]at hu;have hdec:=Lib.hid (show c::t=l.dropWhile dO by rw[←Jc hu.symm];exact hdec.out);rename_i hdec0;have hc:=Lib.hid (fun W=>ow n W);rw[hb]at hc;clear hu hb hdec0
    go_wp2_with(go_at_call 128;((with_reducible refine(hc.out _).mono ?_);rintro e w1 ⟨rfl,rfl⟩))
    go_loop [0] (fun v=>∃(r:Txt),v=.string ⟨r.reverse.toArray⟩∧r.length≤l.length∧Hid ((r.dropWhile dO).reverse=ru l)) (fun v=>DJ v)
    case atStart=>exact⟨(c::t).reverse,by simp,by simpa using hk,EL hdec.out⟩
    case round=>
     obtain⟨r,rfl,hk,xL⟩:=hrel;cases r with
     |nil=>
      have he:=Lib.hid (show ru l=[]from xL.out.symm);go_wp2;go_ret;rw[he.out];exact⟨rfl,rfl⟩
     |cons c t=>
      obtain⟨n,hn⟩:∃n,(c.toNat:Int)=n:=⟨_,rfl⟩
      have hu:=Bp c;rw[hn]at hu;obtain⟨q,hq⟩:∃q,(c::t).reverse=q:=⟨_,rfl⟩
      have hql:q.length=t.length+1:=by rw[←hq];simp
      have hx1:(⟨q.toArray⟩:ByteArray).extract 0 t.length=⟨t.reverse.toArray⟩:=by
       rw[Lib.extract_eq,gP,←hq];simp
      have hget:∀(h:t.length<q.length),q[t.length]=c:=by
       intro h;subst hq;simp
      rw[hq];have ht1:t.length≤1000000000:=by simp only[List.length_cons]at hk;omega
      have hql0:(0:Int)<q.length:=by omega
      have hsub:(q.length:Int) - 1=t.length:=by omega
      have hne:q≠[]:=by rw[←hq];simp
      have hbe:(q==[])=false:=by simpa using hne
      cases hb:nA n with
      |true=>
       rw[hb]at hu;have hd:=Lib.hid (show(t.dropWhile dO).reverse=ru l by rw[←Jd hu.symm];exact xL.out);have hc:=Lib.hid (fun W=>ow n W);rw[hb]at hc;clear hu hb xL hq
       go_wp2_with(go_at_call 128;((with_reducible refine(hc.out _).mono ?_);rintro e w1 ⟨rfl,rfl⟩))
       exact⟨⟨t,rfl,by simp only[List.length_cons]at hk;omega,hd⟩,by rw[lG,lG,List.length_reverse];omega⟩
      |false=>
       rw[hb]at hu;have hd:=Lib.hid (show q=ru l by rw[←hq,←xL.out,Jc hu.symm]);have hc:=Lib.hid (fun W=>ow n W);rw[hb]at hc;clear hu hb xL hq
       go_wp2_with(go_at_call 128;((with_reducible refine(hc.out _).mono ?_);rintro e w1 ⟨rfl,rfl⟩))
       go_ret;rw[←hd.out];exact⟨rfl,rfl⟩
theorem own_ne{w:World}{base:Nat}{e e':TypeId}{size n b:Nat}{v:Value}{xs:List Value}{cur:Array Value}{fz:Nat×Nat}(h:w.ownsRow base e size v n xs)(hb:w.heap[b]?=some (.cells cur e' fz))(hne:e'≠e):v.ownBlock≠some b:=by
 rcases h.2 with⟨rfl,_⟩|⟨g,cap,cr,rfl,hg,hh,_⟩
 ·simp[Value.ownBlock]
 ·intro e0
  have:g=b:=by simpa [Value.ownBlock]using e0
  subst this;rw[hb]at hh;simp at hh;exact hne hh.2.1
theorem nV{w w':World}{base:Nat}{e e':TypeId}{size n b:Nat}{v:Value}{xs:List Value}{cur:Array Value}{fz:Nat×Nat}(h:w.ownsRow base e size v n xs)(hg:w.grownBy w' (some b))(hb:w.heap[b]?=some (.cells cur e' fz))(hne:e'≠e):w'.ownsRow base e size v n xs:=
 World.ownsRow.kept h hg (.inr (own_ne h hb hne))
theorem xX{w:World}{base:Nat}{e:TypeId}{size n b:Nat}{v:Value}{xs:List Value}(h:w.ownsRow base e size v n xs)(hv:v.ownBlock=some b):∃cur,w.heap[b]?=some (.cells cur e (0,0)):=by
 rcases h.2 with⟨rfl,_⟩|⟨g,cap,cr,rfl,hg,hh,_⟩
 ·simp[Value.ownBlock]at hv
 ·have:g=b:=by simpa [Value.ownBlock]using hv
  subst this;exact⟨cr,hh⟩
theorem uz{w w':World}{base base':Nat}{e e':TypeId}{size n size' n':Nat}{v v':Value}{xs xs':List Value}(h:w.ownsRow base e size v n xs)(h':w.ownsRow base' e' size' v' n' xs')(hg:w.grownBy w' v'.ownBlock)(hne:e'≠e):w'.ownsRow base e size v n xs:=by
 cases hv:v'.ownBlock with
 |none=>rw[hv]at hg;exact World.ownsRow.kept h hg (by cases hx:v.ownBlock<;>simp)
 |some b=>
  rw[hv]at hg;obtain⟨cur,hc⟩:=xX h' hv;exact nV h hg hc hne
theorem own_below{w w1:World}{base:Nat}{e:TypeId}{size n:Nat}{v:Value}{xs:List Value}(h:w.ownsRow base e size v n xs)(hb:Below w.heap.size w w1):w1.ownsRow base e size v n xs:=
 World.ownsRow.kept h (l6 hb none) (by cases hv:v.ownBlock<;>simp)
def pY(l:List (Txt×Txt)):List Value:=l.flatMap fun a=>[.string ⟨a.1.toArray⟩,.string ⟨a.2.toArray⟩]
def iY(w:World)(base:Nat)(v:Value)(l:List (Txt×Txt)):Prop:=w.ownsRow base 36 2 v l.length (pY l)
def xu(t:Tok)(va:Value):List Value:=[.int .i64 t.kind,.string ⟨t.name.toArray⟩,.string ⟨t.data.toArray⟩,va,.bool t.self]
def mq(w:World)(base:Nat)(v:Value)(l:List Tok):Prop:=
 ∃ps:List (Tok×Value),ps.map Prod.fst=l∧w.ownsRow base 65 5 v l.length (ps.flatMap fun p=>xu p.1 p.2)∧∀p∈ps,iY w base p.2 p.1.attrs
theorem iY.nil(w:World)(base:Nat):iY w base (.slice none 0 0) []:=World.ownsRow_nil _ _ _ _
theorem mq.nil(w:World)(base:Nat):mq w base (.slice none 0 0) []:=⟨[],rfl,World.ownsRow_nil _ _ _ _,by simp⟩
theorem iY.below{w w1:World}{base:Nat}{v:Value}{l:List (Txt×Txt)}(h:iY w base v l)(hb:Below w.heap.size w w1):iY w1 base v l:=own_below h hb
theorem mq.below{w w1:World}{base:Nat}{v:Value}{l:List Tok}(h:mq w base v l)(hb:Below w.heap.size w w1):mq w1 base v l:=by
 obtain⟨ps,h1,h2,h3⟩:=h;exact⟨ps,h1,own_below h2 hb,fun p hp=>(h3 p hp).below hb⟩
theorem mq.other{w w':World}{base b:Nat}{v:Value}{l:List Tok}{cur:Array Value}{e':TypeId}{fz:Nat×Nat}(h:mq w base v l)(hg:w.grownBy w' (some b))(hb:w.heap[b]?=some (.cells cur e' fz))(h1:e'≠65)(h2:e'≠36):mq w' base v l:=by
 obtain⟨ps,k1,k2,k3⟩:=h;exact⟨ps,k1,nV k2 hg hb h1,fun p hp=>nV (k3 p hp) hg hb h2⟩
theorem Pg:∃i z,Tryz.prog.info? 65=some i∧i.zero=some z∧i.size=5∧i.bytes=72∧z.cells.size=5:=by
 have h:(Tryz.prog.info? 65).map (fun i=>(i.zero.map fun z=>z.cells.size,i.size,i.bytes))=some (some 5,5,72):=by kernel_rfl
 cases hi:Tryz.prog.info? 65 with
 |none=>rw[hi]at h;simp at h
 |some i=>
  rw[hi]at h;simp at h;obtain⟨⟨z,hz,hs⟩,h2,h3⟩:=h;exact⟨i,z,rfl,hz,h2,h3,hs⟩
theorem attrInfo:∃i z,Tryz.prog.info? 36=some i∧i.zero=some z∧i.size=2∧i.bytes=32∧z.cells.size=2:=by
 have h:(Tryz.prog.info? 36).map (fun i=>(i.zero.map fun z=>z.cells.size,i.size,i.bytes))=some (some 2,2,32):=by kernel_rfl
 cases hi:Tryz.prog.info? 36 with
 |none=>rw[hi]at h;simp at h
 |some i=>
  rw[hi]at h;simp at h;obtain⟨⟨z,hz,hs⟩,h2,h3⟩:=h;exact⟨i,z,rfl,hz,h2,h3,hs⟩
theorem addr_add(g j:Nat):(⟨g,0,none⟩:Addr).add j=⟨g,j,none⟩:=by unfold Addr.add;split<;>simp_all
theorem Qw(a b:List (Txt×Txt)):pY (a++b)=pY a++pY b:=by simp[pY]
theorem Ph{w:World}{base:Nat}{e:TypeId}{size n:Nat}{v:Value}{xs:List Value}(h:w.ownsRow base e size v n xs):v.oneCell'=true:=by
 rcases h.2 with⟨rfl,_⟩|⟨g,cap,cr,rfl,_⟩<;>rfl
theorem JZ{w:World}{ops:Array Oper}{rest:List Oper}{o:Oper}{a:Act}{Q:Exit→Act→World→Prop}(hgd:o.guard=none)(sl x:Operand)
 (ho:o.op=.call {callee:=.builtin .append,args:=#[sl,x],argTypes:=#[32,32] })
 (base g:Nat) (v:Value) (l:List (Txt×Txt)) (t:Txt×Txt) (hs:a.eval sl=v) (hown:iY w base v l) (hx:a.eval x=.slice (some ⟨g,0,none⟩) 1 1)
 (hc0:w.cell? ⟨g,0,none⟩=some (.string ⟨t.1.toArray⟩)) (hc1:w.cell? ⟨g,1,none⟩=some (.string ⟨t.2.toArray⟩))
 (hlen:l.length+1≤1000000000000) (hbase:base≤w.heap.size)
 (h:∀v' w',iY w' base v' (l++[t])→w.grownBy w' v.ownBlock→Below base w w'→wpList Tryz.prog ops Q rest (a.put o.dst v') w'):wpList Tryz.prog ops Q (o::rest) a w:=by
 obtain⟨i,z,hi,hz,h2,h3,hzs⟩:=attrInfo;refine wpList_append_own _ hgd sl x 32 ho base 36 i z 2 32 Tryz.underlying32 hi hz h2 h3 hzs (by decide) v l.length (pY l) hs hown ⟨g,0,none⟩ 1 1 (pY [t]) hx rfl ?_ ?_ (by unfold maxLen;omega) (by omega) hbase ?_
 ·intro j u hj
  rw[addr_add]
  match j,hj with
  |0,hj=>simp[pY]at hj;subst hj;exact hc0
  |1,hj=>simp[pY]at hj;subst hj;exact hc1
 ·intro u hu
  simp[pY]at hu
  rcases hu with rfl|rfl<;>rfl
 ·intro v' w' hown' hgrow _
  refine h v' w' ?_ hgrow ((Below.refl base w).grown hgrow hbase (fun k hk=>oC hown hk));unfold iY;rw[Qw];simpa using hown'
theorem sG{w:World}{ops:Array Oper}{rest:List Oper}{o:Oper}{a:Act}{Q:Exit→Act→World→Prop}(hgd:o.guard=none)(sl x:Operand)
 (ho:o.op=.call {callee:=.builtin .append,args:=#[sl,x],argTypes:=#[26,26] })
 (base g:Nat) (v va:Value) (l:List Tok) (t:Tok) (hs:a.eval sl=v) (hown:mq w base v l) (hx:a.eval x=.slice (some ⟨g,0,none⟩) 1 1)
 (hc0:w.cell? ⟨g,0,none⟩=some (.int .i64 t.kind)) (hc1:w.cell? ⟨g,1,none⟩=some (.string ⟨t.name.toArray⟩)) (hc2:w.cell? ⟨g,2,none⟩=some (.string ⟨t.data.toArray⟩)) (hc3:w.cell? ⟨g,3,none⟩=some va) (hc4:w.cell? ⟨g,4,none⟩=some (.bool t.self))
 (hat:iY w base va t.attrs) (hlen:l.length+1≤1000000000000) (hbase:base≤w.heap.size)
 (h:∀v' w',mq w' base v' (l++[t])→w.grownBy w' v.ownBlock→Below base w w'→(∀(b:Nat) (cur:Array Value) (e:TypeId) (fz:Nat×Nat),w.heap[b]?=some (.cells cur e fz)→e≠65→w'.heap[b]?=some (.cells cur e fz))→wpList Tryz.prog ops Q rest (a.put o.dst v') w'):wpList Tryz.prog ops Q (o::rest) a w:=by
 obtain⟨i,z,hi,hz,h2,h3,hzs⟩:=Pg;obtain⟨ps,k1,k2,k3⟩:=hown;refine wpList_append_own _ hgd sl x 26 ho base 65 i z 5 72 Tryz.underlying26 hi hz h2 h3 hzs (by decide) v l.length _ hs k2 ⟨g,0,none⟩ 1 1 (xu t va) hx rfl ?_ ?_ (by unfold maxLen;omega) (by omega) hbase ?_
 ·intro j u hj
  rw[addr_add]
  match j,hj with
  |0,hj=>simp[xu]at hj;subst hj;exact hc0
  |1,hj=>simp[xu]at hj;subst hj;exact hc1
  |2,hj=>simp[xu]at hj;subst hj;exact hc2
  |3,hj=>simp[xu]at hj;subst hj;exact hc3
  |4,hj=>simp[xu]at hj;subst hj;exact hc4
 ·intro u hu
  simp[xu]at hu
  rcases hu with rfl|rfl|rfl|rfl|rfl
  ·rfl
  ·rfl
  ·rfl
  ·exact Ph hat
  ·rfl
 ·intro v' w' hown' hgrow _
  refine h v' w' ⟨ps++[(t,va)],by simp[k1],by simpa using hown',?_⟩ hgrow ((Below.refl base w).grown hgrow hbase (fun k hk=>oC k2 hk)) ?_
  ·intro p hp
   rw[List.mem_append]at hp
   rcases hp with hp|hp
   ·exact uz (k3 p hp) k2 hgrow (by decide)
   ·simp at hp
    subst hp;exact uz hat k2 hgrow (by decide)
  ·intro b cur e fz hb hne
   rw[hgrow.block b (Array.getElem?_eq_some_iff.1 hb).1 (fun e0=>own_ne k2 hb hne e0.symm)];exact hb
def Sc(w:World)(base b:Nat)(s t:Txt)(l:List Tok):Prop:=
 base≤b∧∃v,w.heap[b]?=some (.cells #[.string ⟨s.toArray⟩,.string ⟨t.toArray⟩,v] 92 (0,0))∧mq w base v l
theorem Sc.below{w w1:World}{base b:Nat}{s t:Txt}{l:List Tok}(h:Sc w base b s t l)(hb:Below w.heap.size w w1):Sc w1 base b s t l:=by
 obtain⟨h1,v,h2,h3⟩:=h;exact⟨h1,v,(hb.block b (Array.getElem?_eq_some_iff.1 h2).1).trans h2,h3.below hb⟩
theorem iV(w:World)(a:Addr)(v:Value):w.grownBy (w.setCell a v) (some a.block):=
 ⟨rfl,rfl,rfl,by simp,fun k _ hk=>heap_setCell_other w a k v (fun e=>hk (by simp[e]))⟩
theorem aH{B b j:Nat}{w W:World}(h:Below B w W)(hb:B≤b)(v:Value):Below B w (W.setCell ⟨b,j,none⟩ v):=h.setCell (p:=⟨b,j,none⟩) hb v
theorem Sc.q8{w:World}{base b:Nat}{s t:Txt}{l:List Tok}(h:Sc w base b s t l)(s':Txt):Sc (w.setCell ⟨b,0,none⟩ (.string ⟨s'.toArray⟩)) base b s' t l:=by
 obtain⟨h1,v,h2,h3⟩:=h;exact⟨h1,v,heap_setCell_same w b 0 _ _ _ h2,h3.other (iV w ⟨b,0,none⟩ _) h2 (by decide) (by decide)⟩
theorem Sc.F9{w:World}{base b:Nat}{s t:Txt}{l:List Tok}(h:Sc w base b s t l)(t':Txt):Sc (w.setCell ⟨b,1,none⟩ (.string ⟨t'.toArray⟩)) base b s t' l:=by
 obtain⟨h1,v,h2,h3⟩:=h;exact⟨h1,v,heap_setCell_same w b 1 _ _ _ h2,h3.other (iV w ⟨b,1,none⟩ _) h2 (by decide) (by decide)⟩
theorem Sc.uD{w:World}{base b:Nat}{s t:Txt}{l l':List Tok}{v v':Value}(h1:base≤b)(h2:w.heap[b]?=some (.cells #[.string ⟨s.toArray⟩,.string ⟨t.toArray⟩,v] 92 (0,0)))(h3:mq w base v' l'):Sc (w.setCell ⟨b,2,none⟩ v') base b s t l':=
 ⟨h1,v',heap_setCell_same w b 2 _ _ _ h2,h3.other (iV w ⟨b,2,none⟩ _) h2 (by decide) (by decide)⟩
end Go.Proofs.YtkcmghlhpbepcaaGreatDoor
namespace Go.Proofs.YtkcmghlhpbepcaaGreatDoor
open Go.Proofs
theorem cut1_le(c:UInt8)(l:Txt):(gW c l).2.1.length≤l.length:=by
 have:=qP c l;omega
theorem K3(s:Txt):(lM s).length≤s.length:=by
 unfold lM;simp
theorem valF_le(nm s:Txt):(valF nm s).2.1.length≤s.length:=by
 unfold valF
 split
 ·simp
 ·rename_i q t
  split
  ·have:=cut1_le q t
   simp only[List.length_cons];omega
  ·simp only[List.length_drop]
   omega
theorem attrR_le(nm s:Txt):(JB nm s).2.1.length≤s.length:=by
 have h1:=K3 s;unfold JB
 split
 ·simp
 ·rename_i c t h
  rw[h]at h1;simp only[List.length_cons]at h1
  split
  ·have h2:=valF_le nm (lM t)
   have h3:=K3 t;omega
  ·simp
theorem xw(c:UInt8)(s:Txt):(qQ (c::s)).2.1.length≤s.length:=by
 have h:=attrR_le (lY ((c::s).take (zJ (c::s)))) ((c::s).drop (zJ (c::s)));have:1≤zJ (c::s):=by unfold zJ;omega
 unfold qQ;simp only[List.length_drop,List.length_cons]at h;omega
theorem Co:∀(n m:Nat) (acc:List (Txt×Txt)) (s:Txt),s.length<n→s.length<m→wE n acc s=wE m acc s
 |0,_,_,_,h,_=>absurd h (Nat.not_lt_zero _)
 |_,0,_,_,_,h=>absurd h (Nat.not_lt_zero _)
 |n+1,m+1,acc,s,hn,hm=>by
  unfold wE;cases h:s.drop (tT s)with
  |nil=>rfl
  |cons c s1=>
   have h1:s1.length<s.length:=by
    have:=congrArg List.length h;simp at this;omega
   have h2:=xw c s1;simp only
   split
   ·rfl
   ·split
    ·exact Co n m _ _ (by omega) (by omega)
    ·rfl
theorem xZ(acc:List (Txt×Txt))(s:Txt):kV acc s=match s.drop (tT s)with
 | []=>none
 |c::s1=>if c=62 then some (acc,uV s,s1)else if(qQ (c::s1)).2.2 then kV (addA acc (qQ (c::s1)).1) (qQ (c::s1)).2.1 else none:=by
 unfold kV;rw[wE];cases h:s.drop (tT s)with
 |nil=>rfl
 |cons c s1=>
  have h1:s1.length<s.length:=by
   have:=congrArg List.length h;simp at this;omega
  have h2:=xw c s1;simp only
  split
  ·rfl
  ·split
   ·exact Co _ _ _ _ (by omega) (by omega)
   ·rfl
theorem Gb:∀(n:Nat) (acc:List (Txt×Txt)) (s:Txt) r,wE n acc s=some r→r.2.2.length≤s.length
 |0,_,_,_,h=>by simp[wE]at h
 |n+1,acc,s,r,h=>by
  unfold wE at h;cases hd:s.drop (tT s)with
  |nil=>rw[hd]at h;simp at h
  |cons c s1=>
   rw[hd]at h
   have h1:s1.length<s.length:=by
    have:=congrArg List.length hd;simp at this;omega
   have h2:=xw c s1;simp only at h
   split at h
   ·simp at h
    subst h;simp only;omega
   ·split at h
    ·have:=Gb n _ _ r h
     omega
    ·simp at h
theorem zu{s:Txt}{r:Tok×Txt}(h:gB s=some r):r.2.length≤s.length:=by
 unfold gB at h;cases ha:kV [] (s.drop (s.findIdx eB))with
 |none=>rw[ha]at h;simp at h
 |some q=>
  rw[ha]at h;simp at h;have:=Gb _ _ _ _ ha;subst h;simp only[List.length_drop]at *;omega
theorem Pn(k:Int)(s:Txt):(wR k s).2.length≤s.length:=by
 unfold wR;cases ho:gB s with
 |none=>simp
 |some r=>
  have:=zu ho;simp only
  split
  ·simpa using this
  ·split
   ·simp only[kF,List.length_drop]
    omega
   ·simpa using this
theorem cut_le(s e:Txt):(Lib.cut s e).2.1.length≤s.length:=by
 unfold Lib.cut
 split
 ·simp
 ·simp
theorem xK(k:Int)(s e:Txt):(rA k s e).2.length≤s.length:=cut_le s e
theorem K4(s:Txt):(lD s).2.length≤s.length:=by
 unfold lD
 split
 ·simp
 ·split
  ·simp
  ·exact xK _ _ _
theorem ED{s:Txt}{r:List Tok×Txt}(h:jJ s=some r):r.2.length≤s.length:=by
 unfold jJ at h;have hd:∀n,(s.drop n).length≤s.length:=by simp
 have ht:s.tail.length≤s.length:=by simp
 split at h
 ·simp at h;subst h;exact Pn _ _
 ·split at h
  ·simp at h;subst h;exact Nat.le_trans (Pn _ _) ht
  ·split at h
   ·simp at h;subst h;exact hd 2
   ·split at h
    ·simp at h;subst h;exact Nat.le_trans (K4 _) (hd 3)
    ·split at h
     ·simp at h;subst h;exact Nat.le_trans (xK _ _ _) (hd 8)
     ·split at h
      ·simp at h;subst h;exact Nat.le_trans (xK _ _ _) ht
      ·split at h
       ·simp at h;subst h;exact xK _ _ _
       ·split at h
        ·simp at h;subst h;exact Nat.le_trans (xK _ _ _) ht
        ·simp at h
theorem yA:∀(n m:Nat) (t s:Txt),s.length<n→s.length<m→runN n t s=runN m t s
 |0,_,_,_,h,_=>absurd h (Nat.not_lt_zero _)
 |_,0,_,_,_,h=>absurd h (Nat.not_lt_zero _)
 |n+1,m+1,t,s,hn,hm=>by
  unfold runN;cases h:s.drop (jv s)with
  |nil=>rfl
  |cons c s1=>
   have h1:s1.length<s.length:=by
    have:=congrArg List.length h;simp at this;omega
   simp only;cases ho:jJ s1 with
   |none=>exact yA n m _ _ (by omega) (by omega)
   |some r=>
    have:=ED ho;obtain⟨ts,r⟩:=r;simp only at *;rw[yA n m _ _ (by omega) (by omega)]
theorem AJ(t s:Txt):oK t s=match s.drop (jv s)with
 | []=>fC (t++s.take (jv s))
 |_::s1=>
  match jJ s1 with
  |none=>oK (t++s.take (jv s)++[60]) s1
  |some (ts,r)=>fC (t++s.take (jv s))++ts++oK [] r:=by
 unfold oK;rw[runN];cases h:s.drop (jv s)with
 |nil=>rfl
 |cons c s1=>
  have h1:s1.length<s.length:=by
   have:=congrArg List.length h;simp at this;omega
  simp only;cases ho:jJ s1 with
  |none=>exact yA _ _ _ _ (by omega) (by omega)
  |some r=>
   have:=ED ho;obtain⟨ts,r⟩:=r;simp only at *;rw[yA s.length (r.length+1) [] r (by omega) (by omega)]
end Go.Proofs.YtkcmghlhpbepcaaGreatDoor
namespace Go.Proofs.YtkcmghlhpbepcaaGreatDoor
open Go.RowKit Go.Proofs
@[go_sem] theorem tail_go (c : UInt8) (t : Txt) : (⟨(c :: t).toArray⟩ : ByteArray).extract 1 (t.length + 1) = ⟨t.toArray⟩ := wS
theorem gK{w:World}{b:Nat}{x y:Value}{t:TypeId}(h:w.heap[b]?=some (.cells #[x,y] t (0,0))):w.cell? ⟨b,0,none⟩=some x∧w.cell? ⟨b,1,none⟩=some y∧w.frozen? ⟨b,0,none⟩=false∧w.frozen? ⟨b,1,none⟩=false:=by
 refine⟨?_,?_,?_,?_⟩
 ·rw[Lib.cell_of_heap h];rfl
 ·rw[Lib.cell_of_heap h];rfl
 ·exact frozen_of_row w b 0 _ _ h
 ·exact frozen_of_row w b 1 _ _ h
theorem mJ{w:World}{b:Nat}{x y:Value}{t:TypeId}(h:w.heap[b]?=some (.cells #[x,y] t (0,0))):(∀o,(w.alloc o).cell? ⟨b,0,none⟩=some x)∧(∀o,(w.alloc o).cell? ⟨b,1,none⟩=some y)∧(∀o,(w.alloc o).frozen? ⟨b,0,none⟩=false)∧(∀o,(w.alloc o).frozen? ⟨b,1,none⟩=false):=by
 have hlt:b<w.heap.size:=(Array.getElem?_eq_some_iff.1 h).1;have h':∀o,(w.alloc o).heap[b]?=some (.cells #[x,y] t (0,0)):=fun o=>(heap_alloc_old w _ hlt).trans h
 exact⟨fun o=>(gK (h' o)).1,fun o=>(gK (h' o)).2.1,fun o=>(gK (h' o)).2.2.1,fun o=>(gK (h' o)).2.2.2⟩
theorem attrK_le{l:Txt}(h:0<l.length):∃k,zJ l=1+k∧l.tail.findIdx (fun c=>eB c||c==61)=k∧1+k≤l.length:=by
 refine⟨_,rfl,rfl,?_⟩;have:=List.findIdx_le_length (p:=fun c=>eB c||c==61) (xs:=l.tail);rw[List.length_tail]at this;omega
theorem qI{s t:Txt}{c:UInt8}(h:lM s=c::t):∃k,s.findIdx (fun c=>!dO c)=k∧k<s.length∧(∀h:k<s.length,s[k]=c)∧s.drop (k+1)=t:=by
 unfold lM at h;refine⟨_,rfl,?_⟩;generalize s.findIdx (fun c=>!dO c)=k at *
 have hlt:k<s.length:=by
  have:=congrArg List.length h;simp at this;omega
 rw[List.drop_eq_getElem_cons hlt]at h;injection h with h1 h2
 exact⟨hlt,fun _=>h1,h2⟩
theorem FJ{s:Txt}(h:lM s=[]):s.findIdx (fun c=>!dO c)=s.length:=by
 have h1:=List.findIdx_le_length (p:=fun c=>!dO c) (xs:=s);have h2:=List.drop_eq_nil_iff.1 h;omega
theorem Jw(l nm s1:Txt)(k:Nat)(hl:l.length≤1000000000)(hk:1+k≤l.length)(hK:l.tail.findIdx (fun c=>eB c||c==61)=k)(hnm:lY (l.take (1+k))=nm)(hs1:l.drop (1+k)=s1)(hsk:lM s1=[])(w:World)(hS:Std w):
 Calls Tryz.prog 230 #[.string ⟨l.toArray⟩] w fun e w'=>e=.returned (.tuple #[.agg #[.string ⟨nm.toArray⟩,.string ⟨([] :Txt).toArray⟩],.string ⟨([] :Txt).toArray⟩,.bool false])∧Below w.heap.size w w':=by
 have hsl:s1.length≤1000000000:=by rw[←hs1];simp;omega
 have hc1:=Lib.hid (fun W=>qN l.tail (by simp;omega) W);have hc2:=Lib.hid (fun W=>nE (l.take (1+k)) (by simp;omega) W);have hc3:=Lib.hid (fun W=>qO s1 hsl W);rw[hK]at hc1;rw[hnm]at hc2;rw[FJ hsk]at hc3;clear hsk;clear hK hnm;go_enter Tryz.func230,Tryz.ntmps230
 go_wp2_with(first
  |(go_at_call 156;first
   |((with_reducible refine(hc1.out _).mono ?_);rintro e w1 ⟨rfl,rfl⟩)
   |((with_reducible refine(hc3.out _).mono ?_);rintro e w1 ⟨rfl,rfl⟩))
  |(go_at_call 187;((with_reducible refine(hc2.out _).mono ?_);rintro e w1 ⟨rfl,hb⟩;have hB1:=bD ((Below.refl w.heap.size w).alloc (Nat.le_refl _) _) (by simp) hb;have r0:=(hb.block w.heap.size (by simp)).trans (bQ _ _ _);obtain⟨q1,q2,q3,q4⟩:=mJ r0;have hz1:=hb.size;simp at hz1;have hS1:=hS.below hB1;have hne1:w1.heap.size≠w.heap.size:=(by omega);have hne2:w.heap.size≠w1.heap.size:=(by omega);clear hb)))
 refine bodyPost_ret (v:=.tuple #[.agg #[.string ⟨nm.toArray⟩,.string ⟨([] :Txt).toArray⟩],.string ⟨([] :Txt).toArray⟩,.bool false]) (by simp[results,Tryz.results230,go_sem,q1,q2]) rfl ⟨rfl,aH (aH (hB1.alloc (by omega) _) (Nat.le_refl _) _) (Nat.le_refl _) _⟩
theorem Jy(l nm s1 t2:Txt)(c:UInt8)(k:Nat)(hl:l.length≤1000000000)(hk:1+k≤l.length)(hK:l.tail.findIdx (fun c=>eB c||c==61)=k)(hnm:lY (l.take (1+k))=nm)(hs1:l.drop (1+k)=s1)(hsk:lM s1=c::t2)(hc61:c≠61)(w:World)(hS:Std w):
 Calls Tryz.prog 230 #[.string ⟨l.toArray⟩] w fun e w'=>e=.returned (.tuple #[.agg #[.string ⟨nm.toArray⟩,.string ⟨([] :Txt).toArray⟩],.string ⟨(s1:Txt).toArray⟩,.bool true])∧Below w.heap.size w w':=by
 have hsl:s1.length≤1000000000:=by rw[←hs1];simp;omega
 have hc1:=Lib.hid (fun W=>qN l.tail (by simp;omega) W);have hc2:=Lib.hid (fun W=>nE (l.take (1+k)) (by simp;omega) W);have hc3:=Lib.hid (fun W=>qO s1 hsl W);rw[hK]at hc1;rw[hnm]at hc2;obtain⟨k2,h21,h22,h23,h24⟩:=qI hsk;rw[h21]at hc3;have h23:=h23 h22;obtain⟨n,hn⟩:∃n,(c.toNat:Int)=n:=⟨_,rfl⟩
 have hn61:n≠61:=by
  intro e;exact hc61 (zK (n:=61) (by omega) (by omega))
 clear hsk h21 h24 hc61;clear hK hnm;go_enter Tryz.func230,Tryz.ntmps230
 go_wp2_with(first
  |(go_at_call 156;first
   |((with_reducible refine(hc1.out _).mono ?_);rintro e w1 ⟨rfl,rfl⟩)
   |((with_reducible refine(hc3.out _).mono ?_);rintro e w1 ⟨rfl,rfl⟩))
  |(go_at_call 187;((with_reducible refine(hc2.out _).mono ?_);rintro e w1 ⟨rfl,hb⟩;have hB1:=bD ((Below.refl w.heap.size w).alloc (Nat.le_refl _) _) (by simp) hb;have r0:=(hb.block w.heap.size (by simp)).trans (bQ _ _ _);obtain⟨q1,q2,q3,q4⟩:=mJ r0;have hz1:=hb.size;simp at hz1;have hS1:=hS.below hB1;have hne1:w1.heap.size≠w.heap.size:=(by omega);have hne2:w.heap.size≠w1.heap.size:=(by omega);clear hb)))
 refine bodyPost_ret (v:=.tuple #[.agg #[.string ⟨nm.toArray⟩,.string ⟨([] :Txt).toArray⟩],.string ⟨(s1:Txt).toArray⟩,.bool true]) (by simp[results,Tryz.results230,go_sem,q1,q2]) rfl ⟨rfl,aH (aH (hB1.alloc (by omega) _) (Nat.le_refl _) _) (Nat.le_refl _) _⟩
theorem Jz(l nm s1 t2:Txt)(k:Nat)(hl:l.length≤1000000000)(hk:1+k≤l.length)(hK:l.tail.findIdx (fun c=>eB c||c==61)=k)(hnm:lY (l.take (1+k))=nm)(hs1:l.drop (1+k)=s1)(hsk:lM s1=61::t2)(tu:lM t2=[])(w:World)(hS:Std w):
 Calls Tryz.prog 230 #[.string ⟨l.toArray⟩] w fun e w'=>e=.returned (.tuple #[.agg #[.string ⟨nm.toArray⟩,.string ⟨([] :Txt).toArray⟩],.string ⟨([] :Txt).toArray⟩,.bool false])∧Below w.heap.size w w':=by
 have hsl:s1.length≤1000000000:=by rw[←hs1];simp;omega
 have hc1:=Lib.hid (fun W=>qN l.tail (by simp;omega) W);have hc2:=Lib.hid (fun W=>nE (l.take (1+k)) (by simp;omega) W);have hc3:=Lib.hid (fun W=>qO s1 hsl W);rw[hK]at hc1;rw[hnm]at hc2;obtain⟨k2,h21,h22,h23,h24⟩:=qI hsk;rw[h21]at hc3;have h23:=h23 h22;have ht2:t2.length≤1000000000:=by rw[←h24];simp;omega
 have hc4:=Lib.hid (fun W=>wT t2 ht2 W);rw[FJ tu]at hc4;clear hsk h21 tu;clear hK hnm;go_enter Tryz.func230,Tryz.ntmps230
 go_wp2_with(first
  |(go_at_call 156;first
   |((with_reducible refine(hc1.out _).mono ?_);rintro e w1 ⟨rfl,rfl⟩)
   |((with_reducible refine(hc3.out _).mono ?_);rintro e w1 ⟨rfl,rfl⟩)
   |((with_reducible refine(hc4.out _).mono ?_);rintro e w1 ⟨rfl,rfl⟩))
  |(go_at_call 187;((with_reducible refine(hc2.out _).mono ?_);rintro e w1 ⟨rfl,hb⟩;have hB1:=bD ((Below.refl w.heap.size w).alloc (Nat.le_refl _) _) (by simp) hb;have r0:=(hb.block w.heap.size (by simp)).trans (bQ _ _ _);obtain⟨q1,q2,q3,q4⟩:=mJ r0;have hz1:=hb.size;simp at hz1;have hS1:=hS.below hB1;have hne1:w1.heap.size≠w.heap.size:=(by omega);have hne2:w.heap.size≠w1.heap.size:=(by omega);clear hb)))
 refine bodyPost_ret (v:=.tuple #[.agg #[.string ⟨nm.toArray⟩,.string ⟨([] :Txt).toArray⟩],.string ⟨([] :Txt).toArray⟩,.bool false]) (by simp[results,Tryz.results230,go_sem,q1,q2]) rfl ⟨rfl,aH (aH (hB1.alloc (by omega) _) (Nat.le_refl _) _) (Nat.le_refl _) _⟩
theorem Fu(l nm s1 t2 t3:Txt)(k:Nat)(hl:l.length≤1000000000)(hk:1+k≤l.length)(hK:l.tail.findIdx (fun c=>eB c||c==61)=k)(hnm:lY (l.take (1+k))=nm)(hs1:l.drop (1+k)=s1)(hsk:lM s1=61::t2)(tu:lM t2=34::t3)(w:World)(hS:Std w):
 Calls Tryz.prog 230 #[.string ⟨l.toArray⟩] w fun e w'=>e=.returned (.tuple #[.agg #[.string ⟨nm.toArray⟩,.string ⟨(iQ (gW 34 t3).1:Txt).toArray⟩],.string ⟨((gW 34 t3).2.1:Txt).toArray⟩,.bool (gW 34 t3).2.2])∧Below w.heap.size w w':=by
 have hsl:s1.length≤1000000000:=by rw[←hs1];simp;omega
 have hc1:=Lib.hid (fun W=>qN l.tail (by simp;omega) W);have hc2:=Lib.hid (fun W=>nE (l.take (1+k)) (by simp;omega) W);have hc3:=Lib.hid (fun W=>qO s1 hsl W);rw[hK]at hc1;rw[hnm]at hc2;obtain⟨k2,h21,h22,h23,h24⟩:=qI hsk;rw[h21]at hc3;have h23:=h23 h22;have ht2:t2.length≤1000000000:=by rw[←h24];simp;omega
 have hc4:=Lib.hid (fun W=>wT t2 ht2 W);obtain⟨k3,h31⟩:∃k3,t2.findIdx (fun c=>!dO c)=k3:=⟨_,rfl⟩
 rw[h31]at hc4;have h3le:k3≤t2.length:=by rw[←h31];exact List.findIdx_le_length
 have h32:t2.drop k3=34::t3:=by rw[←h31];exact tu
 have h3l:=congrArg List.length h32;simp only[List.length_drop,List.length_cons]at h3l;have hcut:=Lib.hid (fun W hS=>cut_c t3 34 (by omega) W hS);have hcl:=qP 34 t3;generalize gW 34 t3=cc at *;obtain⟨v1,v2,fd⟩:=cc;have hdec:=Lib.hid (fun W hS=>tC v1 (by simp only at hcl;omega) W hS);simp only at hcut;clear hsk h21 tu h31 hcl;clear hK hnm;go_enter Tryz.func230,Tryz.ntmps230
 go_wp2_with(first
  |(go_at_call 156;first
   |((with_reducible refine(hc1.out _).mono ?_);rintro e w1 ⟨rfl,rfl⟩)
   |((with_reducible refine(hc3.out _).mono ?_);rintro e w1 ⟨rfl,rfl⟩)
   |((with_reducible refine(hc4.out _).mono ?_);rintro e w1 ⟨rfl,rfl⟩))
  |(go_at_call 187;((with_reducible refine(hc2.out _).mono ?_);rintro e w1 ⟨rfl,hb⟩;have hB1:=bD ((Below.refl w.heap.size w).alloc (Nat.le_refl _) _) (by simp) hb;have r0:=(hb.block w.heap.size (by simp)).trans (bQ _ _ _);obtain⟨q1,q2,q3,q4⟩:=mJ r0;have hz1:=hb.size;simp at hz1;have hS1:=hS.below hB1;have hne1:w1.heap.size≠w.heap.size:=(by omega);have hne2:w.heap.size≠w1.heap.size:=(by omega);clear hb))
  |(go_at_call 188;((with_reducible refine(hcut.out _ (hS1.alloc _)).mono ?_);rintro e w2 ⟨rfl,hb2⟩;have hB2:=bD (hB1.alloc (by omega) _) (by simp;omega) hb2;have r02:=(hb2.block w.heap.size (by simp;omega)).trans ((heap_alloc_old w1 _ (by omega)).trans r0);have r12:=(hb2.block w1.heap.size (by simp)).trans (bQ _ _ _);have hz2:=hb2.size;simp at hz2;have hS2:=hS.below hB2;clear hb2))
  |(go_at_call 155;((with_reducible refine(hdec.out _ hS2).mono ?_);rintro e w3 ⟨rfl,hb3⟩;have hB3:=bD hB2 (by omega) hb3;obtain⟨p1,p2,p3,p4⟩:=gK ((hb3.block w.heap.size (by omega)).trans r02);obtain⟨p5,p6,p7,p8⟩:=gK ((hb3.block w1.heap.size (by omega)).trans r12);clear hb3)))
 refine bodyPost_ret (v:=.tuple #[.agg #[.string ⟨nm.toArray⟩,.string ⟨(iQ v1:Txt).toArray⟩],.string ⟨(v2:Txt).toArray⟩,.bool fd]) (by simp[results,Tryz.results230,go_sem,p1,p2,hne1,hne2]) rfl ⟨rfl,aH (aH (aH hB3 (by omega) _) (Nat.le_refl _) _) (Nat.le_refl _) _⟩
theorem Fv(l nm s1 t2 t3:Txt)(k:Nat)(hl:l.length≤1000000000)(hk:1+k≤l.length)(hK:l.tail.findIdx (fun c=>eB c||c==61)=k)(hnm:lY (l.take (1+k))=nm)(hs1:l.drop (1+k)=s1)(hsk:lM s1=61::t2)(tu:lM t2=39::t3)(w:World)(hS:Std w):
 Calls Tryz.prog 230 #[.string ⟨l.toArray⟩] w fun e w'=>e=.returned (.tuple #[.agg #[.string ⟨nm.toArray⟩,.string ⟨(iQ (gW 39 t3).1:Txt).toArray⟩],.string ⟨((gW 39 t3).2.1:Txt).toArray⟩,.bool (gW 39 t3).2.2])∧Below w.heap.size w w':=by
 have hsl:s1.length≤1000000000:=by rw[←hs1];simp;omega
 have hc1:=Lib.hid (fun W=>qN l.tail (by simp;omega) W);have hc2:=Lib.hid (fun W=>nE (l.take (1+k)) (by simp;omega) W);have hc3:=Lib.hid (fun W=>qO s1 hsl W);rw[hK]at hc1;rw[hnm]at hc2;obtain⟨k2,h21,h22,h23,h24⟩:=qI hsk;rw[h21]at hc3;have h23:=h23 h22;have ht2:t2.length≤1000000000:=by rw[←h24];simp;omega
 have hc4:=Lib.hid (fun W=>wT t2 ht2 W);obtain⟨k3,h31⟩:∃k3,t2.findIdx (fun c=>!dO c)=k3:=⟨_,rfl⟩
 rw[h31]at hc4;have h3le:k3≤t2.length:=by rw[←h31];exact List.findIdx_le_length
 have h32:t2.drop k3=39::t3:=by rw[←h31];exact tu
 have h3l:=congrArg List.length h32;simp only[List.length_drop,List.length_cons]at h3l;have hcut:=Lib.hid (fun W hS=>cut_c t3 39 (by omega) W hS);have hcl:=qP 39 t3;generalize gW 39 t3=cc at *;obtain⟨v1,v2,fd⟩:=cc;have hdec:=Lib.hid (fun W hS=>tC v1 (by simp only at hcl;omega) W hS);simp only at hcut;clear hsk h21 tu h31 hcl;clear hK hnm;go_enter Tryz.func230,Tryz.ntmps230
 go_wp2_with(first
  |(go_at_call 156;first
   |((with_reducible refine(hc1.out _).mono ?_);rintro e w1 ⟨rfl,rfl⟩)
   |((with_reducible refine(hc3.out _).mono ?_);rintro e w1 ⟨rfl,rfl⟩)
   |((with_reducible refine(hc4.out _).mono ?_);rintro e w1 ⟨rfl,rfl⟩))
  |(go_at_call 187;((with_reducible refine(hc2.out _).mono ?_);rintro e w1 ⟨rfl,hb⟩;have hB1:=bD ((Below.refl w.heap.size w).alloc (Nat.le_refl _) _) (by simp) hb;have r0:=(hb.block w.heap.size (by simp)).trans (bQ _ _ _);obtain⟨q1,q2,q3,q4⟩:=mJ r0;have hz1:=hb.size;simp at hz1;have hS1:=hS.below hB1;have hne1:w1.heap.size≠w.heap.size:=(by omega);have hne2:w.heap.size≠w1.heap.size:=(by omega);clear hb))
  |(go_at_call 188;((with_reducible refine(hcut.out _ (hS1.alloc _)).mono ?_);rintro e w2 ⟨rfl,hb2⟩;have hB2:=bD (hB1.alloc (by omega) _) (by simp;omega) hb2;have r02:=(hb2.block w.heap.size (by simp;omega)).trans ((heap_alloc_old w1 _ (by omega)).trans r0);have r12:=(hb2.block w1.heap.size (by simp)).trans (bQ _ _ _);have hz2:=hb2.size;simp at hz2;have hS2:=hS.below hB2;clear hb2))
  |(go_at_call 155;((with_reducible refine(hdec.out _ hS2).mono ?_);rintro e w3 ⟨rfl,hb3⟩;have hB3:=bD hB2 (by omega) hb3;obtain⟨p1,p2,p3,p4⟩:=gK ((hb3.block w.heap.size (by omega)).trans r02);obtain⟨p5,p6,p7,p8⟩:=gK ((hb3.block w1.heap.size (by omega)).trans r12);clear hb3)))
 refine bodyPost_ret (v:=.tuple #[.agg #[.string ⟨nm.toArray⟩,.string ⟨(iQ v1:Txt).toArray⟩],.string ⟨(v2:Txt).toArray⟩,.bool fd]) (by simp[results,Tryz.results230,go_sem,p1,p2,hne1,hne2]) rfl ⟨rfl,aH (aH (aH hB3 (by omega) _) (Nat.le_refl _) _) (Nat.le_refl _) _⟩
end Go.Proofs.YtkcmghlhpbepcaaGreatDoor
