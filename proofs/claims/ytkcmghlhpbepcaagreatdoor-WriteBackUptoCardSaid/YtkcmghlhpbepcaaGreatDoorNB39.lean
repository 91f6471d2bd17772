/- Lemmas and walks, part 39. -/
import Derived.Test.YtkcmghlhpbepcaaGreatDoorNB38
set_option linter.unusedVariables false
set_option linter.unusedSimpArgs false
set_option maxHeartbeats 8000000
set_option maxRecDepth 100000
namespace Go.Proofs.aj.W7
open Go.RowKit Go.Proofs Go.Proofs.YtkcmghlhpbepcaaGreatDoor Go.Proofs.ah.aD
def Kv(l0:List Rw)(k:Int)(sf:Bool):Option Bool:=
 if h:0≤k∧k.toNat<l0.length then
  if l0[k.toNat].f1=1 then
   if sf then some true
   else(strings_Contains.f l0[k.toNat].f3 ⟨#[60,47]⟩).bind fun c=>if c then some false else(strings_HasSuffix.f l0[k.toNat].f3 ⟨#[60]⟩).bind fun h=>some (!h)
  else some false
 else none
def wiF(l0:List Rw)(v rw sf:Bool):List Int→Option Bool
 | []=>some true
 |k::ks=>if v then some false else if(rw||sf)=false then some true else match ks with
  | []=>Kv l0 k sf
  |_::_=>some false
def gD.f(l0:List Rw)(i:Int):Option Bool:=
 if h:0≤i∧i.toNat<l0.length then
  (lW.f l0 i).bind fun ks=>(gH.f 100 l0[i.toNat].f2).bind fun v=>(kY.f 100 l0[i.toNat].f2).bind fun rw=>(kP.f 100 l0[i.toNat].f2).bind fun sf=>wiF l0 v rw sf ks
 else none
theorem keep5{w W:World}{p:Addr}{v0 v1 v2 v3 v4:Value}(h:Below w.heap.size w W)(z0:w.cell? p=some v0)(z1:w.cell? ⟨p.block,p.off+1,none⟩=some v1)(z2:w.cell? ⟨p.block,p.off+2,none⟩=some v2)(z3:w.cell? ⟨p.block,p.off+3,none⟩=some v3)(z4:w.cell? ⟨p.block,p.off+4,none⟩=some v4):
 W.cell? p=some v0∧W.cell? ⟨p.block,p.off+1,none⟩=some v1∧W.cell? ⟨p.block,p.off+2,none⟩=some v2∧W.cell? ⟨p.block,p.off+3,none⟩=some v3∧W.cell? ⟨p.block,p.off+4,none⟩=some v4:=
 ⟨aV z0 h,aV z1 h,aV z2 h,aV z3 h,aV z4 h⟩
theorem put5{W:World}{b:Nat}{u0 u1 u2 u3 u4:Value}{t:TypeId}(h:W.heap[b]?=some (.cells #[u0,u1,u2,u3,u4] t (0,0)))(v0 v1 v2 v3 v4:Value):(((((W.setCell ⟨b,0,none⟩ v0).setCell ⟨b,1,none⟩ v1).setCell ⟨b,2,none⟩ v2).setCell ⟨b,3,none⟩ v3).setCell ⟨b,4,none⟩ v4).heap[b]?=some (.cells #[v0,v1,v2,v3,v4] t (0,0)):=
 bU (bU (bU (bU (bU h 0 v0 rfl) 1 v1 rfl) 2 v2 rfl) 3 v3 rfl) 4 v4 rfl
theorem put5R{W:World}{b n:Nat}{cs:Array Value}{v:Value}{ks:List Int}{ok:Nat→Prop}(h:W.heap[b]?=some (.cells cs 34 (0,0)))(hR:(Kd.int .i64).R 3 W n ok v ks)(v0 v1 v2 v3 v4:Value):(Kd.int .i64).R 3 (((((W.setCell ⟨b,0,none⟩ v0).setCell ⟨b,1,none⟩ v1).setCell ⟨b,2,none⟩ v2).setCell ⟨b,3,none⟩ v3).setCell ⟨b,4,none⟩ v4) n (fun _=>True) v ks:=
 Kd.iJ (Kd.gX (Kd.gX (Kd.gX (Kd.gX (Kd.gX (Kd.oK hR h (by decide)) (fun _ hk=>hk.2) v0) (fun _ hk=>hk.2) v1) (fun _ hk=>hk.2) v2) (fun _ hk=>hk.2) v3) (fun _ hk=>hk.2) v4) (fun _ _=>trivial)
theorem put5B{w W:World}{b:Nat}(h:Below w.heap.size w W)(hb:w.heap.size≤b)(v0 v1 v2 v3 v4:Value):Below w.heap.size w (((((W.setCell ⟨b,0,none⟩ v0).setCell ⟨b,1,none⟩ v1).setCell ⟨b,2,none⟩ v2).setCell ⟨b,3,none⟩ v3).setCell ⟨b,4,none⟩ v4):=
 aH (aH (aH (aH (aH h hb) hb) hb) hb) hb
theorem put5all{w W:World}{b n:Nat}{v:Value}{ks:List Int}{ok:Nat→Prop}{u0 u1 u2 u3 u4:Value}(h:W.heap[b]?=some (.cells #[u0,u1,u2,u3,u4] 34 (0,0)))(hR:(Kd.int .i64).R 3 W n ok v ks)(hB:Below w.heap.size w W)(hb:w.heap.size≤b)(v0 v1 v2 v3 v4:Value):
 ∀W5,W5=(((((W.setCell ⟨b,0,none⟩ v0).setCell ⟨b,1,none⟩ v1).setCell ⟨b,2,none⟩ v2).setCell ⟨b,3,none⟩ v3).setCell ⟨b,4,none⟩ v4)→W5.heap[b]?=some (.cells #[v0,v1,v2,v3,v4] 34 (0,0))∧(Kd.int .i64).R 3 W5 n (fun _=>True) v ks∧Below w.heap.size w W5:=
 fun _ e=>e▸⟨put5 h _ _ _ _ _,put5R h hR _ _ _ _ _,put5B hB hb _ _ _ _ _⟩
theorem Q5{w W:World}{n:Nat}{v:Value}{ks:List Int}{ok:Nat→Prop}{z:Obj}{x:Option Obj}(_:(W.alloc z).heap[W.heap.size]?=x)(hR:(Kd.int .i64).R 3 W n ok v ks)(hB:Below w.heap.size w W)(v0 v1 v2 v3 v4:Value):
 ∀W5,W5=W.alloc (.cells #[v0,v1,v2,v3,v4] 34)→W5.heap[W.heap.size]?=some (.cells #[v0,v1,v2,v3,v4] 34 (0,0))∧(Kd.int .i64).R 3 W5 n (fun _=>True) v ks∧Below w.heap.size w W5:=
 fun _ e=>e▸⟨bR W _ _,Kd.iJ (Kd.fu hR _) (fun _ _=>trivial),hB.alloc hB.size _⟩
theorem wi_calls(A:Option Addr)(c:Nat)(xs:List Rw)(hcap:xs.length≤c)(m:Nat)(hm:m<xs.length)(ks:List Int)(hks:lW.f xs m=some ks)(v rw sf r:Bool)(hv:gH.f 100 xs[m].f2=some v)(hrw:kY.f 100 xs[m].f2=some rw)(hsf:kP.f 100 xs[m].f2=some sf)(hf:wiF xs v rw sf ks=some r)(w:World)(hr:k34.C w A xs.length xs)(hS:Er w):
 Calls Tryz.prog 50 #[.slice A xs.length c,.int .i64 m] w fun e w'=>e=.returned (.bool r)∧Below w.heap.size w w':=by
 have hxl:=hr.2.1;obtain⟨g,o,A4,c4,rfl,z0,z1,z2,z3,z4,l4,hat⟩:=vI hr m hm;generalize xs[m]=x at z0 z1 z2 z3 z4 l4 hat hv hrw hsf;obtain⟨xd,xk,xn,xt,xa⟩:=x;simp only at z0 z1 z2 z3 z4 l4 hat hv hrw hsf;have hvo:=Lib.hid (fun W=>gH.calls 100 xn v W hv);have hra:=Lib.hid (fun W=>kY.calls 100 xn rw W hrw);have hso:=Lib.hid (fun W=>kP.calls 100 xn sf W hsf);clear hv hrw hsf;have hkd:=Lib.hid (fun(W:World) (hW:Below w.heap.size w W)=>lW.calls (some ⟨g,o,none⟩) c xs m ks W (Kd.eF hr hW) hcap hks);have hbd:Below w.heap.size w w.drew:=Go.Proofs.ah.aD.bX (Below.refl _ _);have hsz:=hbd.size;have K:=Lib.hid (fun(W:World) (h:Below w.heap.size w W)=>keep5 (p:=⟨g,o+m * 5,none⟩) h z0 z1 z2 z3 z4);have hn0:=bR w #[.int .i64 0,.int .i64 0,.string ⟨#[]⟩,.string ⟨#[]⟩,.slice none 0 0] 34;obtain⟨⟨p0,p1,p2,p3,p4⟩,p5⟩:=aW hn0;go_enter Tryz.func50,Tryz.ntmps50;go_wp2
 first
  |go_region_held3 (fun w'=>w'.cell? ⟨g,o+m * 5,none⟩=some (.int .i64 xd)∧w'.cell? ⟨g,o+m * 5+1,none⟩=some (.int .i64 xk)∧w'.cell? ⟨g,o+m * 5+2,none⟩=some (.string xn)∧w'.cell? ⟨g,o+m * 5+3,none⟩=some (.string xt)∧w'.cell? ⟨g,o+m * 5+4,none⟩=some (.slice A4 xa.length c4)) (first|with_reducible exact K.out _ hbd|with_reducible exact K.out _ hX1|(refine K.out _ ?_;repeat(first|with_reducible exact hX1|with_reducible exact hbd|with_reducible exact Go.Proofs.ah.aD.bX ((Below.refl w.heap.size w).alloc (Nat.le_refl _) _)|with_reducible exact(hbd.alloc hbd.size _)|with_reducible exact(hX1.alloc hX1.size _)|(refine aH ?_ ?_;rotate_left;first|exact Nat.le_refl _|exact hX1.size)))) ((go_at_call 96;go_loud ((refine(hkd.out _ (by first|exact hbd|exact hbd.alloc hbd.size _)).mono ?_);rintro e W1 ⟨v0,rfl,hR,hb1⟩;have hX1:Below w.heap.size w W1:=(by first|exact hbd.trans (hb1.mono hbd.size)|exact(hbd.alloc hbd.size _).trans (hb1.mono (hbd.alloc hbd.size _).size));first|(have hn1:=aQ (w:=(w.alloc _).drew) hn0 hb1;obtain⟨⟨q0,q1,q2,q3,q4⟩,q5⟩:=aW hn1)|(have hn1:=bR W1 #[.int .i64 0,.int .i64 0,.string ⟨#[]⟩,.string ⟨#[]⟩,.slice none 0 0] 34;obtain⟨⟨q0,q1,q2,q3,q4⟩,q5⟩:=aW hn1))))
 all_goals(
  first
   |(with_reducible have hF:=Q5 (w:=w) hn1 hR hX1 (.int .i64 xd) (.int .i64 xk) (.string xn) (.string xt) (.slice A4 xa.length c4) _ rfl;revert hF;generalize World.alloc W1 _=W5)
   |(have hF:=put5all (w:=w) hn1 hR hX1 (Nat.le_refl _) (.int .i64 xd) (.int .i64 xk) (.string xn) (.string xt) (.slice A4 xa.length c4) _ rfl;revert hF;generalize World.setCell _ _ _=W5)
  rintro⟨hP,hR5,hX5⟩;clear hn1 q0 q1 q2 q3 q4 q5 hn0 p0 p1 p2 p3 p4 p5 hR hX1 hb1;obtain⟨⟨q0,q1,q2,q3,q4⟩,q5⟩:=aW hP;obtain⟨Ak,ck,rfl⟩:=Kd.dI hR5
  rcases ks with _|⟨k0,_|⟨k1,ks⟩⟩
  case cons.nil=>
   obtain⟨gk,capk,hk,-,-,-⟩:=Kd.Ef hR5 (by simp);simp only[Value.slice.injEq,true_and]at hk;obtain⟨rfl,rfl⟩:=hk;obtain⟨zk,-⟩:=Kd.N8 (0:Int) hR5 0 (by simp) (by simp);replace zk:W5.cell? ⟨gk,0,none⟩=some (.int .i64 k0):=zk
   by_cases hk:v=false∧(rw||sf)=true
   case neg=>
    have y1:=zk;have y3:=zk
    revert hk
    cases v<;>cases rw<;>cases sf<;>intro hk<;>first|exact absurd ⟨rfl,rfl⟩ hk|(
     obtain rfl:=Option.some.inj hf
     go_wp2_with(first
     |(go_at_call 31;((with_reducible refine(hvo.out _).mono ?_);rintro e W6 ⟨rfl,hb6⟩;replace hP:=aQ hP hb6;replace hX5:=hX5.trans (hb6.mono hX5.size);clear q0 q1 q2 q3 q4 q5;obtain⟨⟨q0,q1,q2,q3,q4⟩,q5⟩:=aW hP;replace zk:=aV zk hb6;replace y1:=aV y1 hb6;replace y3:=aV y3 hb6))
     |(go_at_call 32;((with_reducible refine(hra.out _).mono ?_);rintro e W6 ⟨rfl,hb6⟩;replace hP:=aQ hP hb6;replace hX5:=hX5.trans (hb6.mono hX5.size);clear q0 q1 q2 q3 q4 q5;obtain⟨⟨q0,q1,q2,q3,q4⟩,q5⟩:=aW hP;replace zk:=aV zk hb6;replace y1:=aV y1 hb6;replace y3:=aV y3 hb6))
     |(go_at_call 33;((with_reducible refine(hso.out _).mono ?_);rintro e W6 ⟨rfl,hb6⟩;replace hP:=aQ hP hb6;replace hX5:=hX5.trans (hb6.mono hX5.size);clear q0 q1 q2 q3 q4 q5;obtain⟨⟨q0,q1,q2,q3,q4⟩,q5⟩:=aW hP;replace zk:=aV zk hb6;replace y1:=aV y1 hb6;replace y3:=aV y3 hb6)))
     go_ret;exact⟨rfl,hX5⟩)
   obtain⟨rfl,hk⟩:=hk;replace hf:Kv xs k0 sf=some r:=by rw[←hf];revert hk;cases rw<;>cases sf<;>intro hk<;>first|rfl|exact absurd hk (by decide)
   unfold Kv at hf
   by_cases hj:0≤k0∧k0.toNat<xs.length
   case neg=>rw[dif_neg hj]at hf;cases hf
   rw[dif_pos hj]at hf;obtain⟨j,rfl⟩:∃j:Nat,k0=j:=⟨k0.toNat,by omega⟩
   replace hj:j<xs.length:=hj.2;obtain⟨g',o',A5,c5,he,-,y1,-,y3,-,-,-⟩:=vI hr j hj;cases he;replace hf:(if xs[j].f1=1 then if sf then some true else(strings_Contains.f xs[j].f3 ⟨#[60,47]⟩).bind fun c=>if c then some false else(strings_HasSuffix.f xs[j].f3 ⟨#[60]⟩).bind fun h=>some (!h)else some false)=some r:=hf;generalize xs[j]=y at y1 y3 hf;obtain⟨yd,yk,yn,yt,ya⟩:=y;simp only at y1 y3 hf;replace y1:=aV y1 hX5;replace y3:=aV y3 hX5
   by_cases hy:yk=1
   case neg=>
    rw[if_neg hy]at hf;obtain rfl:=Option.some.inj hf;have e1:(yk==1)=false:=beq_eq_false_iff_ne.mpr hy;have e2:(yk !=1)=true:=bne_iff_ne.mpr hy;have e3:decide (yk=1)=false:=decide_eq_false hy
    revert hk
    cases rw<;>cases sf<;>intro hk<;>first|exact absurd hk (by decide)|(
     go_wp2_with(first
     |(go_at_call 31;((with_reducible refine(hvo.out _).mono ?_);rintro e W6 ⟨rfl,hb6⟩;replace hP:=aQ hP hb6;replace hX5:=hX5.trans (hb6.mono hX5.size);clear q0 q1 q2 q3 q4 q5;obtain⟨⟨q0,q1,q2,q3,q4⟩,q5⟩:=aW hP;replace zk:=aV zk hb6;replace y1:=aV y1 hb6;replace y3:=aV y3 hb6))
     |(go_at_call 32;((with_reducible refine(hra.out _).mono ?_);rintro e W6 ⟨rfl,hb6⟩;replace hP:=aQ hP hb6;replace hX5:=hX5.trans (hb6.mono hX5.size);clear q0 q1 q2 q3 q4 q5;obtain⟨⟨q0,q1,q2,q3,q4⟩,q5⟩:=aW hP;replace zk:=aV zk hb6;replace y1:=aV y1 hb6;replace y3:=aV y3 hb6))
     |(go_at_call 33;((with_reducible refine(hso.out _).mono ?_);rintro e W6 ⟨rfl,hb6⟩;replace hP:=aQ hP hb6;replace hX5:=hX5.trans (hb6.mono hX5.size);clear q0 q1 q2 q3 q4 q5;obtain⟨⟨q0,q1,q2,q3,q4⟩,q5⟩:=aW hP;replace zk:=aV zk hb6;replace y1:=aV y1 hb6;replace y3:=aV y3 hb6))
     |(go_at_call 93;((with_reducible refine(hct.out _ hX5).mono ?_);rintro e W6 ⟨rfl,hb6⟩;replace hP:=aQ hP hb6;replace hX5:=hX5.trans (hb6.mono hX5.size);clear q0 q1 q2 q3 q4 q5;obtain⟨⟨q0,q1,q2,q3,q4⟩,q5⟩:=aW hP;replace zk:=aV zk hb6;replace y1:=aV y1 hb6;replace y3:=aV y3 hb6))
     |(go_at_call 97;((with_reducible refine(hsu.out _).mono ?_);rintro e W6 ⟨rfl,hb6⟩;replace hP:=aQ hP hb6;replace hX5:=hX5.trans (hb6.mono hX5.size);clear q0 q1 q2 q3 q4 q5;obtain⟨⟨q0,q1,q2,q3,q4⟩,q5⟩:=aW hP;replace zk:=aV zk hb6;replace y1:=aV y1 hb6;replace y3:=aV y3 hb6)))
     go_ret;exact⟨rfl,hX5⟩)
   subst hy;rw[if_pos rfl]at hf;cases sf
   case true=>
    obtain rfl:=Option.some.inj hf
    cases rw<;>(
     go_wp2_with(first
     |(go_at_call 31;((with_reducible refine(hvo.out _).mono ?_);rintro e W6 ⟨rfl,hb6⟩;replace hP:=aQ hP hb6;replace hX5:=hX5.trans (hb6.mono hX5.size);clear q0 q1 q2 q3 q4 q5;obtain⟨⟨q0,q1,q2,q3,q4⟩,q5⟩:=aW hP;replace zk:=aV zk hb6;replace y1:=aV y1 hb6;replace y3:=aV y3 hb6))
     |(go_at_call 32;((with_reducible refine(hra.out _).mono ?_);rintro e W6 ⟨rfl,hb6⟩;replace hP:=aQ hP hb6;replace hX5:=hX5.trans (hb6.mono hX5.size);clear q0 q1 q2 q3 q4 q5;obtain⟨⟨q0,q1,q2,q3,q4⟩,q5⟩:=aW hP;replace zk:=aV zk hb6;replace y1:=aV y1 hb6;replace y3:=aV y3 hb6))
     |(go_at_call 33;((with_reducible refine(hso.out _).mono ?_);rintro e W6 ⟨rfl,hb6⟩;replace hP:=aQ hP hb6;replace hX5:=hX5.trans (hb6.mono hX5.size);clear q0 q1 q2 q3 q4 q5;obtain⟨⟨q0,q1,q2,q3,q4⟩,q5⟩:=aW hP;replace zk:=aV zk hb6;replace y1:=aV y1 hb6;replace y3:=aV y3 hb6))
     |(go_at_call 93;((with_reducible refine(hct.out _ hX5).mono ?_);rintro e W6 ⟨rfl,hb6⟩;replace hP:=aQ hP hb6;replace hX5:=hX5.trans (hb6.mono hX5.size);clear q0 q1 q2 q3 q4 q5;obtain⟨⟨q0,q1,q2,q3,q4⟩,q5⟩:=aW hP;replace zk:=aV zk hb6;replace y1:=aV y1 hb6;replace y3:=aV y3 hb6))
     |(go_at_call 97;((with_reducible refine(hsu.out _).mono ?_);rintro e W6 ⟨rfl,hb6⟩;replace hP:=aQ hP hb6;replace hX5:=hX5.trans (hb6.mono hX5.size);clear q0 q1 q2 q3 q4 q5;obtain⟨⟨q0,q1,q2,q3,q4⟩,q5⟩:=aW hP;replace zk:=aV zk hb6;replace y1:=aV y1 hb6;replace y3:=aV y3 hb6)))
     go_ret;exact⟨rfl,hX5⟩)
   obtain rfl:rw=true:=by revert hk;cases rw<;>intro hk<;>first|rfl|exact absurd hk (by decide)
   rw[if_neg (by decide)]at hf;obtain⟨b1,h1,hf⟩:=Option.bind_eq_some_iff.1 hf;have hct:=Lib.hid (fun(W:World) (h:Below w.heap.size w W)=>strings_Contains.calls yt ⟨#[60,47]⟩ b1 W h1 (hS.below h));cases b1
   case true=>
    obtain rfl:=Option.some.inj hf
    go_wp2_with(first
     |(go_at_call 31;((with_reducible refine(hvo.out _).mono ?_);rintro e W6 ⟨rfl,hb6⟩;replace hP:=aQ hP hb6;replace hX5:=hX5.trans (hb6.mono hX5.size);clear q0 q1 q2 q3 q4 q5;obtain⟨⟨q0,q1,q2,q3,q4⟩,q5⟩:=aW hP;replace zk:=aV zk hb6;replace y1:=aV y1 hb6;replace y3:=aV y3 hb6))
     |(go_at_call 32;((with_reducible refine(hra.out _).mono ?_);rintro e W6 ⟨rfl,hb6⟩;replace hP:=aQ hP hb6;replace hX5:=hX5.trans (hb6.mono hX5.size);clear q0 q1 q2 q3 q4 q5;obtain⟨⟨q0,q1,q2,q3,q4⟩,q5⟩:=aW hP;replace zk:=aV zk hb6;replace y1:=aV y1 hb6;replace y3:=aV y3 hb6))
     |(go_at_call 33;((with_reducible refine(hso.out _).mono ?_);rintro e W6 ⟨rfl,hb6⟩;replace hP:=aQ hP hb6;replace hX5:=hX5.trans (hb6.mono hX5.size);clear q0 q1 q2 q3 q4 q5;obtain⟨⟨q0,q1,q2,q3,q4⟩,q5⟩:=aW hP;replace zk:=aV zk hb6;replace y1:=aV y1 hb6;replace y3:=aV y3 hb6))
     |(go_at_call 93;((with_reducible refine(hct.out _ hX5).mono ?_);rintro e W6 ⟨rfl,hb6⟩;replace hP:=aQ hP hb6;replace hX5:=hX5.trans (hb6.mono hX5.size);clear q0 q1 q2 q3 q4 q5;obtain⟨⟨q0,q1,q2,q3,q4⟩,q5⟩:=aW hP;replace zk:=aV zk hb6;replace y1:=aV y1 hb6;replace y3:=aV y3 hb6))
     |(go_at_call 97;((with_reducible refine(hsu.out _).mono ?_);rintro e W6 ⟨rfl,hb6⟩;replace hP:=aQ hP hb6;replace hX5:=hX5.trans (hb6.mono hX5.size);clear q0 q1 q2 q3 q4 q5;obtain⟨⟨q0,q1,q2,q3,q4⟩,q5⟩:=aW hP;replace zk:=aV zk hb6;replace y1:=aV y1 hb6;replace y3:=aV y3 hb6)))
    go_ret;exact⟨rfl,hX5⟩
   rw[if_neg (by decide)]at hf;obtain⟨b2,h2,hf⟩:=Option.bind_eq_some_iff.1 hf;obtain rfl:=Option.some.inj hf;have hsu:=Lib.hid (fun(W:World)=>strings_HasSuffix.calls yt ⟨#[60]⟩ b2 W h2)
   cases b2<;>(
    go_wp2_with(first
     |(go_at_call 31;((with_reducible refine(hvo.out _).mono ?_);rintro e W6 ⟨rfl,hb6⟩;replace hP:=aQ hP hb6;replace hX5:=hX5.trans (hb6.mono hX5.size);clear q0 q1 q2 q3 q4 q5;obtain⟨⟨q0,q1,q2,q3,q4⟩,q5⟩:=aW hP;replace zk:=aV zk hb6;replace y1:=aV y1 hb6;replace y3:=aV y3 hb6))
     |(go_at_call 32;((with_reducible refine(hra.out _).mono ?_);rintro e W6 ⟨rfl,hb6⟩;replace hP:=aQ hP hb6;replace hX5:=hX5.trans (hb6.mono hX5.size);clear q0 q1 q2 q3 q4 q5;obtain⟨⟨q0,q1,q2,q3,q4⟩,q5⟩:=aW hP;replace zk:=aV zk hb6;replace y1:=aV y1 hb6;replace y3:=aV y3 hb6))
     |(go_at_call 33;((with_reducible refine(hso.out _).mono ?_);rintro e W6 ⟨rfl,hb6⟩;replace hP:=aQ hP hb6;replace hX5:=hX5.trans (hb6.mono hX5.size);clear q0 q1 q2 q3 q4 q5;obtain⟨⟨q0,q1,q2,q3,q4⟩,q5⟩:=aW hP;replace zk:=aV zk hb6;replace y1:=aV y1 hb6;replace y3:=aV y3 hb6))
     |(go_at_call 93;((with_reducible refine(hct.out _ hX5).mono ?_);rintro e W6 ⟨rfl,hb6⟩;replace hP:=aQ hP hb6;replace hX5:=hX5.trans (hb6.mono hX5.size);clear q0 q1 q2 q3 q4 q5;obtain⟨⟨q0,q1,q2,q3,q4⟩,q5⟩:=aW hP;replace zk:=aV zk hb6;replace y1:=aV y1 hb6;replace y3:=aV y3 hb6))
     |(go_at_call 97;((with_reducible refine(hsu.out _).mono ?_);rintro e W6 ⟨rfl,hb6⟩;replace hP:=aQ hP hb6;replace hX5:=hX5.trans (hb6.mono hX5.size);clear q0 q1 q2 q3 q4 q5;obtain⟨⟨q0,q1,q2,q3,q4⟩,q5⟩:=aW hP;replace zk:=aV zk hb6;replace y1:=aV y1 hb6;replace y3:=aV y3 hb6)))
    go_ret;exact⟨rfl,hX5⟩)
  all_goals(
   try have hg1:decide ((1:Int)< ↑ks.length+1+1)=true:=decide_eq_true (by omega)
   try have hg2:((1:Int)< ↑ks.length+1+1)=True:=eq_true (by omega)
   cases v<;>cases rw<;>cases sf<;>(
    obtain rfl:=Option.some.inj hf
    go_wp2_with(first
    |(go_at_call 31;((with_reducible refine(hvo.out _).mono ?_);rintro e W6 ⟨rfl,hb6⟩;replace hP:=aQ hP hb6;replace hX5:=hX5.trans (hb6.mono hX5.size);clear q0 q1 q2 q3 q4 q5;obtain⟨⟨q0,q1,q2,q3,q4⟩,q5⟩:=aW hP;(try(replace zk:=aV zk hb6;replace y1:=aV y1 hb6;replace y3:=aV y3 hb6))))
    |(go_at_call 32;((with_reducible refine(hra.out _).mono ?_);rintro e W6 ⟨rfl,hb6⟩;replace hP:=aQ hP hb6;replace hX5:=hX5.trans (hb6.mono hX5.size);clear q0 q1 q2 q3 q4 q5;obtain⟨⟨q0,q1,q2,q3,q4⟩,q5⟩:=aW hP;(try(replace zk:=aV zk hb6;replace y1:=aV y1 hb6;replace y3:=aV y3 hb6))))
    |(go_at_call 33;((with_reducible refine(hso.out _).mono ?_);rintro e W6 ⟨rfl,hb6⟩;replace hP:=aQ hP hb6;replace hX5:=hX5.trans (hb6.mono hX5.size);clear q0 q1 q2 q3 q4 q5;obtain⟨⟨q0,q1,q2,q3,q4⟩,q5⟩:=aW hP;(try(replace zk:=aV zk hb6;replace y1:=aV y1 hb6;replace y3:=aV y3 hb6))))
    |(go_at_call 93;((with_reducible refine(hct.out _ hX5).mono ?_);rintro e W6 ⟨rfl,hb6⟩;replace hP:=aQ hP hb6;replace hX5:=hX5.trans (hb6.mono hX5.size);clear q0 q1 q2 q3 q4 q5;obtain⟨⟨q0,q1,q2,q3,q4⟩,q5⟩:=aW hP;(try(replace zk:=aV zk hb6;replace y1:=aV y1 hb6;replace y3:=aV y3 hb6))))
    |(go_at_call 97;((with_reducible refine(hsu.out _).mono ?_);rintro e W6 ⟨rfl,hb6⟩;replace hP:=aQ hP hb6;replace hX5:=hX5.trans (hb6.mono hX5.size);clear q0 q1 q2 q3 q4 q5;obtain⟨⟨q0,q1,q2,q3,q4⟩,q5⟩:=aW hP;(try(replace zk:=aV zk hb6;replace y1:=aV y1 hb6;replace y3:=aV y3 hb6)))))
    go_ret;exact⟨rfl,hX5⟩)))
theorem gD.calls(A:Option Addr)(c:Nat)(xs:List Rw)(i:Int)(r:Bool)(w:World)(hr:k34.C w A xs.length xs)(hcap:xs.length≤c)(h:gD.f xs i=some r)(hS:Er w):
 Calls Tryz.prog 50 #[.slice A xs.length c,.int .i64 i] w fun e w'=>e=.returned (.bool r)∧Below w.heap.size w w':=by
 unfold gD.f at h
 by_cases hi:0≤i∧i.toNat<xs.length
 ·rw[dif_pos hi]at h
  obtain⟨ks,h1,e1⟩:=Option.bind_eq_some_iff.1 h;obtain⟨v,h2,e2⟩:=Option.bind_eq_some_iff.1 e1;obtain⟨rw0,h3,e3⟩:=Option.bind_eq_some_iff.1 e2;obtain⟨sf,h4,e4⟩:=Option.bind_eq_some_iff.1 e3;obtain⟨m,rfl⟩:∃m:Nat,i=m:=⟨i.toNat,by omega⟩
  exact wi_calls A c xs hcap m hi.2 ks h1 v rw0 sf r h2 h3 h4 e4 w hr hS
 ·rw[dif_neg hi]at h
  cases h
end Go.Proofs.aj.W7
namespace Go.Proofs.aj.W7
open Go.RowKit Go.Proofs.ah.aD Go.Proofs.ah.bJ Go.Proofs.ah.bW
attribute [local go_sem] dB dD dR dS bZ cu dF dG
theorem eqA36(d:Nat)(w:World)(x0 y0 x1 y1:Bt):
 (Op.equalIn (d+2) 36 (.agg #[.string x0,.string x1]) (.agg #[.string y0,.string y1])).run Tryz.prog w=.ok (x0.toList==y0.toList&&(x1.toList==y1.toList)) w:=by
 refine eqA_of Tryz.underlying36 (by kernel_rfl) ?_;refine eqf_cons (by rfl) (by go_simp;rfl) (by go_simp;rfl) (by go_simp) ?_;exact eqf_last (by rfl) (by go_simp;rfl) (by go_simp;rfl) (by go_simp)
end Go.Proofs.aj.W7
namespace Go.Proofs.aj.W7
open Go.RowKit Go.Proofs.ah.aD Go.Proofs.ah.bJ Go.Proofs.ah.bW
attribute [local go_sem] dB dD dR dS bZ cu dF dG
attribute [local go_sem high] eqA36
def gV.l0:Nat→List (S36)→List (S36)→Int→Int→Option (Bool)
 |0,_,_,_,_=>none
 |k+1,x0,x1,x10,x11=>if x11<x10 then(if 0≤x11 then(if x11<(x0.length:Int)then(if x11<(x1.length:Int)then(if(!((((bq x0 x11).f0).toList)==(((bq x1 x11).f0).toList))||(!((((bq x0 x11).f1).toList)==(((bq x1 x11).f1).toList))))=true then(some false)else(gV.l0 k x0 x1 x10 (wrap64 (x11+1))))else(none))else(none))else(none))else(some ((x0.length:Int)==(x1.length:Int)))
def gV.f(k:Nat)(l0 l1:List (S36)):Option (Bool):=gV.l0 k l0 l1 (mn (l0.length:Int) (l1.length:Int)) 0
theorem gV.calls(k:Nat)(A0:Option Addr)(c0:Nat)(l0:List (S36))(A1:Option Addr)(c1:Nat)(l1:List (S36))(r:Bool)(w:World)(hr0:Kd.C k36 w A0 l0.length l0)(hc0:l0.length≤c0)(hr1:Kd.C k36 w A1 l1.length l1)(hc1:l1.length≤c1)(h:gV.f k l0 l1=some r):
 Calls Tryz.prog 88 #[.slice A0 l0.length c0,.slice A1 l1.length c1] w fun e w'=>e=.returned (.bool r)∧Below w.heap.size w w':=by
 have hu36:=Tryz.underlying36;have HR0:=ak.mk hr0;have HC0:=ak.mk hc0;clear hr0 hc0;have HR1:=ak.mk hr1;have HC1:=ak.mk hc1;clear hr1 hc1;have HB:=ak.mk (Below.refl w.heap.size w);have H:(gV.l0 k l0 l1 (mn (l0.length:Int) (l1.length:Int)) 0)=some r:=h;clear h;obtain⟨ji3,hji3⟩:∃j_:Int,(mn (l0.length:Int) (l1.length:Int))=j_:=⟨_,rfl⟩
 replace H:(gV.l0 k l0 l1 ji3 0)=some r:=by first|(rw[hji3]at H;exact H)|(simp only[hji3]at H⊢;exact H)
 (try(have hji3l:0≤ji3:=by(rw[←hji3];unfold mn;(repeat' split)<;>omega)))
 (try(have hji3m:0≤ji3:=by omega))
 have hji3_:(if(l1.length:Int)<(l0.length:Int)then(l1.length:Int)else(l0.length:Int))=ji3:=hji3;have hji3_n:(if l1.length<l0.length then(l1.length:Int)else(l0.length:Int))=ji3:=by(first|(simpa only[Int.ofNat_lt]using hji3_)|(simpa using hji3_))
 have H':=ak.mk H;clear H;go_enter Tryz.func88,Tryz.ntmps88;go_wp2
 repeat(go_quiet (fail);try go_wp2)
 go_loopg [11] k (fun kq v11 w'=>∃(jm:Int),v11=.int .i64 jm∧ak (gV.l0 kq l0 l1 ji3 jm=some r)∧ak (kq≤k)∧ak (Below w.heap.size w w'))
 case atStart=>exact⟨(0),q'c,H',⟨Nat.le_refl _⟩,⟨bz⟩⟩
 case round=>
  clear H'
  try clear c1
  try clear p2
  obtain⟨jm,rfl,HA,HK1,HB⟩:=hrel;cases gk with
  |zero=>exact absurd HA.out (by simp[gV.l0])
  |succ k1=>
   have H:=HA.out;clear HA;simp only[gV.l0]at H
   by_cases c4:jm<ji3
   ·rw[if_pos c4]at H
    have mZ:decide (jm<ji3)=true:=decide_eq_true c4;clear c4
    by_cases c5:0≤jm
    ·rw[if_pos c5]at H
     have uJ:decide (0≤jm)=true:=decide_eq_true c5;clear c5
     by_cases c6:jm<(l0.length:Int)
     ·rw[if_pos c6]at H
      have zL:decide (jm<(l0.length:Int))=true:=decide_eq_true c6;clear c6
      by_cases c7:jm<(l1.length:Int)
      ·rw[if_pos c7]at H
       have c7b0:decide (jm<(l1.length:Int))=true:=decide_eq_true c7;clear c7
       by_cases c8:(!((((bq l0 jm).f0).toList)==(((bq l1 jm).f0).toList))||(!((((bq l0 jm).f1).toList)==(((bq l1 jm).f1).toList))))=true
       ·rw[if_pos c8]at H
        have xU:(!((((bq l0 jm).f0).toList)==(((bq l1 jm).f0).toList))||(!((((bq l0 jm).f1).toList)==(((bq l1 jm).f1).toList))))=true:=c8;clear c8;obtain rfl:=Option.some.inj H;have p101:0≤(jm:Int):=q'b;have q101:jm<(l0.length:Int):=q'b;obtain⟨ad101,e101,vM,vN⟩:=lY HR0.out jm p101 q101;cases e101;replace vM:=(HB.out.cell (World.block_lt_of_cell? w _ vM)).trans vM;replace vN:=(HB.out.cell (World.block_lt_of_cell? w _ vN)).trans vN;replace p101:=eq_true p101;replace q101:=eq_true q101;have p102:0≤(jm:Int):=q'b;have q102:jm<(l1.length:Int):=q'b;obtain⟨ad102,e102,vO,vP⟩:=lY HR1.out jm p102 q102;cases e102;replace vO:=(HB.out.cell (World.block_lt_of_cell? w _ vO)).trans vO;replace vP:=(HB.out.cell (World.block_lt_of_cell? w _ vP)).trans vP;replace p102:=eq_true p102;replace q102:=eq_true q102;go_wp2
        repeat(go_quiet (fail);try go_wp2)
        go_ret;exact⟨by first|rfl|(simp[aJ,aM]<;>rfl)|(simp only[←hji3];first|rfl|(simp[aJ,aM]<;>rfl))|(simp[*,aJ,aM]<;>rfl),bz⟩
       ·rw[if_neg c8]at H
        have xU:(!((((bq l0 jm).f0).toList)==(((bq l1 jm).f0).toList))||(!((((bq l0 jm).f1).toList)==(((bq l1 jm).f1).toList))))=false:=by simpa using c8
        clear c8;have H':=ak.mk H;clear H;have p101:0≤(jm:Int):=q'b;have q101:jm<(l0.length:Int):=q'b;obtain⟨ad101,e101,vM,vN⟩:=lY HR0.out jm p101 q101;cases e101;replace vM:=(HB.out.cell (World.block_lt_of_cell? w _ vM)).trans vM;replace vN:=(HB.out.cell (World.block_lt_of_cell? w _ vN)).trans vN;replace p101:=eq_true p101;replace q101:=eq_true q101;have p102:0≤(jm:Int):=q'b;have q102:jm<(l1.length:Int):=q'b;obtain⟨ad102,e102,vO,vP⟩:=lY HR1.out jm p102 q102;cases e102;replace vO:=(HB.out.cell (World.block_lt_of_cell? w _ vO)).trans vO;replace vP:=(HB.out.cell (World.block_lt_of_cell? w _ vP)).trans vP;replace p102:=eq_true p102;replace q102:=eq_true q102;go_wp2
        repeat(go_quiet (fail);try go_wp2)
        go_roundg k1
        case measure=>have:=HK1.out;omega
        case rel=>exact⟨(wrap64 (jm+1)),q'c,H',⟨by have:=HK1.out;omega⟩,⟨bz⟩⟩
      ·rw[if_neg c7]at H
       exact absurd H (by simp)
     ·rw[if_neg c6]at H
      exact absurd H (by simp)
    ·rw[if_neg c5]at H
     exact absurd H (by simp)
   ·rw[if_neg c4]at H
    have mZ:decide (jm<ji3)=false:=decide_eq_false c4;clear c4;obtain rfl:=Option.some.inj H;go_wp2
    repeat(go_quiet (fail);try go_wp2)
    go_ret;exact⟨by first|rfl|(simp[aJ,aM]<;>rfl)|(simp only[←hji3];first|rfl|(simp[aJ,aM]<;>rfl))|(simp[*,aJ,aM]<;>rfl),bz⟩
end Go.Proofs.aj.W7
