/- Lemmas and walks, part 18. -/
import Derived.Test.YtkcmghlhpbepcaaGreatDoorNB17
set_option linter.unusedVariables false
set_option linter.unusedSimpArgs false
set_option maxHeartbeats 8000000
set_option maxRecDepth 100000
namespace Go.Proofs.aj.W7
open Go.RowKit Go.Proofs Go.Proofs.YtkcmghlhpbepcaaGreatDoor Go.Proofs.ah.aD
def Kt(l0:List Rw)(k:Int)(sf:Bool):Option Bool:=
 if h:0≤k∧k.toNat<l0.length then
  if l0[k.toNat].f1=1 then
   if sf then some true
   else(strings_Contains.f l0[k.toNat].f3 ⟨#[60,47]⟩).bind fun c=>if c then some false else(strings_HasSuffix.f l0[k.toNat].f3 ⟨#[60]⟩).bind fun h=>some (!h)
  else some false
 else none
def wiF(l0:List Rw)(v rw sf:Bool):List Int→Option Bool
 | []=>some true
 |k::ks=>if v then some false else if(rw||sf)=false then some true else match ks with
  | []=>Kt l0 k sf
  |_::_=>some false
def gD.f(l0:List Rw)(i:Int):Option Bool:=
 if h:0≤i∧i.toNat<l0.length then
  (lW.f l0 i).bind fun ks=>(gH.f 100 l0[i.toNat].f2).bind fun v=>(kZ.f 100 l0[i.toNat].f2).bind fun rw=>(kP.f 100 l0[i.toNat].f2).bind fun sf=>wiF l0 v rw sf ks
 else none
theorem keep5{w W:World}{p:Addr}{v0 v1 v2 v3 v4:Value}(h:Below w.heap.size w W)(z0:w.cell? p=some v0)(z1:w.cell? ⟨p.block,p.off+1,none⟩=some v1)(z2:w.cell? ⟨p.block,p.off+2,none⟩=some v2)(z3:w.cell? ⟨p.block,p.off+3,none⟩=some v3)(z4:w.cell? ⟨p.block,p.off+4,none⟩=some v4):
 W.cell? p=some v0∧W.cell? ⟨p.block,p.off+1,none⟩=some v1∧W.cell? ⟨p.block,p.off+2,none⟩=some v2∧W.cell? ⟨p.block,p.off+3,none⟩=some v3∧W.cell? ⟨p.block,p.off+4,none⟩=some v4:=
 ⟨aV z0 h,aV z1 h,aV z2 h,aV z3 h,aV z4 h⟩
theorem put5{W:World}{b:Nat}{u0 u1 u2 u3 u4:Value}{t:TypeId}(h:W.heap[b]?=some (.cells #[u0,u1,u2,u3,u4] t (0,0)))(v0 v1 v2 v3 v4:Value):(((((W.setCell ⟨b,0,none⟩ v0).setCell ⟨b,1,none⟩ v1).setCell ⟨b,2,none⟩ v2).setCell ⟨b,3,none⟩ v3).setCell ⟨b,4,none⟩ v4).heap[b]?=some (.cells #[v0,v1,v2,v3,v4] t (0,0)):=
 bU (bU (bU (bU (bU h 0 v0 rfl) 1 v1 rfl) 2 v2 rfl) 3 v3 rfl) 4 v4 rfl
theorem put5R{W:World}{b n:Nat}{cs:Array Value}{v:Value}{ks:List Int}{ok:Nat→Prop}(h:W.heap[b]?=some (.cells cs 34 (0,0)))(hR:(Kd.int .i64).R 3 W n ok v ks)(v0 v1 v2 v3 v4:Value):(Kd.int .i64).R 3 (((((W.setCell ⟨b,0,none⟩ v0).setCell ⟨b,1,none⟩ v1).setCell ⟨b,2,none⟩ v2).setCell ⟨b,3,none⟩ v3).setCell ⟨b,4,none⟩ v4) n (fun _=>True) v ks:=
 Kd.iJ (Kd.gX (Kd.gX (Kd.gX (Kd.gX (Kd.gX (Kd.oK hR h (by decide)) (fun _ hk=>hk.2) v0) (fun _ hk=>hk.2) v1) (fun _ hk=>hk.2) v2) (fun _ hk=>hk.2) v3) (fun _ hk=>hk.2) v4) (fun _ _=>trivial)
theorem put5B{w W:World}{b:Nat}(h:Below w.heap.size w W)(hb:w.heap.size≤b)(v0 v1 v2 v3 v4:Value):Below w.heap.size w (((((W.setCell ⟨b,0,none⟩ v0).setCell ⟨b,1,none⟩ v1).setCell ⟨b,2,none⟩ v2).setCell ⟨b,3,none⟩ v3).setCell ⟨b,4,none⟩ v4):=
 aH (aH (aH (aH (aH h hb) hb) hb) hb) hb
theorem put5all{w W:World}{b n:Nat}{v:Value}{ks:List Int}{ok:Nat→Prop}{u0 u1 u2 u3 u4:Value}(h:W.heap[b]?=some (.cells #[u0,u1,u2,u3,u4] 34 (0,0)))(hR:(Kd.int .i64).R 3 W n ok v ks)(hB:Below w.heap.size w W)(hb:w.heap.size≤b)(v0 v1 v2 v3 v4:Value):
 ∀W5,W5=(((((W.setCell ⟨b,0,none⟩ v0).setCell ⟨b,1,none⟩ v1).setCell ⟨b,2,none⟩ v2).setCell ⟨b,3,none⟩ v3).setCell ⟨b,4,none⟩ v4)→W5.heap[b]?=some (.cells #[v0,v1,v2,v3,v4] 34 (0,0))∧(Kd.int .i64).R 3 W5 n (fun _=>True) v ks∧Below w.heap.size w W5:=
 fun _ e=>e▸⟨put5 h _ _ _ _ _,put5R h hR _ _ _ _ _,put5B hB hb _ _ _ _ _⟩
theorem Q5{w W:World}{n:Nat}{v:Value}{ks:List Int}{ok:Nat→Prop}{z:Obj}{x:Option Obj}(_:(W.alloc z).heap[W.heap.size]?=x)(hR:(Kd.int .i64).R 3 W n ok v ks)(hB:Below w.heap.size w W)(v0 v1 v2 v3 v4:Value):
 ∀W5,W5=W.alloc (.cells #[v0,v1,v2,v3,v4] 34)→W5.heap[W.heap.size]?=some (.cells #[v0,v1,v2,v3,v4] 34 (0,0))∧(Kd.int .i64).R 3 W5 n (fun _=>True) v ks∧Below w.heap.size w W5:=
 fun _ e=>e▸⟨bR W _ _,Kd.iJ (Kd.fu hR _) (fun _ _=>trivial),hB.alloc hB.size _⟩
theorem wi_calls(A:Option Addr)(c:Nat)(xs:List Rw)(hcap:xs.length≤c)(m:Nat)(hm:m<xs.length)(ks:List Int)(hks:lW.f xs m=some ks)(v rw sf r:Bool)(hv:gH.f 100 xs[m].f2=some v)(hrw:kZ.f 100 xs[m].f2=some rw)(hsf:kP.f 100 xs[m].f2=some sf)(hf:wiF xs v rw sf ks=some r)(w:World)(hr:k34.C w A xs.length xs)(hS:Ep w):
 Calls Tryz.prog 50 #[.slice A xs.length c,.int .i64 m] w fun e w'=>e=.returned (.bool r)∧Below w.heap.size w w':=by
 have hxl:=hr.2.1;obtain⟨g,o,A4,c4,rfl,z0,z1,z2,z3,z4,l4,hat⟩:=vI hr m hm;generalize xs[m]=x at z0 z1 z2 z3 z4 l4 hat hv hrw hsf;obtain⟨xd,xk,xn,xt,xa⟩:=x;simp only at z0 z1 z2 z3 z4 l4 hat hv hrw hsf;have hvo:=Lib.hid (fun W=>gH.calls 100 xn v W hv);have hra:=Lib.hid (fun W=>kZ.calls 100 xn rw W hrw);have hso:=Lib.hid (fun W=>kP.calls 100 xn sf W hsf);clear hv hrw hsf;have hkd:=Lib.hid (fun(W:World) (hW:Below w.heap.size w W)=>lW.calls (some ⟨g,o,none⟩) c xs m ks W (Kd.eF hr hW) hcap hks);have hbd:Below w.heap.size w w.drew:=Go.Proofs.ah.aD.bX (Below.refl _ _);have hsz:=hbd.size;have K:=Lib.hid (fun(W:World) (h:Below w.heap.size w W)=>keep5 (p:=⟨g,o+m * 5,none⟩) h z0 z1 z2 z3 z4);have hn0:=bR w #[.int .i64 0,.int .i64 0,.string ⟨#[]⟩,.string ⟨#[]⟩,.slice none 0 0] 34;obtain⟨⟨p0,p1,p2,p3,p4⟩,p5⟩:=aW hn0;go_enter Tryz.func50,Tryz.ntmps50;go_wp2
 first
  |go_region_held3 (fun w'=>w'.cell? ⟨g,o+m * 5,none⟩=some (.int .i64 xd)∧w'.cell? ⟨g,o+m * 5+1,none⟩=some (.int .i64 xk)∧w'.cell? ⟨g,o+m * 5+2,none⟩=some (.string xn)∧w'.cell? ⟨g,o+m * 5+3,none⟩=some (.string xt)∧w'.cell? ⟨g,o+m * 5+4,none⟩=some (.slice A4 xa.length c4)) (first|with_reducible exact K.out _ hbd|with_reducible exact K.out _ hX1|(refine K.out _ ?_;repeat(first|with_reducible exact hX1|with_reducible exact hbd|with_reducible exact Go.Proofs.ah.aD.bX ((Below.refl w.heap.size w).alloc (Nat.le_refl _) _)|with_reducible exact(hbd.alloc hbd.size _)|with_reducible exact(hX1.alloc hX1.size _)|(refine aH ?_ ?_;rotate_left;first|exact Nat.le_refl _|exact hX1.size)))) ((go_at_call 96;go_loud ((refine(hkd.out _ (by first|exact hbd|exact hbd.alloc hbd.size _)).mono ?_);rintro e W1 ⟨v0,rfl,hR,hb1⟩;have hX1:Below w.heap.size w W1:=(by first|exact hbd.trans (hb1.mono hbd.size)|exact(hbd.alloc hbd.size _).trans (hb1.mono (hbd.alloc hbd.size _).size));first|(have hn1:=aQ (w:=(w.alloc _).drew) hn0 hb1;obtain⟨⟨q0,q1,q2,q3,q4⟩,q5⟩:=aW hn1)|(have hn1:=bR W1 #[.int .i64 0,.int .i64 0,.string ⟨#[]⟩,.string ⟨#[]⟩,.slice none 0 0] 34;obtain⟨⟨q0,q1,q2,q3,q4⟩,q5⟩:=aW hn1))))
 all_goals(
  first
   |(with_reducible have hF:=Q5 (w:=w) hn1 hR hX1 (.int .i64 xd) (.int .i64 xk) (.string xn) (.string xt) (.slice A4 xa.length c4) _ rfl;revert hF;generalize World.alloc W1 _=W5)
   |(have hF:=put5all (w:=w) hn1 hR hX1 (Nat.le_refl _) (.int .i64 xd) (.int .i64 xk) (.string xn) (.string xt) (.slice A4 xa.length c4) _ rfl;revert hF;generalize World.setCell _ _ _=W5)
  rintro⟨hP,hR5,hX5⟩;clear hn1 q0 q1 q2 q3 q4 q5 hn0 p0 p1 p2 p3 p4 p5 hR hX1 hb1;obtain⟨⟨q0,q1,q2,q3,q4⟩,q5⟩:=aW hP;obtain⟨Ak,ck,rfl⟩:=Kd.dI hR5
  rcases ks with _|⟨k0,_|⟨k1,ks⟩⟩
  case cons.nil=>
   obtain⟨gk,capk,hk,-,-,-⟩:=Kd.Ee hR5 (by simp);simp only[Value.slice.injEq,true_and]at hk;obtain⟨rfl,rfl⟩:=hk;obtain⟨zk,-⟩:=Kd.N8 (0:Int) hR5 0 (by simp) (by simp);replace zk:W5.cell? ⟨gk,0,none⟩=some (.int .i64 k0):=zk
   by_cases hk:v=false∧(rw||sf)=true
   case neg=>
    have y1:=zk;have y3:=zk
    revert hk
    cases v<;>cases rw<;>cases sf<;>intro hk<;>first|exact absurd ⟨rfl,rfl⟩ hk|(
     obtain rfl:=Option.some.inj hf
     go_wp2_with(first
     |(go_at_call 31;((with_reducible refine(hvo.out _).mono ?_);rintro e W6 ⟨rfl,hb6⟩;replace hP:=aQ hP hb6;replace hX5:=hX5.trans (hb6.mono hX5.size);clear q0 q1 q2 q3 q4 q5;obtain⟨⟨q0,q1,q2,q3,q4⟩,q5⟩:=aW hP;replace zk:=aV zk hb6;replace y1:=aV y1 hb6;replace y3:=aV y3 hb6))
     |(go_at_call 32;((with_reducible refine(hra.out _).mono ?_);rintro e W6 ⟨rfl,hb6⟩;replace hP:=aQ hP hb6;replace hX5:=hX5.trans (hb6.mono hX5.size);clear q0 q1 q2 q3 q4 q5;obtain⟨⟨q0,q1,q2,q3,q4⟩,q5⟩:=aW hP;replace zk:=aV zk hb6;replace y1:=aV y1 hb6;replace y3:=aV y3 hb6))
     |(go_at_call 33;((with_reducible refine(hso.out _).mono ?_);rintro e W6 ⟨rfl,hb6⟩;replace hP:=aQ hP hb6;replace hX5:=hX5.trans (hb6.mono hX5.size);clear q0 q1 q2 q3 q4 q5;obtain⟨⟨q0,q1,q2,q3,q4⟩,q5⟩:=aW hP;replace zk:=aV zk hb6;replace y1:=aV y1 hb6;replace y3:=aV y3 hb6)))
     go_ret;exact⟨rfl,hX5⟩)
   obtain⟨rfl,hk⟩:=hk;replace hf:Kt xs k0 sf=some r:=by rw[←hf];revert hk;cases rw<;>cases sf<;>intro hk<;>first|rfl|exact absurd hk (by decide)
   unfold Kt at hf
   by_cases hj:0≤k0∧k0.toNat<xs.length
   case neg=>rw[dif_neg hj]at hf;cases hf
   rw[dif_pos hj]at hf;obtain⟨j,rfl⟩:∃j:Nat,k0=j:=⟨k0.toNat,by omega⟩
   replace hj:j<xs.length:=hj.2;obtain⟨g',o',A5,c5,he,-,y1,-,y3,-,-,-⟩:=vI hr j hj;cases he;replace hf:(if xs[j].f1=1 then if sf then some true else(strings_Contains.f xs[j].f3 ⟨#[60,47]⟩).bind fun c=>if c then some false else(strings_HasSuffix.f xs[j].f3 ⟨#[60]⟩).bind fun h=>some (!h)else some false)=some r:=hf;generalize xs[j]=y at y1 y3 hf;obtain⟨yd,yk,yn,yt,ya⟩:=y;simp only at y1 y3 hf;replace y1:=aV y1 hX5;replace y3:=aV y3 hX5
   by_cases hy:yk=1
   case neg=>
    rw[if_neg hy]at hf;obtain rfl:=Option.some.inj hf;have e1:(yk==1)=false:=beq_eq_false_iff_ne.mpr hy;have e2:(yk !=1)=true:=bne_iff_ne.mpr hy;have e3:decide (yk=1)=false:=decide_eq_false hy
    revert hk
    cases rw<;>cases sf<;>intro hk<;>first|exact absurd hk (by decide)|(
     go_wp2_with(first
     |(go_at_call 31;((with_reducible refine(hvo.out _).mono ?_);rintro e W6 ⟨rfl,hb6⟩;replace hP:=aQ hP hb6;replace hX5:=hX5.trans (hb6.mono hX5.size);clear q0 q1 q2 q3 q4 q5;obtain⟨⟨q0,q1,q2,q3,q4⟩,q5⟩:=aW hP;replace zk:=aV zk hb6;replace y1:=aV y1 hb6;replace y3:=aV y3 hb6))
     |(go_at_call 32;((with_reducible refine(hra.out _).mono ?_);rintro e W6 ⟨rfl,hb6⟩;replace hP:=aQ hP hb6;replace hX5:=hX5.trans (hb6.mono hX5.size);clear q0 q1 q2 q3 q4 q5;obtain⟨⟨q0,q1,q2,q3,q4⟩,q5⟩:=aW hP;replace zk:=aV zk hb6;replace y1:=aV y1 hb6;replace y3:=aV y3 hb6))
     |(go_at_call 33;((with_reducible refine(hso.out _).mono ?_);rintro e W6 ⟨rfl,hb6⟩;replace hP:=aQ hP hb6;replace hX5:=hX5.trans (hb6.mono hX5.size);clear q0 q1 q2 q3 q4 q5;obtain⟨⟨q0,q1,q2,q3,q4⟩,q5⟩:=aW hP;replace zk:=aV zk hb6;replace y1:=aV y1 hb6;replace y3:=aV y3 hb6))
     |(go_at_call 93;((with_reducible refine(hct.out _ hX5).mono ?_);rintro e W6 ⟨rfl,hb6⟩;replace hP:=aQ hP hb6;replace hX5:=hX5.trans (hb6.mono hX5.size);clear q0 q1 q2 q3 q4 q5;obtain⟨⟨q0,q1,q2,q3,q4⟩,q5⟩:=aW hP;replace zk:=aV zk hb6;replace y1:=aV y1 hb6;replace y3:=aV y3 hb6))
     |(go_at_call 97;((with_reducible refine(hsu.out _).mono ?_);rintro e W6 ⟨rfl,hb6⟩;replace hP:=aQ hP hb6;replace hX5:=hX5.trans (hb6.mono hX5.size);clear q0 q1 q2 q3 q4 q5;obtain⟨⟨q0,q1,q2,q3,q4⟩,q5⟩:=aW hP;replace zk:=aV zk hb6;replace y1:=aV y1 hb6;replace y3:=aV y3 hb6)))
     go_ret;exact⟨rfl,hX5⟩)
   subst hy;rw[if_pos rfl]at hf;cases sf
   case true=>
    obtain rfl:=Option.some.inj hf
    cases rw<;>(
     go_wp2_with(first
     |(go_at_call 31;((with_reducible refine(hvo.out _).mono ?_);rintro e W6 ⟨rfl,hb6⟩;replace hP:=aQ hP hb6;replace hX5:=hX5.trans (hb6.mono hX5.size);clear q0 q1 q2 q3 q4 q5;obtain⟨⟨q0,q1,q2,q3,q4⟩,q5⟩:=aW hP;replace zk:=aV zk hb6;replace y1:=aV y1 hb6;replace y3:=aV y3 hb6))
     |(go_at_call 32;((with_reducible refine(hra.out _).mono ?_);rintro e W6 ⟨rfl,hb6⟩;replace hP:=aQ hP hb6;replace hX5:=hX5.trans (hb6.mono hX5.size);clear q0 q1 q2 q3 q4 q5;obtain⟨⟨q0,q1,q2,q3,q4⟩,q5⟩:=aW hP;replace zk:=aV zk hb6;replace y1:=aV y1 hb6;replace y3:=aV y3 hb6))
     |(go_at_call 33;((with_reducible refine(hso.out _).mono ?_);rintro e W6 ⟨rfl,hb6⟩;replace hP:=aQ hP hb6;replace hX5:=hX5.trans (hb6.mono hX5.size);clear q0 q1 q2 q3 q4 q5;obtain⟨⟨q0,q1,q2,q3,q4⟩,q5⟩:=aW hP;replace zk:=aV zk hb6;replace y1:=aV y1 hb6;replace y3:=aV y3 hb6))
     |(go_at_call 93;((with_reducible refine(hct.out _ hX5).mono ?_);rintro e W6 ⟨rfl,hb6⟩;replace hP:=aQ hP hb6;replace hX5:=hX5.trans (hb6.mono hX5.size);clear q0 q1 q2 q3 q4 q5;obtain⟨⟨q0,q1,q2,q3,q4⟩,q5⟩:=aW hP;replace zk:=aV zk hb6;replace y1:=aV y1 hb6;replace y3:=aV y3 hb6))
     |(go_at_call 97;((with_reducible refine(hsu.out _).mono ?_);rintro e W6 ⟨rfl,hb6⟩;replace hP:=aQ hP hb6;replace hX5:=hX5.trans (hb6.mono hX5.size);clear q0 q1 q2 q3 q4 q5;obtain⟨⟨q0,q1,q2,q3,q4⟩,q5⟩:=aW hP;replace zk:=aV zk hb6;replace y1:=aV y1 hb6;replace y3:=aV y3 hb6)))
     go_ret;exact⟨rfl,hX5⟩)
   obtain rfl:rw=true:=by revert hk;cases rw<;>intro hk<;>first|rfl|exact absurd hk (by decide)
   rw[if_neg (by decide)]at hf;obtain⟨b1,h1,hf⟩:=Option.bind_eq_some_iff.1 hf;have hct:=Lib.hid (fun(W:World) (h:Below w.heap.size w W)=>strings_Contains.calls yt ⟨#[60,47]⟩ b1 W h1 (hS.below h));cases b1
   case true=>
    obtain rfl:=Option.some.inj hf
    go_wp2_with(first
     |(go_at_call 31;((with_reducible refine(hvo.out _).mono ?_);rintro e W6 ⟨rfl,hb6⟩;replace hP:=aQ hP hb6;replace hX5:=hX5.trans (hb6.mono hX5.size);clear q0 q1 q2 q3 q4 q5;obtain⟨⟨q0,q1,q2,q3,q4⟩,q5⟩:=aW hP;replace zk:=aV zk hb6;replace y1:=aV y1 hb6;replace y3:=aV y3 hb6))
     |(go_at_call 32;((with_reducible refine(hra.out _).mono ?_);rintro e W6 ⟨rfl,hb6⟩;replace hP:=aQ hP hb6;replace hX5:=hX5.trans (hb6.mono hX5.size);clear q0 q1 q2 q3 q4 q5;obtain⟨⟨q0,q1,q2,q3,q4⟩,q5⟩:=aW hP;replace zk:=aV zk hb6;replace y1:=aV y1 hb6;replace y3:=aV y3 hb6))
     |(go_at_call 33;((with_reducible refine(hso.out _).mono ?_);rintro e W6 ⟨rfl,hb6⟩;replace hP:=aQ hP hb6;replace hX5:=hX5.trans (hb6.mono hX5.size);clear q0 q1 q2 q3 q4 q5;obtain⟨⟨q0,q1,q2,q3,q4⟩,q5⟩:=aW hP;replace zk:=aV zk hb6;replace y1:=aV y1 hb6;replace y3:=aV y3 hb6))
     |(go_at_call 93;((with_reducible refine(hct.out _ hX5).mono ?_);rintro e W6 ⟨rfl,hb6⟩;replace hP:=aQ hP hb6;replace hX5:=hX5.trans (hb6.mono hX5.size);clear q0 q1 q2 q3 q4 q5;obtain⟨⟨q0,q1,q2,q3,q4⟩,q5⟩:=aW hP;replace zk:=aV zk hb6;replace y1:=aV y1 hb6;replace y3:=aV y3 hb6))
     |(go_at_call 97;((with_reducible refine(hsu.out _).mono ?_);rintro e W6 ⟨rfl,hb6⟩;replace hP:=aQ hP hb6;replace hX5:=hX5.trans (hb6.mono hX5.size);clear q0 q1 q2 q3 q4 q5;obtain⟨⟨q0,q1,q2,q3,q4⟩,q5⟩:=aW hP;replace zk:=aV zk hb6;replace y1:=aV y1 hb6;replace y3:=aV y3 hb6)))
    go_ret;exact⟨rfl,hX5⟩
   rw[if_neg (by decide)]at hf;obtain⟨b2,h2,hf⟩:=Option.bind_eq_some_iff.1 hf;obtain rfl:=Option.some.inj hf;have hsu:=Lib.hid (fun(W:World)=>strings_HasSuffix.calls yt ⟨#[60]⟩ b2 W h2)
   cases b2<;>(
    go_wp2_with(first
     |(go_at_call 31;((with_reducible refine(hvo.out _).mono ?_);rintro e W6 ⟨rfl,hb6⟩;replace hP:=aQ hP hb6;replace hX5:=hX5.trans (hb6.mono hX5.size);clear q0 q1 q2 q3 q4 q5;obtain⟨⟨q0,q1,q2,q3,q4⟩,q5⟩:=aW hP;replace zk:=aV zk hb6;replace y1:=aV y1 hb6;replace y3:=aV y3 hb6))
     |(go_at_call 32;((with_reducible refine(hra.out _).mono ?_);rintro e W6 ⟨rfl,hb6⟩;replace hP:=aQ hP hb6;replace hX5:=hX5.trans (hb6.mono hX5.size);clear q0 q1 q2 q3 q4 q5;obtain⟨⟨q0,q1,q2,q3,q4⟩,q5⟩:=aW hP;replace zk:=aV zk hb6;replace y1:=aV y1 hb6;replace y3:=aV y3 hb6))
     |(go_at_call 33;((with_reducible refine(hso.out _).mono ?_);rintro e W6 ⟨rfl,hb6⟩;replace hP:=aQ hP hb6;replace hX5:=hX5.trans (hb6.mono hX5.size);clear q0 q1 q2 q3 q4 q5;obtain⟨⟨q0,q1,q2,q3,q4⟩,q5⟩:=aW hP;replace zk:=aV zk hb6;replace y1:=aV y1 hb6;replace y3:=aV y3 hb6))
     |(go_at_call 93;((with_reducible refine(hct.out _ hX5).mono ?_);rintro e W6 ⟨rfl,hb6⟩;replace hP:=aQ hP hb6;replace hX5:=hX5.trans (hb6.mono hX5.size);clear q0 q1 q2 q3 q4 q5;obtain⟨⟨q0,q1,q2,q3,q4⟩,q5⟩:=aW hP;replace zk:=aV zk hb6;replace y1:=aV y1 hb6;replace y3:=aV y3 hb6))
     |(go_at_call 97;((with_reducible refine(hsu.out _).mono ?_);rintro e W6 ⟨rfl,hb6⟩;replace hP:=aQ hP hb6;replace hX5:=hX5.trans (hb6.mono hX5.size);clear q0 q1 q2 q3 q4 q5;obtain⟨⟨q0,q1,q2,q3,q4⟩,q5⟩:=aW hP;replace zk:=aV zk hb6;replace y1:=aV y1 hb6;replace y3:=aV y3 hb6)))
    go_ret;exact⟨rfl,hX5⟩)
  all_goals(
   try have hg1:decide ((1:Int)< ↑ks.length+1+1)=true:=decide_eq_true (by omega)
   try have hg2:((1:Int)< ↑ks.length+1+1)=True:=eq_true (by omega)
   cases v<;>cases rw<;>cases sf<;>(
    obtain rfl:=Option.some.inj hf
    go_wp2_with(first
    |(go_at_call 31;((with_reducible refine(hvo.out _).mono ?_);rintro e W6 ⟨rfl,hb6⟩;replace hP:=aQ hP hb6;replace hX5:=hX5.trans (hb6.mono hX5.size);clear q0 q1 q2 q3 q4 q5;obtain⟨⟨q0,q1,q2,q3,q4⟩,q5⟩:=aW hP;(try(replace zk:=aV zk hb6;replace y1:=aV y1 hb6;replace y3:=aV y3 hb6))))
    |(go_at_call 32;((with_reducible refine(hra.out _).mono ?_);rintro e W6 ⟨rfl,hb6⟩;replace hP:=aQ hP hb6;replace hX5:=hX5.trans (hb6.mono hX5.size);clear q0 q1 q2 q3 q4 q5;obtain⟨⟨q0,q1,q2,q3,q4⟩,q5⟩:=aW hP;(try(replace zk:=aV zk hb6;replace y1:=aV y1 hb6;replace y3:=aV y3 hb6))))
    |(go_at_call 33;((with_reducible refine(hso.out _).mono ?_);rintro e W6 ⟨rfl,hb6⟩;replace hP:=aQ hP hb6;replace hX5:=hX5.trans (hb6.mono hX5.size);clear q0 q1 q2 q3 q4 q5;obtain⟨⟨q0,q1,q2,q3,q4⟩,q5⟩:=aW hP;(try(replace zk:=aV zk hb6;replace y1:=aV y1 hb6;replace y3:=aV y3 hb6))))
    |(go_at_call 93;((with_reducible refine(hct.out _ hX5).mono ?_);rintro e W6 ⟨rfl,hb6⟩;replace hP:=aQ hP hb6;replace hX5:=hX5.trans (hb6.mono hX5.size);clear q0 q1 q2 q3 q4 q5;obtain⟨⟨q0,q1,q2,q3,q4⟩,q5⟩:=aW hP;(try(replace zk:=aV zk hb6;replace y1:=aV y1 hb6;replace y3:=aV y3 hb6))))
    |(go_at_call 97;((with_reducible refine(hsu.out _).mono ?_);rintro e W6 ⟨rfl,hb6⟩;replace hP:=aQ hP hb6;replace hX5:=hX5.trans (hb6.mono hX5.size);clear q0 q1 q2 q3 q4 q5;obtain⟨⟨q0,q1,q2,q3,q4⟩,q5⟩:=aW hP;(try(replace zk:=aV zk hb6;replace y1:=aV y1 hb6;replace y3:=aV y3 hb6)))))
    go_ret;exact⟨rfl,hX5⟩)))
theorem gD.calls(A:Option Addr)(c:Nat)(xs:List Rw)(i:Int)(r:Bool)(w:World)(hr:k34.C w A xs.length xs)(hcap:xs.length≤c)(h:gD.f xs i=some r)(hS:Ep w):
 Calls Tryz.prog 50 #[.slice A xs.length c,.int .i64 i] w fun e w'=>e=.returned (.bool r)∧Below w.heap.size w w':=by
 unfold gD.f at h
 by_cases hi:0≤i∧i.toNat<xs.length
 ·rw[dif_pos hi]at h
  obtain⟨ks,h1,e1⟩:=Option.bind_eq_some_iff.1 h;obtain⟨v,h2,e2⟩:=Option.bind_eq_some_iff.1 e1;obtain⟨rw0,h3,e3⟩:=Option.bind_eq_some_iff.1 e2;obtain⟨sf,h4,e4⟩:=Option.bind_eq_some_iff.1 e3;obtain⟨m,rfl⟩:∃m:Nat,i=m:=⟨i.toNat,by omega⟩
  exact wi_calls A c xs hcap m hi.2 ks h1 v rw0 sf r h2 h3 h4 e4 w hr hS
 ·rw[dif_neg hi]at h
  cases h
end Go.Proofs.aj.W7
namespace Go.Proofs.aj.W7
open Go.RowKit Go.Proofs.ah.aD Go.Proofs.ah.bJ Go.Proofs.ah.bW
attribute [local go_sem] dB dD dR dS bZ cu dF dG
theorem eqA36(d:Nat)(w:World)(x0 y0 x1 y1:ByteArray):
 (Op.equalIn (d+2) 36 (.agg #[.string x0,.string x1]) (.agg #[.string y0,.string y1])).run Tryz.prog w=.ok (x0.toList==y0.toList&&(x1.toList==y1.toList)) w:=by
 refine eqA_of Tryz.underlying36 (by kernel_rfl) ?_;refine eqf_cons (by rfl) (by go_simp;rfl) (by go_simp;rfl) (by go_simp) ?_;exact eqf_last (by rfl) (by go_simp;rfl) (by go_simp;rfl) (by go_simp)
end Go.Proofs.aj.W7
namespace Go.Proofs.aj.W7
open Go.RowKit Go.Proofs.ah.aD Go.Proofs.ah.bJ Go.Proofs.ah.bW
attribute [local go_sem] dB dD dR dS bZ cu dF dG
attribute [local go_sem high] eqA36
def gV.l0:Nat→List (S36)→List (S36)→Int→Int→Option (Bool)
 |0,_,_,_,_=>none
 |k+1,x0,x1,x10,x11=>if x11<x10 then(if 0≤x11 then(if x11<(x0.length:Int)then(if x11<(x1.length:Int)then(if(!((((bq x0 x11).f0).toList)==(((bq x1 x11).f0).toList))||(!((((bq x0 x11).f1).toList)==(((bq x1 x11).f1).toList))))=true then(some false)else(gV.l0 k x0 x1 x10 (wrap64 (x11+1))))else(none))else(none))else(none))else(some ((x0.length:Int)==(x1.length:Int)))
def gV.f(k:Nat)(l0 l1:List (S36)):Option (Bool):=gV.l0 k l0 l1 (mn (l0.length:Int) (l1.length:Int)) 0
theorem gV.calls(k:Nat)(A0:Option Addr)(c0:Nat)(l0:List (S36))(A1:Option Addr)(c1:Nat)(l1:List (S36))(r:Bool)(w:World)(hr0:Kd.C k36 w A0 l0.length l0)(hc0:l0.length≤c0)(hr1:Kd.C k36 w A1 l1.length l1)(hc1:l1.length≤c1)(h:gV.f k l0 l1=some r):
 Calls Tryz.prog 88 #[.slice A0 l0.length c0,.slice A1 l1.length c1] w fun e w'=>e=.returned (.bool r)∧Below w.heap.size w w':=by
 have hu36:=Tryz.underlying36;have HR0:=ak.mk hr0;have HC0:=ak.mk hc0;clear hr0 hc0;have HR1:=ak.mk hr1;have HC1:=ak.mk hc1;clear hr1 hc1;have HB:=ak.mk (Below.refl w.heap.size w);have H:(gV.l0 k l0 l1 (mn (l0.length:Int) (l1.length:Int)) 0)=some r:=h;clear h;obtain⟨ji3,hji3⟩:∃j_:Int,(mn (l0.length:Int) (l1.length:Int))=j_:=⟨_,rfl⟩
 replace H:(gV.l0 k l0 l1 ji3 0)=some r:=by first|(rw[hji3]at H;exact H)|(simp only[hji3]at H⊢;exact H)
 (try(have hji3l:0≤ji3:=by(rw[←hji3];unfold mn;(repeat' split)<;>omega)))
 (try(have hji3m:0≤ji3:=by omega))
 have hji3_:(if(l1.length:Int)<(l0.length:Int)then(l1.length:Int)else(l0.length:Int))=ji3:=hji3;have hji3_n:(if l1.length<l0.length then(l1.length:Int)else(l0.length:Int))=ji3:=by(first|(simpa only[Int.ofNat_lt]using hji3_)|(simpa using hji3_))
 have H':=ak.mk H;clear H;go_enter Tryz.func88,Tryz.ntmps88;go_wp2
 repeat(go_quiet (fail);try go_wp2)
 go_loopg [11] k (fun kq v11 w'=>∃(jm:Int),v11=.int .i64 jm∧ak (gV.l0 kq l0 l1 ji3 jm=some r)∧ak (kq≤k)∧ak (Below w.heap.size w w'))
 case atStart=>exact⟨(0),q'c,H',⟨Nat.le_refl _⟩,⟨bz⟩⟩
 case round=>
  clear H'
  try clear c1
  try clear p2
  obtain⟨jm,rfl,HA,HK1,HB⟩:=hrel;cases gk with
  |zero=>exact absurd HA.out (by simp[gV.l0])
  |succ k1=>
   have H:=HA.out;clear HA;simp only[gV.l0]at H
   by_cases c4:jm<ji3
   ·rw[if_pos c4]at H
    have mZ:decide (jm<ji3)=true:=decide_eq_true c4;clear c4
    by_cases c5:0≤jm
    ·rw[if_pos c5]at H
     have uJ:decide (0≤jm)=true:=decide_eq_true c5;clear c5
     by_cases c6:jm<(l0.length:Int)
     ·rw[if_pos c6]at H
      have zL:decide (jm<(l0.length:Int))=true:=decide_eq_true c6;clear c6
      by_cases c7:jm<(l1.length:Int)
      ·rw[if_pos c7]at H
       have c7b0:decide (jm<(l1.length:Int))=true:=decide_eq_true c7;clear c7
       by_cases c8:(!((((bq l0 jm).f0).toList)==(((bq l1 jm).f0).toList))||(!((((bq l0 jm).f1).toList)==(((bq l1 jm).f1).toList))))=true
       ·rw[if_pos c8]at H
        have xU:(!((((bq l0 jm).f0).toList)==(((bq l1 jm).f0).toList))||(!((((bq l0 jm).f1).toList)==(((bq l1 jm).f1).toList))))=true:=c8;clear c8;obtain rfl:=Option.some.inj H;have p101:0≤(jm:Int):=q'b;have q101:jm<(l0.length:Int):=q'b;obtain⟨ad101,e101,vM,vN⟩:=lY HR0.out jm p101 q101;cases e101;replace vM:=(HB.out.cell (World.block_lt_of_cell? w _ vM)).trans vM;replace vN:=(HB.out.cell (World.block_lt_of_cell? w _ vN)).trans vN;replace p101:=eq_true p101;replace q101:=eq_true q101;have p102:0≤(jm:Int):=q'b;have q102:jm<(l1.length:Int):=q'b;obtain⟨ad102,e102,vO,vP⟩:=lY HR1.out jm p102 q102;cases e102;replace vO:=(HB.out.cell (World.block_lt_of_cell? w _ vO)).trans vO;replace vP:=(HB.out.cell (World.block_lt_of_cell? w _ vP)).trans vP;replace p102:=eq_true p102;replace q102:=eq_true q102;go_wp2
        repeat(go_quiet (fail);try go_wp2)
        go_ret;exact⟨by first|rfl|(simp[aJ,aM]<;>rfl)|(simp only[←hji3];first|rfl|(simp[aJ,aM]<;>rfl))|(simp[*,aJ,aM]<;>rfl),bz⟩
       ·rw[if_neg c8]at H
        have xU:(!((((bq l0 jm).f0).toList)==(((bq l1 jm).f0).toList))||(!((((bq l0 jm).f1).toList)==(((bq l1 jm).f1).toList))))=false:=by simpa using c8
        clear c8;have H':=ak.mk H;clear H;have p101:0≤(jm:Int):=q'b;have q101:jm<(l0.length:Int):=q'b;obtain⟨ad101,e101,vM,vN⟩:=lY HR0.out jm p101 q101;cases e101;replace vM:=(HB.out.cell (World.block_lt_of_cell? w _ vM)).trans vM;replace vN:=(HB.out.cell (World.block_lt_of_cell? w _ vN)).trans vN;replace p101:=eq_true p101;replace q101:=eq_true q101;have p102:0≤(jm:Int):=q'b;have q102:jm<(l1.length:Int):=q'b;obtain⟨ad102,e102,vO,vP⟩:=lY HR1.out jm p102 q102;cases e102;replace vO:=(HB.out.cell (World.block_lt_of_cell? w _ vO)).trans vO;replace vP:=(HB.out.cell (World.block_lt_of_cell? w _ vP)).trans vP;replace p102:=eq_true p102;replace q102:=eq_true q102;go_wp2
        repeat(go_quiet (fail);try go_wp2)
        go_roundg k1
        case measure=>have:=HK1.out;omega
        case rel=>exact⟨(wrap64 (jm+1)),q'c,H',⟨by have:=HK1.out;omega⟩,⟨bz⟩⟩
      ·rw[if_neg c7]at H
       exact absurd H (by simp)
     ·rw[if_neg c6]at H
      exact absurd H (by simp)
    ·rw[if_neg c5]at H
     exact absurd H (by simp)
   ·rw[if_neg c4]at H
    have mZ:decide (jm<ji3)=false:=decide_eq_false c4;clear c4;obtain rfl:=Option.some.inj H;go_wp2
    repeat(go_quiet (fail);try go_wp2)
    go_ret;exact⟨by first|rfl|(simp[aJ,aM]<;>rfl)|(simp only[←hji3];first|rfl|(simp[aJ,aM]<;>rfl))|(simp[*,aJ,aM]<;>rfl),bz⟩
end Go.Proofs.aj.W7
namespace Go.Proofs.aj.W7
open Go.RowKit Go.Proofs.ah.aD Go.Proofs.ah.bJ Go.Proofs.ah.bW
attribute [local go_sem] dB dD dR dS bZ cu dF dG
def qo.f(k:Nat)(dO dz:Int)(bV dL:ByteArray)(bA:List (S36))(tJ tK:Int)(tL tN:ByteArray)(uK:List (S36)):Option (Bool):=if dO=tJ then(if dz=tK then(if bV.toList=tL.toList then(if dL.toList=tN.toList then((gV.f k bA uK).bind fun t105=>(some t105))else(some false))else(some false))else(some false))else(some false)
theorem qo.calls(k:Nat)(dO dz:Int)(bV dL:ByteArray)(iC:Option Addr)(eP:Nat)(bA:List (S36))(tJ tK:Int)(tL tN:ByteArray)(BU:Option Addr)(BX:Nat)(uK:List (S36))(r:Bool)(w:World)(xW:Kd.C k36 w iC bA.length bA)(xX:bA.length≤eP)(hr1_4:Kd.C k36 w BU uK.length uK)(hc1_4:uK.length≤BX)(h:qo.f k dO dz bV dL bA tJ tK tL tN uK=some r):
 Calls Tryz.prog 87 #[.agg #[.int .i64 dO,.int .i64 dz,.string bV,.string dL,.slice iC bA.length eP],.agg #[.int .i64 tJ,.int .i64 tK,.string tL,.string tN,.slice BU uK.length BX]] w fun e w'=>e=.returned (.bool r)∧Below w.heap.size w w':=by
 have hu34:=Tryz.underlying34;have xY:=ak.mk xW;have K7:=ak.mk xX;clear xW xX;have HR1_4:=ak.mk hr1_4;have HC1_4:=ak.mk hc1_4;clear hr1_4 hc1_4;have HB:=ak.mk (Below.refl w.heap.size w);have H:(if dO=tJ then(if dz=tK then(if bV.toList=tL.toList then(if dL.toList=tN.toList then((gV.f k bA uK).bind fun t105=>(some t105))else(some false))else(some false))else(some false))else(some false))=some r:=h;clear h
 by_cases c3:dO=tJ
 ·rw[if_pos c3]at H
  have nM:(dO==tJ)=true:=beq_iff_eq.mpr c3;have zJ:(dO !=tJ)=false:=bne_eq_false_iff_eq.mpr c3;clear c3
  by_cases c4:dz=tK
  ·rw[if_pos c4]at H
   have mZ:(dz==tK)=true:=beq_iff_eq.mpr c4;have AA:(dz !=tK)=false:=bne_eq_false_iff_eq.mpr c4;clear c4
   by_cases c5:bV.toList=tL.toList
   ·rw[if_pos c5]at H
    have uJ:(bV.toList==tL.toList)=true:=beq_iff_eq.mpr c5;have c5b1:(bV.toList !=tL.toList)=false:=bne_eq_false_iff_eq.mpr c5;clear c5
    by_cases c6:dL.toList=tN.toList
    ·rw[if_pos c6]at H
     have zL:(dL.toList==tN.toList)=true:=beq_iff_eq.mpr c6;have c6b1:(dL.toList !=tN.toList)=false:=bne_eq_false_iff_eq.mpr c6;clear c6;replace H:=Option.bind_eq_some_iff.mp H;obtain⟨t105,A70,H⟩:=H;replace H:(some t105)=some r:=H;have A7:=ak.mk A70;clear A70;obtain rfl:=Option.some.inj H;go_enter Tryz.func87,Tryz.ntmps87
     go_wp2_with(first|((with_reducible refine cO (N:=2) rfl ?_);refine eH ?hg (N:=2) ?hd (cs:=#[.int .i64 dO,.int .i64 dz,.string bV,.string dL,.slice iC bA.length eP]) (t:=34) ?hr ?_;(case hd=>rfl);(case hg=>rfl);(case hr=>first|(go_simp;done)|(go_simp;rfl));intro fA hg w8 fP hb;have n0_:=ak.mk (aG bz hb);have n1_:=ak.mk (fP);have n2_:=ak.mk ((by rw[hg];exact(aR bz):w.heap.size≤fA));have n3_:=ak.mk ((by rw[hg];exact(aR bz):w.heap.size≤fA));clear HB;have HB:=n0_;have eD:=n1_;have GW103:=n2_;have lS:=n3_;clear n0_ n1_ n2_ n3_;clear hb fP hg)|((with_reducible refine cO (N:=3) rfl ?_);refine eH ?hg (N:=3) ?hd (cs:=#[.int .i64 tJ,.int .i64 tK,.string tL,.string tN,.slice BU uK.length BX]) (t:=34) ?hr ?_;(case hd=>rfl);(case hg=>rfl);(case hr=>first|(go_simp;done)|(go_simp;rfl));intro gQ hg w9 fP hb;have n0_:=ak.mk (dK (g:=fA) (o:=.cells #[.int .i64 dO,.int .i64 dz,.string bV,.string dL,.slice iC bA.length eP] 34 (0,0)) (kz eD.out) hb);have n1_:=ak.mk (aG (bs lS.out) hb);have n2_:=ak.mk (fP);have n3_:=ak.mk ((by rw[hg];exact(aR (bs lS.out)):w.heap.size≤gQ));have n4_:=ak.mk ((by rw[hg];exact(aR (bs lS.out)):w.heap.size≤gQ));have n5_:=ak.mk ((by rw[hg];exact Nat.ne_of_lt (gZ (g:=fA) (o:=.cells #[.int .i64 dO,.int .i64 dz,.string bV,.string dL,.slice iC bA.length eP] 34 (0,0)) (kz eD.out)):fA≠gQ));have n6_:=ak.mk ((by rw[hg];exact Nat.ne_of_gt (gZ (g:=fA) (o:=.cells #[.int .i64 dO,.int .i64 dz,.string bV,.string dL,.slice iC bA.length eP] 34 (0,0)) (kz eD.out)):gQ≠fA));clear eD;clear HB;have eD:=n0_;have HB:=n1_;have fZ:=n2_;have GW104:=n3_;have zw:=n4_;have ng:=n5_;have ni:=n6_;clear n0_ n1_ n2_ n3_ n4_ n5_ n6_;clear hb fP hg;have hnb10:=ng.out;have hnc10:=ni.out;have Og:w9.cell? ⟨fA,0,none⟩=some (.int .i64 dO):=(aC eD.out 0).trans rfl;have Oh:w9.cell? ⟨fA,1,none⟩=some (.int .i64 dz):=(aC eD.out 1).trans rfl;have Oi:w9.cell? ⟨fA,2,none⟩=some (.string bV):=(aC eD.out 2).trans rfl;have Oj:w9.cell? ⟨fA,3,none⟩=some (.string dL):=(aC eD.out 3).trans rfl;have Ol:w9.cell? ⟨fA,4,none⟩=some (.slice iC bA.length eP):=(aC eD.out 4).trans rfl;have Om:=ay eD.out 0;have Oo:=ay eD.out 1;have Oq:=ay eD.out 2;have Ot:=ay eD.out 3;have Ou:=ay eD.out 4;have Ov:w9.cell? ⟨gQ,0,none⟩=some (.int .i64 tJ):=(aC fZ.out 0).trans rfl;have Ow:w9.cell? ⟨gQ,1,none⟩=some (.int .i64 tK):=(aC fZ.out 1).trans rfl;have Ox:w9.cell? ⟨gQ,2,none⟩=some (.string tL):=(aC fZ.out 2).trans rfl;have Oy:w9.cell? ⟨gQ,3,none⟩=some (.string tN):=(aC fZ.out 3).trans rfl;have Oz:w9.cell? ⟨gQ,4,none⟩=some (.slice BU uK.length BX):=(aC fZ.out 4).trans rfl;have OA:=ay fZ.out 0;have OB:=ay fZ.out 1;have OC:=ay fZ.out 2;have OD:=ay fZ.out 3;have OE:=ay fZ.out 4)|(go_at_call 88;(with_reducible refine(gV.calls k _ _ bA _ _ uK t105 _ ?cZ ?dH ?nQ ?nR A7.out).mono ?_);(case cZ=>exact cz (Kd.eF xY.out HB.out));(case dH=>exact K7.out);(case nQ=>exact cz (Kd.eF HR1_4.out HB.out));(case nR=>exact HC1_4.out);rintro e w13 ⟨rfl,hb⟩;have n0_:=ak.mk (dK (g:=fA) (o:=.cells #[.int .i64 dO,.int .i64 dz,.string bV,.string dL,.slice iC bA.length eP] 34 (0,0)) (kz eD.out) hb);have n1_:=ak.mk (dK (g:=gQ) (o:=.cells #[.int .i64 tJ,.int .i64 tK,.string tL,.string tN,.slice BU uK.length BX] 34 (0,0)) (kz fZ.out) hb);have n2_:=ak.mk (aG (by repeat(first|(with_reducible first|exact HB.out|apply bY|apply bE|apply dn|refine aH ?_ lS.out|refine aH ?_ zw.out)|exact HB.out)) hb);clear eD;clear fZ;clear HB;have eD:=n0_;have fZ:=n1_;have HB:=n2_;clear n0_ n1_ n2_;(try clear hb);(try clear hb2);(try clear hk);(try clear hi)))
     go_ret;exact⟨by first|rfl|(simp[aJ,aM]<;>rfl)|(simp[*,aJ,aM]<;>rfl),by repeat(first|(with_reducible first|exact HB.out|apply bY|apply bE|apply dn|refine aH ?_ lS.out|refine aH ?_ zw.out)|exact HB.out)⟩
    ·rw[if_neg c6]at H
     have zL:(dL.toList==tN.toList)=false:=beq_eq_false_iff_ne.mpr c6;have c6b1:(dL.toList !=tN.toList)=true:=bne_iff_ne.mpr c6;obtain rfl:=Option.some.inj H;go_enter Tryz.func87,Tryz.ntmps87
     go_wp2_with(first|((with_reducible refine cO (N:=2) rfl ?_);refine eH ?hg (N:=2) ?hd (cs:=#[.int .i64 dO,.int .i64 dz,.string bV,.string dL,.slice iC bA.length eP]) (t:=34) ?hr ?_;(case hd=>rfl);(case hg=>rfl);(case hr=>first|(go_simp;done)|(go_simp;rfl));intro fA hg w14 fP hb;have n0_:=ak.mk (aG bz hb);have n1_:=ak.mk (fP);have n2_:=ak.mk ((by rw[hg];exact(aR bz):w.heap.size≤fA));have n3_:=ak.mk ((by rw[hg];exact(aR bz):w.heap.size≤fA));clear HB;have HB:=n0_;have eD:=n1_;have GW103:=n2_;have lS:=n3_;clear n0_ n1_ n2_ n3_;clear hb fP hg)|((with_reducible refine cO (N:=3) rfl ?_);refine eH ?hg (N:=3) ?hd (cs:=#[.int .i64 tJ,.int .i64 tK,.string tL,.string tN,.slice BU uK.length BX]) (t:=34) ?hr ?_;(case hd=>rfl);(case hg=>rfl);(case hr=>first|(go_simp;done)|(go_simp;rfl));intro gQ hg w15 fP hb;have n0_:=ak.mk (dK (g:=fA) (o:=.cells #[.int .i64 dO,.int .i64 dz,.string bV,.string dL,.slice iC bA.length eP] 34 (0,0)) (kz eD.out) hb);have n1_:=ak.mk (aG (bs lS.out) hb);have n2_:=ak.mk (fP);have n3_:=ak.mk ((by rw[hg];exact(aR (bs lS.out)):w.heap.size≤gQ));have n4_:=ak.mk ((by rw[hg];exact(aR (bs lS.out)):w.heap.size≤gQ));have n5_:=ak.mk ((by rw[hg];exact Nat.ne_of_lt (gZ (g:=fA) (o:=.cells #[.int .i64 dO,.int .i64 dz,.string bV,.string dL,.slice iC bA.length eP] 34 (0,0)) (kz eD.out)):fA≠gQ));have n6_:=ak.mk ((by rw[hg];exact Nat.ne_of_gt (gZ (g:=fA) (o:=.cells #[.int .i64 dO,.int .i64 dz,.string bV,.string dL,.slice iC bA.length eP] 34 (0,0)) (kz eD.out)):gQ≠fA));clear eD;clear HB;have eD:=n0_;have HB:=n1_;have fZ:=n2_;have GW104:=n3_;have zw:=n4_;have ng:=n5_;have ni:=n6_;clear n0_ n1_ n2_ n3_ n4_ n5_ n6_;clear hb fP hg;have hnb16:=ng.out;have hnc16:=ni.out;have OG:w15.cell? ⟨fA,0,none⟩=some (.int .i64 dO):=(aC eD.out 0).trans rfl;have OH:w15.cell? ⟨fA,1,none⟩=some (.int .i64 dz):=(aC eD.out 1).trans rfl;have OI:w15.cell? ⟨fA,2,none⟩=some (.string bV):=(aC eD.out 2).trans rfl;have OJ:w15.cell? ⟨fA,3,none⟩=some (.string dL):=(aC eD.out 3).trans rfl;have OL:w15.cell? ⟨fA,4,none⟩=some (.slice iC bA.length eP):=(aC eD.out 4).trans rfl;have OM:=ay eD.out 0;have OO:=ay eD.out 1;have OP:=ay eD.out 2;have OQ:=ay eD.out 3;have OT:=ay eD.out 4;have vQ:w15.cell? ⟨gQ,0,none⟩=some (.int .i64 tJ):=(aC fZ.out 0).trans rfl;have vR:w15.cell? ⟨gQ,1,none⟩=some (.int .i64 tK):=(aC fZ.out 1).trans rfl;have vS:w15.cell? ⟨gQ,2,none⟩=some (.string tL):=(aC fZ.out 2).trans rfl;have vT:w15.cell? ⟨gQ,3,none⟩=some (.string tN):=(aC fZ.out 3).trans rfl;have vU:w15.cell? ⟨gQ,4,none⟩=some (.slice BU uK.length BX):=(aC fZ.out 4).trans rfl;have vV:=ay fZ.out 0;have vW:=ay fZ.out 1;have vX:=ay fZ.out 2;have vY:=ay fZ.out 3;have vZ:=ay fZ.out 4))
     go_ret;exact⟨by first|rfl|(simp[aJ,aM]<;>rfl)|(simp[*,aJ,aM]<;>rfl),by repeat(first|(with_reducible first|exact HB.out|apply bY|apply bE|apply dn|refine aH ?_ lS.out|refine aH ?_ zw.out)|exact HB.out)⟩
   ·rw[if_neg c5]at H
    have uJ:(bV.toList==tL.toList)=false:=beq_eq_false_iff_ne.mpr c5;have c5b1:(bV.toList !=tL.toList)=true:=bne_iff_ne.mpr c5;obtain rfl:=Option.some.inj H;go_enter Tryz.func87,Tryz.ntmps87
    go_wp2_with(first|((with_reducible refine cO (N:=2) rfl ?_);refine eH ?hg (N:=2) ?hd (cs:=#[.int .i64 dO,.int .i64 dz,.string bV,.string dL,.slice iC bA.length eP]) (t:=34) ?hr ?_;(case hd=>rfl);(case hg=>rfl);(case hr=>first|(go_simp;done)|(go_simp;rfl));intro fA hg w19 fP hb;have n0_:=ak.mk (aG bz hb);have n1_:=ak.mk (fP);have n2_:=ak.mk ((by rw[hg];exact(aR bz):w.heap.size≤fA));have n3_:=ak.mk ((by rw[hg];exact(aR bz):w.heap.size≤fA));clear HB;have HB:=n0_;have eD:=n1_;have GW103:=n2_;have lS:=n3_;clear n0_ n1_ n2_ n3_;clear hb fP hg)|((with_reducible refine cO (N:=3) rfl ?_);refine eH ?hg (N:=3) ?hd (cs:=#[.int .i64 tJ,.int .i64 tK,.string tL,.string tN,.slice BU uK.length BX]) (t:=34) ?hr ?_;(case hd=>rfl);(case hg=>rfl);(case hr=>first|(go_simp;done)|(go_simp;rfl));intro gQ hg w20 fP hb;have n0_:=ak.mk (dK (g:=fA) (o:=.cells #[.int .i64 dO,.int .i64 dz,.string bV,.string dL,.slice iC bA.length eP] 34 (0,0)) (kz eD.out) hb);have n1_:=ak.mk (aG (bs lS.out) hb);have n2_:=ak.mk (fP);have n3_:=ak.mk ((by rw[hg];exact(aR (bs lS.out)):w.heap.size≤gQ));have n4_:=ak.mk ((by rw[hg];exact(aR (bs lS.out)):w.heap.size≤gQ));have n5_:=ak.mk ((by rw[hg];exact Nat.ne_of_lt (gZ (g:=fA) (o:=.cells #[.int .i64 dO,.int .i64 dz,.string bV,.string dL,.slice iC bA.length eP] 34 (0,0)) (kz eD.out)):fA≠gQ));have n6_:=ak.mk ((by rw[hg];exact Nat.ne_of_gt (gZ (g:=fA) (o:=.cells #[.int .i64 dO,.int .i64 dz,.string bV,.string dL,.slice iC bA.length eP] 34 (0,0)) (kz eD.out)):gQ≠fA));clear eD;clear HB;have eD:=n0_;have HB:=n1_;have fZ:=n2_;have GW104:=n3_;have zw:=n4_;have ng:=n5_;have ni:=n6_;clear n0_ n1_ n2_ n3_ n4_ n5_ n6_;clear hb fP hg;have hnb21:=ng.out;have hnc21:=ni.out;have H6:w20.cell? ⟨fA,0,none⟩=some (.int .i64 dO):=(aC eD.out 0).trans rfl;have H7:w20.cell? ⟨fA,1,none⟩=some (.int .i64 dz):=(aC eD.out 1).trans rfl;have H8:w20.cell? ⟨fA,2,none⟩=some (.string bV):=(aC eD.out 2).trans rfl;have H9:w20.cell? ⟨fA,3,none⟩=some (.string dL):=(aC eD.out 3).trans rfl;have Ia:w20.cell? ⟨fA,4,none⟩=some (.slice iC bA.length eP):=(aC eD.out 4).trans rfl;have Ib:=ay eD.out 0;have Ic:=ay eD.out 1;have Ie:=ay eD.out 2;have Ig:=ay eD.out 3;have Ih:=ay eD.out 4;have hcz23_0:w20.cell? ⟨gQ,0,none⟩=some (.int .i64 tJ):=(aC fZ.out 0).trans rfl;have hcz23_1:w20.cell? ⟨gQ,1,none⟩=some (.int .i64 tK):=(aC fZ.out 1).trans rfl;have hcz23_2:w20.cell? ⟨gQ,2,none⟩=some (.string tL):=(aC fZ.out 2).trans rfl;have hcz23_3:w20.cell? ⟨gQ,3,none⟩=some (.string tN):=(aC fZ.out 3).trans rfl;have hcz23_4:w20.cell? ⟨gQ,4,none⟩=some (.slice BU uK.length BX):=(aC fZ.out 4).trans rfl;have hfz23_0:=ay fZ.out 0;have hfz23_1:=ay fZ.out 1;have hfz23_2:=ay fZ.out 2;have hfz23_3:=ay fZ.out 3;have hfz23_4:=ay fZ.out 4))
    go_ret;exact⟨by first|rfl|(simp[aJ,aM]<;>rfl)|(simp[*,aJ,aM]<;>rfl),by repeat(first|(with_reducible first|exact HB.out|apply bY|apply bE|apply dn|refine aH ?_ lS.out|refine aH ?_ zw.out)|exact HB.out)⟩
  ·rw[if_neg c4]at H
   have mZ:(dz==tK)=false:=beq_eq_false_iff_ne.mpr c4;have AA:(dz !=tK)=true:=bne_iff_ne.mpr c4;obtain rfl:=Option.some.inj H;go_enter Tryz.func87,Tryz.ntmps87
   go_wp2_with(first|((with_reducible refine cO (N:=2) rfl ?_);refine eH ?hg (N:=2) ?hd (cs:=#[.int .i64 dO,.int .i64 dz,.string bV,.string dL,.slice iC bA.length eP]) (t:=34) ?hr ?_;(case hd=>rfl);(case hg=>rfl);(case hr=>first|(go_simp;done)|(go_simp;rfl));intro fA hg w24 fP hb;have n0_:=ak.mk (aG bz hb);have n1_:=ak.mk (fP);have n2_:=ak.mk ((by rw[hg];exact(aR bz):w.heap.size≤fA));have n3_:=ak.mk ((by rw[hg];exact(aR bz):w.heap.size≤fA));clear HB;have HB:=n0_;have eD:=n1_;have GW103:=n2_;have lS:=n3_;clear n0_ n1_ n2_ n3_;clear hb fP hg)|((with_reducible refine cO (N:=3) rfl ?_);refine eH ?hg (N:=3) ?hd (cs:=#[.int .i64 tJ,.int .i64 tK,.string tL,.string tN,.slice BU uK.length BX]) (t:=34) ?hr ?_;(case hd=>rfl);(case hg=>rfl);(case hr=>first|(go_simp;done)|(go_simp;rfl));intro gQ hg w25 fP hb;have n0_:=ak.mk (dK (g:=fA) (o:=.cells #[.int .i64 dO,.int .i64 dz,.string bV,.string dL,.slice iC bA.length eP] 34 (0,0)) (kz eD.out) hb);have n1_:=ak.mk (aG (bs lS.out) hb);have n2_:=ak.mk (fP);have n3_:=ak.mk ((by rw[hg];exact(aR (bs lS.out)):w.heap.size≤gQ));have n4_:=ak.mk ((by rw[hg];exact(aR (bs lS.out)):w.heap.size≤gQ));have n5_:=ak.mk ((by rw[hg];exact Nat.ne_of_lt (gZ (g:=fA) (o:=.cells #[.int .i64 dO,.int .i64 dz,.string bV,.string dL,.slice iC bA.length eP] 34 (0,0)) (kz eD.out)):fA≠gQ));have n6_:=ak.mk ((by rw[hg];exact Nat.ne_of_gt (gZ (g:=fA) (o:=.cells #[.int .i64 dO,.int .i64 dz,.string bV,.string dL,.slice iC bA.length eP] 34 (0,0)) (kz eD.out)):gQ≠fA));clear eD;clear HB;have eD:=n0_;have HB:=n1_;have fZ:=n2_;have GW104:=n3_;have zw:=n4_;have ng:=n5_;have ni:=n6_;clear n0_ n1_ n2_ n3_ n4_ n5_ n6_;clear hb fP hg;have hnb26:=ng.out;have hnc26:=ni.out;have hcz27_0:w25.cell? ⟨fA,0,none⟩=some (.int .i64 dO):=(aC eD.out 0).trans rfl;have hcz27_1:w25.cell? ⟨fA,1,none⟩=some (.int .i64 dz):=(aC eD.out 1).trans rfl;have hcz27_2:w25.cell? ⟨fA,2,none⟩=some (.string bV):=(aC eD.out 2).trans rfl;have hcz27_3:w25.cell? ⟨fA,3,none⟩=some (.string dL):=(aC eD.out 3).trans rfl;have hcz27_4:w25.cell? ⟨fA,4,none⟩=some (.slice iC bA.length eP):=(aC eD.out 4).trans rfl;have hfz27_0:=ay eD.out 0;have hfz27_1:=ay eD.out 1;have hfz27_2:=ay eD.out 2;have hfz27_3:=ay eD.out 3;have hfz27_4:=ay eD.out 4;have OU:w25.cell? ⟨gQ,0,none⟩=some (.int .i64 tJ):=(aC fZ.out 0).trans rfl;have OV:w25.cell? ⟨gQ,1,none⟩=some (.int .i64 tK):=(aC fZ.out 1).trans rfl;have OW:w25.cell? ⟨gQ,2,none⟩=some (.string tL):=(aC fZ.out 2).trans rfl;have OX:w25.cell? ⟨gQ,3,none⟩=some (.string tN):=(aC fZ.out 3).trans rfl;have OY:w25.cell? ⟨gQ,4,none⟩=some (.slice BU uK.length BX):=(aC fZ.out 4).trans rfl;have OZ:=ay fZ.out 0;have O1:=ay fZ.out 1;have O4:=ay fZ.out 2;have O5:=ay fZ.out 3;have O6:=ay fZ.out 4))
   go_ret;exact⟨by first|rfl|(simp[aJ,aM]<;>rfl)|(simp[*,aJ,aM]<;>rfl),by repeat(first|(with_reducible first|exact HB.out|apply bY|apply bE|apply dn|refine aH ?_ lS.out|refine aH ?_ zw.out)|exact HB.out)⟩
 ·rw[if_neg c3]at H
  have nM:(dO==tJ)=false:=beq_eq_false_iff_ne.mpr c3;have zJ:(dO !=tJ)=true:=bne_iff_ne.mpr c3;obtain rfl:=Option.some.inj H;go_enter Tryz.func87,Tryz.ntmps87
  go_wp2_with(first|((with_reducible refine cO (N:=2) rfl ?_);refine eH ?hg (N:=2) ?hd (cs:=#[.int .i64 dO,.int .i64 dz,.string bV,.string dL,.slice iC bA.length eP]) (t:=34) ?hr ?_;(case hd=>rfl);(case hg=>rfl);(case hr=>first|(go_simp;done)|(go_simp;rfl));intro fA hg w29 fP hb;have n0_:=ak.mk (aG bz hb);have n1_:=ak.mk (fP);have n2_:=ak.mk ((by rw[hg];exact(aR bz):w.heap.size≤fA));have n3_:=ak.mk ((by rw[hg];exact(aR bz):w.heap.size≤fA));clear HB;have HB:=n0_;have eD:=n1_;have GW103:=n2_;have lS:=n3_;clear n0_ n1_ n2_ n3_;clear hb fP hg)|((with_reducible refine cO (N:=3) rfl ?_);refine eH ?hg (N:=3) ?hd (cs:=#[.int .i64 tJ,.int .i64 tK,.string tL,.string tN,.slice BU uK.length BX]) (t:=34) ?hr ?_;(case hd=>rfl);(case hg=>rfl);(case hr=>first|(go_simp;done)|(go_simp;rfl));intro gQ hg w30 fP hb;have n0_:=ak.mk (dK (g:=fA) (o:=.cells #[.int .i64 dO,.int .i64 dz,.string bV,.string dL,.slice iC bA.length eP] 34 (0,0)) (kz eD.out) hb);have n1_:=ak.mk (aG (bs lS.out) hb);have n2_:=ak.mk (fP);have n3_:=ak.mk ((by rw[hg];exact(aR (bs lS.out)):w.heap.size≤gQ));have n4_:=ak.mk ((by rw[hg];exact(aR (bs lS.out)):w.heap.size≤gQ));have n5_:=ak.mk ((by rw[hg];exact Nat.ne_of_lt (gZ (g:=fA) (o:=.cells #[.int .i64 dO,.int .i64 dz,.string bV,.string dL,.slice iC bA.length eP] 34 (0,0)) (kz eD.out)):fA≠gQ));have n6_:=ak.mk ((by rw[hg];exact Nat.ne_of_gt (gZ (g:=fA) (o:=.cells #[.int .i64 dO,.int .i64 dz,.string bV,.string dL,.slice iC bA.length eP] 34 (0,0)) (kz eD.out)):gQ≠fA));clear eD;clear HB;have eD:=n0_;have HB:=n1_;have fZ:=n2_;have GW104:=n3_;have zw:=n4_;have ng:=n5_;have ni:=n6_;clear n0_ n1_ n2_ n3_ n4_ n5_ n6_;clear hb fP hg;have hnb31:=ng.out;have hnc31:=ni.out;have hcz32_0:w30.cell? ⟨fA,0,none⟩=some (.int .i64 dO):=(aC eD.out 0).trans rfl;have hcz32_1:w30.cell? ⟨fA,1,none⟩=some (.int .i64 dz):=(aC eD.out 1).trans rfl;have hcz32_2:w30.cell? ⟨fA,2,none⟩=some (.string bV):=(aC eD.out 2).trans rfl;have hcz32_3:w30.cell? ⟨fA,3,none⟩=some (.string dL):=(aC eD.out 3).trans rfl;have hcz32_4:w30.cell? ⟨fA,4,none⟩=some (.slice iC bA.length eP):=(aC eD.out 4).trans rfl;have hfz32_0:=ay eD.out 0;have hfz32_1:=ay eD.out 1;have hfz32_2:=ay eD.out 2;have hfz32_3:=ay eD.out 3;have hfz32_4:=ay eD.out 4;have hcz33_0:w30.cell? ⟨gQ,0,none⟩=some (.int .i64 tJ):=(aC fZ.out 0).trans rfl;have hcz33_1:w30.cell? ⟨gQ,1,none⟩=some (.int .i64 tK):=(aC fZ.out 1).trans rfl;have hcz33_2:w30.cell? ⟨gQ,2,none⟩=some (.string tL):=(aC fZ.out 2).trans rfl;have hcz33_3:w30.cell? ⟨gQ,3,none⟩=some (.string tN):=(aC fZ.out 3).trans rfl;have hcz33_4:w30.cell? ⟨gQ,4,none⟩=some (.slice BU uK.length BX):=(aC fZ.out 4).trans rfl;have hfz33_0:=ay fZ.out 0;have hfz33_1:=ay fZ.out 1;have hfz33_2:=ay fZ.out 2;have hfz33_3:=ay fZ.out 3;have hfz33_4:=ay fZ.out 4))
  go_ret;exact⟨by first|rfl|(simp[aJ,aM]<;>rfl)|(simp[*,aJ,aM]<;>rfl),by repeat(first|(with_reducible first|exact HB.out|apply bY|apply bE|apply dn|refine aH ?_ lS.out|refine aH ?_ zw.out)|exact HB.out)⟩
end Go.Proofs.aj.W7
