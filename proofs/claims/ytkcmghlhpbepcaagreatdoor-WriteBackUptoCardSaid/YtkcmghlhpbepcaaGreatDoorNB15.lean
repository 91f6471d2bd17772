/- Lemmas and walks, part 15. -/
import Derived.Test.YtkcmghlhpbepcaaGreatDoorNB14
set_option linter.unusedVariables false
set_option linter.unusedSimpArgs false
set_option maxHeartbeats 8000000
set_option maxRecDepth 100000
namespace Go.Proofs.aj.W7
open Go.RowKit Go.Proofs Go.Proofs.YtkcmghlhpbepcaaGreatDoor Go.Proofs.ah.aD Go.Proofs.ah.bH
def kM(s:ByteArray):List ByteArray:=(bM.f 200 s).getD []
def jU(s:ByteArray):List ByteArray:=(cK.f 200 s).getD []
def pW(s:ByteArray):Bool:=(iF.f 200 s).getD false
def kJ(s:ByteArray):Bool:=(gD.f 200 s).getD false
def parL(s:ByteArray):Bool:=(fM.f s).getD false
structure NmOk (s:ByteArray):Prop where
 closes:bM.f 200 s=some (kM s)
 walls:cK.f 200 s=some (jU s)
 gone:iF.f 200 s=some (pW s)
 void:gD.f 200 s=some (kJ s)
 par:fM.f s=some (parL s)
abbrev pN:ByteArray:=⟨#[112]⟩
def jh(op:List ByteArray)(nm:ByteArray):List ByteArray:=
 if parL nm then oU [pN] (jU pN) (oU (kM nm) (jU nm) op)else oU (kM nm) (jU nm) op
def oq(op:List ByteArray)(out:List Rw)(big:Bool)(nm:ByteArray)(xa:List At):List ByteArray×List Rw×Bool:=
 if nm.data.toList=[]then(op,out,big)else if pW nm then(op,out,big)
 else(if kJ nm then jh op nm else jh op nm++[nm],(oQ (jh op nm) out big ⟨0,0,nm,⟨#[]⟩,tK xa⟩).1,(oQ (jh op nm) out big ⟨0,0,nm,⟨#[]⟩,tK xa⟩).2)
theorem DR(some_ walls:List ByteArray):∀(n:Nat) (op:List ByteArray),(y9 some_ walls n op).length≤op.length
 |0,op=>Nat.le_refl _
 |n+1,op=>by
  simp only[y9]
  split
  ·exact Nat.le_refl _
  ·have:=DR some_ walls n (op.take (fP op some_ walls op.length).toNat)
   rw[List.length_take]at this;omega
theorem DT(some_ walls op:List ByteArray):(oU some_ walls op).length≤op.length:=DR _ _ _ _
theorem wZ(op:List ByteArray)(nm:ByteArray):(jh op nm).length≤op.length:=by
 unfold jh;have h1:=DT (kM nm) (jU nm) op
 split
 ·have:=DT [pN] (jU pN) (oU (kM nm) (jU nm) op)
  omega
 ·exact h1
theorem lit1(W:World)(s:ByteArray)(base:Nat)(hb:base≤W.heap.size):Kd.string.R 9 (W.alloc (.cells #[.string s] 9)) base (fun _=>True) (.slice (some ⟨W.heap.size,0,none⟩) 1 1) [s]:=by
 refine⟨fun _ _=>trivial,[.string s],?_,?_⟩
 ·have h2:=World.ownsRow_lit (base:=base) (e:=9) (size:=1) W #[.string s] 1 hb (by simp[maxLen]) (by simp)
  have h4:(W.alloc (.cells #[.string s] 9)).ownsRow base 9 1 (.slice (some ⟨W.heap.size,0,none⟩) 1 1) 1 [.string s]:=by simpa using h2
  exact h4
 ·exact bK.one (show Kd.M Kd.string _ _ _ s [.string s]from rfl) (bK.none _ _)
theorem Bd.ne{w0 W:World}{B p:Nat}{op:List ByteArray}{out:List Rw}{big:Bool}(h:Bd w0 B op out big W){cs:Array Value}{t:TypeId}(hp:W.heap[p]?=some (.cells cs t (0,0)))(ht:t≠73):p≠B:=by
 obtain⟨vo,vr,h1,-,-⟩:=h.ex;exact blk_ne hp h1 ht
theorem gZ.box{B p:Nat}{W W':World}(h:gZ B W W'){cs:Array Value}(hp:W.heap[p]?=some (.cells cs 65 (0,0)))(hne:p≠B):W'.heap[p]?=some (.cells cs 65 (0,0)):=
 h p _ hp hne (fun cs e=>by cases e) (fun cs e=>by cases e)
theorem Qg(w0:World)(B:Nat)(op:List ByteArray)(out:List Rw)(big:Bool)(A1:Option Addr)(c1:Nat)(A2:Option Addr)(c2:Nat)(s:ByteArray)(walls:List ByteArray)(W:World)(h:Bd w0 B op out big W)
 (hs:Kd.string.R 9 W w0.heap.size (fun _=>True) (.slice A1 1 c1) [s]) (hw:Kd.string.R 9 W w0.heap.size (fun _=>True) (.slice A2 walls.length c2) walls):
 Calls Tryz.prog 112 #[.pointer (some ⟨B,0,none⟩),.slice A1 1 c1,.slice A2 walls.length c2] W fun e W'=>e=.returned (.tuple #[])∧
  Bd w0 B (oU [s] walls op) out big W'∧Below w0.heap.size W W'∧gZ B W W':=JK w0 B op out big A1 c1 [s] A2 c2 walls W h hs hw
theorem start_c(w0:World)(B:Nat)(op:List ByteArray)(out:List Rw)(big:Bool)(kd:Int)(nm dt:ByteArray)(sf:Bool)(Aa:Option Addr)(ca:Nat)(xa:List At)(W:World)(h:Bd w0 B op out big W)(hA:k36.C w0 Aa xa.length xa)(hxa:xa.length≤1000000)(hl:out.length≤100000)(ho:op.length≤90000)(hk:NmOk nm)(hp:NmOk pN):
 Calls Tryz.prog 69 #[.pointer (some ⟨B,0,none⟩),.agg #[.int .i64 kd,.string nm,.string dt,.slice Aa xa.length ca,.bool sf]] W fun e W'=>e=.returned (.tuple #[])∧
  Bd w0 B (oq op out big nm xa).1 (oq op out big nm xa).2.1 (oq op out big nm xa).2.2 W'∧Below w0.heap.size W W'∧gZ B W W':=by
 have hbz:=h.below.size;have hgo:=Lib.hid (fun X=>iF.calls 200 nm _ X hk.gone);have hvo:=Lib.hid (fun X=>gD.calls 200 nm _ X hk.void);have hcl:=Lib.hid (fun X=>bM.calls 200 nm _ X hk.closes);have hwl:=Lib.hid (fun X=>cK.calls 200 nm _ X hk.walls);have hpa:=Lib.hid (fun X=>fM.calls nm _ X hk.par);have hwp:=Lib.hid (fun X=>cK.calls 200 pN _ X hp.walls);have hn:=bQ W #[.int .i64 kd,.string nm,.string dt,.slice Aa xa.length ca,.bool sf] 65;obtain⟨⟨p0,p1,p2,p3,p4⟩,p5⟩:=aW hn;have hbA:Below W.heap.size W (W.alloc (.cells #[.int .i64 kd,.string nm,.string dt,.slice Aa xa.length ca,.bool sf] 65)):=(Below.refl _ W).alloc (Nat.le_refl _) _;have h1:=h.step hbA;have hb1:Below w0.heap.size W (W.alloc (.cells #[.int .i64 kd,.string nm,.string dt,.slice Aa xa.length ca,.bool sf] 65)):=hbA.mono hbz;have hk1:=(gZ.refl B W).below hbA
 by_cases hs:nm.data.toList=[]
 ·have e1:(nm.toList==[])=true:=by rw[Lib.toList_data,hs];rfl
  rw[show oq op out big nm xa=(op,out,big)from if_pos hs]
  have hsz:nm=⟨#[]⟩:=by
   obtain⟨d⟩:=nm;simpa using hs
  clear hgo hvo hcl hwl hpa hwp hk;subst hsz;go_enter Tryz.func69,Tryz.ntmps69;go_wp2;refine bodyPost_ret (results_none rfl _ _ _) rfl ?_;exact⟨rfl,h1,hb1,hk1⟩
 have e0:¬nm.toList=[]:=by rw[Lib.toList_data];exact hs
 have e1:(nm.toList==[])=false:=beq_eq_false_iff_ne.2 e0;have e2:¬nm=⟨#[]⟩:=fun e=>hs (by rw[e])
 cases hg:pW nm with
 |true=>
  rw[show oq op out big nm xa=(op,out,big)from by unfold oq;rw[if_neg hs,if_pos hg]];rw[hg]at hgo;clear hvo hcl hwl hpa hwp hk;go_enter Tryz.func69,Tryz.ntmps69
  go_wp2_with(go_at_call 34;((with_reducible refine(hgo.out _).mono ?_);rintro e W2 ⟨rfl,hb2⟩))
  refine bodyPost_ret (results_none rfl _ _ _) rfl ?_;exact⟨rfl,h1.step hb2,hb1.trans (hb2.mono h1.below.size),hk1.below hb2⟩
 |false=>
  rw[hg]at hgo;have hF:oq op out big nm xa=(if kJ nm then jh op nm else jh op nm++[nm],(oQ (jh op nm) out big ⟨0,0,nm,⟨#[]⟩,tK xa⟩).1,(oQ (jh op nm) out big ⟨0,0,nm,⟨#[]⟩,tK xa⟩).2):=by unfold oq;rw[if_neg hs,if_neg (by rw[hg];decide)]
  rw[hF];clear hF;have hsl:=wZ op nm;generalize hpb:W.heap.size=pb at *;go_enter Tryz.func69,Tryz.ntmps69
  go_wp2_with(go_at_call 34;((with_reducible refine(hgo.out _).mono ?_);rintro e W2 ⟨rfl,hb2⟩))
  have hn2:=aQ hn hb2;have h2:=h1.step hb2;have hbw2:=hb1.trans (hb2.mono h1.below.size);have hk2:=hk1.below hb2;clear hgo hn h1 hb1 hk1 p0 p1 p2 p3 p4 p5 hbA;have hbd:Below W2.heap.size W2 W2.drew:=Go.Proofs.ah.aD.bW (Below.refl _ _);have hn3:=aQ hn2 hbd;have h3:=h2.step hbd;have hbw3:=hbw2.trans (hbd.mono h2.below.size);have hk3:=hk2.below hbd;refine uO (n:=8) (S:=fun w'=>w'.cell? ⟨pb,1,none⟩=some (.string nm)) (ds:=[7]) (bits 8 0) (by kernel_rfl) rfl (by kernel_rfl) ((aC hn3 1).trans rfl) (fun hHeld=>?_);generalize W2.drew=W3 at *;clear hn2 h2 hbw2 hk2 hbd;refine sw 0 12 ?_;refine sw 1 13 ?_;refine sw 4 16 ?_;refine st 2 14 ?_;refine st 5 17 ?_
  refine sc 3 15 (fun K hK=>?_);refine FM Tryz.func35 (by kernel_rfl) rfl #[.string nm] (by rfl) rfl rfl (by(try simp only[List.map_toArray,List.map_cons,List.map_nil]);first|done|rfl) ?_;refine(hcl.out _).mono ?_;rintro e W4 ⟨v4,rfl,hR4,hb4⟩;refine⟨_,rfl,?_⟩;obtain⟨A4,c4,rfl⟩:=Kd.dH hR4;have hn4:=aQ hn3 hb4;have h4:=h3.step hb4;have hbw4:=hbw3.trans (hb4.mono h3.below.size);have hk4:=hk3.below hb4;replace hR4:=Kd.d9 hR4 h3.below.size;refine hK.out _ _ ((aC hn4 1).trans rfl) (fun uP=>?_);clear hK K hHeld uP hn3 h3 hbw3 hk3;refine sn ?_;refine sc 6 18 (fun K hK=>?_);refine FM Tryz.func78 (by kernel_rfl) rfl #[.string nm] (by rfl) rfl rfl (by(try simp only[List.map_toArray,List.map_cons,List.map_nil]);first|done|rfl) ?_;refine(hwl.out _).mono ?_;rintro e W5 ⟨v5,rfl,hR5,hb5⟩;refine⟨_,rfl,?_⟩;obtain⟨A5,c5,rfl⟩:=Kd.dH hR5;have hn5:=aQ hn4 hb5;have h5:=h4.step hb5;have hbw5:=hbw4.trans (hb5.mono h4.below.size);have hk5:=hk4.below hb5;replace hR5:=Kd.d9 hR5 h4.below.size;replace hR4:=Kd.dV hR4 hb5;refine hK.out _ _ ((aC hn5 1).trans rfl) (fun uP=>?_);clear hK K uP hn4 h4 hbw4 hk4
  refine sn ?_;refine sd 7 19 (fun K hK=>?_);refine FM Tryz.func112 (by kernel_rfl) rfl #[.pointer (some ⟨B,0,none⟩),.slice A4 (kM nm).length c4,.slice A5 (jU nm).length c5] (by rfl) rfl rfl (by(try simp only[List.map_toArray,List.map_cons,List.map_nil]);first|done|rfl) ?_;refine(JK w0 B op out big A4 c4 (kM nm) A5 c5 (jU nm) W5 h5 hR4 hR5).mono ?_;rintro e W6 ⟨rfl,h6,hb6,hkp6⟩;refine⟨_,rfl,?_⟩;refine hK.out _ _ ?_;clear hK K;refine sn ?_;refine zQ (by kernel_rfl) ?_;have hne:=h5.ne hn5 (by decide);have hn6:=hkp6.box hn5 hne;have hbw6:=hbw5.trans hb6;have hk6:=hk5.trans hkp6;clear hn5 h5 hbw5 hk5 hkp6 hb6 hR4 hR5;obtain⟨⟨p0,p1,p2,p3,p4⟩,p5⟩:=aW hn6;have hso:jh op nm=if parL nm then oU [pN] (jU pN) (oU (kM nm) (jU nm) op)else oU (kM nm) (jU nm) op:=rfl
  generalize parL nm=par at *
  go_upto_if 22 with(go_at_call 76;((with_reducible refine(hpa.out _).mono ?_);rintro e W7 ⟨rfl,⟨nd,hW7⟩⟩;have hb7:Below W6.heap.size W6 W7:=hW7▸Go.Proofs.ah.aD.bE (Below.refl _ _) nd;clear hW7;have h7:=h6.step hb7;have hn7:=aQ hn6 hb7;have hbw7:=hbw6.trans (hb7.mono h6.below.size);have hk7:=hk6.below hb7))
  go_cut [] (fun wx=>Bd w0 B (jh op nm) out big wx∧wx.heap[pb]?=some (.cells #[.int .i64 kd,.string nm,.string dt,.slice Aa xa.length ca,.bool sf] 65 (0,0))∧Below w0.heap.size W wx∧gZ B W wx)
  case first=>
   cases par with
   |false=>
    go_wp2
    go_meet
    refine⟨?_,hn7,hbw7,hk7⟩;rw[hso,if_neg (by decide)];exact h7
   |true=>
    have hbl:=(Below.refl _ W7).alloc (Nat.le_refl _) (.cells #[.string pN] 9);have hl7:=lit1 W7 pN w0.heap.size h7.below.size
    go_wp2_with(first
     |(go_at_call 78;((with_reducible refine(hwp.out _).mono ?_);rintro e W8 ⟨v8,rfl,hR8,hb8⟩;obtain⟨A8,c8,rfl⟩:=Kd.dH hR8;have h8:=(h7.step hbl).step hb8;have hn8:=aQ (aQ hn7 hbl) hb8;have hbw8:=(hbw7.trans (hbl.mono h7.below.size)).trans (hb8.mono (h7.step hbl).below.size);have hk8:=(hk7.below hbl).below hb8;have hR8:=Kd.d9 hR8 (h7.step hbl).below.size;have hl8:=Kd.dV hl7 hb8))
     |(go_at_call 112;((with_reducible refine(Qg w0 B _ out big _ _ A8 c8 pN (jU pN) _ h8 hl8 hR8).mono ?_);rintro e W9 ⟨rfl,h9,hb9,hk9⟩;have hn9:=hk9.box hn8 (h8.ne hn8 (by decide)))))
    go_meet
    refine⟨?_,hn9,hbw8.trans hb9,hk8.trans hk9⟩;rw[hso]
    first|(rw[if_pos trivial];exact h9)|(rw[if_pos rfl];exact h9)
  case rest=>
   obtain⟨h10,hn10,hbw10,hk10⟩:=hcut;clear hn6 h6 hbw6 hk6 hn7 h7 hbw7 hk7 hpa hwp hwl hcl hso p0 p1 p2 p3 p4 p5;have hbd:Below wc.heap.size wc wc.drew:=Go.Proofs.ah.aD.bW (Below.refl _ _);have hn11:=aQ hn10 hbd;have h11:=h10.step hbd;have Ca:=hbw10.trans (hbd.mono h10.below.size);have hk11:=hk10.below hbd
   go_upto_region 5 with(fail)
   refine uO (n:=8) (S:=fun w'=>w'.cell? ⟨pb,1,none⟩=some (.string nm)∧w'.cell? ⟨pb,3,none⟩=some (.slice Aa xa.length ca)) (ds:=[7]) (bits 8 0) (by kernel_rfl) rfl (by kernel_rfl) ⟨(aC hn11 1).trans rfl,(aC hn11 3).trans rfl⟩ (fun hHeld=>?_);generalize wc.drew=W11 at *;clear hn10 h10 hbw10 hk10 hbd;refine sw 0 27 ?_;refine sw 1 28 ?_;refine sw 3 30 ?_;refine st 2 29 ?_;refine st 4 31 ?_
   refine sc 5 32 (fun K hK=>?_);refine FM Tryz.func113 (by kernel_rfl) rfl #[.slice Aa xa.length ca] (by rfl) rfl rfl (by(try simp only[List.map_toArray,List.map_cons,List.map_nil]);first|done|rfl) ?_;refine(once_c Aa ca xa W11 (Kd.eD hA h11.below) hxa).mono ?_;rintro e W12 ⟨v12,rfl,hR12,hb12⟩;refine⟨_,rfl,?_⟩;obtain⟨A12,c12,rfl⟩:=Kd.dH hR12;have hn12:=aQ hn11 hb12;have h12:=h11.step hb12;have hbw12:=Ca.trans (hb12.mono h11.below.size);have hk12:=hk11.below hb12;replace hR12:=Kd.d9 hR12 h11.below.size;refine hK.out _ _ ⟨(aC hn12 1).trans rfl,(aC hn12 3).trans rfl⟩ (fun uP=>?_);clear hK K hHeld uP hn11 h11 Ca hk11;refine sn ?_;refine sw 6 33 ?_;refine sd 7 34 (fun K hK=>?_);refine FM Tryz.func68 (by kernel_rfl) rfl #[.pointer (some ⟨B,0,none⟩),.agg #[.int .i64 0,.int .i64 0,.string nm,.string ⟨#[]⟩,.slice A12 (tK xa).length c12]] (by rfl) rfl rfl (by(try simp only[List.map_toArray,List.map_cons,List.map_nil]);first|done|rfl) ?_;refine(lay_c w0 B (jh op nm) out big 0 0 nm ⟨#[]⟩ (.slice A12 (tK xa).length c12) (tK xa) W12 h12 hR12 hl (by omega)).mono ?_;rintro e W13 ⟨rfl,h13,hb13,hk13⟩;refine⟨_,rfl,?_⟩
   refine hK.out _ _ ?_;clear hK K;refine sn ?_;refine zQ (by kernel_rfl) ?_;have hn13:=hk13.box hn12 (h12.ne hn12 (by decide));have hbw13:=hbw12.trans hb13;have hk14:=hk12.trans hk13;clear hn12 h12 hbw12 hk12 hR12 hb13 hk13;obtain⟨⟨p0,p1,p2,p3,p4⟩,p5⟩:=aW hn13;cases hvd:kJ nm with
   |true=>
    rw[hvd]at hvo
    go_wp2_with(go_at_call 31;((with_reducible refine(hvo.out _).mono ?_);rintro e W14 ⟨rfl,hb14⟩))
    go_end0;refine⟨rfl,?_,hbw13.trans (hb14.mono h13.below.size),hk14.below hb14⟩;exact h13.step hb14
   |false=>
    rw[hvd]at hvo
    go_wp2_with(go_at_call 31;((with_reducible refine(hvo.out _).mono ?_);rintro e W14 ⟨rfl,hb14⟩))
    have h14:=h13.step hb14;have hn14:=aQ hn13 hb14;have hbw14:=hbw13.trans (hb14.mono h13.below.size);have hk15:=hk14.below hb14;clear h13 hn13 hbw13 hk14 hb14 hvo p0 p1 p2 p3 p4 p5;have hbd:Below W14.heap.size W14 W14.drew:=Go.Proofs.ah.aD.bW (Below.refl _ _);have hn15:=aQ hn14 hbd;have h15:=h14.step hbd;have hbw15:=hbw14.trans (hbd.mono h14.below.size);have hk16:=hk15.below hbd;obtain⟨vo,vr,g1,g2,g3⟩:=id h15.ex;obtain⟨Ao,co,rfl⟩:=Kd.dH g2;obtain⟨f0,f1,f2,ff⟩:=aN g1;have hol:=wZ op nm;refine uO (n:=12) (S:=fun w'=>w'.cell? ⟨B,0,none⟩=some (.slice Ao (jh op nm).length co)∧w'.cell? ⟨pb,1,none⟩=some (.string nm)) (ds:=[8,11]) (bits 12 0) (by kernel_rfl) rfl (by kernel_rfl) ⟨f0,(aC hn15 1).trans rfl⟩ (fun hHeld=>?_);generalize W14.drew=W15 at *;clear hn14 h14 hbw14 hk15 hbd;refine sw 0 39 ?_;refine sw 1 40 ?_;refine sw 2 41 ?_;refine sw 3 42 ?_;refine sw 5 44 ?_;refine st 4 43 ?_;refine st 6 45 ?_
    refine sc 7 46 (fun K hK=>?_);rw[if_pos (by rfl)];go_simp;have hbq:Below W15.heap.size W15 (W15.alloc (.cells #[.string nm] 9)):=(Below.refl _ W15).alloc (Nat.le_refl _) _;refine hK.out _ _ ⟨aV f0 hbq,aV ((aC hn15 1).trans rfl) hbq⟩ (fun uP=>?_);clear hK K hHeld uP;refine sd 8 47 (fun K hK=>?_);have hbd2:Below w0.heap.size W W15:=hbw15;refine Kd.yQ Kd.string (w0:=W) w0.heap.size (by rfl) (.tmp 43) (.tmp 46) 41 9 (.string ⟨#[]⟩) 16 rfl Tryz.underlying41 zR rfl (by decide) (by omega) (.slice Ao (jh op nm).length co) (jh op nm) nm [.string nm] (fun _=>True) (fun _=>False) rfl ?aX (show Kd.M Kd.string _ _ _ nm [.string nm]from rfl) (fun _ h=>h.elim) (fun _ _=>trivial) g2 hbd2 h15.below.size (by omega) ?_
    case aX=>rfl
    intro v1 w2 hO2 hb2 hg2 wX;have hB2:=qJ g1 hg2 (Kd.R_ne g2 g1 (by decide));have hV2:=Kd.R_over g3 g2 (by decide) hg2;have hkk:=gZ.grown hk16 (fun k hk=>by obtain⟨c,hc⟩:=Kd.Gw g2 k hk;exact⟨c,.inr hc⟩) hg2;obtain⟨A3,c3,rfl⟩:=Kd.dH hO2;rw[List.length_append,List.length_singleton]at hO2;obtain⟨z0,z1,z2,zf⟩:=aN hB2;refine hK.out _ _ ?_;clear hK K;refine sn ?_;refine sw 9 48 ?_;refine sw 10 49 ?_
    refine sl 11 (fun K hK=>?_);rw[if_pos (by rfl)];go_simp;refine hK.out _ _ ?_;clear hK K;refine zQ (by kernel_rfl) ?_;go_end0;refine⟨rfl,?_,hb2.setCell (p:=⟨B,0,none⟩) h.base _,hkk.set 0 _⟩;show Bd w0 B (if kJ nm then jh op nm else jh op nm++[nm]) _ _ _;rw[hvd];exact⟨h.below.trans (hb2.setCell (p:=⟨B,0,none⟩) h.base _),h.base,_,_,bT hB2 0 _ rfl,Kd.rG hO2 hB2 (by decide) 0 _,Kd.rG hV2 hB2 (by decide) 0 _⟩
end Go.Proofs.aj.W7
namespace Go.Proofs.aj.W7
open Go.RowKit Go.Proofs Go.Proofs.YtkcmghlhpbepcaaGreatDoor Go.Proofs.ah.aD
abbrev tbN:ByteArray:=⟨#[116,98,111,100,121]⟩
abbrev trN:ByteArray:=⟨#[116,114]⟩
abbrev taN:ByteArray:=⟨#[116,97,98,108,101]⟩
def isTab(nm:ByteArray):Bool:=nm.data.toList==[116,97,98,108,101] ||Lib.containsS (kM tbN) nm
def DU(nm:ByteArray):List ByteArray:=if isTab nm then jU trN else jU pN
def jg(op:List ByteArray)(out:List Rw)(big:Bool)(nm:ByteArray):List ByteArray×List Rw×Bool:=
 if nm.data.toList=[]then(op,out,big)else if pW nm then(op,out,big)else if kJ nm then(op,out,big)
 else if 0≤fP op [nm] (DU nm) op.length then(op.take (fP op [nm] (DU nm) op.length).toNat,out,big)
 else if nm.data.toList=[112]then(op,(oQ op out big ⟨0,0,nm,⟨#[]⟩,[]⟩).1,(oQ op out big ⟨0,0,nm,⟨#[]⟩,[]⟩).2)else(op,out,big)
theorem has_R(A:Option Addr)(c:Nat)(xs:List ByteArray)(x:ByteArray)(w:World)(h:Kd.string.C w A xs.length xs)(hc:xs.length≤c):
 Calls Tryz.prog 114 #[.slice A xs.length c,.string x] w fun e w'=>e=.returned (.bool (Lib.containsS xs x))∧w'=w:=has_c A c xs x w h
theorem found1_c(base:Nat)(A:Option Addr)(c:Nat)(op:List ByteArray)(A1:Option Addr)(c1:Nat)(s:ByteArray)(A2:Option Addr)(c2:Nat)(walls:List ByteArray)(X:World)(h0:Kd.string.R 9 X base (fun _=>True) (.slice A op.length c) op)(h1:Kd.string.R 9 X base (fun _=>True) (.slice A1 1 c1) [s])(h2:Kd.string.R 9 X base (fun _=>True) (.slice A2 walls.length c2) walls):
 Calls Tryz.prog 77 #[.slice A op.length c,.slice A1 1 c1,.slice A2 walls.length c2] X fun e w'=>e=.returned (.int .i64 (fP op [s] walls op.length))∧Below X.heap.size X w':=
 dR.calls A c op A1 c1 [s] A2 c2 walls (fP op [s] walls op.length) X (Kd.bJ h0).2.2 (Kd.bJ h0).2.1 (Kd.bJ (xs:=[s]) h1).2.2 (Kd.bJ (xs:=[s]) h1).2.1 (Kd.bJ h2).2.2 (Kd.bJ h2).2.1 rfl
theorem end_c(w0:World)(B:Nat)(op:List ByteArray)(out:List Rw)(big:Bool)(nm:ByteArray)(W:World)(h:Bd w0 B op out big W)(hl:out.length≤100000)(ho:op.length≤90000)(hk:NmOk nm)(hp:NmOk pN)(ht:NmOk tbN)(hr:NmOk trN):
 Calls Tryz.prog 70 #[.pointer (some ⟨B,0,none⟩),.string nm] W fun e W'=>e=.returned (.tuple #[])∧
  Bd w0 B (jg op out big nm).1 (jg op out big nm).2.1 (jg op out big nm).2.2 W'∧Below w0.heap.size W W'∧gZ B W W':=by
 have hbz:=h.below.size;have hgo:=Lib.hid (fun X=>iF.calls 200 nm _ X hk.gone);have hvo:=Lib.hid (fun X=>gD.calls 200 nm _ X hk.void);have hwp:=Lib.hid (fun X=>cK.calls 200 pN _ X hp.walls);have hwr:=Lib.hid (fun X=>cK.calls 200 trN _ X hr.walls);have hct:=Lib.hid (fun X=>bM.calls 200 tbN _ X ht.closes)
 by_cases hs:nm.data.toList=[]
 ·rw[show jg op out big nm=(op,out,big)from if_pos hs]
  have hsz:nm=⟨#[]⟩:=by
   obtain⟨d⟩:=nm;simpa using hs
  clear hgo hvo hwp hwr hct hk;subst hsz;go_enter Tryz.func70,Tryz.ntmps70;go_wp2;refine bodyPost_ret (results_none rfl _ _ _) rfl ?_;exact⟨rfl,h,Below.refl _ _,gZ.refl _ _⟩
 have e0:¬nm.toList=[]:=by rw[Lib.toList_data];exact hs
 have e1:(nm.toList==[])=false:=beq_eq_false_iff_ne.2 e0;have e2:¬nm=⟨#[]⟩:=fun e=>hs (by rw[e])
 cases hg:pW nm with
 |true=>
  rw[show jg op out big nm=(op,out,big)from by unfold jg;rw[if_neg hs,if_pos hg]];rw[hg]at hgo;clear hvo hwp hwr hct hk;go_enter Tryz.func70,Tryz.ntmps70
  go_wp2_with(go_at_call 34;((with_reducible refine(hgo.out _).mono ?_);rintro e W2 ⟨rfl,hb2⟩))
  refine bodyPost_ret (results_none rfl _ _ _) rfl ?_;exact⟨rfl,h.step hb2,hb2.mono hbz,(gZ.refl _ _).below hb2⟩
 |false=>
  rw[hg]at hgo;cases hv:kJ nm with
  |true=>
   rw[show jg op out big nm=(op,out,big)from by unfold jg;rw[if_neg hs,if_neg (by rw[hg];decide),if_pos hv]];rw[hv]at hvo;clear hwp hwr hct hk;go_enter Tryz.func70,Tryz.ntmps70
   go_wp2_with(first
    |(go_at_call 34;((with_reducible refine(hgo.out _).mono ?_);rintro e W2 ⟨rfl,hb2⟩))
    |(go_at_call 31;((with_reducible refine(hvo.out _).mono ?_);rintro e W3 ⟨rfl,hb3⟩)))
   refine bodyPost_ret (results_none rfl _ _ _) rfl ?_;exact⟨rfl,(h.step hb2).step hb3,(hb2.mono hbz).trans (hb3.mono (h.step hb2).below.size),((gZ.refl _ _).below hb2).below hb3⟩
  |false=>
   rw[hv]at hvo
   have hF:jg op out big nm=(if 0≤fP op [nm] (DU nm) op.length then(op.take (fP op [nm] (DU nm) op.length).toNat,out,big)
    else if nm.data.toList=[112]then(op,(oQ op out big ⟨0,0,nm,⟨#[]⟩,[]⟩).1,(oQ op out big ⟨0,0,nm,⟨#[]⟩,[]⟩).2)else(op,out,big)):=by
    unfold jg;rw[if_neg hs,if_neg (by rw[hg];decide),if_neg (by rw[hv];decide)]
   replace hF:=Lib.hid hF;clear hk;have hew:DU nm=if(nm.data.toList==[116,97,98,108,101] ||Lib.containsS (kM tbN) nm)then jU trN else jU pN:=rfl
   have q1:(nm.toList==[116,97,98,108,101])=(nm.data.toList==[116,97,98,108,101]):=by rw[Lib.toList_data]
   generalize (nm.data.toList==[116,97,98,108,101])=isT at *;go_enter Tryz.func70,Tryz.ntmps70
   go_upto_region 2 with(first
    |(go_at_call 34;((with_reducible refine(hgo.out _).mono ?_);rintro e W2 ⟨rfl,hb2⟩;have h2:=h.step hb2;have hbw2:=hb2.mono hbz;have hk2:=(gZ.refl B W).below hb2))
    |(go_at_call 31;((with_reducible refine(hvo.out _).mono ?_);rintro e W3 ⟨rfl,hb3⟩;have h3:=h2.step hb3;have hbw3:=hbw2.trans (hb3.mono h2.below.size);have hk3:=hk2.below hb3))
    |(go_at_call 78;((with_reducible refine(hwp.out _).mono ?_);rintro e W4 ⟨v4,rfl,hR4,hb4⟩;obtain⟨A4,c4,rfl⟩:=Kd.dH hR4;have h4:=h3.step hb4;have hbw4:=hbw3.trans (hb4.mono h3.below.size);have hk4:=hk3.below hb4;have hR4:=Kd.d9 hR4 h3.below.size)))
   generalize hct0:kM tbN=ctl at *;go_cut [23] (fun v wx=>v=.bool (isT||Lib.containsS ctl nm)∧Bd w0 B op out big wx∧Below w0.heap.size W wx∧gZ B W wx∧Kd.string.R 9 wx w0.heap.size (fun _=>True) (.slice A4 (jU pN).length c4) (jU pN))
   case first=>
    cases isT with
    |true=>
     go_wp2_with(fail)
     go_meet
     exact⟨rfl,h4,hbw4,hk4,hR4⟩
    |false=>
     go_wp2_with(first
      |(go_at_call 35;((with_reducible refine(hct.out _).mono ?_);rintro e W5 ⟨v5,rfl,hR5,hb5⟩;obtain⟨A5,c5,rfl⟩:=Kd.dH hR5;have h5:=h4.step hb5;have hbw5:=hbw4.trans (hb5.mono h4.below.size);have hk5:=hk4.below hb5;have hR6:=Kd.dV hR4 hb5;have hr5:=Kd.bJ hR5))
      |(go_at_call 114;((with_reducible refine(has_R A5 c5 ctl nm _ hr5.2.2 hr5.2.1).mono ?_);rintro e W6 ⟨rfl,rfl⟩)))
     go_meet
     exact⟨rfl,h5,hbw5,hk5,hR6⟩
   case rest=>
    obtain⟨rfl,h7,hbw7,hk7,hR7⟩:=hcut;clear hct0 hct q1;generalize (isT||Lib.containsS ctl nm)=isW at *
    go_upto_if 23 with(fail)
    go_cut [4] (fun v wx=>∃A c,v=.slice A (DU nm).length c∧Kd.string.R 9 wx w0.heap.size (fun _=>True) (.slice A (DU nm).length c) (DU nm)∧Bd w0 B op out big wx∧Below w0.heap.size W wx∧gZ B W wx)
    case first=>
     cases isW with
     |true=>
      go_wp2_with(go_at_call 78;((with_reducible refine(hwr.out _).mono ?_);rintro e W8 ⟨v8,rfl,hR8,hb8⟩;obtain⟨A8,c8,rfl⟩:=Kd.dH hR8))
      go_meet
      rw[hew]
      first|rw[if_pos rfl] |rw[if_pos trivial]
      exact⟨_,_,rfl,Kd.d9 hR8 h7.below.size,h7.step hb8,hbw7.trans (hb8.mono h7.below.size),hk7.below hb8⟩
     |false=>
      go_wp2
      go_meet
      rw[hew,if_neg (by decide)];exact⟨_,_,rfl,hR7,h7,hbw7,hk7⟩
    case rest=>
     obtain⟨A9,c9,rfl,hR9,h9,hbw9,hk9⟩:=hcut;clear hew hR7 h7 hbw7 hk7 hwp hwr hgo hvo h2 h3 h4 hbw2 hbw3 hbw4 hk2 hk3 hk4 hR4;generalize DU nm=wl at *;have hbl:=(Below.refl _ wc).alloc (Nat.le_refl _) (.cells #[.string nm] 9);have hl10:=lit1 wc nm w0.heap.size h9.below.size;have hR10:=Kd.dV hR9 hbl;obtain⟨vo,vr,g1,g2,g3⟩:=id h9.ex;obtain⟨Ao,co,rfl⟩:=Kd.dH g2;have hV10:=Kd.dV g2 hbl;obtain⟨f0,f1,f2,ff⟩:=aN g1;obtain⟨y0,y1,y2,yf⟩:=aN (aQ g1 hbl);have hfd:=Lib.hid (found1_c w0.heap.size Ao co op _ _ nm A9 c9 wl _ hV10 hl10 hR10);have hfl:=xV op [nm] wl op.length
     by_cases hneg:0≤fP op [nm] wl op.length
     ·have hF2:=hF.out
      rw[if_pos hneg]at hF2;obtain⟨i,hi⟩:∃i:Nat,fP op [nm] wl op.length=i:=⟨(fP op [nm] wl op.length).toNat,by omega⟩
      rw[hi]at hfd hfl hF2;simp only[Int.toNat_natCast]at hF2;have hil:i<op.length:=by omega
      have hrd:=Kd.bJ g2;replace hF2:=Lib.hid hF2;clear hi hneg hfl hR10 hR9 hl10 hF;have e3:decide ((0:Int)≤(i:Int))=true:=decide_eq_true (by omega)
      go_wp2_with(go_at_call 77;((with_reducible refine hfd.out.mono ?_);rintro e W11 ⟨rfl,zS⟩;have g11:=aQ (aQ g1 hbl) zS;obtain⟨z0,z1,z2,zf⟩:=aN g11))
      refine bodyPost_ret (results_none rfl _ _ _) rfl ?_;rw[hF2.out];have hV11:=Kd.dV hV10 zS;have h11:=(h9.step hbl).step zS;have g3':=Kd.dV (Kd.dV g3 hbl) zS;have htk:=Kd.uQ (m:=i) hV11 (by omega);have Ca:=(hbw9.trans (hbl.mono h9.below.size)).trans (zS.mono (h9.step hbl).below.size);refine⟨rfl,⟨h11.below.setCell (p:=⟨B,0,none⟩) h.base _,h.base,_,_,bT g11 0 _ rfl,Kd.rG htk g11 (by decide) 0 _,Kd.rG g3' g11 (by decide) 0 _⟩,Ca.setCell (p:=⟨B,0,none⟩) h.base _,((hk9.below hbl).below zS).set 0 _⟩
     ·have hF2:=hF.out
      rw[if_neg hneg]at hF2;generalize fP op [nm] wl op.length=i at *;have e3:decide ((0:Int)≤i)=false:=decide_eq_false hneg;clear hneg hfl hR10 hR9 hl10 hF
      by_cases hp2:nm.data.toList=[112]
      ·rw[if_pos hp2]at hF2
       replace hF2:=Lib.hid hF2
       have hnp:nm=pN:=by
        obtain⟨⟨d⟩⟩:=nm;simpa using hp2
       subst hnp;clear hs e0 e1 e2 hp2
       go_wp2_with(first
        |(go_at_call 77;((with_reducible refine hfd.out.mono ?_);rintro e W11 ⟨rfl,zS⟩;have h11:=(h9.step hbl).step zS;have Ca:=(hbw9.trans (hbl.mono h9.below.size)).trans (zS.mono (h9.step hbl).below.size);have hk11:=(hk9.below hbl).below zS))
        |(go_at_call 68;((with_reducible refine(lay_c w0 B op out big 0 0 pN ⟨#[]⟩ (.slice none 0 0) [] _ h11 (Kd.ni _ _ _ _ _) hl (by omega)).mono ?_);rintro e W12 ⟨rfl,h12,hb12,hk12⟩)))
       go_end0;rw[hF2.out];exact⟨rfl,h12,Ca.trans hb12,hk11.trans hk12⟩
      ·rw[if_neg hp2]at hF2
       replace hF2:=Lib.hid hF2;have e4:(nm.toList==[112])=false:=by rw[Lib.toList_data];exact beq_eq_false_iff_ne.2 hp2
       have e5:¬nm=⟨#[112]⟩:=fun e=>hp2 (by rw[e])
       go_wp2_with(go_at_call 77;((with_reducible refine hfd.out.mono ?_);rintro e W11 ⟨rfl,zS⟩;have h11:=(h9.step hbl).step zS;have Ca:=(hbw9.trans (hbl.mono h9.below.size)).trans (zS.mono (h9.step hbl).below.size);have hk11:=(hk9.below hbl).below zS))
       go_end0;rw[hF2.out];exact⟨rfl,h11,Ca,hk11⟩
def qW(a:S36):Txt×Txt:=(a.f0.data.toList,a.f1.data.toList)
def tokS(x:S65):Tok:=⟨x.f0,x.f1.data.toList,x.f3.map qW,x.f2.data.toList,x.f4⟩
def pairT(a:Txt×Txt):S36:=⟨⟨a.1.toArray⟩,⟨a.2.toArray⟩⟩
def CG(x:Tok):S65:=⟨x.kind,⟨x.name.toArray⟩,⟨x.data.toArray⟩,x.attrs.map pairT,x.self⟩
theorem pairS_T(a:Txt×Txt):qW (pairT a)=a:=rfl
theorem pairsS_T(l:List (Txt×Txt)):(l.map pairT).map qW=l:=by
 induction l with
 |nil=>rfl
 |cons a l ih=>simp only[List.map_cons,pairS_T,ih]
abbrev Tk:=S65
def nmB(s:ByteArray):Bool:=(bM.f 200 s).isSome&&(cK.f 200 s).isSome&&(iF.f 200 s).isSome&&(gD.f 200 s).isSome&&(fM.f s).isSome
theorem some_get{α:Type}{o:Option α}(d:α)(h:o.isSome=true):o=some (o.getD d):=by cases o<;>simp at h⊢
theorem Bo{s:ByteArray}(h:nmB s=true):NmOk s:=by
 unfold nmB at h;simp only[Bool.and_eq_true]at h;obtain⟨⟨⟨⟨h1,h2⟩,h3⟩,h4⟩,h5⟩:=h;exact⟨some_get [] h1,some_get [] h2,some_get false h3,some_get false h4,some_get false h5⟩
def szB(out:List Rw)(s:ByteArray):Bool:=out.all fun x=>decide (x.f3.size+s.size≤9223372036854775807)
def ku(op:List ByteArray)(out:List Rw)(t:Tk):List ByteArray×List Rw×Bool:=
 if t.f0=0 then(op,jv op out false t.f2)else if t.f0=3 then(op,oQ op out false ⟨0,2,⟨#[]⟩,t.f2,[]⟩)
 else if t.f0=1 then oq op out false t.f1 t.f3 else if t.f0=2 then jg op out false t.f1 else(op,out,false)
def okT(out:List Rw)(t:Tk):Bool:=
 if t.f0=0 then szB out t.f2 else if t.f0=1 then nmB t.f1&&decide (t.f3.length≤1000000)else if t.f0=2 then nmB t.f1 else true
def Cb:List Tk→List ByteArray→List Rw→Option (List Rw×Int)
 | [],_,out=>(jw.f out).bind fun n=>some (n,0)
 |t::r,op,out=>if okT out t then(if(ku op out t).2.2 then some ([],2)else Cb r (ku op out t).1 (ku op out t).2.1)else none
def jV.f(l:List Tk):Option (List Rw×Int):=if nmB pN&&nmB tbN&&nmB trN then Cb l [] []else none
theorem tL(op:List ByteArray)(out:List Rw)(x:Rw)(h:(oQ op out false x).2=false):(oQ op out false x).1.length≤4096∧op.length<60:=by
 unfold oQ at h⊢
 split at h
 ·cases h
 ·rename_i g
  rw[if_neg g];simp;omega
theorem DW(op:List ByteArray)(out:List Rw)(t:Tk)(ho:out.length≤4096)(hp:op.length≤60)(h:(ku op out t).2.2=false):(ku op out t).2.1.length≤4096∧(ku op out t).1.length≤60:=by
 unfold ku at h⊢
 split
 ·rename_i g
  rw[if_pos g]at h;unfold jv at h⊢
  split
  ·exact⟨ho,hp⟩
  ·rename_i g2
   rw[if_neg g2]at h
   split
   ·simpa using⟨ho,hp⟩
   ·rename_i g3
    rw[if_neg g3]at h;exact⟨(tL _ _ _ h).1,hp⟩
 ·rename_i g
  rw[if_neg g]at h
  split
  ·rename_i g2
   rw[if_pos g2]at h;exact⟨(tL _ _ _ h).1,hp⟩
  ·rename_i g2
   rw[if_neg g2]at h
   split
   ·rename_i g3
    rw[if_pos g3]at h;unfold oq at h⊢;have hs:=wZ op t.f1
    split
    ·exact⟨ho,hp⟩
    ·rename_i g4
     rw[if_neg g4]at h
     split
     ·exact⟨ho,hp⟩
     ·rename_i g5
      rw[if_neg g5]at h;have hl:=tL _ _ _ h;refine⟨hl.1,?_⟩;show(if kJ t.f1=true then jh op t.f1 else jh op t.f1++[t.f1]).length≤60
      split
      ·omega
      ·rw[List.length_append]
       have:=hl.2;simp;omega
   ·rename_i g3
    rw[if_neg g3]at h
    split
    ·rename_i g4
     rw[if_pos g4]at h;unfold jg at h⊢
     split
     ·exact⟨ho,hp⟩
     ·rename_i q1
      rw[if_neg q1]at h
      split
      ·exact⟨ho,hp⟩
      ·rename_i q2
       rw[if_neg q2]at h
       split
       ·exact⟨ho,hp⟩
       ·rename_i q3
        rw[if_neg q3]at h
        split
        ·refine⟨ho,?_⟩
         show(op.take _).length≤60;rw[List.length_take];omega
        ·rename_i q4
         rw[if_neg q4]at h
         split
         ·rename_i q5
          rw[if_pos q5]at h;exact⟨(tL _ _ _ h).1,hp⟩
         ·exact⟨ho,hp⟩
    ·exact⟨ho,hp⟩
theorem tok_at{w:World}{A:Option Addr}{l:List Tk}(h:k65.C w A l.length l)(i:Nat)(hi:i<l.length):
 ∃g o A3 c3,A=some ⟨g,o,none⟩∧w.cell? ⟨g,o+i * 5,none⟩=some (.int .i64 l[i].f0)∧w.cell? ⟨g,o+i * 5+1,none⟩=some (.string l[i].f1)∧w.cell? ⟨g,o+i * 5+2,none⟩=some (.string l[i].f2)∧
  w.cell? ⟨g,o+i * 5+3,none⟩=some (.slice A3 l[i].f3.length c3)∧w.cell? ⟨g,o+i * 5+4,none⟩=some (.bool l[i].f4)∧k36.C w A3 l[i].f3.length l[i].f3:=by
 obtain⟨ad,A3,c3,e,c0,c1,c2,c3',c4,l3,g3⟩:=at_T65 h i (by omega) (by omega);obtain⟨ad0,_,_,e0,z0,_⟩:=at_T65 h 0 (by omega) (by omega);obtain rfl:ad0=ad:=Option.some.inj (e0.symm.trans e);have hs:=Gx (a:=ad0) (by simpa [Addr.add]using z0);simp only[Int.toNat_natCast]at c0 c1 c2 c3' c4;rw[hs,Gy]at c0 c1 c2 c3' c4;have er:sK l i=l[i]:=by simp[sK,hi]
 rw[er]at c0 c1 c2 c3' c4 g3;exact⟨ad0.block,ad0.off,_,_,by rw[e,←hs],c0,c1,c2,c3',c4,g3⟩
theorem Bd.new(w:World):Bd w w.heap.size [] [] false (w.alloc (.cells #[.slice none 0 0,.slice none 0 0,.bool false] 73)):=
 ⟨(Below.refl _ w).alloc (Nat.le_refl _) _,Nat.le_refl _,_,_,bQ w _ _,Kd.ni _ _ _ _ _,Kd.ni _ _ _ _ _⟩
theorem Bd.facts{w0 W:World}{B:Nat}{op:List ByteArray}{out:List Rw}{big:Bool}(h:Bd w0 B op out big W):∃v0 Ar cr,W.cell? ⟨B,0,none⟩=some v0∧W.cell? ⟨B,1,none⟩=some (.slice Ar out.length cr)∧W.cell? ⟨B,2,none⟩=some (.bool big)∧k34.C W Ar out.length out∧out.length≤cr:=by
 obtain⟨vo,vr,h1,h2,h3⟩:=h.ex;obtain⟨Ar,cr,rfl⟩:=Kd.dH h3;obtain⟨c0,c1,c2,cf⟩:=aN h1;exact⟨_,Ar,cr,c0,c1,c2,(Kd.bJ h3).2.2,(Kd.bJ h3).2.1⟩
theorem jV.calls(A:Option Addr)(c:Nat)(l:List S65)(r1:List S34)(r2:Int)(w:World)(hr:k65.C w A l.length l)(hcap:l.length≤c)(h:jV.f l=some (r1,r2)):
 Calls Tryz.prog 21 #[.slice A l.length c] w fun e w'=>∃v0_:Value,e=.returned (.tuple #[v0_,.int .i64 r2])∧k34.R 34 w' w.heap.size (fun _=>True) v0_ r1∧Below w.heap.size w w':=by
 unfold jV.f at h
 split at h
 case isFalse=>cases h
 rename_i hnm;simp only[Bool.and_eq_true]at hnm;have hP:=Lib.hid (Bo hnm.1.1);have hT:=Lib.hid (Bo hnm.1.2);have hR:=Lib.hid (Bo hnm.2);clear hnm;replace h:=Lib.hid h;have hxl:=hr.2.1;have hnew:=Bd.new w;have hbA:Below w.heap.size w (w.alloc (.cells #[.slice none 0 0,.slice none 0 0,.bool false] 73)):=(Below.refl _ w).alloc (Nat.le_refl _) _;go_enter Tryz.func21,Tryz.ntmps21;go_wp2
 go_loopw [11] (fun vi wr=>∃(i:Nat) (op:List ByteArray) (out:List Rw),vi=.int .i64 i∧i≤l.length∧Hid (Cb (l.drop i) op out=some (r1,r2))∧Bd w w.heap.size op out false wr∧out.length≤4096∧op.length≤60∧Below w.heap.size w wr) (fun vi _=>l.length - (intOf vi).toNat)
 case atStart=>exact⟨0,[],[],rfl,Nat.zero_le _,h,hnew,Nat.zero_le _,Nat.zero_le _,hbA⟩
 case round=>
  obtain⟨i,op,out,rfl,hi,hq,hBd,hol,hpl,hbw⟩:=hrel;clear hnew hbA h;have hq2:=hq.out;clear hq
  by_cases hlt:i<l.length
  ·rw[List.drop_eq_getElem_cons hlt]at hq2
   simp only[Cb]at hq2;obtain⟨g,o,A3,c3,rfl,z0,z1,z2,z3,z4,hxa⟩:=tok_at hr i hlt;replace z0:=aV z0 hbw;replace z1:=aV z1 hbw;replace z2:=aV z2 hbw;replace z3:=aV z3 hbw;replace z4:=aV z4 hbw;generalize l[i]=t at *;obtain⟨kd,nm,dt,xa,sf⟩:=t;simp only at z0 z1 z2 z3 z4 hxa;cases hok:okT out ⟨kd,nm,dt,xa,sf⟩with
   |false=>
    rw[hok,if_neg (by decide)]at hq2;cases hq2
   |true=>
   rw[hok,if_pos rfl]at hq2;have hsm:=DW op out ⟨kd,nm,dt,xa,sf⟩ hol hpl;have hn:=bQ wr #[.int .i64 kd,.string nm,.string dt,.slice A3 xa.length c3,.bool sf] 65;obtain⟨⟨p0,p1,p2,p3,p4⟩,p5⟩:=aW hn;have hbT:Below wr.heap.size wr (wr.alloc (.cells #[.int .i64 kd,.string nm,.string dt,.slice A3 xa.length c3,.bool sf] 65)):=(Below.refl _ wr).alloc (Nat.le_refl _) _;have h1:=hBd.step hbT;have DK:=hbw.trans (hbT.mono hbw.size)
   have hS:ku op out ⟨kd,nm,dt,xa,sf⟩=if kd=0 then(op,jv op out false dt)else if kd=3 then(op,oQ op out false ⟨0,2,⟨#[]⟩,dt,[]⟩)
    else if kd=1 then oq op out false nm xa else if kd=2 then jg op out false nm else(op,out,false):=rfl
   have hO:okT out ⟨kd,nm,dt,xa,sf⟩=if kd=0 then szB out dt else if kd=1 then nmB nm&&decide (xa.length≤1000000)else if kd=2 then nmB nm else true:=rfl
   rw[hok]at hO;generalize ku op out ⟨kd,nm,dt,xa,sf⟩=S at *;clear hok hn
   by_cases k0:kd=0
   ·subst k0
    rw[if_pos rfl]at hS hO
    have hz:∀x∈out,x.f3.size+dt.size≤9223372036854775807:=fun x hx=>by
     have:=List.all_eq_true.1 hO.symm x hx;exact of_decide_eq_true this
    have hcall:Hid (Calls Tryz.prog 67 #[.pointer (some ⟨w.heap.size,0,none⟩),.string dt] (wr.alloc (.cells #[.int .i64 0,.string nm,.string dt,.slice A3 xa.length c3,.bool sf] 65)) fun e W'=>e=.returned (.tuple #[])∧
     Bd w w.heap.size S.1 S.2.1 S.2.2 W'∧Below w.heap.size (wr.alloc (.cells #[.int .i64 0,.string nm,.string dt,.slice A3 xa.length c3,.bool sf] 65)) W'∧gZ w.heap.size (wr.alloc (.cells #[.int .i64 0,.string nm,.string dt,.slice A3 xa.length c3,.bool sf] 65)) W'):=by
     apply Lib.hid;rw[hS];exact LV w w.heap.size op out false dt _ h1 (by omega) (by omega) hz
    clear hS hO;obtain⟨op2,out2,big2⟩:=S;simp only at hcall hsm hq2;cases big2 with
    |true=>
     rw[if_pos rfl]at hq2;simp only[Option.some.injEq,Prod.mk.injEq]at hq2;obtain⟨rfl,rfl⟩:=hq2;clear hsm
     go_wp2_with(go_at_call 67;((with_reducible refine hcall.out.mono ?_);rintro e W2 ⟨rfl,h2,hb2,hk2⟩;obtain⟨v0,Ar,cr,q0,q1,q2,hC,hcr⟩:=h2.facts))
     go_ret2
     exact⟨_,rfl,Kd.ni _ _ _ _ _,DK.trans hb2⟩
    |false=>
     rw[if_neg (by decide)]at hq2;replace hq2:=Lib.hid hq2;have DX:=hsm rfl;clear hsm
     go_wp2_with(go_at_call 67;((with_reducible refine hcall.out.mono ?_);rintro e W2 ⟨rfl,h2,hb2,hk2⟩;obtain⟨v0,Ar,cr,q0,q1,q2,hC,hcr⟩:=h2.facts))
     exact⟨⟨i+1,op2,out2,rfl,by omega,hq2,h2,DX.1,DX.2,DK.trans hb2⟩,by simp[intOf];omega⟩
   by_cases k3:kd=3
   ·subst k3
    rw[if_neg (by decide),if_pos rfl]at hS
    have hcall:Hid (Calls Tryz.prog 68 #[.pointer (some ⟨w.heap.size,0,none⟩),.agg #[.int .i64 0,.int .i64 2,.string ⟨#[]⟩,.string dt,.slice none 0 0]] (wr.alloc (.cells #[.int .i64 3,.string nm,.string dt,.slice A3 xa.length c3,.bool sf] 65)) fun e W'=>e=.returned (.tuple #[])∧
     Bd w w.heap.size S.1 S.2.1 S.2.2 W'∧Below w.heap.size (wr.alloc (.cells #[.int .i64 3,.string nm,.string dt,.slice A3 xa.length c3,.bool sf] 65)) W'∧gZ w.heap.size (wr.alloc (.cells #[.int .i64 3,.string nm,.string dt,.slice A3 xa.length c3,.bool sf] 65)) W'):=by
     apply Lib.hid;rw[hS];exact lay_c w w.heap.size op out false 0 2 ⟨#[]⟩ dt (.slice none 0 0) [] _ h1 (Kd.ni _ _ _ _ _) (by omega) (by omega)
    clear hS hO;obtain⟨op2,out2,big2⟩:=S;simp only at hcall hsm hq2;cases big2 with
    |true=>
     rw[if_pos rfl]at hq2;simp only[Option.some.injEq,Prod.mk.injEq]at hq2;obtain⟨rfl,rfl⟩:=hq2;clear hsm
     go_wp2_with(go_at_call 68;((with_reducible refine hcall.out.mono ?_);rintro e W2 ⟨rfl,h2,hb2,hk2⟩;obtain⟨v0,Ar,cr,q0,q1,q2,hC,hcr⟩:=h2.facts))
     go_ret2
     exact⟨_,rfl,Kd.ni _ _ _ _ _,DK.trans hb2⟩
    |false=>
     rw[if_neg (by decide)]at hq2;replace hq2:=Lib.hid hq2;have DX:=hsm rfl;clear hsm
     go_wp2_with(go_at_call 68;((with_reducible refine hcall.out.mono ?_);rintro e W2 ⟨rfl,h2,hb2,hk2⟩;obtain⟨v0,Ar,cr,q0,q1,q2,hC,hcr⟩:=h2.facts))
     exact⟨⟨i+1,op2,out2,rfl,by omega,hq2,h2,DX.1,DX.2,DK.trans hb2⟩,by simp[intOf];omega⟩
   by_cases k1:kd=1
   ·subst k1
    rw[if_neg (by decide),if_neg (by decide),if_pos rfl]at hS;rw[if_neg (by decide),if_pos rfl]at hO;have hO2:=hO.symm;simp only[Bool.and_eq_true,decide_eq_true_eq]at hO2
    have hcall:Hid (Calls Tryz.prog 69 #[.pointer (some ⟨w.heap.size,0,none⟩),.agg #[.int .i64 1,.string nm,.string dt,.slice A3 xa.length c3,.bool sf]] (wr.alloc (.cells #[.int .i64 1,.string nm,.string dt,.slice A3 xa.length c3,.bool sf] 65)) fun e W'=>e=.returned (.tuple #[])∧
     Bd w w.heap.size S.1 S.2.1 S.2.2 W'∧Below w.heap.size (wr.alloc (.cells #[.int .i64 1,.string nm,.string dt,.slice A3 xa.length c3,.bool sf] 65)) W'∧gZ w.heap.size (wr.alloc (.cells #[.int .i64 1,.string nm,.string dt,.slice A3 xa.length c3,.bool sf] 65)) W'):=by
     apply Lib.hid;rw[hS];exact start_c w w.heap.size op out false 1 nm dt sf A3 c3 xa _ h1 hxa hO2.2 (by omega) (by omega) (Bo hO2.1) hP.out
    clear hS hO;obtain⟨op2,out2,big2⟩:=S;simp only at hcall hsm hq2;cases big2 with
    |true=>
     rw[if_pos rfl]at hq2;simp only[Option.some.injEq,Prod.mk.injEq]at hq2;obtain⟨rfl,rfl⟩:=hq2;clear hsm
     go_wp2_with(go_at_call 69;((with_reducible refine hcall.out.mono ?_);rintro e W2 ⟨rfl,h2,hb2,hk2⟩;obtain⟨v0,Ar,cr,q0,q1,q2,hC,hcr⟩:=h2.facts))
     go_ret2
     exact⟨_,rfl,Kd.ni _ _ _ _ _,DK.trans hb2⟩
    |false=>
     rw[if_neg (by decide)]at hq2;replace hq2:=Lib.hid hq2;have DX:=hsm rfl;clear hsm
     go_wp2_with(go_at_call 69;((with_reducible refine hcall.out.mono ?_);rintro e W2 ⟨rfl,h2,hb2,hk2⟩;obtain⟨v0,Ar,cr,q0,q1,q2,hC,hcr⟩:=h2.facts))
     exact⟨⟨i+1,op2,out2,rfl,by omega,hq2,h2,DX.1,DX.2,DK.trans hb2⟩,by simp[intOf];omega⟩
   by_cases k2:kd=2
   ·subst k2
    rw[if_neg (by decide),if_neg (by decide),if_neg (by decide),if_pos rfl]at hS;rw[if_neg (by decide),if_neg (by decide),if_pos rfl]at hO
    have hcall:Hid (Calls Tryz.prog 70 #[.pointer (some ⟨w.heap.size,0,none⟩),.string nm] (wr.alloc (.cells #[.int .i64 2,.string nm,.string dt,.slice A3 xa.length c3,.bool sf] 65)) fun e W'=>e=.returned (.tuple #[])∧
     Bd w w.heap.size S.1 S.2.1 S.2.2 W'∧Below w.heap.size (wr.alloc (.cells #[.int .i64 2,.string nm,.string dt,.slice A3 xa.length c3,.bool sf] 65)) W'∧gZ w.heap.size (wr.alloc (.cells #[.int .i64 2,.string nm,.string dt,.slice A3 xa.length c3,.bool sf] 65)) W'):=by
     apply Lib.hid;rw[hS];exact end_c w w.heap.size op out false nm _ h1 (by omega) (by omega) (Bo hO.symm) hP.out hT.out hR.out
    clear hS hO;obtain⟨op2,out2,big2⟩:=S;simp only at hcall hsm hq2;cases big2 with
    |true=>
     rw[if_pos rfl]at hq2;simp only[Option.some.injEq,Prod.mk.injEq]at hq2;obtain⟨rfl,rfl⟩:=hq2;clear hsm
     go_wp2_with(go_at_call 70;((with_reducible refine hcall.out.mono ?_);rintro e W2 ⟨rfl,h2,hb2,hk2⟩;obtain⟨v0,Ar,cr,q0,q1,q2,hC,hcr⟩:=h2.facts))
     go_ret2
     exact⟨_,rfl,Kd.ni _ _ _ _ _,DK.trans hb2⟩
    |false=>
     rw[if_neg (by decide)]at hq2;replace hq2:=Lib.hid hq2;have DX:=hsm rfl;clear hsm
     go_wp2_with(go_at_call 70;((with_reducible refine hcall.out.mono ?_);rintro e W2 ⟨rfl,h2,hb2,hk2⟩;obtain⟨v0,Ar,cr,q0,q1,q2,hC,hcr⟩:=h2.facts))
     exact⟨⟨i+1,op2,out2,rfl,by omega,hq2,h2,DX.1,DX.2,DK.trans hb2⟩,by simp[intOf];omega⟩
   rw[if_neg k0,if_neg k3,if_neg k1,if_neg k2]at hS;clear hO;subst hS;simp only at hsm hq2;rw[if_neg (by decide)]at hq2;replace hq2:=Lib.hid hq2;clear hsm;obtain⟨v0,Ar,cr,q0,q1,q2,hC,hcr⟩:=h1.facts;have e0:(kd==0)=false:=beq_eq_false_iff_ne.2 k0;have e1:(kd==1)=false:=beq_eq_false_iff_ne.2 k1;have e2:(kd==2)=false:=beq_eq_false_iff_ne.2 k2;have e3:(kd==3)=false:=beq_eq_false_iff_ne.2 k3;go_wp2;exact⟨⟨i+1,op,out,rfl,by omega,hq2,h1,hol,hpl,DK⟩,by simp[intOf];omega⟩
  ·rw[List.drop_of_length_le (by omega)]at hq2
   simp only[Cb]at hq2;obtain⟨ns,hns,hq3⟩:=Option.bind_eq_some_iff.1 hq2;simp only[Option.some.injEq,Prod.mk.injEq]at hq3;obtain⟨rfl,rfl⟩:=hq3;obtain⟨v0,Ar,cr,q0,q1,q2,hC,hcr⟩:=hBd.facts;have hcall:=Lib.hid (jw.calls Ar cr out ns wr hC hcr hns);clear hns hq2
   go_wp2_with(go_at_call 41;((with_reducible refine hcall.out.mono ?_);rintro e W2 ⟨v2,rfl,hR2,hb2⟩))
   go_ret2
   exact⟨_,rfl,Kd.d9 hR2 hbw.size,hbw.trans (hb2.mono hbw.size)⟩
end Go.Proofs.aj.W7
