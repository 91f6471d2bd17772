/- Lemmas and walks, part 36. -/
import Derived.Test.YtkcmghlhpbepcaaGreatDoorNB35
import Derived.Lib.ValidLaws
set_option linter.unusedVariables false
set_option linter.unusedSimpArgs false
set_option maxHeartbeats 8000000
set_option maxRecDepth 100000
namespace Go.Proofs.YtkcmghlhpbepcaaGreatDoor
open Go.RowKit Go.Proofs
theorem open_two{s r:Txt}{ts:List Tok}(h:jN s=some (ts,r)):ts.length≤2:=by
 have hn:∀k u e,(rO k u e).1.length≤2:=by intro k u e;simp[rO]
 have ht:∀k u,(xD k u).1.length≤2:=by
  intro k u;unfold xD
  split
  ·simp
  ·split
   ·simp
   ·split
    ·unfold kX
     split<;>simp
    ·simp
 have hc:∀u,(lT u).1.length≤2:=by
  intro u;unfold lT
  split
  ·simp
  ·split
   ·simp
   ·exact hn _ _ _
 unfold jN at h
 repeat' split at h
 all_goals first
  |(simp only[Option.some.injEq]at h
    have e:=congrArg Prod.fst h;simp only at e;rw[←e]
    first|exact ht _ _|exact hc _|exact hn _ _ _)
  |(simp only[Option.some.injEq,Prod.mk.injEq]at h
    rw[←h.1];simp)
  |cases h
theorem str_app(a b:Txt):(⟨a.toArray⟩:Bt)++⟨b.toArray⟩=⟨(a++b).toArray⟩:=by
 apply ByteArray.ext;simp
theorem tell_one(t:Txt):(fD t).length≤1:=by unfold fD;split<;>simp
theorem Ko(base b:Nat)(S T:Txt)(l0:List Tok)(hs:T.length+S.length≤900000000)(hl:l0.length≤10)(w:World)(hsc:Sc w base b S T l0)(hE:Env w base):
 Calls Tryz.prog 116 #[.pointer (some ⟨b,0,none⟩)] w fun e w'=>∃v,e=.returned v∧mP w' base v (l0++oZ T S)∧Below base w w':=by
 have hbb:=hsc.1;go_enter Tryz.func116,Tryz.ntmps116;go_wp2
 go_loopg [3] S.length (fun g _ wr=>∃(s t:Txt) (l:List Tok),s.length=g∧Sc wr base b s t l∧Below base w wr∧t.length+s.length≤T.length+S.length∧l.length+3 * s.length≤l0.length+3 * S.length∧Hid (l0++oZ T S=l++oZ t s))
 case atStart=>exact⟨S,T,l0,rfl,hsc,Below.refl _ _,by omega,by omega,rfl⟩
 case round=>
  obtain⟨s,t,l,hsg,hscr,hB,hts,hls,hinv⟩:=hrel;subst hsg;have hEr:=hE.below hB;obtain⟨_,v,hh,hT⟩:=id hscr;obtain⟨ad,cp,rfl⟩:=hT.len;obtain⟨⟨c0,c1,c2⟩,c5⟩:=aN hh;cases hs0:s with
  |nil=>
   subst hs0;have hfin:=Lib.hid (show l0++oZ T S=l++fD t by rw[hinv.out,JC]);have uU:=Lib.hid (qE base b [] t l (by omega) (by omega) wr hscr hEr)
   go_wp2_with(go_at_call 159;((with_reducible refine(uU.out).mono ?_);rintro e w3 ⟨rfl,eU,hb3⟩;obtain⟨_,v3,hh3,hT3⟩:=id eU;obtain⟨ad3,cp3,rfl⟩:=hT3.len;rw[List.length_append]at hT3 hh3;obtain⟨⟨y0,y1,y2⟩,y5⟩:=aN hh3))
   go_ret;exact⟨_,rfl,by rw[hfin.out];exact hT3,hB.trans hb3⟩
  |cons c0' s0=>
   have hne:(s==[])=false:=by rw[hs0];rfl
   have hpos:0<s.length:=by rw[hs0];simp
   clear hs0;have hspan:=Lib.hid (fun W=>Rj s (by omega) W);have heq:=Bn t s;rw[show s.findIdx (fun c=>c==60)=jC s from rfl]at hspan;have hnl:jC s≤s.length:=List.findIdx_le_length
   have hhead:∀c r,s.drop (jC s)=c::r→c=60:=by
    intro c r h;have:=dr_yes h;simpa using this
   generalize jC s=n at *;have hnI:(n:Int)≤s.length:=by omega
   have hdl:(s.drop n).length=s.length - n:=by simp
   have htl:(s.take n).length=n:=by simp;omega
   have hscA:=(hscr.GJ (t++s.take n)).below (Below.refl _ _).drew;have hBA:=(aH (j:=1) hB hbb (.string ⟨(t++s.take n).toArray⟩)).drew;have hhA:((wr.setCell ⟨b,1,none⟩ (.string ⟨(t++s.take n).toArray⟩)).drew).heap[b]?=_:=Nc (t':=t++s.take n) hh;have hTA:mP (wr.setCell ⟨b,1,none⟩ (.string ⟨(t++s.take n).toArray⟩)).drew base (.slice ad l.length cp) l:=(hT.other (iY wr ⟨b,1,none⟩ (.string ⟨(t++s.take n).toArray⟩)) hh (by decide) (by decide)).below (Below.refl _ _).drew;have hWA:((wr.setCell ⟨b,1,none⟩ (.string ⟨(t++s.take n).toArray⟩)).drew).heap.size=wr.heap.size:=World.size_setCell _ _ _
   go_wp2_with(go_at_call 156;((with_reducible refine(hspan.out _).mono ?_);rintro e w4 ⟨rfl,rfl⟩))
   go_region
   all_goals
    rw[str_app];generalize (wr.setCell ⟨b,1,none⟩ (.string ⟨(t++s.take n).toArray⟩)).drew=W7 at *;obtain⟨⟨d0,d1,d2⟩,d5⟩:=aN hhA;have hscB:=hscA.rH (s.drop n);have hBB:=aH (j:=0) hBA hbb (.string ⟨(s.drop n).toArray⟩);have hEB:=hE.below hBB;generalize hx:s.take n=x at *;generalize hd:s.drop n=y at *;cases y with
    |nil=>
     have LC:=Lib.hid (show l0++oZ T S=l++oZ (t++x) [] by rw[hinv.out,heq,JC]);clear heq hhead hinv;go_wp2
     go_roundg 0
     ·exact⟨[],t++x,l,rfl,hscB,hBB,by simp;omega,by simp;omega,LC⟩
     ·omega
    |cons c r=>
     obtain rfl:=hhead c r rfl;simp only[List.length_cons]at heq hdl;have hop:=Lib.hid (opens_c base b r (t++x) l (by omega) (by simp;omega) (by omega) _ hscB hEB)
     go_wp2_with(go_at_call 158;((with_reducible refine(hop.out).mono ?_);rintro e w5 ⟨rfl,hp5,hb5⟩))
     cases ho:jN r with
     |none=>
      rw[ho]at hp5 heq;have LC:=Lib.hid (show l0++oZ T S=l++oZ (t++x++[60]) r by rw[hinv.out,heq]);clear heq hhead hinv
      go_roundg r.length
      ·exact⟨r,t++x++[60],l,rfl,hp5,hBB.trans hb5,by simp;omega,by omega,LC⟩
      ·omega
     |some q=>
      obtain⟨ts,q⟩:=q;rw[ho]at hp5 heq;have hle:=E5 ho;have h2:=open_two ho;have h1:=tell_one (t++x);simp only at hle heq;have LC:=Lib.hid (show l0++oZ T S=l++fD (t++x)++ts++oZ [] q by rw[hinv.out,heq];simp);clear heq hhead hinv
      go_roundg q.length
      ·exact⟨q,[],_,rfl,hp5,hBB.trans hb5,by simp;omega,by simp;omega,LC⟩
      ·omega
theorem sc_new(s:Txt)(w:World):Sc (w.alloc (.cells #[.string ⟨s.toArray⟩,.string ⟨#[]⟩,.slice none 0 0] 92)) w.heap.size w.heap.size s [] []:=⟨Nat.le_refl _,_,bR _ _ _,mP.nil _ _⟩
theorem env_new{w:World}(hS:Std w)(o:Obj):Env (w.alloc o) w.heap.size:=⟨w,hS,rfl,(Below.refl _ w).alloc (Nat.le_refl _) o⟩
theorem LD{L:List Txt}(h:L.all (fun l=>decide (l.length≤1000000000))=true){l:Txt}(hi:inB L l=true):l.length≤1000000000:=by
 rw[List.all_eq_true]at h;have:=h l (by simpa [inB]using hi);simpa using this
theorem Nk:KI.all (fun l=>decide (l.length≤1000000000))=true:=by decide +kernel
theorem LG:M7.all (fun l=>decide (l.length≤1000000000))=true:=by decide +kernel
theorem in_any(s nm:Txt)(hs:s.length≤900000000)(w:World)(hS:Std w):
 Calls Tryz.prog 72 #[.string ⟨s.toArray⟩,.string ⟨nm.toArray⟩] w fun e w'=>∃v,e=.returned v∧mP w' w.heap.size v (inL s nm)∧Below w.heap.size w w':=by
 have hsc:=sc_new s w;have hE:=env_new hS (.cells #[.string ⟨s.toArray⟩,.string ⟨#[]⟩,.slice none 0 0] 92);have hB:=(Below.refl _ w).alloc (Nat.le_refl _) (.cells #[.string ⟨s.toArray⟩,.string ⟨#[]⟩,.slice none 0 0] 92);have hle:=hE.le;have hraw:=Lib.hid (fun W=>raw_c nm W);have oD:=Lib.hid (fun W=>Ew nm W);have hil:(kX nm s).length≤10:=by unfold kX;split<;>simp
 have hrl:=Nl nm s;have hins0:=fun W h1 h2 (hnm:nm.length≤1000000000)=>EX w.heap.size w.heap.size s [] nm [] (by omega) hnm (by simp) W h1 h2
 rw[List.nil_append]at hins0;have hins:=Lib.hid hins0;clear hins0;have hall1:=Lib.hid (fun W h1 h2=>Ko w.heap.size w.heap.size (kL nm s) [] (kX nm s) (by simp;omega) hil W h1 h2);have hall2:=Lib.hid (fun W h1 h2=>Ko w.heap.size w.heap.size s [] [] (by simpa using hs) (by simp) W h1 h2);rw[List.nil_append]at hall2;unfold inL;generalize oZ [] s=l at *;generalize oZ [] (kL nm s)=l2 at *;generalize hq1:mQ nm=b1 at *;generalize hq2:lu nm=b2 at *;cases b1 with
 |true=>
  have hn1:nm.length≤1000000000:=LD Nk hq1;clear hq1 hq2;simp only[Bool.true_or,if_true];go_enter Tryz.func72,Tryz.ntmps72
  go_wp2_with(first
   |(go_at_call 32;((with_reducible refine(hraw.out _).mono ?_);rintro e w1 ⟨rfl,hb1⟩;have hsc1:=hsc.below hb1;have hB1:=bD hB hle hb1;have hE1:=hE.below (jo hb1 hle)))
   |(go_at_call 115;((with_reducible refine(hins.out _ hsc1 hE1 hn1).mono ?_);rintro e w3 ⟨rfl,eU,hb3⟩;have hE3:=hE1.below hb3))
   |(go_at_call 116;((with_reducible refine(hall1.out _ eU hE3).mono ?_);rintro e w4 ⟨v,rfl,hT4,hb4⟩;obtain⟨ad,cp,rfl⟩:=hT4.len;rw[List.length_append]at hT4)))
  go_ret;exact⟨_,rfl,hT4,(hB1.trans hb3).trans hb4⟩
 |false=>
  clear hq1;cases b2 with
  |true=>
   have hn1:nm.length≤1000000000:=LD LG hq2;clear hq2;simp only[Bool.false_or,if_true];go_enter Tryz.func72,Tryz.ntmps72
   go_wp2_with(first
    |(go_at_call 32;((with_reducible refine(hraw.out _).mono ?_);rintro e w0 ⟨rfl,hb0⟩;have hsc0:=hsc.below hb0;have hB0:=bD hB hle hb0;have hE0:=hE.below (jo hb0 hle);have hle0:=hE0.le))
    |(go_at_call 33;((with_reducible refine(oD.out _).mono ?_);rintro e w1 ⟨rfl,hb1⟩;have hsc1:=hsc0.below hb1;have hB1:=bD hB0 hle0 hb1;have hE1:=hE0.below (jo hb1 hle0)))
    |(go_at_call 115;((with_reducible refine(hins.out _ hsc1 hE1 hn1).mono ?_);rintro e w3 ⟨rfl,eU,hb3⟩;have hE3:=hE1.below hb3))
    |(go_at_call 116;((with_reducible refine(hall1.out _ eU hE3).mono ?_);rintro e w4 ⟨v,rfl,hT4,hb4⟩;obtain⟨ad,cp,rfl⟩:=hT4.len;rw[List.length_append]at hT4)))
   go_ret;exact⟨_,rfl,hT4,(hB1.trans hb3).trans hb4⟩
  |false=>
   clear hq2;simp only[Bool.false_or,Bool.false_eq_true,if_false];go_enter Tryz.func72,Tryz.ntmps72
   go_wp2_with(first
    |(go_at_call 32;((with_reducible refine(hraw.out _).mono ?_);rintro e w0 ⟨rfl,hb0⟩;have hsc0:=hsc.below hb0;have hB0:=bD hB hle hb0;have hE0:=hE.below (jo hb0 hle);have hle0:=hE0.le))
    |(go_at_call 33;((with_reducible refine(oD.out _).mono ?_);rintro e w1 ⟨rfl,hb1⟩;have hsc1:=hsc0.below hb1;have hB1:=bD hB0 hle0 hb1;have hE1:=hE0.below (jo hb1 hle0)))
    |(go_at_call 116;((with_reducible refine(hall2.out _ hsc1 hE1).mono ?_);rintro e w4 ⟨v,rfl,hT4,hb4⟩;obtain⟨ad,cp,rfl⟩:=hT4.len)))
   go_ret;exact⟨_,rfl,hT4,hB1.trans hb4⟩
end Go.Proofs.YtkcmghlhpbepcaaGreatDoor
namespace Go.Proofs.aj.W7
open Go.RowKit Go.Proofs Go.Proofs.YtkcmghlhpbepcaaGreatDoor Go.Proofs.ah.aD
theorem Em(a:Bt):(⟨a.data.toList.toArray⟩:Bt)=a:=by cases a;simp
def qj.f(a0 a1:Bt):Option (List S65):=if a0.size≤900000000 then some ((inL a0.data.toList a1.data.toList).map Dh)else none
theorem qj.calls(a0 a1:Bt)(r:List S65)(w:World)(h:qj.f a0 a1=some r)(hS_:Std w):
 Calls Tryz.prog 72 #[.string a0,.string a1] w fun e w'=>∃v0_:Value,e=.returned v0_∧Kd.R k65 65 w' w.heap.size (fun _=>True) v0_ r∧Below w.heap.size w w':=by
 unfold qj.f at h
 split at h
 ·rename_i hz
  obtain rfl:=Option.some.inj h;have:=in_any a0.data.toList a1.data.toList hz w hS_;rw[Em,Em]at this;exact this.mono fun e w' ⟨v,h1,h2,h3⟩=>⟨v,h1,Q0 h2,h3⟩
 ·cases h
end Go.Proofs.aj.W7
namespace Go.Proofs.aj.W7
open Go.RowKit Go.Proofs Go.Proofs.YtkcmghlhpbepcaaGreatDoor Go.Proofs.YtkcmghlhpbepcaaGreatDoor.Ch
def mK.f(a0:Bt):Option Bt:=if a0.data.toList.length≤100000000 then some ⟨(BK a0.data.toList).toArray⟩else none
theorem mK.calls(a0 r:Bt)(w:World)(h:mK.f a0=some r)(hS_:Std w):
 Calls Tryz.prog 73 #[.string a0] w fun e w'=>e=.returned (.string r)∧Below w.heap.size w w':=by
 unfold mK.f at h
 split at h
 ·rename_i hz
  obtain rfl:=Option.some.inj h;have:=ready_c a0.data.toList hz w hS_;have he:(⟨a0.data.toList.toArray⟩:Bt)=a0:=by cases a0;simp
  rw[he]at this;exact this
 ·cases h
end Go.Proofs.aj.W7
namespace Go.Proofs.aj.W7
open Go.RowKit Go.Proofs.ah.aD Go.Proofs.ah.bJ Go.Proofs.ah.bW
attribute [local go_sem] dB dD dR dS bZ cu dF dG
def qm.f(a0 a1:Bt):Option ((List (S34))×Int):=if(a0.size:Int)>65536 then(some (([] :List (S34)),2))else((mK.f a0).bind fun t314=>((qj.f t314 a1).bind fun t315=>((j5.f t315).bind fun xV=>(some (xV.1,xV.2)))))
theorem qm.calls(a0 a1:Bt)(r1:List (S34))(r2:Int)(w:World)(h:qm.f a0 a1=some (r1,r2))(hS_:Go.Proofs.YtkcmghlhpbepcaaGreatDoor.Std w):
 Calls Tryz.prog 24 #[.string a0,.string a1] w fun e w'=>∃v0_:Value,e=.returned (.tuple #[v0_,.int .i64 r2])∧Kd.R k34 34 w' w.heap.size (fun _=>True) v0_ r1∧Below w.heap.size w w':=by
 have HS_:=ak.mk hS_;clear hS_;have HB:=ak.mk (Below.refl w.heap.size w);have H:(if(a0.size:Int)>65536 then(some (([] :List (S34)),2))else((mK.f a0).bind fun t314=>((qj.f t314 a1).bind fun t315=>((j5.f t315).bind fun xV=>(some (xV.1,xV.2))))))=some (r1,r2):=h;clear h
 by_cases c3:(a0.size:Int)>65536
 ·rw[if_pos c3]at H
  have nN:decide (65536<(a0.size:Int))=true:=decide_eq_true c3;have zJ:decide (65536<a0.size)=true:=decide_eq_true (by omega);clear c3;simp only[Option.some.injEq,Prod.mk.injEq]at H;obtain⟨rfl,rfl⟩:=H;go_enter Tryz.func24,Tryz.ntmps24;go_wp2
  go_ret2
  exact⟨_,by first|rfl|(simp[aJ,aM]<;>rfl)|(simp[*,aJ,aM]<;>rfl),by first|exact Kd.nI _ _ _ _ _|exact Kd.N_nil _ _ _ _ _|exact Kd.V_nil _ _ _ _ _|exact Kd.Q_nil _ _ _ _ _|exact Kd.S_nil _ _ _ _ _,bz⟩
 ·rw[if_neg c3]at H
  have nN:decide (65536<(a0.size:Int))=false:=decide_eq_false c3;have zJ:decide (65536<a0.size)=false:=decide_eq_false (by omega);clear c3;replace H:=Option.bind_eq_some_iff.mp H;obtain⟨t314,A40,H⟩:=H;replace H:((qj.f t314 a1).bind fun t315=>((j5.f t315).bind fun xV=>(some (xV.1,xV.2))))=some (r1,r2):=H;have A4:=ak.mk A40;clear A40;replace H:=Option.bind_eq_some_iff.mp H;obtain⟨t315,A50,H⟩:=H;replace H:((j5.f t315).bind fun xV=>(some (xV.1,xV.2)))=some (r1,r2):=H;have A5:=ak.mk A50;clear A50;replace H:=Option.bind_eq_some_iff.mp H;obtain⟨⟨t318,t319⟩,A60,H⟩:=H;replace H:(some (t318,t319))=some (r1,r2):=H;have A6:=ak.mk A60;clear A60;simp only[Option.some.injEq,Prod.mk.injEq]at H;obtain⟨rfl,rfl⟩:=H;go_enter Tryz.func24,Tryz.ntmps24
  go_wp2_with(first|((with_reducible refine aZ (f:=73) rfl ?_);refine dJ (some 10) rfl rfl Tryz.func73 (by kernel_rfl) rfl #[.string a0] rfl q'a ?_;(with_reducible refine(mK.calls a0 t314 _ A4.out (Go.Proofs.YtkcmghlhpbepcaaGreatDoor.Std.below HS_.out bz)).mono ?_);rintro e w7 ⟨rfl,hb⟩;refine⟨_,rfl,?_⟩;replace HB:=ak.mk (aG bz hb);(try clear hb);(try clear hb2);(try clear hk);(try clear hi))|((with_reducible refine aZ (f:=72) rfl ?_);refine dJ (some 12) rfl rfl Tryz.func72 (by kernel_rfl) rfl #[.string t314,.string a1] rfl q'a ?_;(with_reducible refine(qj.calls t314 a1 t315 _ A5.out (Go.Proofs.YtkcmghlhpbepcaaGreatDoor.Std.below HS_.out bz)).mono ?_);rintro e w8 ⟨v316,rfl,ho0,hb⟩;refine⟨_,rfl,?_⟩;have Gv:=ak.mk (Kd.eB ho0 (aR bz));replace HB:=ak.mk (aG bz hb);(try clear hb);(try clear hb2);(try clear hk);(try clear hi);(try clear ho0);obtain⟨Ao9,co9,eo9⟩:=Kd.dI Gv.out;subst eo9)|((with_reducible refine aZ (f:=21) rfl ?_);refine dJ (some 13) rfl rfl Tryz.func21 (by kernel_rfl) rfl #[.slice Ao9 t315.length co9] rfl q'a ?_;(with_reducible refine(j5.calls _ _ t315 t318 t319 _ ?cZ ?dH A6.out).mono ?_);(case cZ=>exact cz (Kd.bK Gv.out).2.2);(case dH=>exact(Kd.bK Gv.out).2.1);rintro e w10 ⟨v320,rfl,ho0,hb⟩;refine⟨_,rfl,?_⟩;have HO321:=ak.mk (Kd.eB ho0 (aR bz));replace Gv:=ak.mk (Kd.dX (rz Gv.out) hb);replace HB:=ak.mk (aG bz hb);(try clear hb);(try clear hb2);(try clear hk);(try clear hi);(try clear ho0)))
  go_ret2
  exact⟨_,by first|rfl|(simp[aJ,aM]<;>rfl)|(simp[*,aJ,aM]<;>rfl),by(with_reducible repeat(first|apply Kd.fu|apply Kd.fV|apply Kd.fH));exact HO321.out,bz⟩
def iK.f(a0:Bt):Option ((List (S34))×Int):=(qm.f a0 (⟨#[]⟩:Bt)).bind fun La=>(some (La.1,La.2))
theorem iK.calls(a0:Bt)(r1:List (S34))(r2:Int)(w:World)(h:iK.f a0=some (r1,r2))(hS_:Go.Proofs.YtkcmghlhpbepcaaGreatDoor.Std w):
 Calls Tryz.prog 26 #[.string a0] w fun e w'=>∃v0_:Value,e=.returned (.tuple #[v0_,.int .i64 r2])∧Kd.R k34 34 w' w.heap.size (fun _=>True) v0_ r1∧Below w.heap.size w w':=by
 have HS_:=ak.mk hS_;clear hS_;have HB:=ak.mk (Below.refl w.heap.size w);have H:((qm.f a0 (⟨#[]⟩:Bt)).bind fun La=>(some (La.1,La.2)))=some (r1,r2):=h;clear h;replace H:=Option.bind_eq_some_iff.mp H;obtain⟨⟨t322,t323⟩,A20,H⟩:=H;replace H:(some (t322,t323))=some (r1,r2):=H;have A2:=ak.mk A20;clear A20;simp only[Option.some.injEq,Prod.mk.injEq]at H;obtain⟨rfl,rfl⟩:=H;go_enter Tryz.func26,Tryz.ntmps26
 go_wp2_with(first|((with_reducible refine aZ (f:=24) rfl ?_);refine dJ (some 5) rfl rfl Tryz.func24 (by kernel_rfl) rfl #[.string a0,.string (⟨#[]⟩:Bt)] rfl q'a ?_;(with_reducible refine(qm.calls a0 (⟨#[]⟩:Bt) t322 t323 _ A2.out (Go.Proofs.YtkcmghlhpbepcaaGreatDoor.Std.below HS_.out bz)).mono ?_);rintro e w3 ⟨v324,rfl,ho0,hb⟩;refine⟨_,rfl,?_⟩;have HO325:=ak.mk (Kd.eB ho0 (aR bz));replace HB:=ak.mk (aG bz hb);(try clear hb);(try clear hb2);(try clear hk);(try clear hi);(try clear ho0)))
 go_ret2
 exact⟨_,by first|rfl|(simp[aJ,aM]<;>rfl)|(simp[*,aJ,aM]<;>rfl),by(with_reducible repeat(first|apply Kd.fu|apply Kd.fV|apply Kd.fH));exact HO325.out,bz⟩
end Go.Proofs.aj.W7
namespace Go.Proofs.aj.W7
open Go.RowKit Go.Proofs Go.Proofs.aj Go.Proofs.YtkcmghlhpbepcaaGreatDoor Go.Proofs.ah.aD Go.Proofs.YtkcmghlhpbepcaaGreatDoor.Ch
theorem bt_mem(s:Bt)(c:UInt8)(hc:c∈s.data.toList):∃j:Nat,j<s.size∧bt s (j:Int)=(c.toNat:Int):=by
 obtain⟨j,hj,e⟩:=List.getElem_of_mem hc;have hz:s.data.toList.length=s.size:=Array.length_toList;refine⟨j,by omega,?_⟩;have hj2:((j:Int)).toNat<s.size:=by rw[Int.toNat_natCast];omega
 rw[←jT s (j:Int) hj2,←e];rfl
def toksF(s nm:Txt):List Tk:=(inL (BK s) nm).map Dh
def ansF(o:Option (List Rw)):List Rw×Int:=match o with|none=>([],2)|some r=>(r,0)
end Go.Proofs.aj.W7
namespace Go.Proofs.YtkcmghlhpbepcaaGreatDoor.Ch
open Go Go.RowKit
theorem CW:∀(p:Nat) (l:List UInt8),p≤l.length→Utf8.decode ⟨l.toArray⟩ p=Lib.decodeL (l.drop p)
 |0,l,_=>rfl
 |p+1,[],h=>by simp at h
 |p+1,c::l,h=>by
  rw[L8,List.drop_succ_cons];exact CW p l (by simpa using h)
theorem L9(n b0 b1 b2 b3:Nat):1≤(Lib.decodeN n b0 b1 b2 b3).2:=by
 unfold Lib.decodeN
 repeat' split
 all_goals simp
theorem CX(l:List UInt8):1≤(Lib.decodeL l).2:=by rw[Lib.decodeL_N];exact L9 _ _ _ _ _
theorem Bo(l:List UInt8):∀(fuel p:Nat),p≤l.length→l.length - p≤fuel→Lib.validD (l.drop p)=true→(0:UInt8)∉l.drop p→qC ⟨l.toArray⟩ fuel p=l.drop p
 |0,p,hp,hf,_,_=>by rw[qC,List.drop_eq_nil_of_le (by omega)]
 |fuel+1,p,hp,hf,hv,h0=>by
  have hz:(⟨l.toArray⟩:Bt).size=l.length:=by show(List.toArray l).size=_;simp
  rw[qC,hz]
  by_cases h:p<l.length
  ·rw[if_pos h,CW p l hp]
   have hne:l.drop p≠[]:=by
    intro e;have:=congrArg List.length e;rw[List.length_drop]at this;simp at this;omega
   rw[Lib.validD_step _ hne]at hv;have hle:=Lib.decodeL_le (l.drop p) hne;have hpos:=CX (l.drop p);rw[List.length_drop]at hle
   by_cases hb:(Lib.decodeL (l.drop p)).1=65533∧(Lib.decodeL (l.drop p)).2=1
   ·rw[if_pos hb]at hv;cases hv
   ·rw[if_neg hb,List.drop_drop]at hv
    have he:=Lib.encode_decode (l.drop p) hne hb
    have hr0:(Lib.decodeL (l.drop p)).1≠0:=by
     intro e;rw[e]at he;have e2:Lib.encodeRune ((0:Nat):Int)=[0]:=by decide
     rw[e2]at he;refine h0 (List.mem_of_mem_take (i:=(Lib.decodeL (l.drop p)).2) ?_);rw[←he];simp
    have hru:ruF (Lib.decodeL (l.drop p)).1=(l.drop p).take (Lib.decodeL (l.drop p)).2:=by
     unfold ruF;rw[if_neg hr0];exact he
    rw[hru,Bo l fuel (p+(Lib.decodeL (l.drop p)).2) (by omega) (by omega) hv (fun hm=>h0 (by
     rw[←List.drop_drop]at hm;exact List.mem_of_mem_drop hm)),←List.drop_drop,List.take_append_drop]
  ·rw[if_neg h,List.drop_eq_nil_of_le (by omega)]
theorem Ma:∀(l:List UInt8),(13:UInt8)∉l→Gj l=l
 | [],_=>by decide
 |c::l,h=>by
  rw[Nu c l (fun e=>h (by simp[e])),Ma l (fun e=>h (by simp[e]))]
theorem JN(l:List UInt8)(hv:Lib.validD l=true)(h0:(0:UInt8)∉l)(h13:(13:UInt8)∉l):BK l=l:=by
 have hz:(⟨l.toArray⟩:Bt).size=l.length:=by show(List.toArray l).size=_;simp
 unfold BK deF;rw[hz,Bo l l.length 0 (by omega) (by omega) (by simpa using hv) (by simpa using h0),List.drop_zero,Ma l h13]
theorem Mc(n n' b0 b1 b2 b3 c1 c2 c3:Nat)(hn:n≤n')(h1:1<n→c1=b1)(h2:2<n→c2=b2)(h3:3<n→c3=b3)(hv:Lib.decodeN n b0 b1 b2 b3≠(65533,1)):Lib.decodeN n' b0 c1 c2 c3=Lib.decodeN n b0 b1 b2 b3:=by
 unfold Lib.decodeN at hv⊢
 by_cases a0:b0<128
 ·rw[if_pos a0,if_pos a0]
 rw[if_neg a0]at hv;rw[if_neg a0,if_neg a0]
 by_cases a1:b0 / 32=6∧(1<n∧b1 / 64=2)
 ·obtain⟨x,y,z⟩:=a1
  have e1:b0 / 32=6∧(1<n'∧b1 / 64=2):=⟨x,by omega,z⟩;have e2:b0 / 32=6∧(1<n∧b1 / 64=2):=⟨x,y,z⟩;rw[h1 y,if_pos e1,if_pos e2]
 rw[if_neg a1]at hv;rw[if_neg a1]
 by_cases a2:b0 / 16=14∧(1<n∧b1 / 64=2)∧(2<n∧b2 / 64=2)
 ·obtain⟨x,⟨y1,y2⟩,z1,z2⟩:=a2
  have e0:¬(b0 / 32=6∧(1<n'∧b1 / 64=2)):=by omega
  have e1:b0 / 16=14∧(1<n'∧b1 / 64=2)∧(2<n'∧b2 / 64=2):=⟨x,⟨by omega,y2⟩,by omega,z2⟩;have e2:b0 / 16=14∧(1<n∧b1 / 64=2)∧(2<n∧b2 / 64=2):=⟨x,⟨y1,y2⟩,z1,z2⟩;rw[h1 y1,h2 z1,if_neg e0,if_pos e1,if_pos e2]
 rw[if_neg a2]at hv;rw[if_neg a2]
 by_cases a3:b0 / 8=30∧(1<n∧b1 / 64=2)∧(2<n∧b2 / 64=2)∧(3<n∧b3 / 64=2)
 ·obtain⟨x,⟨y1,y2⟩,⟨z1,z2⟩,w1,w2⟩:=a3
  have e0:¬(b0 / 32=6∧(1<n'∧b1 / 64=2)):=by omega
  have e4:¬(b0 / 16=14∧(1<n'∧b1 / 64=2)∧(2<n'∧b2 / 64=2)):=by omega
  have e1:b0 / 8=30∧(1<n'∧b1 / 64=2)∧(2<n'∧b2 / 64=2)∧(3<n'∧b3 / 64=2):=⟨x,⟨by omega,y2⟩,⟨by omega,z2⟩,by omega,w2⟩;have e2:b0 / 8=30∧(1<n∧b1 / 64=2)∧(2<n∧b2 / 64=2)∧(3<n∧b3 / 64=2):=⟨x,⟨y1,y2⟩,⟨z1,z2⟩,w1,w2⟩;rw[h1 y1,h2 z1,h3 w1,if_neg e0,if_neg e4,if_pos e1,if_pos e2]
 rw[if_neg a3]at hv;exact absurd rfl hv
theorem Md(a b:List UInt8)(ha:a≠[])(hv:¬((Lib.decodeL a).1=65533∧(Lib.decodeL a).2=1)):Lib.decodeL (a++b)=Lib.decodeL a:=by
 have hpos:0<a.length:=List.length_pos_iff.2 ha
 have g:∀i,i<a.length→(a++b).getD i 0=a.getD i 0:=by
  intro i hi;simp[List.getD_eq_getElem?_getD,List.getElem?_append_left hi]
 rw[Lib.decodeL_N,Lib.decodeL_N,g 0 hpos];refine Mc _ _ _ _ _ _ _ _ _ (by rw[List.length_append];omega) (fun h=>by rw[g 1 h]) (fun h=>by rw[g 2 h]) (fun h=>by rw[g 3 h]) (fun e=>hv ?_);rw[Lib.decodeL_N,e];exact⟨rfl,rfl⟩
theorem Fw:∀(N:Nat) (a b:List UInt8),a.length≤N→Lib.validD a=true→Lib.validD (a++b)=Lib.validD b
 |0,a,b,hN,_=>by
  obtain rfl:a=[]:=List.eq_nil_of_length_eq_zero (by omega);rfl
 |N+1,a,b,hN,hv=>by
  by_cases ha:a=[]
  ·subst ha;rfl
  ·rw[Lib.validD_step _ ha]at hv
   by_cases hb:(Lib.decodeL a).1=65533∧(Lib.decodeL a).2=1
   ·rw[if_pos hb]at hv;cases hv
   ·rw[if_neg hb]at hv
    have hle:=Lib.decodeL_le a ha;have hpos:=CX a;rw[Lib.validD_step _ (by simp[ha]),Md a b ha hb,if_neg hb,List.drop_append_of_le_length hle];exact Fw N _ b (by rw[List.length_drop];omega) hv
def Cln(l:List UInt8):Prop:=Lib.validD l=true∧(0:UInt8)∉l∧(13:UInt8)∉l
theorem mF{a b:List UInt8}(ha:Cln a)(hb:Cln b):Cln (a++b):=by
 refine⟨by rw[Fw a.length a b (Nat.le_refl _) ha.1];exact hb.1,?_,?_⟩
 ·intro h
  rcases List.mem_append.1 h with h|h
  ·exact ha.2.1 h
  ·exact hb.2.1 h
 ·intro h
  rcases List.mem_append.1 h with h|h
  ·exact ha.2.2 h
  ·exact hb.2.2 h
theorem nG:Cln []:=⟨rfl,by simp,by simp⟩
theorem mW{l:List UInt8}(h:l.all easyB=true):Cln l:=by
 induction l with
 |nil=>exact nG
 |cons c l ih=>
  simp only[List.all_cons,Bool.and_eq_true]at h;obtain⟨h1,h2⟩:=h;obtain⟨i1,i2,i3⟩:=ih h2;simp only[easyB,Bool.and_eq_true,decide_eq_true_eq]at h1;obtain⟨⟨a,b⟩,d⟩:=h1;exact⟨by rw[Lib.validD_cons c l d];exact i1,by simp[i2,Ne.symm a],by simp[i3,Ne.symm b]⟩
theorem Rt{l:List UInt8}(h:Cln l):BK l=l:=JN l h.1 h.2.1 h.2.2
end Go.Proofs.YtkcmghlhpbepcaaGreatDoor.Ch
namespace Go.Proofs.YtkcmghlhpbepcaaGreatDoor.Ch
open Go Go.RowKit Go.Proofs.YtkcmghlhpbepcaaGreatDoor
theorem valid2(c d:UInt8)(r:List UInt8)(h0:c.toNat / 32=6)(h1:d.toNat / 64=2)(h2:128≤c.toNat % 32 * 64+d.toNat % 64):Lib.validD (c::d::r)=Lib.validD r:=by
 rw[Lib.validD_step _ (by simp),Lib.decodeL_N]
 have e:Lib.decodeN (c::d::r).length ((c::d::r).getD 0 0).toNat ((c::d::r).getD 1 0).toNat ((c::d::r).getD 2 0).toNat ((c::d::r).getD 3 0).toNat=(c.toNat % 32 * 64+d.toNat % 64,2):=by
  have e1:c.toNat / 32=6∧(1<(c::d::r).length∧d.toNat / 64=2):=⟨h0,by simp,h1⟩;show Lib.decodeN (c::d::r).length c.toNat d.toNat _ _=_;unfold Lib.decodeN;rw[if_neg (by omega),if_pos e1,if_pos h2]
 rw[e,if_neg (by simp)];rfl
theorem valid3(c d f:UInt8)(r:List UInt8)(h0:c.toNat / 16=14)(h1:d.toNat / 64=2)(h2:f.toNat / 64=2)(h3:2048≤c.toNat % 16 * 4096+d.toNat % 64 * 64+f.toNat % 64)
 (h4:c.toNat % 16 * 4096+d.toNat % 64 * 64+f.toNat % 64<55296∨57344≤c.toNat % 16 * 4096+d.toNat % 64 * 64+f.toNat % 64):Lib.validD (c::d::f::r)=Lib.validD r:=by
 rw[Lib.validD_step _ (by simp),Lib.decodeL_N]
 have e:Lib.decodeN (c::d::f::r).length ((c::d::f::r).getD 0 0).toNat ((c::d::f::r).getD 1 0).toNat ((c::d::f::r).getD 2 0).toNat ((c::d::f::r).getD 3 0).toNat=(c.toNat % 16 * 4096+d.toNat % 64 * 64+f.toNat % 64,3):=by
  have e1:c.toNat / 16=14∧(1<(c::d::f::r).length∧d.toNat / 64=2)∧(2<(c::d::f::r).length∧f.toNat / 64=2):=⟨h0,⟨by simp,h1⟩,by simp,h2⟩;have e0:¬(c.toNat / 32=6∧(1<(c::d::f::r).length∧d.toNat / 64=2)):=by omega
  show Lib.decodeN (c::d::f::r).length c.toNat d.toNat f.toNat _=_;unfold Lib.decodeN;rw[if_neg (by omega),if_neg e0,if_pos e1,if_pos (by omega)]
 rw[e,if_neg (by simp)];rfl
theorem valid4(c d f g:UInt8)(r:List UInt8)(h0:c.toNat / 8=30)(h1:d.toNat / 64=2)(h2:f.toNat / 64=2)(h3:g.toNat / 64=2)(h4:65536≤c.toNat % 8 * 262144+d.toNat % 64 * 4096+f.toNat % 64 * 64+g.toNat % 64)
 (h5:c.toNat % 8 * 262144+d.toNat % 64 * 4096+f.toNat % 64 * 64+g.toNat % 64≤1114111):Lib.validD (c::d::f::g::r)=Lib.validD r:=by
 rw[Lib.validD_step _ (by simp),Lib.decodeL_N]
 have e:Lib.decodeN (c::d::f::g::r).length ((c::d::f::g::r).getD 0 0).toNat ((c::d::f::g::r).getD 1 0).toNat ((c::d::f::g::r).getD 2 0).toNat ((c::d::f::g::r).getD 3 0).toNat=(c.toNat % 8 * 262144+d.toNat % 64 * 4096+f.toNat % 64 * 64+g.toNat % 64,4):=by
  have e1:c.toNat / 8=30∧(1<(c::d::f::g::r).length∧d.toNat / 64=2)∧(2<(c::d::f::g::r).length∧f.toNat / 64=2)∧(3<(c::d::f::g::r).length∧g.toNat / 64=2):=⟨h0,⟨by simp,h1⟩,⟨by simp,h2⟩,by simp,h3⟩;have e0:¬(c.toNat / 32=6∧(1<(c::d::f::g::r).length∧d.toNat / 64=2)):=by omega
  have e2:¬(c.toNat / 16=14∧(1<(c::d::f::g::r).length∧d.toNat / 64=2)∧(2<(c::d::f::g::r).length∧f.toNat / 64=2)):=by omega
  show Lib.decodeN (c::d::f::g::r).length c.toNat d.toNat f.toNat g.toNat=_;unfold Lib.decodeN;rw[if_neg (by omega),if_neg e0,if_neg e2,if_pos e1,if_pos (by omega)]
 rw[e,if_neg (by simp)];rfl
theorem esc_hi(q:Bool)(c:UInt8)(h:128≤c.toNat):oH q c=[c]:=by
 have:=kZ (p:=fun c=>decide (c.toNat<128)||(oH true c==[c]&&oH false c==[c])) (by decide +kernel) c;rw[decide_eq_false (by omega)]at this;simp at this;cases q
 ·exact this.2
 ·exact this.1
theorem esc_lo(q:Bool)(c:UInt8)(h:c.toNat<128):∀x∈oH q c,x.toNat<128:=by
 have:=kZ (p:=fun c=>!decide (c.toNat<128)||((oH true c).all (fun x=>decide (x.toNat<128))&&(oH false c).all (fun x=>decide (x.toNat<128)))) (by decide +kernel) c;rw[decide_eq_true h]at this;simp only[Bool.not_true,Bool.false_or,Bool.and_eq_true,List.all_eq_true,decide_eq_true_eq]at this;cases q
 ·exact this.2
 ·exact this.1
theorem oW{c:UInt8}(h:c≠194)(l:List UInt8):vw (c::l)=false:=by
 unfold vw Lib.hasPrefix;simp[List.isPrefixOf,Ne.symm h]
theorem Bu(q:Bool)(c:UInt8)(l:List UInt8)(h:128≤c.toNat)(hh:vw (c::l)=false):wrL q (c::l)=c::wrL q l:=by
 rw[Bv hh,esc_hi q c h];rfl
theorem Mv(a X:List UInt8)(h:∀x∈a,x.toNat<128):Lib.validD (a++X)=Lib.validD X:=by
 have:=Lib.validD_ascii a.length (a++X) (by rw[List.take_left];exact h)
 rwa [List.drop_left]at this
theorem n194{d:UInt8}(h:d.toNat / 64=2):d≠194:=by
 rintro rfl;simp at h
theorem yB(q:Bool):∀(N:Nat) (l:List UInt8),l.length≤N→Lib.validD l=true→Lib.validD (wrL q l)=true
 |0,l,hN,_=>by
  obtain rfl:l=[]:=List.eq_nil_of_length_eq_zero (by omega);rfl
 |N+1,[],_,_=>rfl
 |N+1,c::t,hN,hv=>by
  have hN':t.length≤N:=by simpa using hN
  rcases Lib.decodeN_shape (c::t).length ((c::t).getD 0 0).toNat ((c::t).getD 1 0).toNat ((c::t).getD 2 0).toNat ((c::t).getD 3 0).toNat with⟨h0,-⟩|⟨h0,hn,h1,h2,-⟩|⟨h0,hn,h1,h2,h3,h4,-⟩|⟨h0,hn,h1,h2,h3,h4,h5,-⟩|hb
  ·have h0:c.toNat<128:=h0
   rw[Lib.validD_cons c t h0]at hv;rw[Bv (oW (by rintro rfl;simp at h0) t),Mv _ _ (esc_lo q c h0)];exact yB q N t hN' hv
  ·cases t with
   |nil=>simp at hn
   |cons d r=>
    have h0:c.toNat / 32=6:=h0;have h1:d.toNat / 64=2:=h1;have h2:128≤c.toNat % 32 * 64+d.toNat % 64:=h2;rw[valid2 c d r h0 h1 h2]at hv;have hr:=yB q N r (by simp at hN';omega) hv;cases hh:vw (c::d::r)with
    |true=>
     rw[FQ hh,Mv _ _ (by decide)];exact hr
    |false=>
     rw[Bu q c _ (by omega) hh,Bu q d _ (by omega) (oW (n194 h1) r),valid2 c d _ h0 h1 h2];exact hr
  ·rcases t with _|⟨d,_|⟨f,r⟩⟩
   ·simp at hn
   ·simp at hn
   ·have h0:c.toNat / 16=14:=h0
    have h1:d.toNat / 64=2:=h1;have h2:f.toNat / 64=2:=h2;rw[valid3 c d f r h0 h1 h2 h3 h4]at hv;have hr:=yB q N r (by simp at hN';omega) hv;rw[Bu q c _ (by omega) (oW (by rintro rfl;simp at h0) _),Bu q d _ (by omega) (oW (n194 h1) _),Bu q f _ (by omega) (oW (n194 h2) _),valid3 c d f _ h0 h1 h2 h3 h4];exact hr
  ·rcases t with _|⟨d,_|⟨f,_|⟨g,r⟩⟩⟩
   ·simp at hn
   ·simp at hn
   ·simp at hn
   ·have h0:c.toNat / 8=30:=h0
    have h1:d.toNat / 64=2:=h1;have h2:f.toNat / 64=2:=h2;have h3:g.toNat / 64=2:=h3;rw[valid4 c d f g r h0 h1 h2 h3 h4 h5]at hv;have hr:=yB q N r (by simp at hN';omega) hv;rw[Bu q c _ (by omega) (oW (by rintro rfl;simp at h0) _),Bu q d _ (by omega) (oW (n194 h1) _),Bu q f _ (by omega) (oW (n194 h2) _),Bu q g _ (by omega) (oW (n194 h3) _),valid4 c d f g _ h0 h1 h2 h3 h4 h5];exact hr
  ·rw[Lib.validD_step _ (by simp),Lib.decodeL_N,hb,if_pos ⟨rfl,rfl⟩]at hv
   cases hv
theorem Ht(q:Bool)(z c:UInt8)(hz:z=0∨z=13)(h:c≠z):z∉oH q c:=by
 have:=kZ (p:=fun c=>(c==0||(!(oH true c).contains 0&& !(oH false c).contains 0))&&(c==13||(!(oH true c).contains 13&& !(oH false c).contains 13))) (by decide +kernel) c;simp only[Bool.and_eq_true,Bool.or_eq_true,beq_iff_eq,Bool.not_eq_true',List.contains_eq_mem,decide_eq_false_iff_not]at this
 rcases hz with rfl|rfl
 ·rcases this.1 with h1|h1
  ·exact absurd h1 h
  ·cases q
   ·exact h1.2
   ·exact h1.1
 ·rcases this.2 with h1|h1
  ·exact absurd h1 h
  ·cases q
   ·exact h1.2
   ·exact h1.1
theorem Af(q:Bool)(z:UInt8)(hz:z=0∨z=13):∀(N:Nat) (l:List UInt8),l.length≤N→z∉l→z∉wrL q l
 |0,l,hN,_=>by
  obtain rfl:l=[]:=List.eq_nil_of_length_eq_zero (by omega);simp[wrL]
 |N+1,[],_,_=>by simp[wrL]
 |N+1,c::t,hN,h=>by
  have hN':t.length≤N:=by simpa using hN
  cases hh:vw (c::t)with
  |true=>
   rw[FQ hh,List.mem_append];rintro(e|e)
   ·rcases hz with rfl|rfl<;>simp at e
   ·exact Af q z hz N _ (by rw[List.length_drop];simp;omega) (fun e2=>h (List.mem_of_mem_drop e2)) e
  |false=>
   rw[Bv hh,List.mem_append];rintro(e|e)
   ·exact Ht q z c hz (fun e2=>h (by simp[e2])) e
   ·exact Af q z hz N t hN' (fun e2=>h (by simp[e2])) e
theorem cln_wr(q:Bool){l:List UInt8}(h:Cln l):Cln (wrL q l):=⟨yB q l.length l (Nat.le_refl _) h.1,Af q 0 (.inl rfl) l.length l (Nat.le_refl _) h.2.1,Af q 13 (.inr rfl) l.length l (Nat.le_refl _) h.2.2⟩
end Go.Proofs.YtkcmghlhpbepcaaGreatDoor.Ch
