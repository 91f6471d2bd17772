/- Lemmas and walks, part 37. -/
import Derived.Test.YtkcmghlhpbepcaaGreatDoorWS36
import Derived.Test.YtkcmghlhpbepcaaGreatDoorWS26
import Derived.Lib.ValidLaws
set_option linter.unusedVariables false
set_option linter.unusedSimpArgs false
set_option maxHeartbeats 8000000
set_option maxRecDepth 100000
namespace Go.Proofs.YtkcmghlhpbepcaaGreatDoor
open Go.RowKit Go.Proofs
theorem open_two{s r:Txt}{ts:List Tok}(h:iL s=some (ts,r)):ts.length≤2:=by
 have hn:∀k u e,(lG k u e).1.length≤2:=by intro k u e;simp[lG]
 have ht:∀k u,(oq k u).1.length≤2:=by
  intro k u;unfold oq
  split
  ·simp
  ·split
   ·simp
   ·split
    ·unfold jq
     split<;>simp
    ·simp
 have hc:∀u,(iV u).1.length≤2:=by
  intro u;unfold iV
  split
  ·simp
  ·split
   ·simp
   ·exact hn _ _ _
 unfold iL at h
 repeat' split at h
 all_goals first
  |(simp only[Option.some.injEq]at h
    have e:=congrArg Prod.fst h;simp only at e;rw[←e]
    first|exact ht _ _|exact hc _|exact hn _ _ _)
  |(simp only[Option.some.injEq,Prod.mk.injEq]at h
    rw[←h.1];simp)
  |cases h
theorem str_app(a b:Txt):(⟨a.toArray⟩:Bt)++⟨b.toArray⟩=⟨(a++b).toArray⟩:=by
 apply ByteArray.ext;simp
theorem tell_one(t:Txt):(eO t).length≤1:=by unfold eO;split<;>simp
theorem KR(base b:Nat)(S T:Txt)(l0:List Tok)(hs:T.length+S.length≤900000000)(hl:l0.length≤10)(w:World)(hsc:Sc w base b S T l0)(hE:Env w base):
 Calls Tryz.prog 116 #[.pointer (some ⟨b,0,none⟩)] w fun e w'=>∃v,e=.returned v∧mW w' base v (l0++nk T S)∧Below base w w':=by
 have hbb:=hsc.1;go_enter Tryz.func116,Tryz.ntmps116;go_wp2
 go_loopg [3] S.length (fun g _ wr=>∃(s t:Txt) (l:List Tok),s.length=g∧Sc wr base b s t l∧Below base w wr∧t.length+s.length≤T.length+S.length∧l.length+3 * s.length≤l0.length+3 * S.length∧Hid (l0++nk T S=l++nk t s))
 case atStart=>exact⟨S,T,l0,rfl,hsc,Below.refl _ _,by omega,by omega,rfl⟩
 case round=>
  obtain⟨s,t,l,hsg,hscr,hB,hts,hls,hinv⟩:=hrel;subst hsg;have hEr:=hE.below hB;obtain⟨_,v,hh,hT⟩:=id hscr;obtain⟨ad,cp,rfl⟩:=hT.len;obtain⟨⟨c0,c1,c2⟩,c5⟩:=aN hh;cases hs0:s with
  |nil=>
   subst hs0;have hfin:=Lib.hid (show l0++nk T S=l++eO t by rw[hinv.out,Bq]);have uF:=Lib.hid (qD base b [] t l (by omega) (by omega) wr hscr hEr)
   go_wp2_with(go_at_call 159;((with_reducible refine(uF.out).mono ?_);rintro e w3 ⟨rfl,eZ,hb3⟩;obtain⟨_,v3,hh3,hT3⟩:=id eZ;obtain⟨ad3,cp3,rfl⟩:=hT3.len;rw[List.length_append]at hT3 hh3;obtain⟨⟨y0,y1,y2⟩,y5⟩:=aN hh3))
   go_ret;exact⟨_,rfl,by rw[hfin.out];exact hT3,hB.trans hb3⟩
  |cons c0' s0=>
   have hne:(s==[])=false:=by rw[hs0];rfl
   have hpos:0<s.length:=by rw[hs0];simp
   clear hs0;have hspan:=Lib.hid (fun W=>RD s (by omega) W);have heq:=yP t s;rw[show s.findIdx (fun c=>c==60)=gI s from rfl]at hspan;have hnl:gI s≤s.length:=List.findIdx_le_length
   have hhead:∀c r,s.drop (gI s)=c::r→c=60:=by
    intro c r h;have:=NW h;simpa using this
   generalize gI s=n at *;have hnI:(n:Int)≤s.length:=by omega
   have hdl:(s.drop n).length=s.length - n:=by simp
   have htl:(s.take n).length=n:=by simp;omega
   have hscA:=(hscr.G7 (t++s.take n)).below (Below.refl _ _).drew;have hBA:=(aH (j:=1) hB hbb (.string ⟨(t++s.take n).toArray⟩)).drew;have hhA:((wr.setCell ⟨b,1,none⟩ (.string ⟨(t++s.take n).toArray⟩)).drew).heap[b]?=_:=NQ (t':=t++s.take n) hh;have hTA:mW (wr.setCell ⟨b,1,none⟩ (.string ⟨(t++s.take n).toArray⟩)).drew base (.slice ad l.length cp) l:=(hT.other (jf wr ⟨b,1,none⟩ (.string ⟨(t++s.take n).toArray⟩)) hh (by decide) (by decide)).below (Below.refl _ _).drew;have hWA:((wr.setCell ⟨b,1,none⟩ (.string ⟨(t++s.take n).toArray⟩)).drew).heap.size=wr.heap.size:=World.size_setCell _ _ _
   go_wp2_with(go_at_call 156;((with_reducible refine(hspan.out _).mono ?_);rintro e w4 ⟨rfl,rfl⟩))
   go_region
   all_goals
    rw[str_app];generalize (wr.setCell ⟨b,1,none⟩ (.string ⟨(t++s.take n).toArray⟩)).drew=W7 at *;obtain⟨⟨d0,d1,d2⟩,d5⟩:=aN hhA;have hscB:=hscA.rM (s.drop n);have hBB:=aH (j:=0) hBA hbb (.string ⟨(s.drop n).toArray⟩);have hEB:=hE.below hBB;generalize hx:s.take n=x at *;generalize hd:s.drop n=y at *;cases y with
    |nil=>
     have Mc:=Lib.hid (show l0++nk T S=l++nk (t++x) [] by rw[hinv.out,heq,Bq]);clear heq hhead hinv;go_wp2
     go_roundg 0
     ·exact⟨[],t++x,l,rfl,hscB,hBB,by simp;omega,by simp;omega,Mc⟩
     ·omega
    |cons c r=>
     obtain rfl:=hhead c r rfl;simp only[List.length_cons]at heq hdl;have hop:=Lib.hid (opens_c base b r (t++x) l (by omega) (by simp;omega) (by omega) _ hscB hEB)
     go_wp2_with(go_at_call 158;((with_reducible refine(hop.out).mono ?_);rintro e w5 ⟨rfl,hp5,hb5⟩))
     cases ho:iL r with
     |none=>
      rw[ho]at hp5 heq;have Mc:=Lib.hid (show l0++nk T S=l++nk (t++x++[60]) r by rw[hinv.out,heq]);clear heq hhead hinv
      go_roundg r.length
      ·exact⟨r,t++x++[60],l,rfl,hp5,hBB.trans hb5,by simp;omega,by omega,Mc⟩
      ·omega
     |some q=>
      obtain⟨ts,q⟩:=q;rw[ho]at hp5 heq;have hle:=Br ho;have h2:=open_two ho;have h1:=tell_one (t++x);simp only at hle heq;have Mc:=Lib.hid (show l0++nk T S=l++eO (t++x)++ts++nk [] q by rw[hinv.out,heq];simp);clear heq hhead hinv
      go_roundg q.length
      ·exact⟨q,[],_,rfl,hp5,hBB.trans hb5,by simp;omega,by simp;omega,Mc⟩
      ·omega
theorem sc_new(s:Txt)(w:World):Sc (w.alloc (.cells #[.string ⟨s.toArray⟩,.string ⟨#[]⟩,.slice none 0 0] 92)) w.heap.size w.heap.size s [] []:=⟨Nat.le_refl _,_,bM _ _ _,mW.nil _ _⟩
theorem env_new{w:World}(hS:Std w)(o:Obj):Env (w.alloc o) w.heap.size:=⟨w,hS,rfl,(Below.refl _ w).alloc (Nat.le_refl _) o⟩
theorem Md{L:List Txt}(h:L.all (fun l=>decide (l.length≤1000000000))=true){l:Txt}(hi:inB L l=true):l.length≤1000000000:=by
 rw[List.all_eq_true]at h;have:=h l (by simpa [inB]using hi);simpa using this
theorem NY:EI.all (fun l=>decide (l.length≤1000000000))=true:=by decide +kernel
theorem Me:IK.all (fun l=>decide (l.length≤1000000000))=true:=by decide +kernel
theorem in_any(s nm:Txt)(hs:s.length≤900000000)(w:World)(hS:Std w):
 Calls Tryz.prog 72 #[.string ⟨s.toArray⟩,.string ⟨nm.toArray⟩] w fun e w'=>∃v,e=.returned v∧mW w' w.heap.size v (inL s nm)∧Below w.heap.size w w':=by
 have hsc:=sc_new s w;have hE:=env_new hS (.cells #[.string ⟨s.toArray⟩,.string ⟨#[]⟩,.slice none 0 0] 92);have hB:=(Below.refl _ w).alloc (Nat.le_refl _) (.cells #[.string ⟨s.toArray⟩,.string ⟨#[]⟩,.slice none 0 0] 92);have hle:=hE.le;have hraw:=Lib.hid (fun W=>raw_c nm W);have oF:=Lib.hid (fun W=>EJ nm W);have hil:(jq nm s).length≤10:=by unfold jq;split<;>simp
 have hrl:=NZ nm s;have hins0:=fun W h1 h2 (hnm:nm.length≤1000000000)=>Fe w.heap.size w.heap.size s [] nm [] (by omega) hnm (by simp) W h1 h2
 rw[List.nil_append]at hins0;have hins:=Lib.hid hins0;clear hins0;have hall1:=Lib.hid (fun W h1 h2=>KR w.heap.size w.heap.size (jo nm s) [] (jq nm s) (by simp;omega) hil W h1 h2);have hall2:=Lib.hid (fun W h1 h2=>KR w.heap.size w.heap.size s [] [] (by simpa using hs) (by simp) W h1 h2);rw[List.nil_append]at hall2;unfold inL;generalize nk [] s=l at *;generalize nk [] (jo nm s)=l2 at *;generalize hq1:mJ nm=b1 at *;generalize hq2:mq nm=b2 at *;cases b1 with
 |true=>
  have hn1:nm.length≤1000000000:=Md NY hq1;clear hq1 hq2;simp only[Bool.true_or,if_true];go_enter Tryz.func72,Tryz.ntmps72
  go_wp2_with(first
   |(go_at_call 32;((with_reducible refine(hraw.out _).mono ?_);rintro e w1 ⟨rfl,hb1⟩;have hsc1:=hsc.below hb1;have hB1:=bC hB hle hb1;have hE1:=hE.below (jy hb1 hle)))
   |(go_at_call 115;((with_reducible refine(hins.out _ hsc1 hE1 hn1).mono ?_);rintro e w3 ⟨rfl,eZ,hb3⟩;have hE3:=hE1.below hb3))
   |(go_at_call 116;((with_reducible refine(hall1.out _ eZ hE3).mono ?_);rintro e w4 ⟨v,rfl,hT4,hb4⟩;obtain⟨ad,cp,rfl⟩:=hT4.len;rw[List.length_append]at hT4)))
  go_ret;exact⟨_,rfl,hT4,(hB1.trans hb3).trans hb4⟩
 |false=>
  clear hq1;cases b2 with
  |true=>
   have hn1:nm.length≤1000000000:=Md Me hq2;clear hq2;simp only[Bool.false_or,if_true];go_enter Tryz.func72,Tryz.ntmps72
   go_wp2_with(first
    |(go_at_call 32;((with_reducible refine(hraw.out _).mono ?_);rintro e w0 ⟨rfl,hb0⟩;have hsc0:=hsc.below hb0;have hB0:=bC hB hle hb0;have hE0:=hE.below (jy hb0 hle);have hle0:=hE0.le))
    |(go_at_call 33;((with_reducible refine(oF.out _).mono ?_);rintro e w1 ⟨rfl,hb1⟩;have hsc1:=hsc0.below hb1;have hB1:=bC hB0 hle0 hb1;have hE1:=hE0.below (jy hb1 hle0)))
    |(go_at_call 115;((with_reducible refine(hins.out _ hsc1 hE1 hn1).mono ?_);rintro e w3 ⟨rfl,eZ,hb3⟩;have hE3:=hE1.below hb3))
    |(go_at_call 116;((with_reducible refine(hall1.out _ eZ hE3).mono ?_);rintro e w4 ⟨v,rfl,hT4,hb4⟩;obtain⟨ad,cp,rfl⟩:=hT4.len;rw[List.length_append]at hT4)))
   go_ret;exact⟨_,rfl,hT4,(hB1.trans hb3).trans hb4⟩
  |false=>
   clear hq2;simp only[Bool.false_or,Bool.false_eq_true,if_false];go_enter Tryz.func72,Tryz.ntmps72
   go_wp2_with(first
    |(go_at_call 32;((with_reducible refine(hraw.out _).mono ?_);rintro e w0 ⟨rfl,hb0⟩;have hsc0:=hsc.below hb0;have hB0:=bC hB hle hb0;have hE0:=hE.below (jy hb0 hle);have hle0:=hE0.le))
    |(go_at_call 33;((with_reducible refine(oF.out _).mono ?_);rintro e w1 ⟨rfl,hb1⟩;have hsc1:=hsc0.below hb1;have hB1:=bC hB0 hle0 hb1;have hE1:=hE0.below (jy hb1 hle0)))
    |(go_at_call 116;((with_reducible refine(hall2.out _ hsc1 hE1).mono ?_);rintro e w4 ⟨v,rfl,hT4,hb4⟩;obtain⟨ad,cp,rfl⟩:=hT4.len)))
   go_ret;exact⟨_,rfl,hT4,hB1.trans hb4⟩
end Go.Proofs.YtkcmghlhpbepcaaGreatDoor
namespace Go.Proofs.aj.W7
open Go.RowKit Go.Proofs Go.Proofs.YtkcmghlhpbepcaaGreatDoor Go.Proofs.ah.aD
theorem Ey(a:Bt):(⟨a.data.toList.toArray⟩:Bt)=a:=by cases a;simp
def oJ.f(a0 a1:Bt):Option (List S65):=if a0.size≤900000000 then some ((inL a0.data.toList a1.data.toList).map l9)else none
theorem oJ.calls(a0 a1:Bt)(r:List S65)(w:World)(h:oJ.f a0 a1=some r)(hS_:Std w):
 Calls Tryz.prog 72 #[.string a0,.string a1] w fun e w'=>∃v0_:Value,e=.returned v0_∧Kd.R k65 65 w' w.heap.size (fun _=>True) v0_ r∧Below w.heap.size w w':=by
 unfold oJ.f at h
 split at h
 ·rename_i hz
  obtain rfl:=Option.some.inj h;have:=in_any a0.data.toList a1.data.toList hz w hS_;rw[Ey,Ey]at this;exact this.mono fun e w' ⟨v,h1,h2,h3⟩=>⟨v,h1,Rq h2,h3⟩
 ·cases h
end Go.Proofs.aj.W7
namespace Go.Proofs.aj.W7
open Go.RowKit Go.Proofs Go.Proofs.YtkcmghlhpbepcaaGreatDoor Go.Proofs.YtkcmghlhpbepcaaGreatDoor.Ch
def lC.f(a0:Bt):Option Bt:=if a0.data.toList.length≤100000000 then some ⟨(kG a0.data.toList).toArray⟩else none
theorem lC.calls(a0 r:Bt)(w:World)(h:lC.f a0=some r)(hS_:Std w):
 Calls Tryz.prog 73 #[.string a0] w fun e w'=>e=.returned (.string r)∧Below w.heap.size w w':=by
 unfold lC.f at h
 split at h
 ·rename_i hz
  obtain rfl:=Option.some.inj h;have:=ready_c a0.data.toList hz w hS_;have he:(⟨a0.data.toList.toArray⟩:Bt)=a0:=by cases a0;simp
  rw[he]at this;exact this
 ·cases h
end Go.Proofs.aj.W7
namespace Go.Proofs.aj.W7
open Go.RowKit Go.Proofs.ah.aD Go.Proofs.ah.bG Go.Proofs.ah.bR
attribute [local go_sem] dD dF dV dW bU bV dG dH
def nR.f(a0 a1:Bt):Option ((List (S34))×Int):=if(a0.size:Int)>65536 then(some (([] :List (S34)),2))else((lC.f a0).bind fun t314=>((oJ.f t314 a1).bind fun t315=>((jR.f t315).bind fun xR=>(some (xR.1,xR.2)))))
theorem nR.calls(a0 a1:Bt)(r1:List (S34))(r2:Int)(w:World)(h:nR.f a0 a1=some (r1,r2))(hS_:Go.Proofs.YtkcmghlhpbepcaaGreatDoor.Std w):
 Calls Tryz.prog 24 #[.string a0,.string a1] w fun e w'=>∃v0_:Value,e=.returned (.tuple #[v0_,.int .i64 r2])∧Kd.R k34 34 w' w.heap.size (fun _=>True) v0_ r1∧Below w.heap.size w w':=by
 have HS_:=ak.mk hS_;clear hS_;have HB:=ak.mk (Below.refl w.heap.size w);have H:(if(a0.size:Int)>65536 then(some (([] :List (S34)),2))else((lC.f a0).bind fun t314=>((oJ.f t314 a1).bind fun t315=>((jR.f t315).bind fun xR=>(some (xR.1,xR.2))))))=some (r1,r2):=h;clear h
 by_cases c3:(a0.size:Int)>65536
 ·rw[if_pos c3]at H
  have nD:decide (65536<(a0.size:Int))=true:=decide_eq_true c3;have ze:decide (65536<a0.size)=true:=decide_eq_true (by omega);clear c3;simp only[Option.some.injEq,Prod.mk.injEq]at H;obtain⟨rfl,rfl⟩:=H;go_enter Tryz.func24,Tryz.ntmps24;go_wp2
  go_ret2
  exact⟨_,by first|rfl|(simp[aJ,aM]<;>rfl)|(simp[*,aJ,aM]<;>rfl),by first|exact Kd.nI _ _ _ _ _|exact Kd.N_nil _ _ _ _ _|exact Kd.V_nil _ _ _ _ _|exact Kd.Q_nil _ _ _ _ _|exact Kd.S_nil _ _ _ _ _,bz⟩
 ·rw[if_neg c3]at H
  have nD:decide (65536<(a0.size:Int))=false:=decide_eq_false c3;have ze:decide (65536<a0.size)=false:=decide_eq_false (by omega);clear c3;replace H:=Option.bind_eq_some_iff.mp H;obtain⟨t314,A40,H⟩:=H;replace H:((oJ.f t314 a1).bind fun t315=>((jR.f t315).bind fun xR=>(some (xR.1,xR.2))))=some (r1,r2):=H;have A4:=ak.mk A40;clear A40;replace H:=Option.bind_eq_some_iff.mp H;obtain⟨t315,A50,H⟩:=H;replace H:((jR.f t315).bind fun xR=>(some (xR.1,xR.2)))=some (r1,r2):=H;have A5:=ak.mk A50;clear A50;replace H:=Option.bind_eq_some_iff.mp H;obtain⟨⟨t318,t319⟩,A60,H⟩:=H;replace H:(some (t318,t319))=some (r1,r2):=H;have A6:=ak.mk A60;clear A60;simp only[Option.some.injEq,Prod.mk.injEq]at H;obtain⟨rfl,rfl⟩:=H;go_enter Tryz.func24,Tryz.ntmps24
  go_wp2_with(first|((with_reducible refine aZ (f:=73) rfl ?_);refine dO (some 10) rfl rfl Tryz.func73 (by kernel_rfl) rfl #[.string a0] rfl q'a ?_;(with_reducible refine(lC.calls a0 t314 _ A4.out (Go.Proofs.YtkcmghlhpbepcaaGreatDoor.Std.below HS_.out bz)).mono ?_);rintro e w7 ⟨rfl,hb⟩;refine⟨_,rfl,?_⟩;replace HB:=ak.mk (aG bz hb);(try clear hb);(try clear hb2);(try clear hk);(try clear hi))|((with_reducible refine aZ (f:=72) rfl ?_);refine dO (some 12) rfl rfl Tryz.func72 (by kernel_rfl) rfl #[.string t314,.string a1] rfl q'a ?_;(with_reducible refine(oJ.calls t314 a1 t315 _ A5.out (Go.Proofs.YtkcmghlhpbepcaaGreatDoor.Std.below HS_.out bz)).mono ?_);rintro e w8 ⟨v316,rfl,ho0,hb⟩;refine⟨_,rfl,?_⟩;have GU:=ak.mk (Kd.dR ho0 (aU bz));replace HB:=ak.mk (aG bz hb);(try clear hb);(try clear hb2);(try clear hk);(try clear hi);(try clear ho0);obtain⟨Ao9,co9,eo9⟩:=Kd.cK GU.out;subst eo9)|((with_reducible refine aZ (f:=21) rfl ?_);refine dO (some 13) rfl rfl Tryz.func21 (by kernel_rfl) rfl #[.slice Ao9 t315.length co9] rfl q'a ?_;(with_reducible refine(jR.calls _ _ t315 t318 t319 _ ?dz ?dA A6.out).mono ?_);(case dz=>exact cz (Kd.bq GU.out).2.2);(case dA=>exact(Kd.bq GU.out).2.1);rintro e w10 ⟨v320,rfl,ho0,hb⟩;refine⟨_,rfl,?_⟩;have HO321:=ak.mk (Kd.dR ho0 (aU bz));replace GU:=ak.mk (Kd.bZ (rz GU.out) hb);replace HB:=ak.mk (aG bz hb);(try clear hb);(try clear hb2);(try clear hk);(try clear hi);(try clear ho0)))
  go_ret2
  exact⟨_,by first|rfl|(simp[aJ,aM]<;>rfl)|(simp[*,aJ,aM]<;>rfl),by(with_reducible repeat(first|apply Kd.fB|apply Kd.gq|apply Kd.fJ));exact HO321.out,bz⟩
def eP.f(a0:Bt):Option ((List (S34))×Int):=(nR.f a0 (⟨#[]⟩:Bt)).bind fun LH=>(some (LH.1,LH.2))
theorem eP.calls(a0:Bt)(r1:List (S34))(r2:Int)(w:World)(h:eP.f a0=some (r1,r2))(hS_:Go.Proofs.YtkcmghlhpbepcaaGreatDoor.Std w):
 Calls Tryz.prog 26 #[.string a0] w fun e w'=>∃v0_:Value,e=.returned (.tuple #[v0_,.int .i64 r2])∧Kd.R k34 34 w' w.heap.size (fun _=>True) v0_ r1∧Below w.heap.size w w':=by
 have HS_:=ak.mk hS_;clear hS_;have HB:=ak.mk (Below.refl w.heap.size w);have H:((nR.f a0 (⟨#[]⟩:Bt)).bind fun LH=>(some (LH.1,LH.2)))=some (r1,r2):=h;clear h;replace H:=Option.bind_eq_some_iff.mp H;obtain⟨⟨t322,t323⟩,A20,H⟩:=H;replace H:(some (t322,t323))=some (r1,r2):=H;have A2:=ak.mk A20;clear A20;simp only[Option.some.injEq,Prod.mk.injEq]at H;obtain⟨rfl,rfl⟩:=H;go_enter Tryz.func26,Tryz.ntmps26
 go_wp2_with(first|((with_reducible refine aZ (f:=24) rfl ?_);refine dO (some 5) rfl rfl Tryz.func24 (by kernel_rfl) rfl #[.string a0,.string (⟨#[]⟩:Bt)] rfl q'a ?_;(with_reducible refine(nR.calls a0 (⟨#[]⟩:Bt) t322 t323 _ A2.out (Go.Proofs.YtkcmghlhpbepcaaGreatDoor.Std.below HS_.out bz)).mono ?_);rintro e w3 ⟨v324,rfl,ho0,hb⟩;refine⟨_,rfl,?_⟩;have HO325:=ak.mk (Kd.dR ho0 (aU bz));replace HB:=ak.mk (aG bz hb);(try clear hb);(try clear hb2);(try clear hk);(try clear hi);(try clear ho0)))
 go_ret2
 exact⟨_,by first|rfl|(simp[aJ,aM]<;>rfl)|(simp[*,aJ,aM]<;>rfl),by(with_reducible repeat(first|apply Kd.fB|apply Kd.gq|apply Kd.fJ));exact HO325.out,bz⟩
end Go.Proofs.aj.W7
namespace Go.Proofs.aj.W7
open Go.RowKit Go.Proofs Go.Proofs.aj Go.Proofs.YtkcmghlhpbepcaaGreatDoor Go.Proofs.ah.aD Go.Proofs.YtkcmghlhpbepcaaGreatDoor.Ch
theorem FI(a b:Bt):(a++b).data.toList=a.data.toList++b.data.toList:=by
 rw[ByteArray.data_append,Array.toList_append]
theorem at_le:∀(l:List (Txt×Txt)),l.length≤(dS l).length
 | []=>Nat.le_refl _
 |a::l=>by
  have:=at_le l;have e:dS (a::l)=(32::(a.1++61::34::(wrL true a.2++[34])))++dS l:=rfl;rw[e,List.length_append];simp only[List.length_cons];omega
theorem Hw{t:Tok}(h:kY t):t.data.length≤wt t∧t.attrs.length≤wt t:=by
 have hg:=h.ge;have hl:=h.le
 by_cases k1:t.kind=1
 ·have hd:=(h.tag (Or.inl k1)).2
  obtain⟨k,nm,at_,d,sf⟩:=t;simp only at k1 hd;subst k1;subst hd;refine⟨Nat.zero_le _,?_⟩;rw[MC];have:=at_le at_;simp only[jG,List.length_append];omega
 ·have ha:=(h.start k1).1
  rw[ha];refine⟨?_,Nat.zero_le _⟩
  by_cases k0:t.kind=0
  ·unfold wt
   rw[if_pos k0];omega
  ·by_cases k2:t.kind=2
   ·rw[(h.tag (Or.inr k2)).2]
    exact Nat.zero_le _
   ·have hn:=h.other k1 k2
    obtain⟨k,nm,at_,d,sf⟩:=t;simp only at k0 k1 k2 ha hn hg hl;obtain⟨rfl,-⟩:=h.start k1;obtain rfl:=hn;have hs:=(h.start k1).2;simp only at hs;subst hs
    rcases(show k=3∨k=4 from by omega)with rfl|rfl
    ·rw[wt_k3];simp only[List.length_append];omega
    ·rw[wt_k4];simp only[List.length_append];omega
theorem Om{t:Tok}:∀ {L:List Tok},t∈L→wt t≤wts L
 | [],h=>by cases h
 |x::L,h=>by
  rw[Bv]
  rcases List.mem_cons.1 h with rfl|h
  ·omega
  ·have:=Om h
   omega
theorem Hy(s nm:Txt):wts (inL s nm)≤12 * s.length:=by
 unfold inL
 split
 ·have h1:=FC nm s
  have h2:wts (nk [] (jo nm s))≤12 * (([] :Txt).length+(jo nm s).length):=Bw _ _ _;rw[Kk];simp only[List.length_nil]at h2;omega
 ·have h2:wts (nk [] s)≤12 * (([] :Txt).length+s.length):=Bw _ _ _
  simpa using h2
theorem QK(s nm:Txt):wts (inL s nm)≤20 * s.length:=by have:=Hy s nm;omega
theorem Oo(s nm:Txt):∀t∈inL s nm,kY t:=by
 unfold inL
 split
 ·intro t ht
  rcases List.mem_append.1 ht with h|h
  ·exact Ht nm s t h
  ·exact Ec _ _ _ t h
 ·exact Ec _ _ _
theorem QL:∀(L:List Tok),(∀t∈L,kY t)→o8 (L.map l9)≤wts L
 | [],_=>Nat.zero_le _
 |t::L,h=>by
  have h1:=(Hw (h t (by simp))).1;have h2:=QL L (fun x hx=>h x (List.mem_cons_of_mem _ hx));have e:o8 ((t::L).map l9)=(l9 t).f2.size+o8 (L.map l9):=by simp[o8]
  have e2:(l9 t).f2.size=t.data.length:=by show(List.toArray t.data).size=_;simp
  rw[e,e2,Bv];omega
def sK(s nm:Txt):List Tk:=(inL (kG s) nm).map l9
def ansF(o:Option (List Rw)):List Rw×Int:=match o with|none=>([],2)|some r=>(r,0)
theorem zS(s nm:Txt)(hs:s.length≤1000000):o8 (sK s nm)≤80 * s.length∧∀t∈sK s nm,t.f3.length≤80 * s.length:=by
 have h1:=wW s;have h2:=QK (kG s) nm;have hk:=Oo (kG s) nm;have h3:=QL _ hk;refine⟨by unfold sK;omega,fun t ht=>?_⟩;obtain⟨x,hx,rfl⟩:=List.mem_map.1 ht;have h4:=(Hw (hk x hx)).2;have h5:=Om hx;show(x.attrs.map pairT).length≤_;rw[List.length_map];omega
theorem in_val(s nm:Bt)(hs:s.size≤10000):nR.f s nm=some (ansF (jY (sK s.data.toList nm.data.toList) [] [])):=by
 have hz:s.data.toList.length=s.size:=Array.length_toList;have h1:=wW s.data.toList;obtain⟨h2,h3⟩:=zS s.data.toList nm.data.toList (by omega);unfold nR.f;rw[if_neg (by omega)];unfold lC.f;rw[if_pos (by omega),Option.bind_some];unfold oJ.f;have hq:(⟨(kG s.data.toList).toArray⟩:Bt).size=(kG s.data.toList).length:=by show(List.toArray _).size=_;simp
 rw[if_pos (by omega),Option.bind_some];have ht:=tree_f (sK s.data.toList nm.data.toList) (by omega) (fun t ht=>by have:=h3 t ht;omega);show(jR.f (sK s.data.toList nm.data.toList)).bind _=_;rw[ht,Option.bind_some];rfl
theorem RY(s:Bt)(hs:s.size≤10000):eP.f s=some (ansF (jY (sK s.data.toList []) [] [])):=by
 unfold eP.f;rw[in_val s ⟨#[]⟩ hs,Option.bind_some]
end Go.Proofs.aj.W7
namespace Go.Proofs.YtkcmghlhpbepcaaGreatDoor.Ch
open Go Go.RowKit
theorem Dp:∀(p:Nat) (l:List UInt8),p≤l.length→Utf8.decode ⟨l.toArray⟩ p=Lib.decodeL (l.drop p)
 |0,l,_=>rfl
 |p+1,[],h=>by simp at h
 |p+1,c::l,h=>by
  rw[MH,List.drop_succ_cons];exact Dp p l (by simpa using h)
theorem MI(n b0 b1 b2 b3:Nat):1≤(Lib.decodeN n b0 b1 b2 b3).2:=by
 unfold Lib.decodeN
 repeat' split
 all_goals simp
theorem Dq(l:List UInt8):1≤(Lib.decodeL l).2:=by rw[Lib.decodeL_N];exact MI _ _ _ _ _
theorem Bz(l:List UInt8):∀(fuel p:Nat),p≤l.length→l.length - p≤fuel→Lib.validD (l.drop p)=true→(0:UInt8)∉l.drop p→mM ⟨l.toArray⟩ fuel p=l.drop p
 |0,p,hp,hf,_,_=>by rw[mM,List.drop_eq_nil_of_le (by omega)]
 |fuel+1,p,hp,hf,hv,h0=>by
  have hz:(⟨l.toArray⟩:Bt).size=l.length:=by show(List.toArray l).size=_;simp
  rw[mM,hz]
  by_cases h:p<l.length
  ·rw[if_pos h,Dp p l hp]
   have hne:l.drop p≠[]:=by
    intro e;have:=congrArg List.length e;rw[List.length_drop]at this;simp at this;omega
   rw[Lib.validD_step _ hne]at hv;have hle:=Lib.decodeL_le (l.drop p) hne;have hpos:=Dq (l.drop p);rw[List.length_drop]at hle
   by_cases hb:(Lib.decodeL (l.drop p)).1=65533∧(Lib.decodeL (l.drop p)).2=1
   ·rw[if_pos hb]at hv;cases hv
   ·rw[if_neg hb,List.drop_drop]at hv
    have he:=Lib.encode_decode (l.drop p) hne hb
    have hr0:(Lib.decodeL (l.drop p)).1≠0:=by
     intro e;rw[e]at he;have e2:Lib.encodeRune ((0:Nat):Int)=[0]:=by decide
     rw[e2]at he;refine h0 (List.mem_of_mem_take (i:=(Lib.decodeL (l.drop p)).2) ?_);rw[←he];simp
    have hru:ruF (Lib.decodeL (l.drop p)).1=(l.drop p).take (Lib.decodeL (l.drop p)).2:=by
     unfold ruF;rw[if_neg hr0];exact he
    rw[hru,Bz l fuel (p+(Lib.decodeL (l.drop p)).2) (by omega) (by omega) hv (fun hm=>h0 (by
     rw[←List.drop_drop]at hm;exact List.mem_of_mem_drop hm)),←List.drop_drop,List.take_append_drop]
  ·rw[if_neg h,List.drop_eq_nil_of_le (by omega)]
theorem MJ:∀(l:List UInt8),(13:UInt8)∉l→C8 l=l
 | [],_=>by decide
 |c::l,h=>by
  rw[Ol c l (fun e=>h (by simp[e])),MJ l (fun e=>h (by simp[e]))]
theorem Kn(l:List UInt8)(hv:Lib.validD l=true)(h0:(0:UInt8)∉l)(h13:(13:UInt8)∉l):kG l=l:=by
 have hz:(⟨l.toArray⟩:Bt).size=l.length:=by show(List.toArray l).size=_;simp
 unfold kG deF;rw[hz,Bz l l.length 0 (by omega) (by omega) (by simpa using hv) (by simpa using h0),List.drop_zero,MJ l h13]
theorem MK(n n' b0 b1 b2 b3 c1 c2 c3:Nat)(hn:n≤n')(h1:1<n→c1=b1)(h2:2<n→c2=b2)(h3:3<n→c3=b3)(hv:Lib.decodeN n b0 b1 b2 b3≠(65533,1)):Lib.decodeN n' b0 c1 c2 c3=Lib.decodeN n b0 b1 b2 b3:=by
 unfold Lib.decodeN at hv⊢
 by_cases a0:b0<128
 ·rw[if_pos a0,if_pos a0]
 rw[if_neg a0]at hv;rw[if_neg a0,if_neg a0]
 by_cases a1:b0 / 32=6∧(1<n∧b1 / 64=2)
 ·obtain⟨x,y,z⟩:=a1
  have e1:b0 / 32=6∧(1<n'∧b1 / 64=2):=⟨x,by omega,z⟩;have e2:b0 / 32=6∧(1<n∧b1 / 64=2):=⟨x,y,z⟩;rw[h1 y,if_pos e1,if_pos e2]
 rw[if_neg a1]at hv;rw[if_neg a1]
 by_cases a2:b0 / 16=14∧(1<n∧b1 / 64=2)∧(2<n∧b2 / 64=2)
 ·obtain⟨x,⟨y1,y2⟩,z1,z2⟩:=a2
  have e0:¬(b0 / 32=6∧(1<n'∧b1 / 64=2)):=by omega
  have e1:b0 / 16=14∧(1<n'∧b1 / 64=2)∧(2<n'∧b2 / 64=2):=⟨x,⟨by omega,y2⟩,by omega,z2⟩;have e2:b0 / 16=14∧(1<n∧b1 / 64=2)∧(2<n∧b2 / 64=2):=⟨x,⟨y1,y2⟩,z1,z2⟩;rw[h1 y1,h2 z1,if_neg e0,if_pos e1,if_pos e2]
 rw[if_neg a2]at hv;rw[if_neg a2]
 by_cases a3:b0 / 8=30∧(1<n∧b1 / 64=2)∧(2<n∧b2 / 64=2)∧(3<n∧b3 / 64=2)
 ·obtain⟨x,⟨y1,y2⟩,⟨z1,z2⟩,w1,w2⟩:=a3
  have e0:¬(b0 / 32=6∧(1<n'∧b1 / 64=2)):=by omega
  have e4:¬(b0 / 16=14∧(1<n'∧b1 / 64=2)∧(2<n'∧b2 / 64=2)):=by omega
  have e1:b0 / 8=30∧(1<n'∧b1 / 64=2)∧(2<n'∧b2 / 64=2)∧(3<n'∧b3 / 64=2):=⟨x,⟨by omega,y2⟩,⟨by omega,z2⟩,by omega,w2⟩;have e2:b0 / 8=30∧(1<n∧b1 / 64=2)∧(2<n∧b2 / 64=2)∧(3<n∧b3 / 64=2):=⟨x,⟨y1,y2⟩,⟨z1,z2⟩,w1,w2⟩;rw[h1 y1,h2 z1,h3 w1,if_neg e0,if_neg e4,if_pos e1,if_pos e2]
 rw[if_neg a3]at hv;exact absurd rfl hv
theorem ML(a b:List UInt8)(ha:a≠[])(hv:¬((Lib.decodeL a).1=65533∧(Lib.decodeL a).2=1)):Lib.decodeL (a++b)=Lib.decodeL a:=by
 have hpos:0<a.length:=List.length_pos_iff.2 ha
 have g:∀i,i<a.length→(a++b).getD i 0=a.getD i 0:=by
  intro i hi;simp[List.getD_eq_getElem?_getD,List.getElem?_append_left hi]
 rw[Lib.decodeL_N,Lib.decodeL_N,g 0 hpos];refine MK _ _ _ _ _ _ _ _ _ (by rw[List.length_append];omega) (fun h=>by rw[g 1 h]) (fun h=>by rw[g 2 h]) (fun h=>by rw[g 3 h]) (fun e=>hv ?_);rw[Lib.decodeL_N,e];exact⟨rfl,rfl⟩
theorem wV:∀(N:Nat) (a b:List UInt8),a.length≤N→Lib.validD a=true→Lib.validD (a++b)=Lib.validD b
 |0,a,b,hN,_=>by
  obtain rfl:a=[]:=List.eq_nil_of_length_eq_zero (by omega);rfl
 |N+1,a,b,hN,hv=>by
  by_cases ha:a=[]
  ·subst ha;rfl
  ·rw[Lib.validD_step _ ha]at hv
   by_cases hb:(Lib.decodeL a).1=65533∧(Lib.decodeL a).2=1
   ·rw[if_pos hb]at hv;cases hv
   ·rw[if_neg hb]at hv
    have hle:=Lib.decodeL_le a ha;have hpos:=Dq a;rw[Lib.validD_step _ (by simp[ha]),ML a b ha hb,if_neg hb,List.drop_append_of_le_length hle];exact wV N _ b (by rw[List.length_drop];omega) hv
def Cln(l:List UInt8):Prop:=Lib.validD l=true∧(0:UInt8)∉l∧(13:UInt8)∉l
theorem jr{a b:List UInt8}(ha:Cln a)(hb:Cln b):Cln (a++b):=by
 refine⟨by rw[wV a.length a b (Nat.le_refl _) ha.1];exact hb.1,?_,?_⟩
 ·intro h
  rcases List.mem_append.1 h with h|h
  ·exact ha.2.1 h
  ·exact hb.2.1 h
 ·intro h
  rcases List.mem_append.1 h with h|h
  ·exact ha.2.2 h
  ·exact hb.2.2 h
theorem gY:Cln []:=⟨rfl,by simp,by simp⟩
theorem kP{l:List UInt8}(h:l.all easyB=true):Cln l:=by
 induction l with
 |nil=>exact gY
 |cons c l ih=>
  simp only[List.all_cons,Bool.and_eq_true]at h;obtain⟨h1,h2⟩:=h;obtain⟨i1,i2,i3⟩:=ih h2;simp only[easyB,Bool.and_eq_true,decide_eq_true_eq]at h1;obtain⟨⟨a,b⟩,d⟩:=h1;exact⟨by rw[Lib.validD_cons c l d];exact i1,by simp[i2,Ne.symm a],by simp[i3,Ne.symm b]⟩
theorem RV{l:List UInt8}(h:Cln l):kG l=l:=Kn l h.1 h.2.1 h.2.2
end Go.Proofs.YtkcmghlhpbepcaaGreatDoor.Ch
