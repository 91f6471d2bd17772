/- Lemmas and walks, part 36. -/
import Derived.Test.YtkcmghlhpbepcaaGreatDoorT735
import Derived.Test.YtkcmghlhpbepcaaGreatDoorRows
import Derived.ProofKit
import Derived.OpenShut
set_option linter.unusedVariables false
set_option linter.unusedSimpArgs false
set_option maxHeartbeats 8000000
set_option maxRecDepth 100000
namespace Go.Proofs.YtkcmghlhpbepcaaGreatDoor
open Go.RowKit Go.Proofs
theorem open_two{s r:Txt}{ts:List Tok}(h:kJ s=some (ts,r)):ts.length≤2:=by
 have hn:∀k u e,(qz k u e).1.length≤2:=by intro k u e;simp[qz]
 have ht:∀k u,(tJ k u).1.length≤2:=by
  intro k u;unfold tJ
  split
  ·simp
  ·split
   ·simp
   ·split
    ·unfold mK
     split<;>simp
    ·simp
 have hc:∀u,(kX u).1.length≤2:=by
  intro u;unfold kX
  split
  ·simp
  ·split
   ·simp
   ·exact hn _ _ _
 unfold kJ at h
 repeat' split at h
 all_goals first
  |(simp only[Option.some.injEq]at h
    have e:=congrArg Prod.fst h;simp only at e;rw[←e]
    first|exact ht _ _|exact hc _|exact hn _ _ _)
  |(simp only[Option.some.injEq,Prod.mk.injEq]at h
    rw[←h.1];simp)
  |cases h
theorem str_app(a b:Txt):(⟨a.toArray⟩:Bt)++⟨b.toArray⟩=⟨(a++b).toArray⟩:=by
 apply ByteArray.ext;simp
theorem tell_one(t:Txt):(eT t).length≤1:=by unfold eT;split<;>simp
theorem Eu(base b:Nat)(S T:Txt)(l0:List Tok)(hs:T.length+S.length≤900000000)(hl:l0.length≤10)(w:World)(hsc:Sc w base b S T l0)(hE:Env w base):
 Calls Tryz.prog 116 #[.pointer (some ⟨b,0,none⟩)] w fun e w'=>∃v,e=.returned v∧jW w' base v (l0++pF T S)∧Below base w w':=by
 have hbb:=hsc.1;go_enter Tryz.func116,Tryz.ntmps116;go_wp2
 go_loopg [3] S.length (fun g _ wr=>∃(s t:Txt) (l:List Tok),s.length=g∧Sc wr base b s t l∧Below base w wr∧t.length+s.length≤T.length+S.length∧l.length+3 * s.length≤l0.length+3 * S.length∧Hid (l0++pF T S=l++pF t s))
 case atStart=>exact⟨S,T,l0,rfl,hsc,Below.refl _ _,by omega,by omega,rfl⟩
 case round=>
  obtain⟨s,t,l,hsg,hscr,hB,hts,hls,hinv⟩:=hrel;subst hsg;have hEr:=hE.below hB;obtain⟨_,v,hh,hT⟩:=id hscr;obtain⟨ad,cp,rfl⟩:=hT.len;obtain⟨⟨c0,c1,c2⟩,c5⟩:=aH hh;cases hs0:s with
  |nil=>
   subst hs0;have hfin:=Lib.hid (show l0++pF T S=l++eT t by rw[hinv.out,Jo]);have qw:=Lib.hid (mY base b [] t l (by omega) (by omega) wr hscr hEr)
   go_wp2_with(go_at_call 159;((with_reducible refine(qw.out).mono ?_);rintro e w3 ⟨rfl,eF,hb3⟩;obtain⟨_,v3,hh3,hT3⟩:=id eF;obtain⟨ad3,cp3,rfl⟩:=hT3.len;rw[List.length_append]at hT3 hh3;obtain⟨⟨y0,y1,y2⟩,y5⟩:=aH hh3))
   go_ret;exact⟨_,rfl,by rw[hfin.out];exact hT3,hB.trans hb3⟩
  |cons c0' s0=>
   have hne:(s==[])=false:=by rw[hs0];rfl
   have hpos:0<s.length:=by rw[hs0];simp
   clear hs0;have hspan:=Lib.hid (fun W=>J6 s (by omega) W);have heq:=Jp t s;rw[show s.findIdx (fun c=>c==60)=jC s from rfl]at hspan;have hnl:jC s≤s.length:=List.findIdx_le_length
   have hhead:∀c r,s.drop (jC s)=c::r→c=60:=by
    intro c r h;have:=dr_yes h;simpa using this
   generalize jC s=n at *;have hnI:(n:Int)≤s.length:=by omega
   have hdl:(s.drop n).length=s.length - n:=by simp
   have htl:(s.take n).length=n:=by simp;omega
   have hscA:=(hscr.Ca (t++s.take n)).below (Below.refl _ _).drew;have hBA:=(aW (j:=1) hB hbb (.string ⟨(t++s.take n).toArray⟩)).drew;have hhA:((wr.setCell ⟨b,1,none⟩ (.string ⟨(t++s.take n).toArray⟩)).drew).heap[b]?=_:=Ht (t':=t++s.take n) hh;have hTA:jW (wr.setCell ⟨b,1,none⟩ (.string ⟨(t++s.take n).toArray⟩)).drew base (.slice ad l.length cp) l:=(hT.other (gL wr ⟨b,1,none⟩ (.string ⟨(t++s.take n).toArray⟩)) hh (by decide) (by decide)).below (Below.refl _ _).drew;have hWA:((wr.setCell ⟨b,1,none⟩ (.string ⟨(t++s.take n).toArray⟩)).drew).heap.size=wr.heap.size:=World.size_setCell _ _ _
   go_wp2_with(go_at_call 156;((with_reducible refine(hspan.out _).mono ?_);rintro e w4 ⟨rfl,rfl⟩))
   go_region
   all_goals
    rw[str_app];generalize (wr.setCell ⟨b,1,none⟩ (.string ⟨(t++s.take n).toArray⟩)).drew=W7 at *;obtain⟨⟨d0,d1,d2⟩,d5⟩:=aH hhA;have hscB:=hscA.oh (s.drop n);have hBB:=aW (j:=0) hBA hbb (.string ⟨(s.drop n).toArray⟩);have hEB:=hE.below hBB;generalize hx:s.take n=x at *;generalize hd:s.drop n=y at *;cases y with
    |nil=>
     have Gj:=Lib.hid (show l0++pF T S=l++pF (t++x) [] by rw[hinv.out,heq,Jo]);clear heq hhead hinv;go_wp2
     go_roundg 0
     ·exact⟨[],t++x,l,rfl,hscB,hBB,by simp;omega,by simp;omega,Gj⟩
     ·omega
    |cons c r=>
     obtain rfl:=hhead c r rfl;simp only[List.length_cons]at heq hdl;have hop:=Lib.hid (opens_c base b r (t++x) l (by omega) (by simp;omega) (by omega) _ hscB hEB)
     go_wp2_with(go_at_call 158;((with_reducible refine(hop.out).mono ?_);rintro e w5 ⟨rfl,hp5,hb5⟩))
     cases ho:kJ r with
     |none=>
      rw[ho]at hp5 heq;have Gj:=Lib.hid (show l0++pF T S=l++pF (t++x++[60]) r by rw[hinv.out,heq]);clear heq hhead hinv
      go_roundg r.length
      ·exact⟨r,t++x++[60],l,rfl,hp5,hBB.trans hb5,by simp;omega,by omega,Gj⟩
      ·omega
     |some q=>
      obtain⟨ts,q⟩:=q;rw[ho]at hp5 heq;have hle:=AJ ho;have h2:=open_two ho;have h1:=tell_one (t++x);simp only at hle heq;have Gj:=Lib.hid (show l0++pF T S=l++eT (t++x)++ts++pF [] q by rw[hinv.out,heq];simp);clear heq hhead hinv
      go_roundg q.length
      ·exact⟨q,[],_,rfl,hp5,hBB.trans hb5,by simp;omega,by simp;omega,Gj⟩
      ·omega
theorem sc_new(s:Txt)(w:World):Sc (w.alloc (.cells #[.string ⟨s.toArray⟩,.string ⟨#[]⟩,.slice none 0 0] 92)) w.heap.size w.heap.size s [] []:=⟨Nat.le_refl _,_,bR _ _ _,jW.nil _ _⟩
theorem env_new{w:World}(hS:Std w)(o:Obj):Env (w.alloc o) w.heap.size:=⟨w,hS,rfl,(Below.refl _ w).alloc (Nat.le_refl _) o⟩
theorem Gl{L:List Txt}(h:L.all (fun l=>decide (l.length≤1000000000))=true){l:Txt}(hi:inB L l=true):l.length≤1000000000:=by
 rw[List.all_eq_true]at h;have:=h l (by simpa [inB]using hi);simpa using this
theorem HY:rawsL.all (fun l=>decide (l.length≤1000000000))=true:=by decide +kernel
theorem Gm:G6.all (fun l=>decide (l.length≤1000000000))=true:=by decide +kernel
theorem in_any(s nm:Txt)(hs:s.length≤900000000)(w:World)(hS:Std w):
 Calls Tryz.prog 72 #[.string ⟨s.toArray⟩,.string ⟨nm.toArray⟩] w fun e w'=>∃v,e=.returned v∧jW w' w.heap.size v (inL s nm)∧Below w.heap.size w w':=by
 have hsc:=sc_new s w;have hE:=env_new hS (.cells #[.string ⟨s.toArray⟩,.string ⟨#[]⟩,.slice none 0 0] 92);have hB:=(Below.refl _ w).alloc (Nat.le_refl _) (.cells #[.string ⟨s.toArray⟩,.string ⟨#[]⟩,.slice none 0 0] 92);have hle:=hE.le;have hraw:=Lib.hid (fun W=>raw_c nm W);have nk:=Lib.hid (fun W=>zM nm W);have hil:(mK nm s).length≤10:=by unfold mK;split<;>simp
 have hrl:=HZ nm s;have hins0:=fun W h1 h2 (hnm:nm.length≤1000000000)=>AA w.heap.size w.heap.size s [] nm [] (by omega) hnm (by simp) W h1 h2
 rw[List.nil_append]at hins0;have hins:=Lib.hid hins0;clear hins0;have hall1:=Lib.hid (fun W h1 h2=>Eu w.heap.size w.heap.size (mg nm s) [] (mK nm s) (by simp;omega) hil W h1 h2);have hall2:=Lib.hid (fun W h1 h2=>Eu w.heap.size w.heap.size s [] [] (by simpa using hs) (by simp) W h1 h2);rw[List.nil_append]at hall2;unfold inL;generalize pF [] s=l at *;generalize pF [] (mg nm s)=l2 at *;generalize hq1:wP nm=b1 at *;generalize hq2:oL nm=b2 at *;cases b1 with
 |true=>
  have hn1:nm.length≤1000000000:=Gl HY hq1;clear hq1 hq2;simp only[Bool.true_or,if_true];go_enter Tryz.func72,Tryz.ntmps72
  go_wp2_with(first
   |(go_at_call 32;((with_reducible refine(hraw.out _).mono ?_);rintro e w1 ⟨rfl,hb1⟩;have hsc1:=hsc.below hb1;have hB1:=bO hB hle hb1;have hE1:=hE.below (gY hb1 hle)))
   |(go_at_call 115;((with_reducible refine(hins.out _ hsc1 hE1 hn1).mono ?_);rintro e w3 ⟨rfl,eF,hb3⟩;have hE3:=hE1.below hb3))
   |(go_at_call 116;((with_reducible refine(hall1.out _ eF hE3).mono ?_);rintro e w4 ⟨v,rfl,hT4,hb4⟩;obtain⟨ad,cp,rfl⟩:=hT4.len;rw[List.length_append]at hT4)))
  go_ret;exact⟨_,rfl,hT4,(hB1.trans hb3).trans hb4⟩
 |false=>
  clear hq1;cases b2 with
  |true=>
   have hn1:nm.length≤1000000000:=Gl Gm hq2;clear hq2;simp only[Bool.false_or,if_true];go_enter Tryz.func72,Tryz.ntmps72
   go_wp2_with(first
    |(go_at_call 32;((with_reducible refine(hraw.out _).mono ?_);rintro e w0 ⟨rfl,hb0⟩;have hsc0:=hsc.below hb0;have hB0:=bO hB hle hb0;have hE0:=hE.below (gY hb0 hle);have hle0:=hE0.le))
    |(go_at_call 33;((with_reducible refine(nk.out _).mono ?_);rintro e w1 ⟨rfl,hb1⟩;have hsc1:=hsc0.below hb1;have hB1:=bO hB0 hle0 hb1;have hE1:=hE0.below (gY hb1 hle0)))
    |(go_at_call 115;((with_reducible refine(hins.out _ hsc1 hE1 hn1).mono ?_);rintro e w3 ⟨rfl,eF,hb3⟩;have hE3:=hE1.below hb3))
    |(go_at_call 116;((with_reducible refine(hall1.out _ eF hE3).mono ?_);rintro e w4 ⟨v,rfl,hT4,hb4⟩;obtain⟨ad,cp,rfl⟩:=hT4.len;rw[List.length_append]at hT4)))
   go_ret;exact⟨_,rfl,hT4,(hB1.trans hb3).trans hb4⟩
  |false=>
   clear hq2;simp only[Bool.false_or,Bool.false_eq_true,if_false];go_enter Tryz.func72,Tryz.ntmps72
   go_wp2_with(first
    |(go_at_call 32;((with_reducible refine(hraw.out _).mono ?_);rintro e w0 ⟨rfl,hb0⟩;have hsc0:=hsc.below hb0;have hB0:=bO hB hle hb0;have hE0:=hE.below (gY hb0 hle);have hle0:=hE0.le))
    |(go_at_call 33;((with_reducible refine(nk.out _).mono ?_);rintro e w1 ⟨rfl,hb1⟩;have hsc1:=hsc0.below hb1;have hB1:=bO hB0 hle0 hb1;have hE1:=hE0.below (gY hb1 hle0)))
    |(go_at_call 116;((with_reducible refine(hall2.out _ hsc1 hE1).mono ?_);rintro e w4 ⟨v,rfl,hT4,hb4⟩;obtain⟨ad,cp,rfl⟩:=hT4.len)))
   go_ret;exact⟨_,rfl,hT4,hB1.trans hb4⟩
end Go.Proofs.YtkcmghlhpbepcaaGreatDoor
namespace Go.Proofs.aj.W7
open Go.RowKit Go.Proofs Go.Proofs.YtkcmghlhpbepcaaGreatDoor Go.Proofs.ah.aG
theorem zI(a:Bt):(⟨a.data.toList.toArray⟩:Bt)=a:=by cases a;simp
def nO.f(a0 a1:Bt):Option (List S65):=if a0.size≤900000000 then some ((inL a0.data.toList a1.data.toList).map tokT)else none
theorem nO.calls(a0 a1:Bt)(r:List S65)(w:World)(h:nO.f a0 a1=some r)(hS_:Std w):
 Calls Tryz.prog 72 #[.string a0,.string a1] w fun e w'=>∃v0_:Value,e=.returned v0_∧Kd.R k65 65 w' w.heap.size (fun _=>True) v0_ r∧Below w.heap.size w w':=by
 unfold nO.f at h
 split at h
 ·rename_i hz
  obtain rfl:=Option.some.inj h;have:=in_any a0.data.toList a1.data.toList hz w hS_;rw[zI,zI]at this;exact this.mono fun e w' ⟨v,h1,h2,h3⟩=>⟨v,h1,JU h2,h3⟩
 ·cases h
end Go.Proofs.aj.W7
namespace Go.Proofs.aj.W7
open Go.RowKit Go.Proofs Go.Proofs.YtkcmghlhpbepcaaGreatDoor Go.Proofs.YtkcmghlhpbepcaaGreatDoor.Ch
def lC.f(a0:Bt):Option Bt:=if a0.data.toList.length≤100000000 then some ⟨(GI a0.data.toList).toArray⟩else none
theorem lC.calls(a0 r:Bt)(w:World)(h:lC.f a0=some r)(hS_:Std w):
 Calls Tryz.prog 73 #[.string a0] w fun e w'=>e=.returned (.string r)∧Below w.heap.size w w':=by
 unfold lC.f at h
 split at h
 ·rename_i hz
  obtain rfl:=Option.some.inj h;have:=ready_c a0.data.toList hz w hS_;have he:(⟨a0.data.toList.toArray⟩:Bt)=a0:=by cases a0;simp
  rw[he]at this;exact this
 ·cases h
end Go.Proofs.aj.W7
namespace Go.Proofs.aj.W7
open Go.RowKit Go.Proofs.ah.aG Go.Proofs.ah.bX Go.Proofs.ah.dN
attribute [local go_sem] dZ d9 eU eX dS dU eu eB
def nP.f(a0 a1:Bt):Option ((List (S34))×Int):=if(a0.size:Int)>65536 then(some (([] :List (S34)),2))else((lC.f a0).bind fun t314=>((nO.f t314 a1).bind fun t315=>((gZ.f t315).bind fun rX=>(some (rX.1,rX.2)))))
theorem nP.calls(a0 a1:Bt)(r1:List (S34))(r2:Int)(w:World)(h:nP.f a0 a1=some (r1,r2))(hS_:Go.Proofs.YtkcmghlhpbepcaaGreatDoor.Std w):
 Calls Tryz.prog 24 #[.string a0,.string a1] w fun e w'=>∃v0_:Value,e=.returned (.tuple #[v0_,.int .i64 r2])∧Kd.R k34 34 w' w.heap.size (fun _=>True) v0_ r1∧Below w.heap.size w w':=by
 have HS_:=ak.mk hS_;clear hS_;have HB:=ak.mk (Below.refl w.heap.size w);have H:(if(a0.size:Int)>65536 then(some (([] :List (S34)),2))else((lC.f a0).bind fun t314=>((nO.f t314 a1).bind fun t315=>((gZ.f t315).bind fun rX=>(some (rX.1,rX.2))))))=some (r1,r2):=h;clear h
 by_cases c3:(a0.size:Int)>65536
 ·rw[if_pos c3]at H
  have lI:decide (65536<(a0.size:Int))=true:=decide_eq_true c3;have tu:decide (65536<a0.size)=true:=decide_eq_true (by omega);clear c3;simp only[Option.some.injEq,Prod.mk.injEq]at H;obtain⟨rfl,rfl⟩:=H;go_enter Tryz.func24,Tryz.ntmps24;go_wp2
  go_ret2
  exact⟨_,by first|rfl|(simp[aQ,aT]<;>rfl)|(simp[*,aQ,aT]<;>rfl),by first|exact Kd.iJ _ _ _ _ _|exact Kd.uU _ _ _ _ _|exact Kd.uV _ _ _ _ _|exact Kd.uW _ _ _ _ _|exact Kd.uX _ _ _ _ _,bz⟩
 ·rw[if_neg c3]at H
  have lI:decide (65536<(a0.size:Int))=false:=decide_eq_false c3;have tu:decide (65536<a0.size)=false:=decide_eq_false (by omega);clear c3;replace H:=Option.bind_eq_some_iff.mp H;obtain⟨t314,A40,H⟩:=H;replace H:((nO.f t314 a1).bind fun t315=>((gZ.f t315).bind fun rX=>(some (rX.1,rX.2))))=some (r1,r2):=H;have A4:=ak.mk A40;clear A40;replace H:=Option.bind_eq_some_iff.mp H;obtain⟨t315,A50,H⟩:=H;replace H:((gZ.f t315).bind fun rX=>(some (rX.1,rX.2)))=some (r1,r2):=H;have A5:=ak.mk A50;clear A50;replace H:=Option.bind_eq_some_iff.mp H;obtain⟨⟨t318,t319⟩,A60,H⟩:=H;replace H:(some (t318,t319))=some (r1,r2):=H;have A6:=ak.mk A60;clear A60;simp only[Option.some.injEq,Prod.mk.injEq]at H;obtain⟨rfl,rfl⟩:=H;go_enter Tryz.func24,Tryz.ntmps24
  go_wp2_with(first|((with_reducible refine bC (f:=73) rfl ?_);refine dH (some 10) rfl rfl Tryz.func73 (by kernel_rfl) rfl #[.string a0] rfl q'a ?_;(with_reducible refine(lC.calls a0 t314 _ A4.out (Go.Proofs.YtkcmghlhpbepcaaGreatDoor.Std.below HS_.out bz)).mono ?_);rintro e w7 ⟨rfl,hb⟩;refine⟨_,rfl,?_⟩;replace HB:=ak.mk (aN bz hb);(try clear hb);(try clear hb2);(try clear hk);(try clear hi))|((with_reducible refine bC (f:=72) rfl ?_);refine dH (some 12) rfl rfl Tryz.func72 (by kernel_rfl) rfl #[.string t314,.string a1] rfl q'a ?_;(with_reducible refine(nO.calls t314 a1 t315 _ A5.out (Go.Proofs.YtkcmghlhpbepcaaGreatDoor.Std.below HS_.out bz)).mono ?_);rintro e w8 ⟨v316,rfl,ho0,hb⟩;refine⟨_,rfl,?_⟩;have BL:=ak.mk (Kd.bM ho0 (aJ bz));replace HB:=ak.mk (aN bz hb);(try clear hb);(try clear hb2);(try clear hk);(try clear hi);(try clear ho0);obtain⟨Ao9,co9,eo9⟩:=Kd.bF BL.out;subst eo9)|((with_reducible refine bC (f:=21) rfl ?_);refine dH (some 13) rfl rfl Tryz.func21 (by kernel_rfl) rfl #[.slice Ao9 t315.length co9] rfl q'a ?_;(with_reducible refine(gZ.calls _ _ t315 t318 t319 _ ?dB ?dD A6.out).mono ?_);(case dB=>exact cz (Kd.aI BL.out).2.2);(case dD=>exact(Kd.aI BL.out).2.1);rintro e w10 ⟨v320,rfl,ho0,hb⟩;refine⟨_,rfl,?_⟩;have HO321:=ak.mk (Kd.bM ho0 (aJ bz));replace BL:=ak.mk (Kd.dR (rz BL.out) hb);replace HB:=ak.mk (aN bz hb);(try clear hb);(try clear hb2);(try clear hk);(try clear hi);(try clear ho0)))
  go_ret2
  exact⟨_,by first|rfl|(simp[aQ,aT]<;>rfl)|(simp[*,aQ,aT]<;>rfl),by(with_reducible repeat(first|apply Kd.aZ|apply Kd.bB|apply Kd.bq));exact HO321.out,bz⟩
def iK.f(a0:Bt):Option ((List (S34))×Int):=(nP.f a0 (⟨#[]⟩:Bt)).bind fun FJ=>(some (FJ.1,FJ.2))
theorem iK.calls(a0:Bt)(r1:List (S34))(r2:Int)(w:World)(h:iK.f a0=some (r1,r2))(hS_:Go.Proofs.YtkcmghlhpbepcaaGreatDoor.Std w):
 Calls Tryz.prog 26 #[.string a0] w fun e w'=>∃v0_:Value,e=.returned (.tuple #[v0_,.int .i64 r2])∧Kd.R k34 34 w' w.heap.size (fun _=>True) v0_ r1∧Below w.heap.size w w':=by
 have HS_:=ak.mk hS_;clear hS_;have HB:=ak.mk (Below.refl w.heap.size w);have H:((nP.f a0 (⟨#[]⟩:Bt)).bind fun FJ=>(some (FJ.1,FJ.2)))=some (r1,r2):=h;clear h;replace H:=Option.bind_eq_some_iff.mp H;obtain⟨⟨t322,t323⟩,A20,H⟩:=H;replace H:(some (t322,t323))=some (r1,r2):=H;have A2:=ak.mk A20;clear A20;simp only[Option.some.injEq,Prod.mk.injEq]at H;obtain⟨rfl,rfl⟩:=H;go_enter Tryz.func26,Tryz.ntmps26
 go_wp2_with(first|((with_reducible refine bC (f:=24) rfl ?_);refine dH (some 5) rfl rfl Tryz.func24 (by kernel_rfl) rfl #[.string a0,.string (⟨#[]⟩:Bt)] rfl q'a ?_;(with_reducible refine(nP.calls a0 (⟨#[]⟩:Bt) t322 t323 _ A2.out (Go.Proofs.YtkcmghlhpbepcaaGreatDoor.Std.below HS_.out bz)).mono ?_);rintro e w3 ⟨v324,rfl,ho0,hb⟩;refine⟨_,rfl,?_⟩;have HO325:=ak.mk (Kd.bM ho0 (aJ bz));replace HB:=ak.mk (aN bz hb);(try clear hb);(try clear hb2);(try clear hk);(try clear hi);(try clear ho0)))
 go_ret2
 exact⟨_,by first|rfl|(simp[aQ,aT]<;>rfl)|(simp[*,aQ,aT]<;>rfl),by(with_reducible repeat(first|apply Kd.aZ|apply Kd.bB|apply Kd.bq));exact HO325.out,bz⟩
end Go.Proofs.aj.W7
namespace Go.Proofs.aj.W7
open Go.RowKit Go.Proofs Go.Proofs.aj Go.Proofs.YtkcmghlhpbepcaaGreatDoor Go.Proofs.ah.aG Go.Proofs.YtkcmghlhpbepcaaGreatDoor.Ch
def toksF(s nm:Txt):List Tk:=(inL (GI s) nm).map tokT
def ansF(o:Option (List Rw)):List Rw×Int:=match o with|none=>([],2)|some r=>(r,0)
end Go.Proofs.aj.W7
namespace Go.Proofs.aj
open Go.RowKit Go.Proofs Go.Proofs.ah.aG
open Go.ChangeShapes Go.WideShapes Go.ChangeAt
open Go.Proofs.YtkcmghlhpbepcaaGreatDoor (Rows.uptoBulk Rows.uptoBulkAll)
theorem cells_at{w:World}{base n:Nat}{a:Addr}{cs:List Value}(h:w.cells? base a n=some cs):cs.length=n∧∀j,j<n→w.cell? (a.add j)=cs[j]?:=by
 unfold World.cells? at h
 split at h
 ·have hl:=mapM_some_length h
  refine⟨by simpa using hl,fun j hj=>?_⟩;have:=mapM_some_get h j j (by simp[hj]);exact this
 ·cases h
theorem add_add(a:Addr)(n m:Nat):(a.add n).add m=a.add (n+m):=by
 unfold Addr.add
 by_cases hm:m=0
 ·subst hm;simp
 ·by_cases hn:n=0
  ·subst hn;simp
  ·simp[hm,hn,Nat.add_assoc]
theorem Ik{α:Type}(P:Nat→α→Prop):∀(n:Nat),(∀i,i<n→∃x,P i x)→∃L:List α,L.length=n∧∀i (h:i<L.length),P i L[i]
 |0,_=>⟨[],rfl,fun i h=>by simp at h⟩
 |n+1,h=>by
  obtain⟨L,hl,hp⟩:=Ik P n (fun i hi=>h i (by omega));obtain⟨x,hx⟩:=h n (by omega);refine⟨L++[x],by simp[hl],fun i hi=>?_⟩
  rcases Nat.lt_or_ge i L.length with e|e
  ·rw[List.getElem_append_left e]
   exact hp i e
  ·have e2:i=L.length:=by simp at hi;omega
   subst e2;rw[List.getElem_append_right (by omega)];simp only[Nat.sub_self,List.getElem_cons_zero];rw[hl];exact hx
def Opn{α:Type}(P:Program)(t:TypeId)(d:Kd α)(wt:α→Nat)(Wf:α→Prop):Prop:=
 ∀ {H:Type} {enc:TypeId×Value→H} {w:World} {base:Nat} {spare:Nat→Bool} {held:Bool} {fuel:Nat} {cs:List Value} {x:DataW H×List MemPlace},
  DataW.trod enc P w base spare held fuel t cs=some x→∃a:α,d.K w a cs∧wt a≤Rows.uptoBulk x.1∧Wf a
section
variable {P : Program} {t e : TypeId}
theorem uS{α β:Type}{d1:Kd α}{d2:Kd β}{w:World}{a:α}{b:β}{cs:List Value}{o s:Nat}(h1:d1.K w a ((cs.drop o).take s))(h2:d2.K w b (cs.drop (o+s))):(Kd.pair d1 d2).K w (a,b) (cs.drop o):=
 ⟨(cs.drop o).take s,cs.drop (o+s),by rw[←List.drop_drop,List.take_append_drop],h1,h2⟩
theorem last_at{α:Type}{d:Kd α}{w:World}{a:α}{cs:List Value}{o s:Nat}(hl:cs.length=o+s)(h:d.K w a ((cs.drop o).take s)):d.K w a (cs.drop o):=by
 rw[List.take_of_length_le (by simp;omega)]at h;exact h
theorem zK{α:Type}{cs:List α}{n:Nat}(i:Nat)(h:cs.length=n)(hi:i<n):∃a,cs[i]?=some a:=⟨cs[i],List.getElem?_eq_getElem (by omega)⟩
end
end Go.Proofs.aj
namespace Go.Proofs.aj
open Go.RowKit Go.Proofs Go.Proofs.ah.aG
open Go.ChangeShapes Go.WideShapes Go.ChangeAt
def OpnM{α:Type}(P:Program)(t:TypeId)(d:Kd α)(Wm:Nat→α→Prop):Prop:=
 ∀ {H:Type} {enc:TypeId×Value→H} {w:World} {base:Nat} {spare:Nat→Bool} {held:Bool} {fuel:Nat} {cs:List Value} {x:DataW H×List MemPlace},
  DataW.trod enc P w base spare held fuel t cs=some x→∃a:α,d.K w a cs∧∀M,(∀n∈x.1.weights P t,n≤M)→Wm M a
section
variable {P : Program} {t e : TypeId}
theorem opm_int{k:IntKind}(hu:P.underlying t=some (.int k)):OpnM P t (Kd.int k) (fun _ _=>True):=by
 intro H enc w base spare held fuel cs x h;obtain⟨n,rfl,rfl,hw⟩:=DataW.trod_int hu h;exact⟨n,rfl,fun _ _=>trivial⟩
theorem opm_bool(hu:P.underlying t=some .bool):OpnM P t Kd.bool (fun _ _=>True):=by
 intro H enc w base spare held fuel cs x h;obtain⟨b,rfl,rfl⟩:=DataW.trod_bool hu h;exact⟨b,rfl,fun _ _=>trivial⟩
theorem qG(hu:P.underlying t=some .string):OpnM P t Kd.string (fun M s=>s.size≤M):=by
 intro H enc w base spare held fuel cs x h;obtain⟨s,rfl,rfl,hs⟩:=DataW.trod_string hu h;refine⟨s,rfl,fun M hM=>?_⟩;have:=hM s.data.toList.length (by simp[DataW.weights])
 rwa [Array.length_toList]at this
theorem xK{H:Type}:∀(es:List (DataW H)) (i:Nat) (h:i<es.length) (n:Nat),n∈es[i].weights P e→n∈DataW.weightsAll P e es
 | [],i,h,_,_=>by simp at h
 |d::es,0,_,n,hn=>by simp only[DataW.weightsAll];exact List.mem_append_left _ hn
 |d::es,i+1,h,n,hn=>by simp only[DataW.weightsAll];exact List.mem_append_right _ (xK es i (by simpa using h) n hn)
theorem BA{α:Type}{d:Kd α}{Wm:Nat→α→Prop}(hu:P.underlying t=some (.slice e))(hsz:P.cellsOf e=d.sz)(ho:OpnM P e d Wm):
 OpnM P t (Kd.slice e d) (fun M l=>∀x∈l,Wm M x):=by
 intro H enc w base spare held fuel cs x h
 rcases DataW.trod_slice hu h with⟨rfl,rfl⟩|⟨a,len,cap,elems,rest,n,_,rfl,rfl,hb,hle,hc,hlen,hel,_,_⟩
 ·exact⟨[],⟨none,0,rfl,Nat.le_refl _,⟨rfl,by simp,fun h=>by simp at h⟩⟩,by simp⟩
 ·obtain⟨L,hL,hp⟩:=Ik (fun i (y:α)=>∃c:List Value,c.length=d.sz∧d.K w y c∧(∀j u,c[j]?=some u→w.cell? (a.add (i * d.sz+j))=some u)∧(∀(h':i<elems.length) M,(∀n∈elems[i].1.weights P e,n≤M)→Wm M y)) len (by
   intro i hi;have h1:=hel i hi;have hi2:i<elems.length:=by omega
   rw[List.getElem?_eq_getElem hi2,Option.bind_eq_some_iff]at h1;obtain⟨c,h2,h3⟩:=h1;obtain⟨y,hK,hf⟩:=ho h3;obtain⟨hcl,h6⟩:=cells_at h2;rw[hsz]at h2 hcl h6;refine⟨y,c,hcl,hK,fun j u hj=>?_,fun _=>hf⟩
   have hjl:j<c.length:=by
    rcases Nat.lt_or_ge j c.length with h7|h7
    ·exact h7
    ·rw[List.getElem?_eq_none h7]at hj;cases hj
   have:=h6 j (by omega);rw[add_add]at this;exact this.trans hj)
  refine⟨L,⟨some a,cap,by rw[hL],by rw[hL];exact hle,⟨rfl,?_,fun _=>⟨a,rfl,fun j p hj=>?_⟩⟩⟩,fun M hM y hy=>?_⟩
  ·unfold maxLen at hc;omega
  ·obtain⟨hj1,rfl⟩:=List.getElem?_eq_some_iff.1 hj
   obtain⟨c,g1,g2,g3,_⟩:=hp j hj1;exact⟨c,g1,g2,g3⟩
  ·obtain⟨i,hi,rfl⟩:=List.getElem_of_mem hy
   obtain⟨_,_,_,_,g⟩:=hp i hi;refine g (by omega) M (fun n hn=>hM n ?_);simp only[DataW.weights,hu];refine List.mem_cons_of_mem _ (List.mem_append_left _ ?_);exact xK (elems.map (·.1)) i (by simpa using(show i<elems.length by omega)) n (by simpa using hn)
end
namespace W7
open Go.Proofs.aj
theorem opm36:OpnM Tryz.prog 36 k36 (fun M x=>x.f0.size≤M∧x.f1.size≤M):=by
 intro H enc w base spare held fuel cs x h;obtain⟨xs,n,_,rfl,hl,hlen,hf⟩:=DataW.trod_struct Tryz.underlying36 h;rw[show Tryz.prog.cellsOf 36=2 from by kernel_rfl]at hl;replace hlen:xs.length=2:=hlen;obtain⟨y0,hy0⟩:=zK 0 hlen (by omega);have g0:DataW.trod enc Tryz.prog w base spare held n 9 ((cs.drop 0).take (Tryz.prog.cellsOf 9))=some y0:=(hf 0 _ rfl).trans hy0;rw[show Tryz.prog.cellsOf 9=1 from by kernel_rfl]at g0;obtain⟨a0,k0,p0⟩:=qG Tryz.underlying9 g0;obtain⟨y1,hy1⟩:=zK 1 hlen (by omega);have g1:DataW.trod enc Tryz.prog w base spare held n 9 ((cs.drop 1).take (Tryz.prog.cellsOf 9))=some y1:=(hf 1 _ rfl).trans hy1;rw[show Tryz.prog.cellsOf 9=1 from by kernel_rfl]at g1;obtain⟨a1,k1,p1⟩:=qG Tryz.underlying9 g1
 obtain rfl:xs=[y0,y1]:=by
  apply List.ext_getElem?;intro i
  match i with
  |0=>exact hy0
  |1=>exact hy1
  |k+2=>rw[List.getElem?_eq_none (by omega),List.getElem?_eq_none (by simp)]
 refine⟨⟨a0,a1⟩,(uS (o:=0) (s:=1) k0 (last_at (o:=1) (s:=1) hl k1)),fun M hM=>?_⟩
 have hw:(DataW.agg (List.map (·.1) [y0,y1])).weights Tryz.prog 36=y0.1.weights Tryz.prog 9++(y1.1.weights Tryz.prog 9++[]):=by
  simp only[DataW.weights,Tryz.underlying36];rfl
 rw[hw]at hM;exact⟨p0 M (fun n hn=>hM n (List.mem_append_left _ hn)),p1 M (fun n hn=>hM n (List.mem_append_right _ (List.mem_append_left _ hn)))⟩
theorem opm32:OpnM Tryz.prog 32 (Kd.slice 36 k36) (fun M l=>∀x∈l,x.f0.size≤M∧x.f1.size≤M):=BA Tryz.underlying32 (by kernel_rfl) opm36
def wm65(M:Nat)(x:S65):Prop:=x.f1.size≤M∧x.f2.size≤M∧∀a∈x.f3,a.f0.size≤M∧a.f1.size≤M
theorem opm65:OpnM Tryz.prog 65 k65 wm65:=by
 intro H enc w base spare held fuel cs x h;obtain⟨xs,n,_,rfl,hl,hlen,hf⟩:=DataW.trod_struct Tryz.underlying65 h;rw[show Tryz.prog.cellsOf 65=5 from by kernel_rfl]at hl;replace hlen:xs.length=5:=hlen;obtain⟨y0,hy0⟩:=zK 0 hlen (by omega);have g0:DataW.trod enc Tryz.prog w base spare held n 3 ((cs.drop 0).take (Tryz.prog.cellsOf 3))=some y0:=(hf 0 _ rfl).trans hy0;rw[show Tryz.prog.cellsOf 3=1 from by kernel_rfl]at g0;obtain⟨a0,k0,p0⟩:=opm_int Tryz.underlying3 g0;obtain⟨y1,hy1⟩:=zK 1 hlen (by omega);have g1:DataW.trod enc Tryz.prog w base spare held n 9 ((cs.drop 1).take (Tryz.prog.cellsOf 9))=some y1:=(hf 1 _ rfl).trans hy1;rw[show Tryz.prog.cellsOf 9=1 from by kernel_rfl]at g1;obtain⟨a1,k1,p1⟩:=qG Tryz.underlying9 g1;obtain⟨y2,hy2⟩:=zK 2 hlen (by omega);have g2:DataW.trod enc Tryz.prog w base spare held n 9 ((cs.drop 2).take (Tryz.prog.cellsOf 9))=some y2:=(hf 2 _ rfl).trans hy2;rw[show Tryz.prog.cellsOf 9=1 from by kernel_rfl]at g2;obtain⟨a2,k2,p2⟩:=qG Tryz.underlying9 g2;obtain⟨y3,hy3⟩:=zK 3 hlen (by omega)
 have g3:DataW.trod enc Tryz.prog w base spare held n 32 ((cs.drop 3).take (Tryz.prog.cellsOf 32))=some y3:=(hf 3 _ rfl).trans hy3;rw[show Tryz.prog.cellsOf 32=1 from by kernel_rfl]at g3;obtain⟨a3,k3,p3⟩:=opm32 g3;obtain⟨y4,hy4⟩:=zK 4 hlen (by omega);have g4:DataW.trod enc Tryz.prog w base spare held n 4 ((cs.drop 4).take (Tryz.prog.cellsOf 4))=some y4:=(hf 4 _ rfl).trans hy4;rw[show Tryz.prog.cellsOf 4=1 from by kernel_rfl]at g4;obtain⟨a4,k4,p4⟩:=opm_bool Tryz.underlying4 g4
 obtain rfl:xs=[y0,y1,y2,y3,y4]:=by
  apply List.ext_getElem?;intro i
  match i with
  |0=>exact hy0
  |1=>exact hy1
  |2=>exact hy2
  |3=>exact hy3
  |4=>exact hy4
  |k+5=>rw[List.getElem?_eq_none (by omega),List.getElem?_eq_none (by simp)]
 refine⟨⟨a0,a1,a2,a3,a4⟩,(uS (o:=0) (s:=1) k0 (uS (o:=1) (s:=1) k1 (uS (o:=2) (s:=1) k2 (uS (o:=3) (s:=1) k3 (last_at (o:=4) (s:=1) hl k4))))),fun M hM=>?_⟩
 have hw:(DataW.agg (List.map (·.1) [y0,y1,y2,y3,y4])).weights Tryz.prog 65=y0.1.weights Tryz.prog 3++(y1.1.weights Tryz.prog 9++(y2.1.weights Tryz.prog 9++(y3.1.weights Tryz.prog 32++(y4.1.weights Tryz.prog 4++[])))):=by
  simp only[DataW.weights,Tryz.underlying65];rfl
 rw[hw]at hM;exact⟨p1 M (fun n hn=>hM n (by simp[hn])),p2 M (fun n hn=>hM n (by simp[hn])),p3 M (fun n hn=>hM n (by simp[hn]))⟩
theorem opm26:OpnM Tryz.prog 26 (Kd.slice 65 k65) (fun M l=>∀x∈l,wm65 M x):=BA Tryz.underlying26 (by kernel_rfl) opm65
end W7
end Go.Proofs.aj
namespace Go.Proofs.aj.W7
open Go.RowKit Go.Proofs.ah.aG Go.Proofs.ah.bX Go.Proofs.ah.dN
attribute [local go_sem] dZ d9 eU eX dS dU eu eB
theorem eqA36(d:Nat)(w:World)(x0 y0 x1 y1:Bt):
 (Op.equalIn (d+2) 36 (.agg #[.string x0,.string x1]) (.agg #[.string y0,.string y1])).run Tryz.prog w=.ok (x0.toList==y0.toList&&(x1.toList==y1.toList)) w:=by
 refine eqA_of Tryz.underlying36 (by kernel_rfl) ?_;refine eqf_cons (by rfl) (by go_simp;rfl) (by go_simp;rfl) (by go_simp) ?_;exact eqf_last (by rfl) (by go_simp;rfl) (by go_simp;rfl) (by go_simp)
end Go.Proofs.aj.W7
namespace Go.Proofs.aj.W7
open Go.RowKit Go.Proofs.ah.aG Go.Proofs.ah.bX Go.Proofs.ah.dN
attribute [local go_sem] dZ d9 eU eX dS dU eu eB
attribute [local go_sem high] eqA36
def qJ.l0:Nat→List (S36)→List (S36)→Int→Int→Option (Bool)
 |0,_,_,_,_=>none
 |k+1,x0,x1,x10,x11=>if x11<x10 then(if 0≤x11 then(if x11<(x0.length:Int)then(if x11<(x1.length:Int)then(if(!((((dV x0 x11).f0).toList)==(((dV x1 x11).f0).toList))||(!((((dV x0 x11).f1).toList)==(((dV x1 x11).f1).toList))))=true then(some false)else(qJ.l0 k x0 x1 x10 (wrap64 (x11+1))))else(none))else(none))else(none))else(some ((x0.length:Int)==(x1.length:Int)))
def qJ.f(k:Nat)(l0 l1:List (S36)):Option (Bool):=qJ.l0 k l0 l1 (mn (l0.length:Int) (l1.length:Int)) 0
end Go.Proofs.aj.W7
namespace Go.Proofs.aj.W7
open Go.RowKit Go.Proofs.ah.aG Go.Proofs.ah.bX Go.Proofs.ah.dN
attribute [local go_sem] dZ d9 eU eX dS dU eu eB
def rows_Same_1.f(k:Nat)(a0_0 a0_1:Int)(a0_2 a0_3:Bt)(l0_4:List (S36))(a1_0 a1_1:Int)(a1_2 a1_3:Bt)(l1_4:List (S36)):Option (Bool):=if a0_0=a1_0 then(if a0_1=a1_1 then(if a0_2.toList=a1_2.toList then(if a0_3.toList=a1_3.toList then((qJ.f k l0_4 l1_4).bind fun t105=>(some t105))else(some false))else(some false))else(some false))else(some false)
end Go.Proofs.aj.W7
namespace Go.Proofs.aj.W7
open Go.RowKit Go.Proofs Go.Proofs.YtkcmghlhpbepcaaGreatDoor
structure Rr where
 depth:Int
 kind:Int
 name:Txt
 data:Txt
 attrs:List (Txt×Txt)
 deriving DecidableEq
def prS(a:S36):Txt×Txt:=(a.f0.data.toList,a.f1.data.toList)
def rQ(x:Rw):Rr:=⟨x.f0,x.f1,x.f2.data.toList,x.f3.data.toList,x.f4.map prS⟩
theorem w64{x:Int}(h0: -9223372036854775808≤x)(h1:x≤9223372036854775807):wrap64 x=x:=by unfold wrap64;omega
theorem Bz(a b:ByteArray):a.toList=b.toList↔a.data.toList=b.data.toList:=by rw[Lib.toList_data,Lib.toList_data]
theorem bytes_beq(a b:ByteArray):(a.toList==b.toList)=(a.data.toList==b.data.toList):=by rw[Lib.toList_data,Lib.toList_data]
def rows_Same.f(l0 l1:List Rw):Option Bool:=some (decide (l0.map rQ=l1.map rQ))
end Go.Proofs.aj.W7
namespace Go.Proofs.aj.W7
open Go.RowKit Go.Proofs.ah.aG Go.Proofs.ah.bX Go.Proofs.ah.dN
attribute [local go_sem] dZ d9 eU eX dS dU eu eB
def rows_is.f(l0:List (S34))(a1:Int):Option (Bool):=if a1≥0 then(some (decide (a1<(l0.length:Int))))else(some false)
end Go.Proofs.aj.W7
