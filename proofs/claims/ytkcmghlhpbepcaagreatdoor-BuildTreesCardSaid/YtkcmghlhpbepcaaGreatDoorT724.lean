/- Lemmas and walks, part 24. -/
import Derived.Test.YtkcmghlhpbepcaaGreatDoorT723
set_option linter.unusedVariables false
set_option linter.unusedSimpArgs false
set_option maxHeartbeats 8000000
set_option maxRecDepth 100000
namespace Go.Proofs.aj.W7
open Go.RowKit Go.Proofs Go.Proofs.YtkcmghlhpbepcaaGreatDoor Go.Proofs.ah.aG
abbrev tbN:Bt:=⟨#[116,98,111,100,121]⟩
abbrev trN:Bt:=⟨#[116,114]⟩
abbrev taN:Bt:=⟨#[116,97,98,108,101]⟩
def isTab(nm:Bt):Bool:=nm.data.toList==[116,97,98,108,101] ||Lib.containsS (iH tbN) nm
def uN(nm:Bt):List Bt:=if isTab nm then gP trN else gP pN
def jo(op:List Bt)(out:List Rw)(big:Bool)(nm:Bt):List Bt×List Rw×Bool:=
 if nm.data.toList=[]then(op,out,big)else if oH nm then(op,out,big)else if nL nm then(op,out,big)
 else if 0≤dW op [nm] (uN nm) op.length then(op.take (dW op [nm] (uN nm) op.length).toNat,out,big)
 else if nm.data.toList=[112]then(op,(kK op out big ⟨0,0,nm,⟨#[]⟩,[]⟩).1,(kK op out big ⟨0,0,nm,⟨#[]⟩,[]⟩).2)else(op,out,big)
theorem has_R(A:Option Addr)(c:Nat)(xs:List Bt)(x:Bt)(w:World)(h:Kd.string.C w A xs.length xs)(hc:xs.length≤c):
 Calls Tryz.prog 114 #[.slice A xs.length c,.string x] w fun e w'=>e=.returned (.bool (Lib.containsS xs x))∧w'=w:=has_c A c xs x w h
theorem found1_c(base:Nat)(A:Option Addr)(c:Nat)(op:List Bt)(A1:Option Addr)(c1:Nat)(s:Bt)(A2:Option Addr)(c2:Nat)(walls:List Bt)(X:World)(h0:Kd.string.R 9 X base (fun _=>True) (.slice A op.length c) op)(h1:Kd.string.R 9 X base (fun _=>True) (.slice A1 1 c1) [s])(h2:Kd.string.R 9 X base (fun _=>True) (.slice A2 walls.length c2) walls):
 Calls Tryz.prog 77 #[.slice A op.length c,.slice A1 1 c1,.slice A2 walls.length c2] X fun e w'=>e=.returned (.int .i64 (dW op [s] walls op.length))∧Below X.heap.size X w':=
 dL.calls A c op A1 c1 [s] A2 c2 walls (dW op [s] walls op.length) X (Kd.aI h0).2.2 (Kd.aI h0).2.1 (Kd.aI (xs:=[s]) h1).2.2 (Kd.aI (xs:=[s]) h1).2.1 (Kd.aI h2).2.2 (Kd.aI h2).2.1 rfl
theorem end_c(w0:World)(B:Nat)(op:List Bt)(out:List Rw)(big:Bool)(nm:Bt)(W:World)(h:Bd w0 B op out big W)(hl:out.length≤100000)(ho:op.length≤90000)(hk:NmOk nm)(hp:NmOk pN)(ht:NmOk tbN)(hr:NmOk trN):
 Calls Tryz.prog 70 #[.pointer (some ⟨B,0,none⟩),.string nm] W fun e W'=>e=.returned (.tuple #[])∧
  Bd w0 B (jo op out big nm).1 (jo op out big nm).2.1 (jo op out big nm).2.2 W'∧Below w0.heap.size W W'∧gB B W W':=by
 have hbz:=h.below.size;have hgo:=Lib.hid (fun X=>jF.calls 200 nm _ X hk.gone);have hvo:=Lib.hid (fun X=>jG.calls 200 nm _ X hk.void);have hwp:=Lib.hid (fun X=>bV.calls 200 pN _ X hp.walls);have hwr:=Lib.hid (fun X=>bV.calls 200 trN _ X hr.walls);have hct:=Lib.hid (fun X=>bL.calls 200 tbN _ X ht.closes)
 by_cases hs:nm.data.toList=[]
 ·rw[show jo op out big nm=(op,out,big)from if_pos hs]
  have hsz:nm=⟨#[]⟩:=by
   obtain⟨d⟩:=nm;simpa using hs
  clear hgo hvo hwp hwr hct hk;subst hsz;go_enter Tryz.func70,Tryz.ntmps70;go_wp2;refine bodyPost_ret (results_none rfl _ _ _) rfl ?_;exact⟨rfl,h,Below.refl _ _,gB.refl _ _⟩
 have e0:¬nm.toList=[]:=by rw[Lib.toList_data];exact hs
 have e1:(nm.toList==[])=false:=beq_eq_false_iff_ne.2 e0;have e2:¬nm=⟨#[]⟩:=fun e=>hs (by rw[e])
 cases hg:oH nm with
 |true=>
  rw[show jo op out big nm=(op,out,big)from by unfold jo;rw[if_neg hs,if_pos hg]];rw[hg]at hgo;clear hvo hwp hwr hct hk;go_enter Tryz.func70,Tryz.ntmps70
  go_wp2_with(go_at_call 34;((with_reducible refine(hgo.out _).mono ?_);rintro e W2 ⟨rfl,hb2⟩))
  refine bodyPost_ret (results_none rfl _ _ _) rfl ?_;exact⟨rfl,h.step hb2,hb2.mono hbz,(gB.refl _ _).below hb2⟩
 |false=>
  rw[hg]at hgo;cases hv:nL nm with
  |true=>
   rw[show jo op out big nm=(op,out,big)from by unfold jo;rw[if_neg hs,if_neg (by rw[hg];decide),if_pos hv]];rw[hv]at hvo;clear hwp hwr hct hk;go_enter Tryz.func70,Tryz.ntmps70
   go_wp2_with(first
    |(go_at_call 34;((with_reducible refine(hgo.out _).mono ?_);rintro e W2 ⟨rfl,hb2⟩))
    |(go_at_call 31;((with_reducible refine(hvo.out _).mono ?_);rintro e W3 ⟨rfl,hb3⟩)))
   refine bodyPost_ret (results_none rfl _ _ _) rfl ?_;exact⟨rfl,(h.step hb2).step hb3,(hb2.mono hbz).trans (hb3.mono (h.step hb2).below.size),((gB.refl _ _).below hb2).below hb3⟩
  |false=>
   rw[hv]at hvo
   have hF:jo op out big nm=(if 0≤dW op [nm] (uN nm) op.length then(op.take (dW op [nm] (uN nm) op.length).toNat,out,big)
    else if nm.data.toList=[112]then(op,(kK op out big ⟨0,0,nm,⟨#[]⟩,[]⟩).1,(kK op out big ⟨0,0,nm,⟨#[]⟩,[]⟩).2)else(op,out,big)):=by
    unfold jo;rw[if_neg hs,if_neg (by rw[hg];decide),if_neg (by rw[hv];decide)]
   replace hF:=Lib.hid hF;clear hk;have hew:uN nm=if(nm.data.toList==[116,97,98,108,101] ||Lib.containsS (iH tbN) nm)then gP trN else gP pN:=rfl
   have q1:(nm.toList==[116,97,98,108,101])=(nm.data.toList==[116,97,98,108,101]):=by rw[Lib.toList_data]
   generalize (nm.data.toList==[116,97,98,108,101])=isT at *;go_enter Tryz.func70,Tryz.ntmps70
   go_upto_region 2 with(first
    |(go_at_call 34;((with_reducible refine(hgo.out _).mono ?_);rintro e W2 ⟨rfl,hb2⟩;have h2:=h.step hb2;have hbw2:=hb2.mono hbz;have hk2:=(gB.refl B W).below hb2))
    |(go_at_call 31;((with_reducible refine(hvo.out _).mono ?_);rintro e W3 ⟨rfl,hb3⟩;have h3:=h2.step hb3;have hbw3:=hbw2.trans (hb3.mono h2.below.size);have hk3:=hk2.below hb3))
    |(go_at_call 78;((with_reducible refine(hwp.out _).mono ?_);rintro e W4 ⟨v4,rfl,hR4,hb4⟩;obtain⟨A4,c4,rfl⟩:=Kd.bF hR4;have h4:=h3.step hb4;have hbw4:=hbw3.trans (hb4.mono h3.below.size);have hk4:=hk3.below hb4;have hR4:=Kd.bM hR4 h3.below.size)))
   generalize hct0:iH tbN=ctl at *;go_cut [23] (fun v wx=>v=.bool (isT||Lib.containsS ctl nm)∧Bd w0 B op out big wx∧Below w0.heap.size W wx∧gB B W wx∧Kd.string.R 9 wx w0.heap.size (fun _=>True) (.slice A4 (gP pN).length c4) (gP pN))
   case first=>
    cases isT with
    |true=>
     go_wp2_with(fail)
     go_meet
     exact⟨rfl,h4,hbw4,hk4,hR4⟩
    |false=>
     go_wp2_with(first
      |(go_at_call 35;((with_reducible refine(hct.out _).mono ?_);rintro e W5 ⟨v5,rfl,hR5,hb5⟩;obtain⟨A5,c5,rfl⟩:=Kd.bF hR5;have h5:=h4.step hb5;have hbw5:=hbw4.trans (hb5.mono h4.below.size);have hk5:=hk4.below hb5;have hR6:=Kd.dR hR4 hb5;have hr5:=Kd.aI hR5))
      |(go_at_call 114;((with_reducible refine(has_R A5 c5 ctl nm _ hr5.2.2 hr5.2.1).mono ?_);rintro e W6 ⟨rfl,rfl⟩)))
     go_meet
     exact⟨rfl,h5,hbw5,hk5,hR6⟩
   case rest=>
    obtain⟨rfl,h7,hbw7,hk7,hR7⟩:=hcut;clear hct0 hct q1;generalize (isT||Lib.containsS ctl nm)=isW at *
    go_upto_if 23 with(fail)
    go_cut [4] (fun v wx=>∃A c,v=.slice A (uN nm).length c∧Kd.string.R 9 wx w0.heap.size (fun _=>True) (.slice A (uN nm).length c) (uN nm)∧Bd w0 B op out big wx∧Below w0.heap.size W wx∧gB B W wx)
    case first=>
     cases isW with
     |true=>
      go_wp2_with(go_at_call 78;((with_reducible refine(hwr.out _).mono ?_);rintro e W8 ⟨v8,rfl,hR8,hb8⟩;obtain⟨A8,c8,rfl⟩:=Kd.bF hR8))
      go_meet
      rw[hew]
      first|rw[if_pos rfl] |rw[if_pos trivial]
      exact⟨_,_,rfl,Kd.bM hR8 h7.below.size,h7.step hb8,hbw7.trans (hb8.mono h7.below.size),hk7.below hb8⟩
     |false=>
      go_wp2
      go_meet
      rw[hew,if_neg (by decide)];exact⟨_,_,rfl,hR7,h7,hbw7,hk7⟩
    case rest=>
     obtain⟨A9,c9,rfl,hR9,h9,hbw9,hk9⟩:=hcut;clear hew hR7 h7 hbw7 hk7 hwp hwr hgo hvo h2 h3 h4 hbw2 hbw3 hbw4 hk2 hk3 hk4 hR4;generalize uN nm=wl at *;have hbl:=(Below.refl _ wc).alloc (Nat.le_refl _) (.cells #[.string nm] 9);have hl10:=lit1 wc nm w0.heap.size h9.below.size;have hR10:=Kd.dR hR9 hbl;obtain⟨vo,vr,g1,g2,g3⟩:=id h9.ex;obtain⟨Ao,co,rfl⟩:=Kd.bF g2;have hV10:=Kd.dR g2 hbl;obtain⟨f0,f1,f2,ff⟩:=aH g1;obtain⟨y0,y1,y2,yf⟩:=aH (bg g1 hbl);have hfd:=Lib.hid (found1_c w0.heap.size Ao co op _ _ nm A9 c9 wl _ hV10 hl10 hR10);have hfl:=sM op [nm] wl op.length
     by_cases hneg:0≤dW op [nm] wl op.length
     ·have hF2:=hF.out
      rw[if_pos hneg]at hF2;obtain⟨i,hi⟩:∃i:Nat,dW op [nm] wl op.length=i:=⟨(dW op [nm] wl op.length).toNat,by omega⟩
      rw[hi]at hfd hfl hF2;simp only[Int.toNat_natCast]at hF2;have hil:i<op.length:=by omega
      have hrd:=Kd.aI g2;replace hF2:=Lib.hid hF2;clear hi hneg hfl hR10 hR9 hl10 hF;have e3:decide ((0:Int)≤(i:Int))=true:=decide_eq_true (by omega)
      go_wp2_with(go_at_call 77;((with_reducible refine hfd.out.mono ?_);rintro e W11 ⟨rfl,uO⟩;have g11:=bg (bg g1 hbl) uO;obtain⟨z0,z1,z2,zf⟩:=aH g11))
      refine bodyPost_ret (results_none rfl _ _ _) rfl ?_;rw[hF2.out];have hV11:=Kd.dR hV10 uO;have h11:=(h9.step hbl).step uO;have g3':=Kd.dR (Kd.dR g3 hbl) uO;have htk:=Kd.R_take (m:=i) hV11 (by omega);have xG:=(hbw9.trans (hbl.mono h9.below.size)).trans (uO.mono (h9.step hbl).below.size);refine⟨rfl,⟨h11.below.setCell (p:=⟨B,0,none⟩) h.base _,h.base,_,_,fT g11 0 _ rfl,Kd.oG htk g11 (by decide) 0 _,Kd.oG g3' g11 (by decide) 0 _⟩,xG.setCell (p:=⟨B,0,none⟩) h.base _,((hk9.below hbl).below uO).set 0 _⟩
     ·have hF2:=hF.out
      rw[if_neg hneg]at hF2;generalize dW op [nm] wl op.length=i at *;have e3:decide ((0:Int)≤i)=false:=decide_eq_false hneg;clear hneg hfl hR10 hR9 hl10 hF
      by_cases hp2:nm.data.toList=[112]
      ·rw[if_pos hp2]at hF2
       replace hF2:=Lib.hid hF2
       have hnp:nm=pN:=by
        obtain⟨⟨d⟩⟩:=nm;simpa using hp2
       subst hnp;clear hs e0 e1 e2 hp2
       go_wp2_with(first
        |(go_at_call 77;((with_reducible refine hfd.out.mono ?_);rintro e W11 ⟨rfl,uO⟩;have h11:=(h9.step hbl).step uO;have xG:=(hbw9.trans (hbl.mono h9.below.size)).trans (uO.mono (h9.step hbl).below.size);have hk11:=(hk9.below hbl).below uO))
        |(go_at_call 68;((with_reducible refine(lay_c w0 B op out big 0 0 pN ⟨#[]⟩ (.slice none 0 0) [] _ h11 (Kd.iJ _ _ _ _ _) hl (by omega)).mono ?_);rintro e W12 ⟨rfl,h12,hb12,hk12⟩)))
       go_end0;rw[hF2.out];exact⟨rfl,h12,xG.trans hb12,hk11.trans hk12⟩
      ·rw[if_neg hp2]at hF2
       replace hF2:=Lib.hid hF2;have e4:(nm.toList==[112])=false:=by rw[Lib.toList_data];exact beq_eq_false_iff_ne.2 hp2
       have e5:¬nm=⟨#[112]⟩:=fun e=>hp2 (by rw[e])
       go_wp2_with(go_at_call 77;((with_reducible refine hfd.out.mono ?_);rintro e W11 ⟨rfl,uO⟩;have h11:=(h9.step hbl).step uO;have xG:=(hbw9.trans (hbl.mono h9.below.size)).trans (uO.mono (h9.step hbl).below.size);have hk11:=(hk9.below hbl).below uO))
       go_end0;rw[hF2.out];exact⟨rfl,h11,xG,hk11⟩
def pairS(a:S36):Txt×Txt:=(a.f0.data.toList,a.f1.data.toList)
def tokS(x:S65):Tok:=⟨x.f0,x.f1.data.toList,x.f3.map pairS,x.f2.data.toList,x.f4⟩
def pairT(a:Txt×Txt):S36:=⟨⟨a.1.toArray⟩,⟨a.2.toArray⟩⟩
def tokT(x:Tok):S65:=⟨x.kind,⟨x.name.toArray⟩,⟨x.data.toArray⟩,x.attrs.map pairT,x.self⟩
theorem pairS_T(a:Txt×Txt):pairS (pairT a)=a:=rfl
theorem pairsS_T(l:List (Txt×Txt)):(l.map pairT).map pairS=l:=by
 induction l with
 |nil=>rfl
 |cons a l ih=>simp only[List.map_cons,pairS_T,ih]
abbrev Tk:=S65
def nmB(s:Bt):Bool:=(bL.f 200 s).isSome&&(bV.f 200 s).isSome&&(jF.f 200 s).isSome&&(jG.f 200 s).isSome&&(eO.f s).isSome
theorem some_get{α:Type}{o:Option α}(d:α)(h:o.isSome=true):o=some (o.getD d):=by cases o<;>simp at h⊢
theorem wK{s:Bt}(h:nmB s=true):NmOk s:=by
 unfold nmB at h;simp only[Bool.and_eq_true]at h;obtain⟨⟨⟨⟨h1,h2⟩,h3⟩,h4⟩,h5⟩:=h;exact⟨some_get [] h1,some_get [] h2,some_get false h3,some_get false h4,some_get false h5⟩
def szB(out:List Rw)(s:Bt):Bool:=out.all fun x=>decide (x.f3.size+s.size≤9223372036854775807)
def jw(op:List Bt)(out:List Rw)(t:Tk):List Bt×List Rw×Bool:=
 if t.f0=0 then(op,jC op out false t.f2)else if t.f0=3 then(op,kK op out false ⟨0,2,⟨#[]⟩,t.f2,[]⟩)
 else if t.f0=1 then lM op out false t.f1 t.f3 else if t.f0=2 then jo op out false t.f1 else(op,out,false)
def okT(out:List Rw)(t:Tk):Bool:=
 if t.f0=0 then szB out t.f2 else if t.f0=1 then nmB t.f1&&decide (t.f3.length≤1000000)else if t.f0=2 then nmB t.f1 else true
def xI:List Tk→List Bt→List Rw→Option (List Rw×Int)
 | [],_,out=>(jT.f out).bind fun n=>some (n,0)
 |t::r,op,out=>if okT out t then(if(jw op out t).2.2 then some ([],2)else xI r (jw op out t).1 (jw op out t).2.1)else none
def gZ.f(l:List Tk):Option (List Rw×Int):=if nmB pN&&nmB tbN&&nmB trN then xI l [] []else none
theorem pW(op:List Bt)(out:List Rw)(x:Rw)(h:(kK op out false x).2=false):(kK op out false x).1.length≤4096∧op.length<60:=by
 unfold kK at h⊢
 split at h
 ·cases h
 ·rename_i g
  rw[if_neg g];simp;omega
theorem uj(op:List Bt)(out:List Rw)(t:Tk)(ho:out.length≤4096)(hp:op.length≤60)(h:(jw op out t).2.2=false):(jw op out t).2.1.length≤4096∧(jw op out t).1.length≤60:=by
 unfold jw at h⊢
 split
 ·rename_i g
  rw[if_pos g]at h;unfold jC at h⊢
  split
  ·exact⟨ho,hp⟩
  ·rename_i g2
   rw[if_neg g2]at h
   split
   ·simpa using⟨ho,hp⟩
   ·rename_i g3
    rw[if_neg g3]at h;exact⟨(pW _ _ _ h).1,hp⟩
 ·rename_i g
  rw[if_neg g]at h
  split
  ·rename_i g2
   rw[if_pos g2]at h;exact⟨(pW _ _ _ h).1,hp⟩
  ·rename_i g2
   rw[if_neg g2]at h
   split
   ·rename_i g3
    rw[if_pos g3]at h;unfold lM at h⊢;have hs:=oI op t.f1
    split
    ·exact⟨ho,hp⟩
    ·rename_i g4
     rw[if_neg g4]at h
     split
     ·exact⟨ho,hp⟩
     ·rename_i g5
      rw[if_neg g5]at h;have hl:=pW _ _ _ h;refine⟨hl.1,?_⟩;show(if nL t.f1=true then fV op t.f1 else fV op t.f1++[t.f1]).length≤60
      split
      ·omega
      ·rw[List.length_append]
       have:=hl.2;simp;omega
   ·rename_i g3
    rw[if_neg g3]at h
    split
    ·rename_i g4
     rw[if_pos g4]at h;unfold jo at h⊢
     split
     ·exact⟨ho,hp⟩
     ·rename_i q1
      rw[if_neg q1]at h
      split
      ·exact⟨ho,hp⟩
      ·rename_i q2
       rw[if_neg q2]at h
       split
       ·exact⟨ho,hp⟩
       ·rename_i q3
        rw[if_neg q3]at h
        split
        ·refine⟨ho,?_⟩
         show(op.take _).length≤60;rw[List.length_take];omega
        ·rename_i q4
         rw[if_neg q4]at h
         split
         ·rename_i q5
          rw[if_pos q5]at h;exact⟨(pW _ _ _ h).1,hp⟩
         ·exact⟨ho,hp⟩
    ·exact⟨ho,hp⟩
theorem tok_at{w:World}{A:Option Addr}{l:List Tk}(h:k65.C w A l.length l)(i:Nat)(hi:i<l.length):
 ∃g o A3 c3,A=some ⟨g,o,none⟩∧w.cell? ⟨g,o+i * 5,none⟩=some (.int .i64 l[i].f0)∧w.cell? ⟨g,o+i * 5+1,none⟩=some (.string l[i].f1)∧w.cell? ⟨g,o+i * 5+2,none⟩=some (.string l[i].f2)∧
  w.cell? ⟨g,o+i * 5+3,none⟩=some (.slice A3 l[i].f3.length c3)∧w.cell? ⟨g,o+i * 5+4,none⟩=some (.bool l[i].f4)∧k36.C w A3 l[i].f3.length l[i].f3:=by
 obtain⟨ad,A3,c3,e,c0,c1,c2,c3',c4,l3,g3⟩:=Cv h i (by omega) (by omega);obtain⟨ad0,_,_,e0,z0,_⟩:=Cv h 0 (by omega) (by omega);obtain rfl:ad0=ad:=Option.some.inj (e0.symm.trans e);have hs:=Cu (a:=ad0) (by simpa [Addr.add]using z0);simp only[Int.toNat_natCast]at c0 c1 c2 c3' c4;rw[hs,yD]at c0 c1 c2 c3' c4;have er:au l i=l[i]:=by simp[au,hi]
 rw[er]at c0 c1 c2 c3' c4 g3;exact⟨ad0.block,ad0.off,_,_,by rw[e,←hs],c0,c1,c2,c3',c4,g3⟩
theorem Bd.new(w:World):Bd w w.heap.size [] [] false (w.alloc (.cells #[.slice none 0 0,.slice none 0 0,.bool false] 73)):=
 ⟨(Below.refl _ w).alloc (Nat.le_refl _) _,Nat.le_refl _,_,_,bR w _ _,Kd.iJ _ _ _ _ _,Kd.iJ _ _ _ _ _⟩
theorem Bd.facts{w0 W:World}{B:Nat}{op:List Bt}{out:List Rw}{big:Bool}(h:Bd w0 B op out big W):∃v0 Ar cr,W.cell? ⟨B,0,none⟩=some v0∧W.cell? ⟨B,1,none⟩=some (.slice Ar out.length cr)∧W.cell? ⟨B,2,none⟩=some (.bool big)∧k34.C W Ar out.length out∧out.length≤cr:=by
 obtain⟨vo,vr,h1,h2,h3⟩:=h.ex;obtain⟨Ar,cr,rfl⟩:=Kd.bF h3;obtain⟨c0,c1,c2,cf⟩:=aH h1;exact⟨_,Ar,cr,c0,c1,c2,(Kd.aI h3).2.2,(Kd.aI h3).2.1⟩
theorem gZ.calls(A:Option Addr)(c:Nat)(l:List S65)(r1:List S34)(r2:Int)(w:World)(hr:k65.C w A l.length l)(hcap:l.length≤c)(h:gZ.f l=some (r1,r2)):
 Calls Tryz.prog 21 #[.slice A l.length c] w fun e w'=>∃v0_:Value,e=.returned (.tuple #[v0_,.int .i64 r2])∧k34.R 34 w' w.heap.size (fun _=>True) v0_ r1∧Below w.heap.size w w':=by
 unfold gZ.f at h
 split at h
 case isFalse=>cases h
 rename_i hnm;simp only[Bool.and_eq_true]at hnm;have hP:=Lib.hid (wK hnm.1.1);have hT:=Lib.hid (wK hnm.1.2);have hR:=Lib.hid (wK hnm.2);clear hnm;replace h:=Lib.hid h;have hxl:=hr.2.1;have hnew:=Bd.new w;have hbA:Below w.heap.size w (w.alloc (.cells #[.slice none 0 0,.slice none 0 0,.bool false] 73)):=(Below.refl _ w).alloc (Nat.le_refl _) _;go_enter Tryz.func21,Tryz.ntmps21;go_wp2
 go_loopw [11] (fun vi wr=>∃(i:Nat) (op:List Bt) (out:List Rw),vi=.int .i64 i∧i≤l.length∧Hid (xI (l.drop i) op out=some (r1,r2))∧Bd w w.heap.size op out false wr∧out.length≤4096∧op.length≤60∧Below w.heap.size w wr) (fun vi _=>l.length - (intOf vi).toNat)
 case atStart=>exact⟨0,[],[],rfl,Nat.zero_le _,h,hnew,Nat.zero_le _,Nat.zero_le _,hbA⟩
 case round=>
  obtain⟨i,op,out,rfl,hi,hq,hBd,hol,hpl,hbw⟩:=hrel;clear hnew hbA h;have hq2:=hq.out;clear hq
  by_cases hlt:i<l.length
  ·rw[List.drop_eq_getElem_cons hlt]at hq2
   simp only[xI]at hq2;obtain⟨g,o,A3,c3,rfl,z0,z1,z2,z3,z4,hxa⟩:=tok_at hr i hlt;replace z0:=dG z0 hbw;replace z1:=dG z1 hbw;replace z2:=dG z2 hbw;replace z3:=dG z3 hbw;replace z4:=dG z4 hbw;generalize l[i]=t at *;obtain⟨kd,nm,dt,xa,sf⟩:=t;simp only at z0 z1 z2 z3 z4 hxa;cases hok:okT out ⟨kd,nm,dt,xa,sf⟩with
   |false=>
    rw[hok,if_neg (by decide)]at hq2;cases hq2
   |true=>
   rw[hok,if_pos rfl]at hq2;have hsm:=uj op out ⟨kd,nm,dt,xa,sf⟩ hol hpl;have hn:=bR wr #[.int .i64 kd,.string nm,.string dt,.slice A3 xa.length c3,.bool sf] 65;obtain⟨⟨p0,p1,p2,p3,p4⟩,p5⟩:=bE hn;have hbT:Below wr.heap.size wr (wr.alloc (.cells #[.int .i64 kd,.string nm,.string dt,.slice A3 xa.length c3,.bool sf] 65)):=(Below.refl _ wr).alloc (Nat.le_refl _) _;have h1:=hBd.step hbT;have zG:=hbw.trans (hbT.mono hbw.size)
   have hS:jw op out ⟨kd,nm,dt,xa,sf⟩=if kd=0 then(op,jC op out false dt)else if kd=3 then(op,kK op out false ⟨0,2,⟨#[]⟩,dt,[]⟩)
    else if kd=1 then lM op out false nm xa else if kd=2 then jo op out false nm else(op,out,false):=rfl
   have hO:okT out ⟨kd,nm,dt,xa,sf⟩=if kd=0 then szB out dt else if kd=1 then nmB nm&&decide (xa.length≤1000000)else if kd=2 then nmB nm else true:=rfl
   rw[hok]at hO;generalize jw op out ⟨kd,nm,dt,xa,sf⟩=S at *;clear hok hn
   by_cases k0:kd=0
   ·subst k0
    rw[if_pos rfl]at hS hO
    have hz:∀x∈out,x.f3.size+dt.size≤9223372036854775807:=fun x hx=>by
     have:=List.all_eq_true.1 hO.symm x hx;exact of_decide_eq_true this
    have hcall:Hid (Calls Tryz.prog 67 #[.pointer (some ⟨w.heap.size,0,none⟩),.string dt] (wr.alloc (.cells #[.int .i64 0,.string nm,.string dt,.slice A3 xa.length c3,.bool sf] 65)) fun e W'=>e=.returned (.tuple #[])∧
     Bd w w.heap.size S.1 S.2.1 S.2.2 W'∧Below w.heap.size (wr.alloc (.cells #[.int .i64 0,.string nm,.string dt,.slice A3 xa.length c3,.bool sf] 65)) W'∧gB w.heap.size (wr.alloc (.cells #[.int .i64 0,.string nm,.string dt,.slice A3 xa.length c3,.bool sf] 65)) W'):=by
     apply Lib.hid;rw[hS];exact textw_c w w.heap.size op out false dt _ h1 (by omega) (by omega) hz
    clear hS hO;obtain⟨op2,out2,big2⟩:=S;simp only at hcall hsm hq2;cases big2 with
    |true=>
     rw[if_pos rfl]at hq2;simp only[Option.some.injEq,Prod.mk.injEq]at hq2;obtain⟨rfl,rfl⟩:=hq2;clear hsm
     go_wp2_with(go_at_call 67;((with_reducible refine hcall.out.mono ?_);rintro e W2 ⟨rfl,h2,hb2,hk2⟩;obtain⟨v0,Ar,cr,q0,q1,q2,hC,hcr⟩:=h2.facts))
     go_ret2
     exact⟨_,rfl,Kd.iJ _ _ _ _ _,zG.trans hb2⟩
    |false=>
     rw[if_neg (by decide)]at hq2;replace hq2:=Lib.hid hq2;have zJ:=hsm rfl;clear hsm
     go_wp2_with(go_at_call 67;((with_reducible refine hcall.out.mono ?_);rintro e W2 ⟨rfl,h2,hb2,hk2⟩;obtain⟨v0,Ar,cr,q0,q1,q2,hC,hcr⟩:=h2.facts))
     exact⟨⟨i+1,op2,out2,rfl,by omega,hq2,h2,zJ.1,zJ.2,zG.trans hb2⟩,by simp[intOf];omega⟩
   by_cases k3:kd=3
   ·subst k3
    rw[if_neg (by decide),if_pos rfl]at hS
    have hcall:Hid (Calls Tryz.prog 68 #[.pointer (some ⟨w.heap.size,0,none⟩),.agg #[.int .i64 0,.int .i64 2,.string ⟨#[]⟩,.string dt,.slice none 0 0]] (wr.alloc (.cells #[.int .i64 3,.string nm,.string dt,.slice A3 xa.length c3,.bool sf] 65)) fun e W'=>e=.returned (.tuple #[])∧
     Bd w w.heap.size S.1 S.2.1 S.2.2 W'∧Below w.heap.size (wr.alloc (.cells #[.int .i64 3,.string nm,.string dt,.slice A3 xa.length c3,.bool sf] 65)) W'∧gB w.heap.size (wr.alloc (.cells #[.int .i64 3,.string nm,.string dt,.slice A3 xa.length c3,.bool sf] 65)) W'):=by
     apply Lib.hid;rw[hS];exact lay_c w w.heap.size op out false 0 2 ⟨#[]⟩ dt (.slice none 0 0) [] _ h1 (Kd.iJ _ _ _ _ _) (by omega) (by omega)
    clear hS hO;obtain⟨op2,out2,big2⟩:=S;simp only at hcall hsm hq2;cases big2 with
    |true=>
     rw[if_pos rfl]at hq2;simp only[Option.some.injEq,Prod.mk.injEq]at hq2;obtain⟨rfl,rfl⟩:=hq2;clear hsm
     go_wp2_with(go_at_call 68;((with_reducible refine hcall.out.mono ?_);rintro e W2 ⟨rfl,h2,hb2,hk2⟩;obtain⟨v0,Ar,cr,q0,q1,q2,hC,hcr⟩:=h2.facts))
     go_ret2
     exact⟨_,rfl,Kd.iJ _ _ _ _ _,zG.trans hb2⟩
    |false=>
     rw[if_neg (by decide)]at hq2;replace hq2:=Lib.hid hq2;have zJ:=hsm rfl;clear hsm
     go_wp2_with(go_at_call 68;((with_reducible refine hcall.out.mono ?_);rintro e W2 ⟨rfl,h2,hb2,hk2⟩;obtain⟨v0,Ar,cr,q0,q1,q2,hC,hcr⟩:=h2.facts))
     exact⟨⟨i+1,op2,out2,rfl,by omega,hq2,h2,zJ.1,zJ.2,zG.trans hb2⟩,by simp[intOf];omega⟩
   by_cases k1:kd=1
   ·subst k1
    rw[if_neg (by decide),if_neg (by decide),if_pos rfl]at hS;rw[if_neg (by decide),if_pos rfl]at hO;have hO2:=hO.symm;simp only[Bool.and_eq_true,decide_eq_true_eq]at hO2
    have hcall:Hid (Calls Tryz.prog 69 #[.pointer (some ⟨w.heap.size,0,none⟩),.agg #[.int .i64 1,.string nm,.string dt,.slice A3 xa.length c3,.bool sf]] (wr.alloc (.cells #[.int .i64 1,.string nm,.string dt,.slice A3 xa.length c3,.bool sf] 65)) fun e W'=>e=.returned (.tuple #[])∧
     Bd w w.heap.size S.1 S.2.1 S.2.2 W'∧Below w.heap.size (wr.alloc (.cells #[.int .i64 1,.string nm,.string dt,.slice A3 xa.length c3,.bool sf] 65)) W'∧gB w.heap.size (wr.alloc (.cells #[.int .i64 1,.string nm,.string dt,.slice A3 xa.length c3,.bool sf] 65)) W'):=by
     apply Lib.hid;rw[hS];exact start_c w w.heap.size op out false 1 nm dt sf A3 c3 xa _ h1 hxa hO2.2 (by omega) (by omega) (wK hO2.1) hP.out
    clear hS hO;obtain⟨op2,out2,big2⟩:=S;simp only at hcall hsm hq2;cases big2 with
    |true=>
     rw[if_pos rfl]at hq2;simp only[Option.some.injEq,Prod.mk.injEq]at hq2;obtain⟨rfl,rfl⟩:=hq2;clear hsm
     go_wp2_with(go_at_call 69;((with_reducible refine hcall.out.mono ?_);rintro e W2 ⟨rfl,h2,hb2,hk2⟩;obtain⟨v0,Ar,cr,q0,q1,q2,hC,hcr⟩:=h2.facts))
     go_ret2
     exact⟨_,rfl,Kd.iJ _ _ _ _ _,zG.trans hb2⟩
    |false=>
     rw[if_neg (by decide)]at hq2;replace hq2:=Lib.hid hq2;have zJ:=hsm rfl;clear hsm
     go_wp2_with(go_at_call 69;((with_reducible refine hcall.out.mono ?_);rintro e W2 ⟨rfl,h2,hb2,hk2⟩;obtain⟨v0,Ar,cr,q0,q1,q2,hC,hcr⟩:=h2.facts))
     exact⟨⟨i+1,op2,out2,rfl,by omega,hq2,h2,zJ.1,zJ.2,zG.trans hb2⟩,by simp[intOf];omega⟩
   by_cases k2:kd=2
   ·subst k2
    rw[if_neg (by decide),if_neg (by decide),if_neg (by decide),if_pos rfl]at hS;rw[if_neg (by decide),if_neg (by decide),if_pos rfl]at hO
    have hcall:Hid (Calls Tryz.prog 70 #[.pointer (some ⟨w.heap.size,0,none⟩),.string nm] (wr.alloc (.cells #[.int .i64 2,.string nm,.string dt,.slice A3 xa.length c3,.bool sf] 65)) fun e W'=>e=.returned (.tuple #[])∧
     Bd w w.heap.size S.1 S.2.1 S.2.2 W'∧Below w.heap.size (wr.alloc (.cells #[.int .i64 2,.string nm,.string dt,.slice A3 xa.length c3,.bool sf] 65)) W'∧gB w.heap.size (wr.alloc (.cells #[.int .i64 2,.string nm,.string dt,.slice A3 xa.length c3,.bool sf] 65)) W'):=by
     apply Lib.hid;rw[hS];exact end_c w w.heap.size op out false nm _ h1 (by omega) (by omega) (wK hO.symm) hP.out hT.out hR.out
    clear hS hO;obtain⟨op2,out2,big2⟩:=S;simp only at hcall hsm hq2;cases big2 with
    |true=>
     rw[if_pos rfl]at hq2;simp only[Option.some.injEq,Prod.mk.injEq]at hq2;obtain⟨rfl,rfl⟩:=hq2;clear hsm
     go_wp2_with(go_at_call 70;((with_reducible refine hcall.out.mono ?_);rintro e W2 ⟨rfl,h2,hb2,hk2⟩;obtain⟨v0,Ar,cr,q0,q1,q2,hC,hcr⟩:=h2.facts))
     go_ret2
     exact⟨_,rfl,Kd.iJ _ _ _ _ _,zG.trans hb2⟩
    |false=>
     rw[if_neg (by decide)]at hq2;replace hq2:=Lib.hid hq2;have zJ:=hsm rfl;clear hsm
     go_wp2_with(go_at_call 70;((with_reducible refine hcall.out.mono ?_);rintro e W2 ⟨rfl,h2,hb2,hk2⟩;obtain⟨v0,Ar,cr,q0,q1,q2,hC,hcr⟩:=h2.facts))
     exact⟨⟨i+1,op2,out2,rfl,by omega,hq2,h2,zJ.1,zJ.2,zG.trans hb2⟩,by simp[intOf];omega⟩
   rw[if_neg k0,if_neg k3,if_neg k1,if_neg k2]at hS;clear hO;subst hS;simp only at hsm hq2;rw[if_neg (by decide)]at hq2;replace hq2:=Lib.hid hq2;clear hsm;obtain⟨v0,Ar,cr,q0,q1,q2,hC,hcr⟩:=h1.facts;have e0:(kd==0)=false:=beq_eq_false_iff_ne.2 k0;have e1:(kd==1)=false:=beq_eq_false_iff_ne.2 k1;have e2:(kd==2)=false:=beq_eq_false_iff_ne.2 k2;have e3:(kd==3)=false:=beq_eq_false_iff_ne.2 k3;go_wp2;exact⟨⟨i+1,op,out,rfl,by omega,hq2,h1,hol,hpl,zG⟩,by simp[intOf];omega⟩
  ·rw[List.drop_of_length_le (by omega)]at hq2
   simp only[xI]at hq2;obtain⟨ns,hns,hq3⟩:=Option.bind_eq_some_iff.1 hq2;simp only[Option.some.injEq,Prod.mk.injEq]at hq3;obtain⟨rfl,rfl⟩:=hq3;obtain⟨v0,Ar,cr,q0,q1,q2,hC,hcr⟩:=hBd.facts;have hcall:=Lib.hid (jT.calls Ar cr out ns wr hC hcr hns);clear hns hq2
   go_wp2_with(go_at_call 41;((with_reducible refine hcall.out.mono ?_);rintro e W2 ⟨v2,rfl,hR2,hb2⟩))
   go_ret2
   exact⟨_,rfl,Kd.bM hR2 hbw.size,hbw.trans (hb2.mono hbw.size)⟩
end Go.Proofs.aj.W7
