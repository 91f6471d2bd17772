/- Lemmas and walks, part 13. -/
import Derived.Test.YtkcmghlhpbepcaaGreatDoorWI12
set_option linter.unusedVariables false
set_option linter.unusedSimpArgs false
set_option maxHeartbeats 8000000
set_option maxRecDepth 100000
namespace Go.Proofs.aj.W7
open Go.RowKit Go.Proofs YtkcmghlhpbepcaaGreatDoor ah.aD
abbrev Tk:=S65
def nmB(s:Bt):Bool:=(dZ.f 200 s).isSome&&(fF.f 200 s).isSome&&(jB.f 200 s).isSome&&(gU.f 200 s).isSome&&(gD.f s).isSome
theorem some_get{α:Type}{o:Option α}(d:α)(h:o.isSome=true):o=some (o.getD d):=by cases o<;>simp at h⊢
theorem Gs{s:Bt}(h:nmB s=true):NmOk s:=by
 unfold nmB at h;simp only[Bool.and_eq_true]at h;obtain⟨⟨⟨⟨h1,h2⟩,h3⟩,h4⟩,h5⟩:=h;exact⟨some_get [] h1,some_get [] h2,some_get false h3,some_get false h4,some_get false h5⟩
def szB(out:List Rw)(s:Bt):Bool:=out.all fun x=>decide (x.f3.size+s.size≤9223372036854775807)
def gI(op:List Bt)(out:List Rw)(t:Tk):List Bt×List Rw×Bool:=
 if t.f0=0 then(op,gT op out false t.f2)else if t.f0=3 then(op,kN op out false ⟨0,2,⟨#[]⟩,t.f2,[]⟩)
 else if t.f0=1 then kP op out false t.f1 t.f3 else if t.f0=2 then iL op out false t.f1 else(op,out,false)
def okT(out:List Rw)(t:Tk):Bool:=
 if t.f0=0 then szB out t.f2 else if t.f0=1 then nmB t.f1&&decide (t.f3.length≤1000000)else if t.f0=2 then nmB t.f1 else true
def Eo:List Tk→List Bt→List Rw→Option (List Rw×Int)
 | [],_,out=>(kD.f out).bind fun n=>some (n,0)
 |t::r,op,out=>if okT out t then(if(gI op out t).2.2 then some ([],2)else Eo r (gI op out t).1 (gI op out t).2.1)else none
def lM.f(l:List Tk):Option (List Rw×Int):=if nmB pN&&nmB tbN&&nmB trN then Eo l [] []else none
theorem vR(op:List Bt)(out:List Rw)(x:Rw)(h:(kN op out false x).2=false):(kN op out false x).1.length≤4096∧op.length<60:=by
 unfold kN at h⊢
 split at h
 ·cases h
 ·rename_i g
  rw[if_neg g];simp;omega
theorem Gt(op:List Bt)(out:List Rw)(t:Tk)(ho:out.length≤4096)(hp:op.length≤60)(h:(gI op out t).2.2=false):(gI op out t).2.1.length≤4096∧(gI op out t).1.length≤60:=by
 unfold gI at h⊢
 split
 ·rename_i g
  rw[if_pos g]at h;unfold gT at h⊢
  split
  ·exact⟨ho,hp⟩
  ·rename_i g2
   rw[if_neg g2]at h
   split
   ·simpa using⟨ho,hp⟩
   ·rename_i g3
    rw[if_neg g3]at h;exact⟨(vR _ _ _ h).1,hp⟩
 ·rename_i g
  rw[if_neg g]at h
  split
  ·rename_i g2
   rw[if_pos g2]at h;exact⟨(vR _ _ _ h).1,hp⟩
  ·rename_i g2
   rw[if_neg g2]at h
   split
   ·rename_i g3
    rw[if_pos g3]at h;unfold kP at h⊢;have hs:=yT op t.f1
    split
    ·exact⟨ho,hp⟩
    ·rename_i g4
     rw[if_neg g4]at h
     split
     ·exact⟨ho,hp⟩
     ·rename_i g5
      rw[if_neg g5]at h;have hl:=vR _ _ _ h;refine⟨hl.1,?_⟩;show(if jq t.f1=true then gH op t.f1 else gH op t.f1++[t.f1]).length≤60
      split
      ·omega
      ·rw[List.length_append]
       have:=hl.2;simp;omega
   ·rename_i g3
    rw[if_neg g3]at h
    split
    ·rename_i g4
     rw[if_pos g4]at h;unfold iL at h⊢
     split
     ·exact⟨ho,hp⟩
     ·rename_i q1
      rw[if_neg q1]at h
      split
      ·exact⟨ho,hp⟩
      ·rename_i q2
       rw[if_neg q2]at h
       split
       ·exact⟨ho,hp⟩
       ·rename_i q3
        rw[if_neg q3]at h
        split
        ·refine⟨ho,?_⟩
         show(op.take _).length≤60;rw[List.length_take];omega
        ·rename_i q4
         rw[if_neg q4]at h
         split
         ·rename_i q5
          rw[if_pos q5]at h;exact⟨(vR _ _ _ h).1,hp⟩
         ·exact⟨ho,hp⟩
    ·exact⟨ho,hp⟩
theorem tok_at{w:World}{A:Option Addr}{l:List Tk}(h:k65.C w A l.length l)(i:Nat)(hi:i<l.length):
 ∃g o A3 c3,A=some ⟨g,o,none⟩∧w.cell? ⟨g,o+i * 5,none⟩=some (.int .i64 l[i].f0)∧w.cell? ⟨g,o+i * 5+1,none⟩=some (.string l[i].f1)∧w.cell? ⟨g,o+i * 5+2,none⟩=some (.string l[i].f2)∧
  w.cell? ⟨g,o+i * 5+3,none⟩=some (.slice A3 l[i].f3.length c3)∧w.cell? ⟨g,o+i * 5+4,none⟩=some (.bool l[i].f4)∧k36.C w A3 l[i].f3.length l[i].f3:=by
 obtain⟨ad,A3,c3,e,c0,c1,c2,c3',c4,l3,g3⟩:=at_T65 h i (by omega) (by omega);obtain⟨ad0,_,_,e0,z0,_⟩:=at_T65 h 0 (by omega) (by omega);obtain rfl:ad0=ad:=Option.some.inj (e0.symm.trans e);have hs:=Kr (a:=ad0) (by simpa [Addr.add]using z0);simp only[Int.toNat_natCast]at c0 c1 c2 c3' c4;rw[hs,Kt]at c0 c1 c2 c3' c4;have er:vw l i=l[i]:=by simp[vw,hi]
 rw[er]at c0 c1 c2 c3' c4 g3;exact⟨ad0.block,ad0.off,_,_,by rw[e,←hs],c0,c1,c2,c3',c4,g3⟩
theorem Bd.new(w:World):Bd w w.heap.size [] [] false (w.alloc (.cells #[.slice none 0 0,.slice none 0 0,.bool false] 73)):=
 ⟨(Below.refl _ w).alloc (Nat.le_refl _) _,Nat.le_refl _,_,_,bP w _ _,Kd.oz _ _ _ _ _,Kd.oz _ _ _ _ _⟩
theorem Bd.facts{w0 W:World}{B:Nat}{op:List Bt}{out:List Rw}{big:Bool}(h:Bd w0 B op out big W):∃v0 Ar cr,W.cell? ⟨B,0,none⟩=some v0∧W.cell? ⟨B,1,none⟩=some (.slice Ar out.length cr)∧W.cell? ⟨B,2,none⟩=some (.bool big)∧k34.C W Ar out.length out∧out.length≤cr:=by
 obtain⟨vo,vr,h1,h2,h3⟩:=h.ex;obtain⟨Ar,cr,rfl⟩:=Kd.cK h3;obtain⟨c0,c1,c2,cf⟩:=aN h1;exact⟨_,Ar,cr,c0,c1,c2,(Kd.bg h3).2.2,(Kd.bg h3).2.1⟩
theorem lM.calls(A:Option Addr)(c:Nat)(l:List S65)(r1:List S34)(r2:Int)(w:World)(hr:k65.C w A l.length l)(hcap:l.length≤c)(h:lM.f l=some (r1,r2)):
 Calls Tryz.prog 21 #[.slice A l.length c] w fun e w'=>∃v0_:Value,e=.returned (.tuple #[v0_,.int .i64 r2])∧k34.R 34 w' w.heap.size (fun _=>True) v0_ r1∧Below w.heap.size w w':=by
 unfold lM.f at h
 split at h
 case isFalse=>cases h
 rename_i hnm;simp only[Bool.and_eq_true]at hnm;have hP:=Lib.hid (Gs hnm.1.1);have hT:=Lib.hid (Gs hnm.1.2);have hR:=Lib.hid (Gs hnm.2);clear hnm;replace h:=Lib.hid h;have hxl:=hr.2.1;have hnew:=Bd.new w;have hbA:Below w.heap.size w (w.alloc (.cells #[.slice none 0 0,.slice none 0 0,.bool false] 73)):=(Below.refl _ w).alloc (Nat.le_refl _) _;go_enter Tryz.func21,Tryz.ntmps21;go_wp2
 go_loopw [11] (fun vi wr=>∃(i:Nat) (op:List Bt) (out:List Rw),vi=.int .i64 i∧i≤l.length∧Hid (Eo (l.drop i) op out=some (r1,r2))∧Bd w w.heap.size op out false wr∧out.length≤4096∧op.length≤60∧Below w.heap.size w wr) (fun vi _=>l.length - (intOf vi).toNat)
 case atStart=>exact⟨0,[],[],rfl,Nat.zero_le _,h,hnew,Nat.zero_le _,Nat.zero_le _,hbA⟩
 case round=>
  obtain⟨i,op,out,rfl,hi,hq,hBd,hol,hpl,hbw⟩:=hrel;clear hnew hbA h;have hq2:=hq.out;clear hq
  by_cases hlt:i<l.length
  ·rw[List.drop_eq_getElem_cons hlt]at hq2
   simp only[Eo]at hq2;obtain⟨g,o,A3,c3,rfl,z0,z1,z2,z3,z4,hxa⟩:=tok_at hr i hlt;replace z0:=aV z0 hbw;replace z1:=aV z1 hbw;replace z2:=aV z2 hbw;replace z3:=aV z3 hbw;replace z4:=aV z4 hbw;generalize l[i]=t at *;obtain⟨kd,nm,dt,xa,sf⟩:=t;simp only at z0 z1 z2 z3 z4 hxa;cases hok:okT out ⟨kd,nm,dt,xa,sf⟩with
   |false=>
    rw[hok,if_neg (by decide)]at hq2;cases hq2
   |true=>
   rw[hok,if_pos rfl]at hq2;have hsm:=Gt op out ⟨kd,nm,dt,xa,sf⟩ hol hpl;have hn:=bP wr #[.int .i64 kd,.string nm,.string dt,.slice A3 xa.length c3,.bool sf] 65;obtain⟨⟨p0,p1,p2,p3,p4⟩,p5⟩:=aW hn;have hbT:Below wr.heap.size wr (wr.alloc (.cells #[.int .i64 kd,.string nm,.string dt,.slice A3 xa.length c3,.bool sf] 65)):=(Below.refl _ wr).alloc (Nat.le_refl _) _;have h1:=hBd.step hbT;have Gn:=hbw.trans (hbT.mono hbw.size)
   have hS:gI op out ⟨kd,nm,dt,xa,sf⟩=if kd=0 then(op,gT op out false dt)else if kd=3 then(op,kN op out false ⟨0,2,⟨#[]⟩,dt,[]⟩)
    else if kd=1 then kP op out false nm xa else if kd=2 then iL op out false nm else(op,out,false):=rfl
   have hO:okT out ⟨kd,nm,dt,xa,sf⟩=if kd=0 then szB out dt else if kd=1 then nmB nm&&decide (xa.length≤1000000)else if kd=2 then nmB nm else true:=rfl
   rw[hok]at hO;generalize gI op out ⟨kd,nm,dt,xa,sf⟩=S at *;clear hok hn
   by_cases k0:kd=0
   ·subst k0
    rw[if_pos rfl]at hS hO
    have hz:∀x∈out,x.f3.size+dt.size≤9223372036854775807:=fun x hx=>by
     have:=List.all_eq_true.1 hO.symm x hx;exact of_decide_eq_true this
    have hcall:Hid (Calls Tryz.prog 67 #[.pointer (some ⟨w.heap.size,0,none⟩),.string dt] (wr.alloc (.cells #[.int .i64 0,.string nm,.string dt,.slice A3 xa.length c3,.bool sf] 65)) fun e W'=>e=.returned (.tuple #[])∧
     Bd w w.heap.size S.1 S.2.1 S.2.2 W'∧Below w.heap.size (wr.alloc (.cells #[.int .i64 0,.string nm,.string dt,.slice A3 xa.length c3,.bool sf] 65)) W'∧iQ w.heap.size (wr.alloc (.cells #[.int .i64 0,.string nm,.string dt,.slice A3 xa.length c3,.bool sf] 65)) W'):=by
     apply Lib.hid;rw[hS];exact textw_c w w.heap.size op out false dt _ h1 (by omega) (by omega) hz
    clear hS hO;obtain⟨op2,out2,big2⟩:=S;simp only at hcall hsm hq2;cases big2 with
    |true=>
     rw[if_pos rfl]at hq2;simp only[Option.some.injEq,Prod.mk.injEq]at hq2;obtain⟨rfl,rfl⟩:=hq2;clear hsm
     go_wp2_with(go_at_call 67;((with_reducible refine hcall.out.mono ?_);rintro e W2 ⟨rfl,h2,hb2,hk2⟩;obtain⟨v0,Ar,cr,q0,q1,q2,hC,hcr⟩:=h2.facts))
     go_ret2
     exact⟨_,rfl,Kd.oz _ _ _ _ _,Gn.trans hb2⟩
    |false=>
     rw[if_neg (by decide)]at hq2;replace hq2:=Lib.hid hq2;have Gu:=hsm rfl;clear hsm
     go_wp2_with(go_at_call 67;((with_reducible refine hcall.out.mono ?_);rintro e W2 ⟨rfl,h2,hb2,hk2⟩;obtain⟨v0,Ar,cr,q0,q1,q2,hC,hcr⟩:=h2.facts))
     exact⟨⟨i+1,op2,out2,rfl,by omega,hq2,h2,Gu.1,Gu.2,Gn.trans hb2⟩,by simp[intOf];omega⟩
   by_cases k3:kd=3
   ·subst k3
    rw[if_neg (by decide),if_pos rfl]at hS
    have hcall:Hid (Calls Tryz.prog 68 #[.pointer (some ⟨w.heap.size,0,none⟩),.agg #[.int .i64 0,.int .i64 2,.string ⟨#[]⟩,.string dt,.slice none 0 0]] (wr.alloc (.cells #[.int .i64 3,.string nm,.string dt,.slice A3 xa.length c3,.bool sf] 65)) fun e W'=>e=.returned (.tuple #[])∧
     Bd w w.heap.size S.1 S.2.1 S.2.2 W'∧Below w.heap.size (wr.alloc (.cells #[.int .i64 3,.string nm,.string dt,.slice A3 xa.length c3,.bool sf] 65)) W'∧iQ w.heap.size (wr.alloc (.cells #[.int .i64 3,.string nm,.string dt,.slice A3 xa.length c3,.bool sf] 65)) W'):=by
     apply Lib.hid;rw[hS];exact lay_c w w.heap.size op out false 0 2 ⟨#[]⟩ dt (.slice none 0 0) [] _ h1 (Kd.oz _ _ _ _ _) (by omega) (by omega)
    clear hS hO;obtain⟨op2,out2,big2⟩:=S;simp only at hcall hsm hq2;cases big2 with
    |true=>
     rw[if_pos rfl]at hq2;simp only[Option.some.injEq,Prod.mk.injEq]at hq2;obtain⟨rfl,rfl⟩:=hq2;clear hsm
     go_wp2_with(go_at_call 68;((with_reducible refine hcall.out.mono ?_);rintro e W2 ⟨rfl,h2,hb2,hk2⟩;obtain⟨v0,Ar,cr,q0,q1,q2,hC,hcr⟩:=h2.facts))
     go_ret2
     exact⟨_,rfl,Kd.oz _ _ _ _ _,Gn.trans hb2⟩
    |false=>
     rw[if_neg (by decide)]at hq2;replace hq2:=Lib.hid hq2;have Gu:=hsm rfl;clear hsm
     go_wp2_with(go_at_call 68;((with_reducible refine hcall.out.mono ?_);rintro e W2 ⟨rfl,h2,hb2,hk2⟩;obtain⟨v0,Ar,cr,q0,q1,q2,hC,hcr⟩:=h2.facts))
     exact⟨⟨i+1,op2,out2,rfl,by omega,hq2,h2,Gu.1,Gu.2,Gn.trans hb2⟩,by simp[intOf];omega⟩
   by_cases k1:kd=1
   ·subst k1
    rw[if_neg (by decide),if_neg (by decide),if_pos rfl]at hS;rw[if_neg (by decide),if_pos rfl]at hO;have hO2:=hO.symm;simp only[Bool.and_eq_true,decide_eq_true_eq]at hO2
    have hcall:Hid (Calls Tryz.prog 69 #[.pointer (some ⟨w.heap.size,0,none⟩),.agg #[.int .i64 1,.string nm,.string dt,.slice A3 xa.length c3,.bool sf]] (wr.alloc (.cells #[.int .i64 1,.string nm,.string dt,.slice A3 xa.length c3,.bool sf] 65)) fun e W'=>e=.returned (.tuple #[])∧
     Bd w w.heap.size S.1 S.2.1 S.2.2 W'∧Below w.heap.size (wr.alloc (.cells #[.int .i64 1,.string nm,.string dt,.slice A3 xa.length c3,.bool sf] 65)) W'∧iQ w.heap.size (wr.alloc (.cells #[.int .i64 1,.string nm,.string dt,.slice A3 xa.length c3,.bool sf] 65)) W'):=by
     apply Lib.hid;rw[hS];exact start_c w w.heap.size op out false 1 nm dt sf A3 c3 xa _ h1 hxa hO2.2 (by omega) (by omega) (Gs hO2.1) hP.out
    clear hS hO;obtain⟨op2,out2,big2⟩:=S;simp only at hcall hsm hq2;cases big2 with
    |true=>
     rw[if_pos rfl]at hq2;simp only[Option.some.injEq,Prod.mk.injEq]at hq2;obtain⟨rfl,rfl⟩:=hq2;clear hsm
     go_wp2_with(go_at_call 69;((with_reducible refine hcall.out.mono ?_);rintro e W2 ⟨rfl,h2,hb2,hk2⟩;obtain⟨v0,Ar,cr,q0,q1,q2,hC,hcr⟩:=h2.facts))
     go_ret2
     exact⟨_,rfl,Kd.oz _ _ _ _ _,Gn.trans hb2⟩
    |false=>
     rw[if_neg (by decide)]at hq2;replace hq2:=Lib.hid hq2;have Gu:=hsm rfl;clear hsm
     go_wp2_with(go_at_call 69;((with_reducible refine hcall.out.mono ?_);rintro e W2 ⟨rfl,h2,hb2,hk2⟩;obtain⟨v0,Ar,cr,q0,q1,q2,hC,hcr⟩:=h2.facts))
     exact⟨⟨i+1,op2,out2,rfl,by omega,hq2,h2,Gu.1,Gu.2,Gn.trans hb2⟩,by simp[intOf];omega⟩
   by_cases k2:kd=2
   ·subst k2
    rw[if_neg (by decide),if_neg (by decide),if_neg (by decide),if_pos rfl]at hS;rw[if_neg (by decide),if_neg (by decide),if_pos rfl]at hO
    have hcall:Hid (Calls Tryz.prog 70 #[.pointer (some ⟨w.heap.size,0,none⟩),.string nm] (wr.alloc (.cells #[.int .i64 2,.string nm,.string dt,.slice A3 xa.length c3,.bool sf] 65)) fun e W'=>e=.returned (.tuple #[])∧
     Bd w w.heap.size S.1 S.2.1 S.2.2 W'∧Below w.heap.size (wr.alloc (.cells #[.int .i64 2,.string nm,.string dt,.slice A3 xa.length c3,.bool sf] 65)) W'∧iQ w.heap.size (wr.alloc (.cells #[.int .i64 2,.string nm,.string dt,.slice A3 xa.length c3,.bool sf] 65)) W'):=by
     apply Lib.hid;rw[hS];exact end_c w w.heap.size op out false nm _ h1 (by omega) (by omega) (Gs hO.symm) hP.out hT.out hR.out
    clear hS hO;obtain⟨op2,out2,big2⟩:=S;simp only at hcall hsm hq2;cases big2 with
    |true=>
     rw[if_pos rfl]at hq2;simp only[Option.some.injEq,Prod.mk.injEq]at hq2;obtain⟨rfl,rfl⟩:=hq2;clear hsm
     go_wp2_with(go_at_call 70;((with_reducible refine hcall.out.mono ?_);rintro e W2 ⟨rfl,h2,hb2,hk2⟩;obtain⟨v0,Ar,cr,q0,q1,q2,hC,hcr⟩:=h2.facts))
     go_ret2
     exact⟨_,rfl,Kd.oz _ _ _ _ _,Gn.trans hb2⟩
    |false=>
     rw[if_neg (by decide)]at hq2;replace hq2:=Lib.hid hq2;have Gu:=hsm rfl;clear hsm
     go_wp2_with(go_at_call 70;((with_reducible refine hcall.out.mono ?_);rintro e W2 ⟨rfl,h2,hb2,hk2⟩;obtain⟨v0,Ar,cr,q0,q1,q2,hC,hcr⟩:=h2.facts))
     exact⟨⟨i+1,op2,out2,rfl,by omega,hq2,h2,Gu.1,Gu.2,Gn.trans hb2⟩,by simp[intOf];omega⟩
   rw[if_neg k0,if_neg k3,if_neg k1,if_neg k2]at hS;clear hO;subst hS;simp only at hsm hq2;rw[if_neg (by decide)]at hq2;replace hq2:=Lib.hid hq2;clear hsm;obtain⟨v0,Ar,cr,q0,q1,q2,hC,hcr⟩:=h1.facts;have e0:(kd==0)=false:=beq_eq_false_iff_ne.2 k0;have e1:(kd==1)=false:=beq_eq_false_iff_ne.2 k1;have e2:(kd==2)=false:=beq_eq_false_iff_ne.2 k2;have e3:(kd==3)=false:=beq_eq_false_iff_ne.2 k3;go_wp2;exact⟨⟨i+1,op,out,rfl,by omega,hq2,h1,hol,hpl,Gn⟩,by simp[intOf];omega⟩
  ·rw[List.drop_of_length_le (by omega)]at hq2
   simp only[Eo]at hq2;obtain⟨ns,hns,hq3⟩:=Option.bind_eq_some_iff.1 hq2;simp only[Option.some.injEq,Prod.mk.injEq]at hq3;obtain⟨rfl,rfl⟩:=hq3;obtain⟨v0,Ar,cr,q0,q1,q2,hC,hcr⟩:=hBd.facts;have hcall:=Lib.hid (kD.calls Ar cr out ns wr hC hcr hns);clear hns hq2
   go_wp2_with(go_at_call 41;((with_reducible refine hcall.out.mono ?_);rintro e W2 ⟨v2,rfl,hR2,hb2⟩))
   go_ret2
   exact⟨_,rfl,Kd.dU hR2 hbw.size,hbw.trans (hb2.mono hbw.size)⟩
end Go.Proofs.aj.W7
namespace Go.Proofs.aj.W7
open Go.RowKit Go.Proofs aj YtkcmghlhpbepcaaGreatDoor ah.aD
def goneT:List Bt:=[⟨#[98,111,100,121]⟩,⟨#[102,114,97,109,101,115,101,116]⟩,⟨#[104,101,97,100]⟩,⟨#[104,116,109,108]⟩]
def voidT:List Bt:=[[97,114,101,97],[98,97,115,101],[98,114],[99,111,108],[101,109,98,101,100],[104,114],[105,109,103],[105,110,112,117,116],[108,105,110,107],[109,101,116,97],[112,97,114,97,109],[115,111,117,114,99,101],[116,114,97,99,107],[119,98,114]].map fun l=>⟨l.toArray⟩
theorem TB(s:Bt)(k:Nat)(hk:20≤k):jB.f k s=some (pW goneT s):=by
 unfold jB.f;rw[uX _ _ _ (by simp) (by simp;omega),Option.bind_some];rfl
theorem TD(s:Bt)(k:Nat)(hk:20≤k):gU.f k s=some (pW voidT s):=by
 unfold gU.f;rw[uX _ _ _ (by simp) (by simp;omega),Option.bind_some];rfl
theorem CZ(s:Bt):nmB s=true:=by
 unfold nmB;obtain⟨c,hc,-⟩:=OG s 200 (by omega);obtain⟨w,hw,-⟩:=Qt s 200 (by omega);obtain⟨p,hp⟩:=par_some s;rw[hc,hw,hp,TB _ _ (by omega),TD _ _ (by omega)];rfl
theorem goneL_eq(s:Bt):mo s=pW goneT s:=by unfold mo;rw[TB _ _ (by omega)];rfl
theorem Ip(s:Bt):jq s=pW voidT s:=by unfold jq;rw[TD _ _ (by omega)];rfl
def jQ:List Tk→List Bt→List Rw→Option (List Rw)
 | [],_,out=>some out
 |t::r,op,out=>if(gI op out t).2.2 then none else jQ r (gI op out t).1 (gI op out t).2.1
inductive Grown (t:Tk) (out:List Rw):List Rw→Prop
 |same:Grown t out out
 |app (x:Rw) (h0:0≤x.f0) (h1:x.f0<60) (hd:yK out.getLast? x=false) (hs:x.f3.size≤t.f2.size) (ha:x.f4.length≤t.f3.length):Grown t out (out++[x])
 |text (pre:List Rw) (y:Rw) (he:out=pre++[y]) (hy:y.f1=1) (hn:t.f2.data.toList≠[]):Grown t out (pre++[vQ y t.f2])
theorem JW:∀(l out:List At),(qC out l).length≤out.length+l.length
 | [],out=>by simp[qC]
 |a::r,out=>by
  simp only[qC];have:=JW r (if BJ out a then out else out++[a])
  split at this
  ·rename_i h
   rw[if_pos h];simp only[List.length_cons];omega
  ·rename_i h
   rw[if_neg h];simp only[List.length_append,List.length_cons,List.length_nil]at this⊢;omega
theorem zR(t:Tk)(op:List Bt)(out:List Rw)(x:Rw)(h:(kN op out false x).2=false)(hd:∀d,yK out.getLast? ⟨op.length,x.f1,x.f2,x.f3,d⟩=false)(hs:x.f3.size≤t.f2.size)(ha:x.f4.length≤t.f3.length):Grown t out (kN op out false x).1:=by
 have hl:=vR op out x h;unfold kN at h⊢
 split
 ·rename_i g
  rw[if_pos g]at h;cases h
 ·exact .app _ (by simp) (by simp;omega) (hd _) hs ha
theorem Mj(p:Option Rw)(x:Rw)(h:x.f1≠1):yK p x=false:=by simp[yK,h]
theorem Iq(op:List Bt)(out:List Rw)(t:Tk)(h:(gI op out t).2.2=false):Grown t out (gI op out t).2.1:=by
 unfold gI at h⊢
 by_cases k0:t.f0=0
 ·rw[if_pos k0]at h⊢
  unfold gT at h⊢
  by_cases e:t.f2.data.toList=[]
  ·rw[if_pos e];exact .same
  rw[if_neg e]at h⊢;cases hj:nu op out with
  |true=>
   rw[if_pos rfl];unfold nu at hj;cases hL:out.getLast? with
   |none=>rw[hL]at hj;cases hj
   |some y=>
    rw[hL]at hj;simp only[Bool.and_eq_true,decide_eq_true_eq]at hj;have hpos:0<out.length:=by cases out with|nil=>cases hL|cons a l=>simp
    have hr:=CX out hpos;rw[hL]at hr;rw[←Option.some.inj hr];obtain⟨pre,rfl⟩:=List.getLast?_eq_some_iff.1 hL
    have:(pre++[y]).set ((pre++[y]).length - 1) (vQ y t.f2)=pre++[vQ y t.f2]:=by
     simp
    show Grown t _ ((pre++[y]).set ((pre++[y]).length - 1) (vQ y t.f2));rw[this];exact .text pre y rfl hj.1 e
  |false=>
   rw[hj]at h;rw[if_neg (by decide)]at h⊢;refine zR t op out ⟨0,1,⟨#[]⟩,t.f2,[]⟩ h ?_ (Nat.le_refl _) (Nat.zero_le _);intro d;unfold nu at hj;simp only[yK,e,decide_true,decide_false,Bool.true_and,Bool.false_or];exact hj
 rw[if_neg k0]at h⊢
 by_cases k3:t.f0=3
 ·rw[if_pos k3]at h⊢
  exact zR t op out ⟨0,2,⟨#[]⟩,t.f2,[]⟩ h (fun d=>Mj _ _ (by simp)) (Nat.le_refl _) (Nat.zero_le _)
 rw[if_neg k3]at h⊢
 by_cases k1:t.f0=1
 ·rw[if_pos k1]at h⊢
  unfold kP at h⊢
  by_cases e1:t.f1.data.toList=[]
  ·rw[if_pos e1];exact .same
  rw[if_neg e1]at h⊢
  by_cases e2:mo t.f1=true
  ·rw[if_pos e2];exact .same
  rw[if_neg e2]at h⊢;refine zR t _ out ⟨0,0,t.f1,⟨#[]⟩,ny t.f3⟩ h (fun d=>Mj _ _ (by simp)) (Nat.zero_le _) ?_;have:=JW t.f3 [];simpa [ny]using this
 rw[if_neg k1]at h⊢
 by_cases k2:t.f0=2
 ·rw[if_pos k2]at h⊢
  unfold iL at h⊢
  by_cases e1:t.f1.data.toList=[]
  ·rw[if_pos e1];exact .same
  rw[if_neg e1]at h⊢
  by_cases e2:mo t.f1=true
  ·rw[if_pos e2];exact .same
  rw[if_neg e2]at h⊢
  by_cases e3:jq t.f1=true
  ·rw[if_pos e3];exact .same
  rw[if_neg e3]at h⊢
  by_cases e4:0≤dS op [t.f1] (zZ t.f1) op.length
  ·rw[if_pos e4];exact .same
  rw[if_neg e4]at h⊢
  by_cases e5:t.f1.data.toList=[112]
  ·rw[if_pos e5]at h⊢
   exact zR t op out ⟨0,0,t.f1,⟨#[]⟩,[]⟩ h (fun d=>Mj _ _ (by simp)) (Nat.zero_le _) (Nat.zero_le _)
  ·rw[if_neg e5];exact .same
 rw[if_neg k2];exact .same
structure Built (op:List Bt) (out:List Rw) (S:Nat):Prop where
 len:out.length≤4096
 open_:op.length≤60
 depth:∀x∈out,0≤x.f0∧x.f0<60
 normal:Bh none out=true
 size:∀x∈out,x.f3.size≤S
 attrs:∀x∈out,x.f4.length≤1000000
theorem JX:Built [] [] 0:=⟨by simp,by simp,by simp,rfl,by simp,by simp⟩
theorem ba_nil(a:Bt):a.data.toList=[]↔a.size=0:=by
 show _↔a.data.size=0;rw[←Array.length_toList,List.length_eq_zero_iff]
theorem Qx{op:List Bt}{out:List Rw}{S:Nat}(hB:Built op out S)(t:Tk)(ht:t.f3.length≤1000000)(h:(gI op out t).2.2=false):Built (gI op out t).1 (gI op out t).2.1 (S+t.f2.size):=by
 have hs:=Gt op out t hB.len hB.open_ h;have hg:=Iq op out t h;generalize gI op out t=R at *;obtain⟨op2,out2,big⟩:=R;simp only at hs hg h⊢;cases hg with
 |same=>exact⟨hs.1,hs.2,hB.depth,hB.normal,fun x hx=>by have:=hB.size x hx;omega,hB.attrs⟩
 |app x h0 h1 hd hz ha=>
  refine⟨hs.1,hs.2,?_,?_,?_,?_⟩
  ·intro y hy
   rcases List.mem_append.1 hy with hy|hy
   ·exact hB.depth y hy
   ·obtain rfl:=List.mem_singleton.1 hy
    exact⟨h0,h1⟩
  ·rw[CY,hB.normal]
   simp[Bh,hd]
  ·intro y hy
   rcases List.mem_append.1 hy with hy|hy
   ·have:=hB.size y hy;omega
   ·obtain rfl:=List.mem_singleton.1 hy
    omega
  ·intro y hy
   rcases List.mem_append.1 hy with hy|hy
   ·exact hB.attrs y hy
   ·obtain rfl:=List.mem_singleton.1 hy
    omega
 |text pre y he hy hn=>
  subst he;have hy0:=hB.depth y (by simp);have hy1:=hB.size y (by simp);have hy2:=hB.attrs y (by simp);refine⟨hs.1,hs.2,?_,?_,?_,?_⟩
  ·intro x hx
   rcases List.mem_append.1 hx with hx|hx
   ·exact hB.depth x (by simp[hx])
   ·obtain rfl:=List.mem_singleton.1 hx
    exact hy0
  ·have:=hB.normal
   rw[CY]at this⊢;simp only[Bool.and_eq_true]at this⊢;refine⟨this.1,?_⟩;have h2:=this.2;simp only[Bh,Bool.and_true,Bool.not_eq_true']at h2⊢;simp only[yK,hy,vQ,decide_true,Bool.true_and,Bool.or_eq_false_iff,decide_eq_false_iff_not]at h2⊢;refine⟨?_,h2.2⟩;rw[ba_nil,ByteArray.size_append];rw[Ne,ba_nil]at hn;omega
  ·intro x hx
   rcases List.mem_append.1 hx with hx|hx
   ·have:=hB.size x (by simp[hx]);omega
   ·obtain rfl:=List.mem_singleton.1 hx
    show(y.f3++t.f2).size≤_;rw[ByteArray.size_append];omega
  ·intro x hx
   rcases List.mem_append.1 hx with hx|hx
   ·exact hB.attrs x (by simp[hx])
   ·obtain rfl:=List.mem_singleton.1 hx
    exact hy2
def oL(l:List Tk):Nat:=(l.map fun t=>t.f2.size).sum
theorem D6:∀(l:List Tk) (op:List Bt) (out:List Rw) (S:Nat),Built op out S→S+oL l≤9223372036854775807→(∀t∈l,t.f3.length≤1000000)→
 Eo l op out=some (match jQ l op out with|none=>([],2)|some o=>(o,0))∧∀o,jQ l op out=some o→∃op2,Built op2 o (S+oL l)
 | [],op,out,S,hB,_,_=>by
   simp only[Eo,jQ];rw[UK out (by have:=hB.len;omega) (fun x hx=>by have:=hB.depth x hx;omega) hB.attrs hB.normal,Option.bind_some];refine⟨rfl,fun o ho=>?_⟩;obtain rfl:=Option.some.inj ho;exact⟨op,hB⟩
 |t::r,op,out,S,hB,hS,ha=>by
  have e:oL (t::r)=t.f2.size+oL r:=by simp[oL]
  rw[e]at hS⊢
  have hok:okT out t=true:=by
   unfold okT
   split
   ·unfold szB
    rw[List.all_eq_true];intro x hx;have:=hB.size x hx;exact decide_eq_true (by omega)
   ·split
    ·rw[CZ,decide_eq_true (ha t (by simp))]
     rfl
    ·split
     ·exact CZ _
     ·rfl
  simp only[Eo,jQ];rw[if_pos hok];cases hb:(gI op out t).2.2 with
  |true=>exact⟨rfl,fun o ho=>by cases ho⟩
  |false=>
   rw[if_neg (by decide),if_neg (by decide)];obtain⟨h1,h2⟩:=D6 r _ _ _ (Qx hB t (ha t (by simp)) hb) (by omega) (fun x hx=>ha x (List.mem_cons_of_mem _ hx));refine⟨h1,fun o ho=>?_⟩;obtain⟨op2,h3⟩:=h2 o ho;exact⟨op2,by rw[←Nat.add_assoc];exact h3⟩
theorem tree_f(l:List Tk)(hS:oL l≤9223372036854775807)(ha:∀t∈l,t.f3.length≤1000000):
 lM.f l=some (match jQ l [] []with|none=>([],2)|some o=>(o,0)):=by
 unfold lM.f;rw[CZ,CZ,CZ];exact(D6 l [] [] 0 JX (by omega) ha).1
theorem Qy(l:List Tk)(hS:oL l≤9223372036854775807)(ha:∀t∈l,t.f3.length≤1000000)(o:List Rw)(h:jQ l [] []=some o):∃op,Built op o (oL l):=by
 obtain⟨op,hb⟩:=(D6 l [] [] 0 JX (by omega) ha).2 o h;exact⟨op,by rwa [Nat.zero_add]at hb⟩
theorem Ir(M:Nat):∀(l:List Tk) (op:List Bt) (out:List Rw),(∀t∈l,t.f3.length≤M)→(∀x∈out,x.f4.length≤M)→∀o,jQ l op out=some o→∀x∈o,x.f4.length≤M
 | [],op,out,_,h,o,ho=>by
   obtain rfl:=Option.some.inj ho;exact h
 |t::r,op,out,hl,h,o,ho=>by
  simp only[jQ]at ho;cases hb:(gI op out t).2.2 with
  |true=>rw[hb,if_pos rfl]at ho;cases ho
  |false=>
   rw[hb,if_neg (by decide)]at ho;have hg:=Iq op out t hb;refine Ir M r _ _ (fun x hx=>hl x (List.mem_cons_of_mem _ hx)) ?_ o ho;have ht:=hl t (by simp);generalize (gI op out t).2.1=out2 at *;cases hg with
   |same=>exact h
   |app x h0 h1 hd hs ha=>
    intro y hy
    rcases List.mem_append.1 hy with hy|hy
    ·exact h y hy
    ·obtain rfl:=List.mem_singleton.1 hy
     omega
   |text pre y he hy hn=>
    subst he;intro z hz
    rcases List.mem_append.1 hz with hz|hz
    ·exact h z (by simp[hz])
    ·obtain rfl:=List.mem_singleton.1 hz
     exact h y (by simp)
theorem OP(l:List Tk)(hS:oL l≤9223372036854775807)(M:Nat)(ha:∀t∈l,t.f3.length≤M∧M≤1000000)(o:List Rw)(h:jQ l [] []=some o):∃op,Built op o (oL l)∧∀x∈o,x.f4.length≤M:=by
 obtain⟨op,hb⟩:=Qy l hS (fun t ht=>by have:=ha t ht;omega) o h;exact⟨op,hb,Ir M l [] [] (fun t ht=>(ha t ht).1) (by simp) o h⟩
def rT(s:Bt)(l:List Bt):Bool:=!(parL s&&decide (0≤dS l [pN] (fJ pN) l.length))&&decide (dS l (iG s) (fJ s) l.length<0)
theorem Im(xs a b:List Bt)(j:Nat):∀k,0≤dS (xs.drop j) a b k→0≤dS xs a b (j+k)
 |0,h=>by simp[dS]at h
 |k+1,h=>by
  have e:(xs.drop j).getD k ⟨#[]⟩=xs.getD (j+k) ⟨#[]⟩:=by simp[List.getD_eq_getElem?_getD,List.getElem?_drop]
  rw[show j+(k+1)=(j+k)+1 from by omega];simp only[dS]at h⊢;rw[e]at h
  split
  ·omega
  ·rename_i h1
   rw[if_neg h1]at h
   split
   ·rename_i h2
    rw[if_pos h2]at h;omega
   ·rename_i h2
    rw[if_neg h2]at h;exact Im xs a b j k h
theorem EJ(xs a b:List Bt)(j:Nat)(hj:j≤xs.length)(h:0≤dS (xs.drop j) a b (xs.drop j).length):0≤dS xs a b xs.length:=by
 have:=Im xs a b j _ h;rw[List.length_drop]at this
 rwa [show j+(xs.length - j)=xs.length from by omega]at this
theorem Qv(s:Bt)(l:List Bt)(j:Nat)(hj:j≤l.length)(h:rT s l=true):rT s (l.drop j)=true:=by
 unfold rT at h⊢;simp only[Bool.and_eq_true,Bool.not_eq_true',Bool.and_eq_false_iff,decide_eq_true_eq,decide_eq_false_iff_not]at h⊢;refine⟨?_,?_⟩
 ·rcases h.1 with h1|h1
  ·exact Or.inl h1
  ·exact Or.inr (fun g=>h1 (EJ l _ _ j hj g))
 ·by_cases g:0≤dS (l.drop j) (iG s) (fJ s) (l.drop j).length
  ·have:=EJ l _ _ j hj g
   omega
  ·omega
end Go.Proofs.aj.W7
namespace Go.Proofs.aj.W7
open Go.RowKit ah.aD ah.bH ah.bU
attribute [local go_sem] dB dD dW dX bZ cu dF dG
mutual
def jX.l0:Nat→List (S36)→List (S36)→Int→Option ((List (S36)))
 |0,_,_,_=>none
 |k+1,x0,x3,x4=>if x4<(x0.length:Int)then(jX.l1 k x0 x3 x4 true 0)else(some x3)
def jX.l1:Nat→List (S36)→List (S36)→Int→Bool→Int→Option ((List (S36)))
 |0,_,_,_,_,_=>none
 |k+1,x0,x3,x4,x5,x6=>if x6<x4 then(if x5=true then(if 0≤x6 then(if x6<(x0.length:Int)then(if 0≤x4 then(if x4<(x0.length:Int)then(jX.l1 k x0 x3 x4 (((bD x0 x6).f0).toList !=((bD x0 x4).f0).toList) (wrap64 (x6+1)))else(none))else(none))else(none))else(none))else(jX.l1 k x0 x3 x4 false (wrap64 (x6+1))))else(if x5=true then(if 0≤x4 then(if x4<(x0.length:Int)then(if x3.length<4398046511104 then(jX.l0 k x0 (x3++[(⟨(bD x0 x4).f0,(bD x0 x4).f1⟩:S36)]) (wrap64 (x4+1)))else(none))else(none))else(none))else(jX.l0 k x0 x3 (wrap64 (x4+1))))
end
def BR.f:Option (List Bt):=some (([(⟨#[97,114,101,97]⟩:Bt),(⟨#[98,97,115,101]⟩:Bt),(⟨#[98,114]⟩:Bt),(⟨#[99,111,108]⟩:Bt),(⟨#[101,109,98,101,100]⟩:Bt),(⟨#[104,114]⟩:Bt),(⟨#[105,109,103]⟩:Bt),(⟨#[105,110,112,117,116]⟩:Bt),(⟨#[108,105,110,107]⟩:Bt),(⟨#[109,101,116,97]⟩:Bt),(⟨#[112,97,114,97,109]⟩:Bt),(⟨#[115,111,117,114,99,101]⟩:Bt),(⟨#[116,114,97,99,107]⟩:Bt),(⟨#[119,98,114]⟩:Bt)] :List Bt))
end Go.Proofs.aj.W7
namespace Go.Proofs.aj.W7
open Go.RowKit Go.Proofs aj YtkcmghlhpbepcaaGreatDoor ah.aD
theorem TA(a b:At):eqN a b=true↔a.f0.toList=b.f0.toList:=by unfold eqN;exact beq_iff_eq
theorem tabs(s:Bt):pW tabR s=Lib.containsS (iG tbN) s:=by
 rw[←Il];have e:iG tbN=[⟨#[116,98,111,100,121]⟩,⟨#[116,100]⟩,⟨#[116,102,111,111,116]⟩,⟨#[116,104]⟩,⟨#[116,104,101,97,100]⟩,⟨#[116,114]⟩]:=by kernel_rfl
 rw[e];show pW ((iN.f).getD []) s=_;simp only[iN.f,Option.getD_some,pW,List.any_cons,List.any_nil,Bool.or_false]
 try ac_rfl
def distinct(l:List At):Prop:=∀i j:Nat,(hi:i<l.length)→(hj:j<l.length)→l[i].f0.toList=l[j].f0.toList→i=j
structure RowOk (x:Rw):Prop where
 kind:x.f1=0∨x.f1=1∨x.f1=2
 el:x.f1=0→x.f2.data.toList≠[]∧x.f3.data.toList=[]∧distinct x.f4
 no:x.f1≠0→x.f2.data.toList=[]∧x.f4=[]
structure Stands (st:List Bt) (x:Rw):Prop where
 lo:0≤x.f0
 hi:x.f0≤st.length
 ok:RowOk x
 void:∀n,(st.take x.f0.toNat).getLast? =some n→jq n=false
 nest:x.f1=0→rT x.f2 (st.take x.f0.toNat)=true∧mo x.f2=false
def after(st:List Bt)(x:Rw):List Bt:=if x.f1=0 then st.take x.f0.toNat++[x.f2]else st.take x.f0.toNat
inductive Laws:List Rw→List Bt→Prop
 |nil:Laws [] []
 |snoc (out:List Rw) (st:List Bt) (x:Rw) (h:Laws out st) (hx:Stands st x):Laws (out++[x]) (after st x)
def Chain(op:List Bt):Prop:=∀i:Nat,(h:i<op.length)→rT op[i] (op.take i)=true∧jq op[i]=false
theorem Chain.take{op:List Bt}(h:Chain op)(n:Nat):Chain (op.take n):=by
 intro i hi;rw[List.length_take]at hi;have:=h i (by omega);rw[List.getElem_take,List.take_take,Nat.min_eq_left (by omega)];exact this
theorem Chain.push{op:List Bt}(h:Chain op){n:Bt}(hn:rT n op=true)(hv:jq n=false):Chain (op++[n]):=by
 intro i hi;rw[List.length_append]at hi;simp only[List.length_cons,List.length_nil]at hi
 rcases Nat.lt_or_ge i op.length with e|e
 ·rw[List.getElem_append_left e,List.take_append_of_le_length (by omega)]
  exact h i e
 ·obtain rfl:i=op.length:=by omega
  rw[List.getElem_append_right (Nat.le_refl _),List.take_append_of_le_length (Nat.le_refl _),List.take_length];simpa using⟨hn,hv⟩
structure Fits (op:List Bt) (out:List Rw) (st:List Bt):Prop where
 laws:Laws out st
 pre:op=st.take op.length
 chain:Chain op
theorem Fits.len{op:List Bt}{out:List Rw}{st:List Bt}(h:Fits op out st):op.length≤st.length:=by
 have:=congrArg List.length h.pre;rw[List.length_take]at this;omega
theorem Fits.take{op:List Bt}{out:List Rw}{st:List Bt}(h:Fits op out st)(n:Nat):Fits (op.take n) out st:=by
 refine⟨h.laws,?_,h.chain.take n⟩;have hl:=h.len;rw[List.length_take]
 conv=>lhs;rw[h.pre]
 rw[List.take_take]
theorem Fits.row{op:List Bt}{out:List Rw}{st:List Bt}(h:Fits op out st)(x:Rw)(hd:x.f0=op.length)(hk:RowOk x)(hn:x.f1=0→rT x.f2 op=true∧mo x.f2=false):Stands st x:=by
 have hl:=h.len;have ht:st.take x.f0.toNat=op:=by rw[hd,Int.toNat_natCast];exact h.pre.symm
 refine⟨by omega,by omega,hk,fun n hn2=>?_,fun h0=>by rw[ht];exact hn h0⟩;rw[ht]at hn2;obtain⟨ys,rfl⟩:=List.getLast?_eq_some_iff.1 hn2;have:=(h.chain ys.length (by simp)).2;simpa using this
theorem Fits.lay{op:List Bt}{out:List Rw}{st:List Bt}(h:Fits op out st)(x:Rw)(hd:x.f0=op.length)(hk:RowOk x)(hn:x.f1=0→rT x.f2 op=true∧mo x.f2=false):Fits op (out++[x]) (after st x)∧(x.f1=0→jq x.f2=false→Fits (op++[x.f2]) (out++[x]) (after st x)):=by
 have hs:=h.row x hd hk hn;have ht:st.take x.f0.toNat=op:=by rw[hd,Int.toNat_natCast];exact h.pre.symm
 refine⟨⟨.snoc out st x h.laws hs,?_,h.chain⟩,fun h0 hv=>⟨.snoc out st x h.laws hs,?_,h.chain.push (hn h0).1 hv⟩⟩
 ·unfold after
  rw[ht]
  split
  ·rw[List.take_append_of_le_length (Nat.le_refl _),List.take_length]
  ·rw[List.take_length]
 ·unfold after
  rw[if_pos h0,ht,List.take_length]
theorem Iu(xs a b:List Bt):∀k,k≤xs.length→0≤dS xs a b k→∃j:Nat,dS xs a b k=j∧j<k∧Lib.containsS a (xs.getD j ⟨#[]⟩)=true∧∀i,j<i→i<k→Lib.containsS a (xs.getD i ⟨#[]⟩)=false∧Lib.containsS b (xs.getD i ⟨#[]⟩)=false
 |0,_,h=>by simp[dS]at h
 |k+1,hk,h=>by
  simp only[dS]at h⊢;cases h1:Lib.containsS a (xs.getD k ⟨#[]⟩)with
  |true=>
   rw[if_pos rfl];exact⟨k,rfl,by omega,h1,fun i h2 h3=>by omega⟩
  |false=>
   rw[h1,if_neg (by decide)]at h;rw[if_neg (by decide)];cases h2:Lib.containsS b (xs.getD k ⟨#[]⟩)with
   |true=>rw[h2,if_pos rfl]at h;omega
   |false=>
    rw[h2,if_neg (by decide)]at h;rw[if_neg (by decide)];obtain⟨j,e,hj,hc,hf⟩:=Iu xs a b k (by omega) h;refine⟨j,e,by omega,hc,fun i h3 h4=>?_⟩
    by_cases e2:i=k
    ·subst e2;exact⟨h1,h2⟩
    ·exact hf i h3 (by omega)
theorem Iw(xs a b:List Bt):∀k j,j<k→Lib.containsS a (xs.getD j ⟨#[]⟩)=true→(∀i,j<i→i<k→Lib.containsS b (xs.getD i ⟨#[]⟩)=false)→0≤dS xs a b k
 |0,j,h,_,_=>by omega
 |k+1,j,h,hc,hf=>by
  simp only[dS];cases h1:Lib.containsS a (xs.getD k ⟨#[]⟩)with
  |true=>rw[if_pos rfl];omega
  |false=>
   rw[if_neg (by decide)]
   have hjk:j<k:=by
    rcases Nat.lt_or_ge j k with e|e
    ·exact e
    ·have:j=k:=by omega
     subst this;rw[h1]at hc;cases hc
   rw[hf k hjk (by omega),if_neg (by decide)];exact Iw xs a b k j hjk hc (fun i h2 h3=>hf i h2 (by omega))
theorem Iy(xs a b:List Bt)(n:Nat):∀k,k≤n→dS (xs.take n) a b k=dS xs a b k
 |0,_=>rfl
 |k+1,h=>by
  have e:(xs.take n).getD k ⟨#[]⟩=xs.getD k ⟨#[]⟩:=by simp[List.getD_eq_getElem?_getD,List.getElem?_take,show k<n by omega]
  simp only[dS];rw[e,Iy xs a b n k (by omega)]
theorem D7(a b:List Bt):∀(n:Nat) (op:List Bt),op.length<n→∃m,m≤op.length∧lK a b n op=op.take m∧dS (lK a b n op) a b (lK a b n op).length<0
 |0,op,h=>by omega
 |n+1,op,h=>by
  simp only[lK];have hle:=JU op a b op.length
  by_cases hneg:dS op a b op.length<0
  ·rw[if_pos hneg]
   exact⟨op.length,Nat.le_refl _,(List.take_length).symm,hneg⟩
  ·rw[if_neg hneg]
   generalize hj:dS op a b op.length=j at *;obtain⟨m,hm,e,hf⟩:=D7 a b n (op.take j.toNat) (by rw[List.length_take];omega);rw[List.length_take]at hm;refine⟨m,by omega,?_,hf⟩;rw[e,List.take_take,Nat.min_eq_left (by omega)]
theorem EK(a b:List Bt)(hW:∀w,Lib.containsS b w=true→Lib.containsS (fJ pN) w=true∨(iG w=[pN]∧fJ w=fJ pN))(hp:Lib.containsS b pN=false):∀(n:Nat) (op:List Bt),Chain op→dS op a b op.length<0→dS (lK [pN] (fJ pN) n op) a b (lK [pN] (fJ pN) n op).length<0
 |0,op,_,h=>h
 |n+1,op,hc,h=>by
  simp only[lK]
  by_cases hneg:dS op [pN] (fJ pN) op.length<0
  ·rw[if_pos hneg];exact h
  ·rw[if_neg hneg]
   obtain⟨j,e,hj,hpj,hf⟩:=Iu op [pN] (fJ pN) op.length (Nat.le_refl _) (by omega);rw[e,Int.toNat_natCast];refine EK a b hW hp n (op.take j) (hc.take j) ?_;have hl:(op.take j).length=j:=by rw[List.length_take];omega
   rw[hl,Iy op a b j j (Nat.le_refl _)]
   rcases Int.lt_or_le (dS op a b j) 0 with h0|h0
   ·exact h0
   ·exfalso
    obtain⟨q,eq,hq,hqa,hqf⟩:=Iu op a b j (by omega) h0
    have hpn:op.getD j ⟨#[]⟩=pN:=by
     rw[Lib.containsS_iff]at hpj;simpa using hpj
    have hwall:∀i,q<i→i<op.length→Lib.containsS b (op.getD i ⟨#[]⟩)=false:=by
     intro i h1 h2
     rcases Nat.lt_or_ge i j with h3|h3
     ·exact(hqf i h1 h3).2
     ·by_cases h4:i=j
      ·subst h4;rw[hpn];exact hp
      ·cases hb:Lib.containsS b (op.getD i ⟨#[]⟩)with
       |false=>rfl
       |true=>
        exfalso
        have hno:=(hf i (by omega) h2).2
        rcases hW _ hb with h5|⟨h5,h6⟩
        ·rw[h5]at hno;cases hno
        ·have hch:=(hc i h2).1
         have eg:op.getD i ⟨#[]⟩=op[i]:=by simp[List.getD_eq_getElem?_getD,List.getElem?_eq_getElem h2]
         rw[eg]at h5 h6;unfold rT at hch;rw[h5,h6]at hch;simp only[Bool.and_eq_true,decide_eq_true_eq]at hch;have hlt:(op.take i).length=i:=by rw[List.length_take];omega
         have:=Iw (op.take i) [pN] (fJ pN) i j (by omega) (by
          rw[show(op.take i).getD j ⟨#[]⟩=op.getD j ⟨#[]⟩from by simp[List.getD_eq_getElem?_getD,List.getElem?_take,show j<i by omega]];exact hpj) (fun t h7 h8=>by
          rw[show(op.take i).getD t ⟨#[]⟩=op.getD t ⟨#[]⟩from by simp[List.getD_eq_getElem?_getD,List.getElem?_take,show t<i by omega]];exact(hf t h7 (by omega)).2)
         have h9:=hch.2;rw[hlt]at h9;omega
    have:=Iw op a b op.length q (by omega) hqa hwall;omega
theorem UM(n:Bt)(h:parL n=true):n=⟨#[108,105]⟩∨n=⟨#[100,100]⟩∨n=⟨#[100,116]⟩:=by
 have e:n.data.toList=[108,105]∨n.data.toList=[100,100]∨n.data.toList=[100,116]:=by
  unfold parL gD.f at h
  by_cases h1:n.toList=[108,105]
  ·rw[Lib.toList_data]at h1;exact Or.inl h1
  rw[if_neg h1]at h
  by_cases h2:n.toList=[100,100]
  ·rw[Lib.toList_data]at h2;exact Or.inr (Or.inl h2)
  rw[if_neg h2]at h;rw[Lib.toList_data]at h;exact Or.inr (Or.inr (by simpa using h))
 have hn:∀x:List UInt8,n.data.toList=x→n=⟨x.toArray⟩:=fun x hx=>by
  obtain⟨⟨y⟩⟩:=n;simp only at hx;rw[hx]
 rcases e with e|e|e
 ·exact .inl (hn _ e)
 ·exact .inr (.inl (hn _ e))
 ·exact .inr (.inr (hn _ e))
theorem UN(n:Bt)(h:parL n=true):(∀w,Lib.containsS (fJ n) w=true→Lib.containsS (fJ pN) w=true∨(iG w=[pN]∧fJ w=fJ pN))∧Lib.containsS (fJ n) pN=false:=by
 have key:∀L:List Bt,(L.all fun w=>Lib.containsS (fJ pN) w||(decide (iG w=[pN])&&decide (fJ w=fJ pN)))=true→∀w,Lib.containsS L w=true→Lib.containsS (fJ pN) w=true∨(iG w=[pN]∧fJ w=fJ pN):=by
  intro L hL w hw;rw[Lib.containsS_iff]at hw;have:=List.all_eq_true.1 hL w hw;simp only[Bool.or_eq_true,Bool.and_eq_true,decide_eq_true_eq]at this;exact this
 rcases UM n h with rfl|rfl|rfl
 ·exact⟨key _ (by kernel_rfl),by kernel_rfl⟩
 ·exact⟨key _ (by kernel_rfl),by kernel_rfl⟩
 ·exact⟨key _ (by kernel_rfl),by kernel_rfl⟩
theorem UO(op:List Bt)(nm:Bt)(hc:Chain op):∃m,m≤op.length∧gH op nm=op.take m∧rT nm (gH op nm)=true:=by
 obtain⟨m,hm,e,hf⟩:=D7 (iG nm) (fJ nm) (op.length+1) op (Nat.lt_succ_self _);unfold gH oW rT;cases hp:parL nm with
 |false=>
  rw[if_neg (by decide)];exact⟨m,hm,e,by simp[hf]⟩
 |true=>
  rw[if_pos rfl];obtain⟨hW,hpw⟩:=UN nm hp;have hk:=EK (iG nm) (fJ nm) hW hpw ((lK (iG nm) (fJ nm) (op.length+1) op).length+1) (lK (iG nm) (fJ nm) (op.length+1) op) (by rw[e];exact hc.take m) hf;obtain⟨m2,hm2,e2,hf2⟩:=D7 [pN] (fJ pN) ((lK (iG nm) (fJ nm) (op.length+1) op).length+1) (lK (iG nm) (fJ nm) (op.length+1) op) (Nat.lt_succ_self _);generalize lK [pN] (fJ pN) ((lK (iG nm) (fJ nm) (op.length+1) op).length+1) (lK (iG nm) (fJ nm) (op.length+1) op)=op2 at *;rw[e]at e2 hm2;rw[List.length_take]at hm2;refine⟨m2,by omega,by rw[e2,List.take_take,Nat.min_eq_left (by omega)],?_⟩;have h1:¬0≤dS op2 [pN] (fJ pN) op2.length:=by omega
  simp[h1,hk]
theorem yG:distinct []:=fun i j hi=>by simp at hi
theorem vI:∀(l out:List At),distinct out→distinct (qC out l)
 | [],out,h=>h
 |a::r,out,h=>by
  simp only[qC];refine vI r _ ?_;cases hh:BJ out a with
  |true=>rw[if_pos rfl];exact h
  |false=>
   rw[if_neg (by decide)]
   have hno:∀i:Nat,(hi:i<out.length)→out[i].f0.toList≠a.f0.toList:=by
    intro i hi e
    have:BJ out a=true:=by
     unfold BJ;rw[List.any_eq_true];exact⟨out[i],List.getElem_mem hi,(TA _ _).2 e.symm⟩
    rw[hh]at this;cases this
   intro i j hi hj e;rw[List.length_append]at hi hj;simp only[List.length_cons,List.length_nil]at hi hj
   rcases Nat.lt_or_ge i out.length with h1|h1<;>rcases Nat.lt_or_ge j out.length with h2|h2
   ·rw[List.getElem_append_left h1,List.getElem_append_left h2]at e
    exact h i j h1 h2 e
   ·rw[List.getElem_append_left h1,List.getElem_append_right h2]at e
    simp only[show j - out.length=0 from by omega,List.getElem_cons_zero]at e;exact absurd e (hno i h1)
   ·rw[List.getElem_append_right h1,List.getElem_append_left h2]at e
    simp only[show i - out.length=0 from by omega,List.getElem_cons_zero]at e;exact absurd e.symm (hno j h2)
   ·omega
theorem OQ:zZ pN=fJ pN:=by kernel_rfl
theorem nest_p(op:List Bt)(h:¬0≤dS op [pN] (zZ pN) op.length):rT pN op=true∧mo pN=false:=by
 have h1:parL pN=false:=by kernel_rfl
 have h2:iG pN=[pN]:=by kernel_rfl
 have h3:mo pN=false:=by kernel_rfl
 refine⟨?_,h3⟩;unfold rT;rw[h1,h2,←OQ];simp;omega
theorem UQ{op:List Bt}{out st:List _}(h:Fits op out st)(t:Tk)(hb:(gI op out t).2.2=false):∃st2,Fits (gI op out t).1 (gI op out t).2.1 st2:=by
 have layer:∀(op2:List Bt) (x:Rw),(kN op2 out false x).2=false→(kN op2 out false x).1=out++[⟨(op2.length:Int),x.f1,x.f2,x.f3,x.f4⟩]:=by
  intro op2 x hl;unfold kN at hl⊢
  split
  ·rename_i g
   rw[if_pos g]at hl;cases hl
  ·rfl
 unfold gI at hb⊢
 by_cases k0:t.f0=0
 ·rw[if_pos k0]at hb⊢
  unfold aj.W7.gT at hb⊢
  by_cases e:t.f2.data.toList=[]
  ·rw[if_pos e];exact⟨st,h⟩
  rw[if_neg e]at hb⊢;cases hj:nu op out with
  |true=>
   rw[if_pos rfl];unfold nu at hj;cases hL:out.getLast? with
   |none=>rw[hL]at hj;cases hj
   |some y=>
    rw[hL]at hj;simp only[Bool.and_eq_true,decide_eq_true_eq]at hj;have hpos:0<out.length:=by cases out with|nil=>cases hL|cons a l=>simp
    have hr:=CX out hpos;rw[hL]at hr;rw[←Option.some.inj hr];obtain⟨pre,rfl⟩:=List.getLast?_eq_some_iff.1 hL;have e2:(pre++[y]).set ((pre++[y]).length - 1) (vQ y t.f2)=pre++[vQ y t.f2]:=by simp
    show∃st2,Fits op ((pre++[y]).set ((pre++[y]).length - 1) (vQ y t.f2)) st2
    rw[e2];refine⟨st,?_,h.pre,h.chain⟩;generalize hout:pre++[y]=o at *;cases h.laws with
    |nil=>simp at hout
    |snoc o2 st2 x hl hs=>
     obtain⟨rfl,hyx⟩:=List.append_inj' hout rfl;obtain rfl:y=x:=by simpa using hyx
     have ha:after st2 y=after st2 (vQ y t.f2):=rfl;rw[ha];refine .snoc pre st2 _ hl ⟨hs.lo,hs.hi,⟨hs.ok.kind,fun h0=>?_,hs.ok.no⟩,hs.void,hs.nest⟩;have:y.f1=0:=h0;omega
  |false=>
   rw[hj,if_neg (by decide)]at hb;rw[if_neg (by decide)];show∃st2,Fits op (kN op out false ⟨0,1,⟨#[]⟩,t.f2,[]⟩).1 st2
   rw[layer op _ hb];exact⟨_,(h.lay ⟨(op.length:Int),1,⟨#[]⟩,t.f2,[]⟩ rfl ⟨by simp,by simp,by simp⟩ (by simp)).1⟩
 rw[if_neg k0]at hb⊢
 by_cases k3:t.f0=3
 ·rw[if_pos k3]at hb⊢
  show∃st2,Fits op (kN op out false ⟨0,2,⟨#[]⟩,t.f2,[]⟩).1 st2
  rw[layer op _ hb];exact⟨_,(h.lay ⟨(op.length:Int),2,⟨#[]⟩,t.f2,[]⟩ rfl ⟨by simp,by simp,by simp⟩ (by simp)).1⟩
 rw[if_neg k3]at hb⊢
 by_cases k1:t.f0=1
 ·rw[if_pos k1]at hb⊢
  unfold kP at hb⊢
  by_cases e1:t.f1.data.toList=[]
  ·rw[if_pos e1];exact⟨st,h⟩
  rw[if_neg e1]at hb⊢;cases e2:mo t.f1 with
  |true=>rw[if_pos rfl];exact⟨st,h⟩
  |false=>
   rw[e2,if_neg (by decide)]at hb;rw[if_neg (by decide)];obtain⟨m,hm,em,hn⟩:=UO op t.f1 h.chain;have h2:Fits (gH op t.f1) out st:=by rw[em];exact h.take m
   have h3:=h2.lay ⟨((gH op t.f1).length:Int),0,t.f1,⟨#[]⟩,ny t.f3⟩ rfl ⟨by simp,fun _=>⟨e1,rfl,vI t.f3 [] yG⟩,by simp⟩ (fun _=>⟨hn,e2⟩);show∃st2,Fits (if jq t.f1 then gH op t.f1 else gH op t.f1++[t.f1]) (kN (gH op t.f1) out false ⟨0,0,t.f1,⟨#[]⟩,ny t.f3⟩).1 st2
   rw[layer _ _ hb];cases hv:jq t.f1 with
   |true=>exact⟨_,h3.1⟩
   |false=>exact⟨_,h3.2 rfl hv⟩
 rw[if_neg k1]at hb⊢
 by_cases k2:t.f0=2
 ·rw[if_pos k2]at hb⊢
  unfold aj.W7.iL at hb⊢
  by_cases e1:t.f1.data.toList=[]
  ·rw[if_pos e1];exact⟨st,h⟩
  rw[if_neg e1]at hb⊢
  by_cases e2:mo t.f1=true
  ·rw[if_pos e2];exact⟨st,h⟩
  rw[if_neg e2]at hb⊢
  by_cases e3:jq t.f1=true
  ·rw[if_pos e3];exact⟨st,h⟩
  rw[if_neg e3]at hb⊢
  by_cases e4:0≤dS op [t.f1] (zZ t.f1) op.length
  ·rw[if_pos e4];exact⟨st,h.take _⟩
  rw[if_neg e4]at hb⊢
  by_cases e5:t.f1.data.toList=[112]
  ·rw[if_pos e5]at hb⊢
   have hnm:t.f1=pN:=by
    obtain⟨f0,⟨⟨x⟩⟩,f2,f3,f4⟩:=t;simp only at e5;simp only[e5]
   rw[hnm]at e4 hb⊢;show∃st2,Fits op (kN op out false ⟨0,0,pN,⟨#[]⟩,[]⟩).1 st2
   rw[layer op _ hb];exact⟨_,(h.lay ⟨(op.length:Int),0,pN,⟨#[]⟩,[]⟩ rfl ⟨by simp,fun _=>⟨by simp,rfl,yG⟩,by simp⟩ (fun _=>nest_p op e4)).1⟩
  ·rw[if_neg e5];exact⟨st,h⟩
 rw[if_neg k2];exact⟨st,h⟩
theorem JY:∀(l:List Tk) (op:List Bt) (out:List Rw) (st:List Bt),Fits op out st→∀o,jQ l op out=some o→∃st2,Laws o st2
 | [],op,out,st,h,o,ho=>by
   obtain rfl:=Option.some.inj ho;exact⟨st,h.laws⟩
 |t::r,op,out,st,h,o,ho=>by
  simp only[jQ]at ho;cases hb:(gI op out t).2.2 with
  |true=>rw[hb,if_pos rfl]at ho;cases ho
  |false=>
   rw[hb,if_neg (by decide)]at ho;obtain⟨st2,h2⟩:=UQ h t hb;exact JY r _ _ st2 h2 o ho
theorem UR(l:List Tk)(o:List Rw)(h:jQ l [] []=some o):∃st,Laws o st:=JY l [] [] [] ⟨.nil,rfl,fun i hi=>by simp at hi⟩ o h
end Go.Proofs.aj.W7
