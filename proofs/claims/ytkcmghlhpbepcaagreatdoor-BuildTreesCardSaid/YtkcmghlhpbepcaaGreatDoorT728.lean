/- Lemmas and walks, part 28. -/
import Derived.Test.YtkcmghlhpbepcaaGreatDoorT722
set_option linter.unusedVariables false
set_option linter.unusedSimpArgs false
set_option maxHeartbeats 8000000
set_option maxRecDepth 100000
namespace Go.Proofs.aj.W7
open Go.RowKit Go.Proofs Go.Proofs.YtkcmghlhpbepcaaGreatDoor Go.Proofs.ah.aG Go.Proofs.ah.bX
def EA(l0:List Rw)(d:Int):Bool:=match l0.getLast? with|none=>false|some y=>decide (y.f1=1)&&decide (y.f0=d)
def fP.f(l0:List Rw)(a0 a1:Int)(a2 a3:Bt)(l4:List S36):Option (List Rw):=
 if EA l0 a0 then(if(bJ l0 ((l0.length:Int) - 1)).f3.size+a3.size≤9223372036854775807 then some (l0.set (l0.length - 1) (addT (bJ l0 ((l0.length:Int) - 1)) a3))else none)
 else if l0.length<1000000000000 then some (l0++[⟨a0,a1,a2,a3,[]⟩])else none
theorem fP.calls(u:Value)(l0:List Rw)(a0 a1:Int)(a2 a3:Bt)(l4:List S36)(r:List Rw)(w0 w:World)(hB:Below w0.heap.size w0 w)(ho:k34.R 34 w w0.heap.size (fun _=>True) u l0)(h:fP.f l0 a0 a1 a2 a3 l4=some r):
 Calls Tryz.prog 62 #[u,.agg #[.int .i64 a0,.int .i64 a1,.string a2,.string a3,.slice none 0 0]] w fun e w'=>∃v0_:Value,e=.returned v0_∧k34.R 34 w' w0.heap.size (fun _=>True) v0_ r∧Below w0.heap.size w0 w'∧Kept w w' (fun k=>some k=u.ownBlock):=by
 obtain⟨Ar,cr,rfl⟩:=Kd.bF ho;have hol:=(Kd.aI ho).2.2.2.1;have hbw:=hB.size;have hnx:=bR w #[.int .i64 a0,.int .i64 a1,.string a2,.string a3,.slice none 0 0] 34;obtain⟨⟨p0,p1,p2,p3,p4⟩,p5⟩:=bE hnx;have hBA:=hB.alloc hbw (.cells #[.int .i64 a0,.int .i64 a1,.string a2,.string a3,.slice none 0 0] 34);have hOA:=Kd.aZ ho (.cells #[.int .i64 a0,.int .i64 a1,.string a2,.string a3,.slice none 0 0] 34);have hsA:w0.heap.size≤(w.alloc (.cells #[.int .i64 a0,.int .i64 a1,.string a2,.string a3,.slice none 0 0] 34)).heap.size:=by rw[World.size_alloc];omega
 have hKA:=(Kept.refl w (fun k=>some k=(Value.slice Ar l0.length cr).ownBlock)).alloc (.cells #[.int .i64 a0,.int .i64 a1,.string a2,.string a3,.slice none 0 0] 34);have hsz1:(w.alloc (.cells #[.int .i64 a0,.int .i64 a1,.string a2,.string a3,.slice none 0 0] 34)).heap.size=w.heap.size+1:=World.size_alloc _ _
 rcases Nat.eq_zero_or_pos l0.length with hn|hn
 ·have hj:EA l0 a0=false:=by
   have:l0=[]:=List.eq_nil_of_length_eq_zero hn;rw[this];rfl
  unfold fP.f at h;rw[hj,if_neg (by decide)]at h
  split at h
  case isFalse=>cases h
  rename_i hlen;obtain rfl:=Option.some.inj h;clear h;have e3:decide ((0:Int)<(l0.length:Int))=false:=decide_eq_false (by omega);have e4:decide (0<l0.length)=false:=decide_eq_false (by omega);have hl0:l0.length=0:=by omega
  rw[hl0]at hOA hKA⊢;go_enter Tryz.func62,Tryz.ntmps62;go_wp2;refine jm (n:=22) (S:=fun w'=>w'.cell? ⟨w.heap.size,0,none⟩=some (.int .i64 a0)) (ds:=[]) (bits 22 0) (by kernel_rfl) rfl (by kernel_rfl) p0 (fun hHeld=>?_);refine sw 0 9 ?_;refine sw 1 10 ?_;refine sw 2 11 ?_;refine su 3 12 ?_;refine su 4 13 ?_;refine su 5 14 ?_;refine su 6 15 ?_;refine su 7 16 ?_;refine su 8 17 ?_;refine su 9 18 ?_;refine sw 10 19 ?_;refine sw 11 20 ?_;refine su 12 21 ?_;refine su 13 22 ?_;refine su 14 23 ?_;refine su 15 24 ?_;refine su 16 25 ?_;refine su 17 26 ?_;refine su 18 27 ?_;refine su 19 28 ?_;refine su 20 29 ?_;refine sw 21 30 ?_
  refine kS (by kernel_rfl) ?_
  go_wp2_with(at_builtin;(try rw[oF]);refine Kd.fZ k34 (w0:=w0) w0.heap.size rfl (.tmp 48) (.tmp 50) 22 34 (.agg #[(.int .i64 0),(.int .i64 0),(.string ⟨#[]⟩),(.string ⟨#[]⟩),(.slice none 0 0)]) 72 rfl Tryz.underlying22 jy rfl (by decide) (by omega) (.slice Ar 0 cr) l0 (⟨a0,a1,a2,a3,[]⟩:Rw) [.int .i64 a0,.int .i64 a1,.string a2,.string a3,.slice none 0 0] (fun _=>True) (fun _=>False) rfl ?aX ?aP ?aK ?aF ?aO ?aB ?aS ?aL ?_;(case aX=>exact congrArg (fun n=>Value.slice (some ⟨n,0,none⟩) 1 1) hsz1.symm);(case aP=>exact jE _ _ _ (⟨a0,a1,a2,a3,[]⟩:Rw) (Kd.iJ _ _ _ _ _));(case aK=>exact fun k hk=>hk.elim);(case aF=>exact fun _ _=>trivial);(case aO=>first|with_reducible exact Kd.bq hOA|with_reducible exact hOA);(case aB=>first|with_reducible exact Go.Proofs.ah.aG.bU hBA|with_reducible exact hBA);(case aS=>exact hsA);(case aL=>omega);intro v1 w2 hO2 hb2 hg2 pR)
  go_ret;exact⟨_,rfl,hO2,hb2,Kept.nN hg2 hKA.drew (fun k hk=>.inl hk.symm)⟩
 ·obtain⟨m,hm⟩:∃m,l0.length=m+1:=⟨l0.length - 1,by omega⟩
  obtain⟨go,capo,hv,hgB,hgo,GQ,hcO⟩:=Kd.wI ho hn;simp only[Value.slice.injEq,true_and]at hv;obtain⟨rfl,rfl⟩:=hv;obtain⟨cs,hcl,hMo,kL,hfzo⟩:=Kd.ug hOA (⟨0,0,⟨#[]⟩,⟨#[]⟩,[]⟩:Rw) (m:Int) (by omega) (by omega);have hgd:l0.getD (m:Int).toNat (⟨0,0,⟨#[]⟩,⟨#[]⟩,[]⟩:Rw)=l0[m]:=by simp[show m<l0.length by omega]
  have hrd:bJ l0 ((l0.length:Int) - 1)=l0[m]:=by
   rw[show(l0.length:Int) - 1=(m:Int)from by omega];simp[bJ,show m<l0.length by omega]
  have hj:EA l0 a0=(decide (l0[m].f1=1)&&decide (l0[m].f0=a0)):=by
   unfold EA;rw[List.getLast?_eq_getElem?,show l0.length - 1=m from by omega,List.getElem?_eq_getElem (by omega)]
  rw[hgd]at hMo;unfold fP.f at h;rw[hrd,hj,show l0.length - 1=m from by omega]at h;clear hgd hrd hj;generalize l0[m]=y at *;obtain⟨w4,rfl,hw4⟩:=jA hMo;obtain⟨A4,c4,rfl⟩:=Kd.bF hw4;have y0:=kL 0 _ rfl;have y1:=kL 1 _ rfl;have y2:=kL 2 _ rfl;have y3:=kL 3 _ rfl;have y4:=kL 4 _ rfl;change World.cell? _ ⟨go,m * 5,none⟩=_ at y0;change World.cell? _ ⟨go,m * 5+1,none⟩=_ at y1;change World.cell? _ ⟨go,m * 5+2,none⟩=_ at y2;change World.cell? _ ⟨go,m * 5+3,none⟩=_ at y3;change World.cell? _ ⟨go,m * 5+4,none⟩=_ at y4;obtain⟨yd,yk,yn,yt,ya⟩:=y;simp only at y0 y1 y2 y3 y4 h;have g1:decide ((0:Int)<((m+1:Nat):Int))=true:=decide_eq_true (by omega);have g2:decide (0<m+1)=true:=decide_eq_true (by omega);have i1:(0:Int)≤(m:Int):=by omega
  have i2:(m:Int)<(m:Int)+1:=by omega
  have iw:wrap64 (m:Int)=(m:Int):=by unfold wrap64;omega
  by_cases k1:yk=1
  ·subst k1
   by_cases k2:yd=a0
   ·subst k2
    rw[if_pos (by simp)]at h
    split at h
    case isFalse=>cases h
    rename_i hsz;obtain rfl:=Option.some.inj h;clear h;have a1_:decide (yt.size+a3.size≤9223372036854775807)=true:=decide_eq_true hsz;have a2_:(9223372036854775807<yt.size+a3.size)=False:=eq_false (by omega);rw[hm]at hOA hKA⊢;go_enter Tryz.func62,Tryz.ntmps62;go_wp2;refine jm (n:=22) (S:=fun w'=>w'.cell? ⟨w.heap.size,0,none⟩=some (.int .i64 yd)∧w'.cell? ⟨go,m * 5,none⟩=some (.int .i64 yd)∧w'.cell? ⟨go,m * 5+1,none⟩=some (.int .i64 1)) (ds:=[]) (bits 22 0) (by kernel_rfl) rfl (by kernel_rfl) ⟨p0,y0,y1⟩ (fun hHeld=>?_);refine sw 0 9 ?_;refine sw 1 10 ?_;refine sw 2 11 ?_;refine sw 3 12 ?_;refine sw 4 13 ?_;refine sw 5 14 ?_;refine sw 6 15 ?_;refine sw 7 16 ?_;refine st 8 17 ?_;refine sw 9 18 ?_;refine sw 10 19 ?_;refine sw 11 20 ?_;refine sw 12 21 ?_;refine sw 13 22 ?_;refine sw 14 23 ?_;refine sw 15 24 ?_;refine sw 16 25 ?_;refine st 17 26 ?_;refine sw 18 27 ?_;refine st 19 28 ?_;refine sw 20 29 ?_;refine sw 21 30 ?_
    refine kS (by kernel_rfl) ?_;have hOB:=Kd.bq (Kd.aZ hOA (.cells #[.int .i64 yd,.int .i64 1,.string yn,.string (yt++a3),.slice A4 ya.length c4] 34));have hBB:=Go.Proofs.ah.aG.bU (hBA.alloc hsA (.cells #[.int .i64 yd,.int .i64 1,.string yn,.string (yt++a3),.slice A4 ya.length c4] 34));have hKB:=(hKA.alloc (.cells #[.int .i64 yd,.int .i64 1,.string yn,.string (yt++a3),.slice A4 ya.length c4] 34)).drew;have hwB:=Kd.bq (Kd.aZ hw4 (.cells #[.int .i64 yd,.int .i64 1,.string yn,.string (yt++a3),.slice A4 ya.length c4] 34));have hcB:∀j u,([.int .i64 yd,.int .i64 1,.string yn,.string yt,.slice A4 ya.length c4] :List Value)[j]?=some u→(((w.alloc (.cells #[.int .i64 yd,.int .i64 a1,.string a2,.string a3,.slice none 0 0] 34)).alloc (.cells #[.int .i64 yd,.int .i64 1,.string yn,.string (yt++a3),.slice A4 ya.length c4] 34)).drew).cell? ⟨go,(m:Int).toNat * 5+j,none⟩=some u:=fun j u hu=>dG (kL j u hu) (Go.Proofs.ah.aG.bU ((Below.refl _ _).alloc (Nat.le_refl _) _))
    go_wp2_with((with_reducible refine qD (t:=34) (p:=46) rfl ?_);go_loud (refine Kd.R_store k34 (w0:=w0) w0.heap.size rfl rfl 34 (.tmp 46) (.tmp 45) rfl 34 (g:=go) (n:=m+1) (cap:=cr) (o':=m * 5) (m:Int) 0 l0 (⟨yd,1,yn,yt++a3,ya⟩:Rw) (.agg #[.int .i64 yd,.int .i64 1,.string yn,.string (yt++a3),.slice A4 ya.length c4]) [.int .i64 yd,.int .i64 1,.string yn,.string (yt++a3),.slice A4 ya.length c4] [.int .i64 yd,.int .i64 1,.string yn,.string yt,.slice A4 ya.length c4] (fun _=>True) (fun k=>True∧k≠go) rfl rfl rfl rfl (by kernel_rfl) (by simp[Value.oneCell']) hOB (by omega) (by omega) hcl hcB (Nat.le_refl 5) (jE _ _ _ (⟨yd,1,yn,yt++a3,ya⟩:Rw) hwB) (fun _ h=>h) hBB ?_);intro w1 hO1 hB1 hg1)
    go_ret;exact⟨_,rfl,hO1,hB1,Kept.nN hg1 hKB (fun k hk=>.inl hk.symm)⟩
   ·have q1:(yd==a0)=false:=beq_eq_false_iff_ne.2 k2
    rw[if_neg (by simp[k2])]at h
    split at h
    case isFalse=>cases h
    rename_i hlen;obtain rfl:=Option.some.inj h;clear h;rw[hm]at hOA hKA⊢;go_enter Tryz.func62,Tryz.ntmps62;go_wp2;refine jm (n:=22) (S:=fun w'=>w'.cell? ⟨w.heap.size,0,none⟩=some (.int .i64 a0)∧w'.cell? ⟨go,m * 5,none⟩=some (.int .i64 yd)∧w'.cell? ⟨go,m * 5+1,none⟩=some (.int .i64 1)) (ds:=[]) (bits 22 0) (by kernel_rfl) rfl (by kernel_rfl) ⟨p0,y0,y1⟩ (fun hHeld=>?_);refine sw 0 9 ?_;refine sw 1 10 ?_;refine sw 2 11 ?_;refine sw 3 12 ?_;refine sw 4 13 ?_;refine sw 5 14 ?_;refine sw 6 15 ?_;refine sw 7 16 ?_;refine st 8 17 ?_;refine sw 9 18 ?_;refine sw 10 19 ?_;refine sw 11 20 ?_;refine sw 12 21 ?_;refine sw 13 22 ?_;refine sw 14 23 ?_;refine sw 15 24 ?_;refine sw 16 25 ?_;refine st 17 26 ?_;refine sw 18 27 ?_;refine st 19 28 ?_;refine sw 20 29 ?_;refine sw 21 30 ?_
    refine kS (by kernel_rfl) ?_
    go_wp2_with(at_builtin;(try rw[oF]);refine Kd.fZ k34 (w0:=w0) w0.heap.size rfl (.tmp 48) (.tmp 50) 22 34 (.agg #[(.int .i64 0),(.int .i64 0),(.string ⟨#[]⟩),(.string ⟨#[]⟩),(.slice none 0 0)]) 72 rfl Tryz.underlying22 jy rfl (by decide) (by omega) (.slice (some ⟨go,0,none⟩) (m+1) cr) l0 (⟨a0,a1,a2,a3,[]⟩:Rw) [.int .i64 a0,.int .i64 a1,.string a2,.string a3,.slice none 0 0] (fun _=>True) (fun _=>False) rfl ?aX ?aP ?aK ?aF ?aO ?aB ?aS ?aL ?_;(case aX=>exact congrArg (fun n=>Value.slice (some ⟨n,0,none⟩) 1 1) hsz1.symm);(case aP=>exact jE _ _ _ (⟨a0,a1,a2,a3,[]⟩:Rw) (Kd.iJ _ _ _ _ _));(case aK=>exact fun k hk=>hk.elim);(case aF=>exact fun _ _=>trivial);(case aO=>first|with_reducible exact Kd.bq hOA|with_reducible exact hOA);(case aB=>first|with_reducible exact Go.Proofs.ah.aG.bU hBA|with_reducible exact hBA);(case aS=>exact hsA);(case aL=>omega);intro v1 w2 hO2 hb2 hg2 pR)
    go_ret;exact⟨_,rfl,hO2,hb2,Kept.nN hg2 hKA.drew (fun k hk=>.inl hk.symm)⟩
  ·have q1:(yk==1)=false:=beq_eq_false_iff_ne.2 k1
   rw[if_neg (by simp[k1])]at h
   split at h
   case isFalse=>cases h
   rename_i hlen;obtain rfl:=Option.some.inj h;clear h;rw[hm]at hOA hKA⊢;go_enter Tryz.func62,Tryz.ntmps62;go_wp2;refine jm (n:=22) (S:=fun w'=>w'.cell? ⟨w.heap.size,0,none⟩=some (.int .i64 a0)∧w'.cell? ⟨go,m * 5,none⟩=some (.int .i64 yd)∧w'.cell? ⟨go,m * 5+1,none⟩=some (.int .i64 yk)) (ds:=[]) (bits 22 0) (by kernel_rfl) rfl (by kernel_rfl) ⟨p0,y0,y1⟩ (fun hHeld=>?_);refine sw 0 9 ?_;refine sw 1 10 ?_;refine sw 2 11 ?_;refine sw 3 12 ?_;refine sw 4 13 ?_;refine sw 5 14 ?_;refine sw 6 15 ?_;refine sw 7 16 ?_;refine st 8 17 ?_;refine sw 9 18 ?_;refine sw 10 19 ?_;refine sw 11 20 ?_;refine su 12 21 ?_;refine su 13 22 ?_;refine su 14 23 ?_;refine su 15 24 ?_;refine su 16 25 ?_;refine su 17 26 ?_;refine su 18 27 ?_;refine su 19 28 ?_;refine su 20 29 ?_;refine sw 21 30 ?_
   refine kS (by kernel_rfl) ?_
   go_wp2_with(at_builtin;(try rw[oF]);refine Kd.fZ k34 (w0:=w0) w0.heap.size rfl (.tmp 48) (.tmp 50) 22 34 (.agg #[(.int .i64 0),(.int .i64 0),(.string ⟨#[]⟩),(.string ⟨#[]⟩),(.slice none 0 0)]) 72 rfl Tryz.underlying22 jy rfl (by decide) (by omega) (.slice (some ⟨go,0,none⟩) (m+1) cr) l0 (⟨a0,a1,a2,a3,[]⟩:Rw) [.int .i64 a0,.int .i64 a1,.string a2,.string a3,.slice none 0 0] (fun _=>True) (fun _=>False) rfl ?aX ?aP ?aK ?aF ?aO ?aB ?aS ?aL ?_;(case aX=>exact congrArg (fun n=>Value.slice (some ⟨n,0,none⟩) 1 1) hsz1.symm);(case aP=>exact jE _ _ _ (⟨a0,a1,a2,a3,[]⟩:Rw) (Kd.iJ _ _ _ _ _));(case aK=>exact fun k hk=>hk.elim);(case aF=>exact fun _ _=>trivial);(case aO=>first|with_reducible exact Kd.bq hOA|with_reducible exact hOA);(case aB=>first|with_reducible exact Go.Proofs.ah.aG.bU hBA|with_reducible exact hBA);(case aS=>exact hsA);(case aL=>omega);intro v1 w2 hO2 hb2 hg2 pR)
   go_ret;exact⟨_,rfl,hO2,hb2,Kept.nN hg2 hKA.drew (fun k hk=>.inl hk.symm)⟩
end Go.Proofs.aj.W7
