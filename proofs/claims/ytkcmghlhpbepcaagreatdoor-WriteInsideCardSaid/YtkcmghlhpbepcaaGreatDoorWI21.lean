/- Lemmas and walks, part 21. -/
import Derived.Test.YtkcmghlhpbepcaaGreatDoorWI20
set_option linter.unusedVariables false
set_option linter.unusedSimpArgs false
set_option maxHeartbeats 8000000
set_option maxRecDepth 100000
namespace Go.Proofs.YtkcmghlhpbepcaaGreatDoor
open Go.RowKit Go.Proofs
theorem sM{nm S:Txt}{k:Nat}(h:k+2+nm.length<S.length):gQ nm (S.drop k)=(decide (S[k].toNat=60)&&decide (S[k+1].toNat=47)&&Ap ((S.take (k+2+nm.length)).drop (k+2)) nm&&nY S[k+2+nm.length].toNat):=by
 have e1:S.drop k=S[k]::S[k+1]::S.drop (k+2):=by
  rw[List.drop_eq_getElem_cons (by omega),List.drop_eq_getElem_cons (by omega)]
 have e2:(S.drop (k+2)).drop nm.length=S[k+2+nm.length]::S.drop (k+2+nm.length+1):=by
  rw[List.drop_drop,List.drop_eq_getElem_cons (by omega)]
 have e3:(S.take (k+2+nm.length)).drop (k+2)=(S.drop (k+2)).take nm.length:=by
  rw[List.drop_take]
  congr 1
  omega
 have hc0:∀c:UInt8,(decide (c.toNat=60)==(c==60))=true:=jw (by decide +kernel)
 have hc1:∀c:UInt8,(decide (c.toNat=47)==(c==47))=true:=jw (by decide +kernel)
 have h0:=beq_iff_eq.1 (hc0 S[k]);have h1:=beq_iff_eq.1 (hc1 S[k+1]);rw[h0,h1,Ez,e1,e3];unfold gQ Ap
 by_cases ha:S[k]=60
 ·by_cases hb:S[k+1]=47
  ·rw[ha,hb]
   simp only[e2];have:nm.length<(S.drop (k+2)).length:=by rw[List.length_drop];omega
   have h2:nm.length<S.length - (k+2):=by omega
   simp[h2]
  ·rw[beq_eq_false_iff_ne.2 hb]
   split
   ·rename_i e
    simp only[List.cons.injEq]at e;exact absurd e.2.1 hb
   ·simp
 ·rw[beq_eq_false_iff_ne.2 ha]
  split
  ·rename_i e
   simp only[List.cons.injEq]at e;exact absurd e.1 ha
  ·simp
theorem yA{nm S:Txt}{k:Nat}(h:¬k+2+nm.length<S.length):gQ nm (S.drop k)=false:=by
 cases hc:gQ nm (S.drop k)with
 |false=>rfl
 |true=>
  unfold gQ at hc
  split at hc
  ·rename_i r e
   have:=congrArg List.length e;simp only[List.length_drop,List.length_cons]at this;simp only[Bool.and_eq_true,decide_eq_true_eq]at hc;omega
  ·cases hc
theorem inside_A(base b:Nat)(S t nm:Txt)(l:List Tok)(hs:S.length≤1000000000)(hnm:nm.length≤1000000000)(hl:l.length≤10000000000)(ht0:S.take (iL nm S)=[])(w:World)(hsc:Sc w base b S t l)(hE:Env w base):
 Calls Tryz.prog 115 #[.pointer (some ⟨b,0,none⟩),.string ⟨nm.toArray⟩] w fun r w'=>r=.returned (.tuple #[])∧Sc w' base b (S.drop (iL nm S)) t l∧Below base w w':=by
 have hbb:=hsc.1;obtain⟨_,v,hh,hT0⟩:=id hsc;obtain⟨ad,cp,rfl⟩:=hT0.len;have hno:=Lib.hid (fun j=>CF nm S j);have hat:=Lib.hid (CG nm S);have hel:=zO nm S;generalize iL nm S=e at *;have htl:(S.take e).length≤1000000000:=by simp;omega
 generalize htx:S.take e=tx at *;generalize hdx:S.drop e=dx at *;have c0h:=aN hh;obtain⟨⟨c0,c1,c2⟩,c5⟩:=c0h;go_enter Tryz.func115,Tryz.ntmps115;go_wp2
 go_loopw [4,5,6,18] (fun ve _ _ vi wr=>∃(k:Nat),vi=.int .i64 k∧ve=.int .i64 S.length∧k≤e∧wr.heap[b]?=some (.cells #[.string ⟨S.toArray⟩,.string ⟨t.toArray⟩,.slice ad l.length cp] 92 (0,0))∧nV wr base (.slice ad l.length cp) l∧Below base w wr) (fun _ _ _ vi _=>S.length - (intOf vi).toNat)
 case atStart=>exact⟨0,rfl,rfl,by omega,hh,hT0,Below.refl _ _⟩
 case round=>
  obtain⟨k,rfl,rfl,hk,r1,hT,hB⟩:=hrel;obtain⟨⟨q0,q1,q2⟩,q5⟩:=aN r1;have hEr:=hE.below hB;have Hy:=hEr.le
  by_cases hlt:k<S.length
  ·rcases Nat.lt_or_ge k e with hke|hke
   ·have hcl:=hno.out k hke
    by_cases hin:k+2+nm.length<S.length
    ·rw[sM hin]at hcl
     have hsame:=Lib.hid (fun W=>yx ((S.take (k+2+nm.length)).drop (k+2)) nm (by simp;omega) hnm W);generalize Ap ((S.take (k+2+nm.length)).drop (k+2)) nm=sm at *;have hsl:=Lib.hid (fun W=>pJ S[k+2+nm.length].toNat W);obtain⟨n0,hn0⟩:∃n,S[k].toNat=n:=⟨_,rfl⟩
     obtain⟨n1,hn1⟩:∃n,S[k+1].toNat=n:=⟨_,rfl⟩
     obtain⟨n2,hn2⟩:∃n,S[k+2+nm.length].toNat=n:=⟨_,rfl⟩
     rw[hn0,hn1,hn2]at hcl;rw[hn2]at hsl;generalize hq:nY n2=q at *;have hinI:(k:Int)+2+nm.length<S.length:=by omega
     have hinJ:(k:Int)+2≤(k:Int)+2+nm.length:=by omega
     have hinK:(0:Int)≤(k:Int)+2:=by omega
     have hinL:(k:Int)+2+nm.length≤S.length:=by omega
     have hext:(⟨S.toArray⟩:Bt).extract (k+2) (k+2+nm.length)=⟨((S.take (k+2+nm.length)).drop (k+2)).toArray⟩:=by rw[Lib.extract_eq,iF,List.drop_take]
     by_cases h60:n0=60
     ·subst h60
      by_cases h47:n1=47
      ·subst h47
       simp only[decide_true,Bool.true_and]at hcl;cases sm with
       |false=>
        clear hcl
        go_wp2_with(go_at_call 153;((with_reducible refine(hsame.out _).mono ?_);rintro e1 w2 ⟨rfl,hb2⟩))
        exact⟨⟨k+1,rfl,rfl,by omega,aT r1 hb2,hT.below hb2,bB hB Hy hb2⟩,by simp[intOf];omega⟩
       |true=>
        simp only[Bool.true_and]at hcl;subst hcl
        go_wp2_with(first
         |(go_at_call 153;((with_reducible refine(hsame.out _).mono ?_);rintro e1 w2 ⟨rfl,hb2⟩;obtain⟨⟨y0,y1,y2⟩,y5⟩:=aN (aT r1 hb2)))
         |(go_at_call 154;((with_reducible refine(hsl.out _).mono ?_);rintro e1 w3 ⟨rfl,rfl⟩)))
        exact⟨⟨k+1,rfl,rfl,by omega,aT r1 hb2,hT.below hb2,bB hB Hy hb2⟩,by simp[intOf];omega⟩
      ·have h47I:¬((n1:Int)=47):=by omega
       clear hcl;go_wp2;exact⟨⟨k+1,rfl,rfl,by omega,r1,hT,hB⟩,by simp[intOf];omega⟩
     ·have h60I:¬((n0:Int)=60):=by omega
      clear hcl;go_wp2;exact⟨⟨k+1,rfl,rfl,by omega,r1,hT,hB⟩,by simp[intOf];omega⟩
    ·have hinI:¬((k:Int)+2+nm.length<S.length):=by omega
     clear hcl;go_wp2;exact⟨⟨k+1,rfl,rfl,by omega,r1,hT,hB⟩,by simp[intOf];omega⟩
   ·obtain rfl:k=e:=by omega
    have hcl:gQ nm (S.drop k)=true:=by
     rcases hat.out with h|h
     ·rw[h]at hdx
      have:=congrArg List.length hdx;simp at this;omega
     ·rw[hdx];exact h
    have hin:k+2+nm.length<S.length:=by
     by_cases h:k+2+nm.length<S.length
     ·exact h
     ·rw[yA h]at hcl
      cases hcl
    rw[sM hin]at hcl;simp only[Bool.and_eq_true,decide_eq_true_eq]at hcl;obtain⟨⟨⟨hn0,hn1⟩,hsm⟩,hq⟩:=hcl;have hsame:=Lib.hid (fun W=>yx ((S.take (k+2+nm.length)).drop (k+2)) nm (by simp;omega) hnm W);rw[hsm]at hsame;have hsl:=Lib.hid (fun W=>pJ S[k+2+nm.length].toNat W);rw[hq]at hsl;have hinI:(k:Int)+2+nm.length<S.length:=by omega
    clear hsm hq;have hinJ:(k:Int)+2≤(k:Int)+2+nm.length:=by omega
    have hinK:(0:Int)≤(k:Int)+2:=by omega
    have hinL:(k:Int)+2+nm.length≤S.length:=by omega
    have hext:(⟨S.toArray⟩:Bt).extract (k+2) (k+2+nm.length)=⟨((S.take (k+2+nm.length)).drop (k+2)).toArray⟩:=by rw[Lib.extract_eq,iF,List.drop_take]
    go_wp2_with(first
     |(go_at_call 153;((with_reducible refine(hsame.out _).mono ?_);rintro e1 w2s ⟨rfl,zw⟩;replace r1:=aT r1 zw;replace hT:=hT.below zw;replace hB:=bB hB Hy zw;obtain⟨⟨y0,y1,y2⟩,y5⟩:=aN r1;have hx2:=nX (s':=dx) r1;have hX2:=hT.other (jr _ ⟨b,0,none⟩ (.string ⟨(dx).toArray⟩)) r1 (by decide) (by decide);have hXB:=aH (j:=0) hB hbb (.string ⟨(dx).toArray⟩)))
     |(go_at_call 154;((with_reducible refine(hsl.out _).mono ?_);rintro e1 w3 ⟨rfl,rfl⟩)))
    refine bodyPost_ret (v:=.tuple #[]) (by simp[results,Tryz.results115,go_sem]) rfl ⟨rfl,⟨hbb,_,hx2,hX2⟩,hXB⟩
  ·obtain rfl:k=S.length:=by omega
   obtain rfl:e=S.length:=by omega
   rw[List.take_length]at htx;rw[List.drop_length]at hdx;subst htx hdx;have hx2:=nX (s':=[]) r1;have hX2:=hT.other (jr _ ⟨b,0,none⟩ (.string ByteArray.empty)) r1 (by decide) (by decide);have hXB:=aH (j:=0) hB hbb (.string ByteArray.empty);go_wp2;refine bodyPost_ret (v:=.tuple #[]) (by simp[results,Tryz.results115,go_sem]) rfl ⟨rfl,⟨hbb,_,hx2,hX2⟩,hXB⟩
theorem inside_B(base b:Nat)(S t nm:Txt)(l:List Tok)(hs:S.length≤1000000000)(hnm:nm.length≤1000000000)(hl:l.length≤10000000000)(ht0:S.take (iL nm S)≠[])(hso:kV nm=true)(w:World)(hsc:Sc w base b S t l)(hE:Env w base):
 Calls Tryz.prog 115 #[.pointer (some ⟨b,0,none⟩),.string ⟨nm.toArray⟩] w fun r w'=>r=.returned (.tuple #[])∧Sc w' base b (S.drop (iL nm S)) t (l++[⟨0,[],[],jc (S.take (iL nm S)),false⟩])∧Below base w w':=by
 have hbb:=hsc.1;obtain⟨_,v,hh,hT0⟩:=id hsc;obtain⟨ad,cp,rfl⟩:=hT0.len;have hno:=Lib.hid (fun j=>CF nm S j);have hat:=Lib.hid (CG nm S);have hel:=zO nm S;generalize iL nm S=e at *;have htl:(S.take e).length≤1000000000:=by simp;omega
 generalize htx:S.take e=tx at *;generalize hdx:S.drop e=dx at *;have pK:=Lib.hid (fun W=>GA nm W);rw[hso]at pK;have hdec:=Lib.hid (fun W hS=>vM tx htl W hS);generalize jc tx=dq at *;have hne:(tx==[])=false:=by simpa using ht0
 have c0h:=aN hh;obtain⟨⟨c0,c1,c2⟩,c5⟩:=c0h;go_enter Tryz.func115,Tryz.ntmps115;go_wp2
 go_loopw [4,5,6,18] (fun ve _ _ vi wr=>∃(k:Nat),vi=.int .i64 k∧ve=.int .i64 S.length∧k≤e∧wr.heap[b]?=some (.cells #[.string ⟨S.toArray⟩,.string ⟨t.toArray⟩,.slice ad l.length cp] 92 (0,0))∧nV wr base (.slice ad l.length cp) l∧Below base w wr) (fun _ _ _ vi _=>S.length - (intOf vi).toNat)
 case atStart=>exact⟨0,rfl,rfl,by omega,hh,hT0,Below.refl _ _⟩
 case round=>
  obtain⟨k,rfl,rfl,hk,r1,hT,hB⟩:=hrel;obtain⟨⟨q0,q1,q2⟩,q5⟩:=aN r1;have hEr:=hE.below hB;have Hy:=hEr.le
  by_cases hlt:k<S.length
  ·rcases Nat.lt_or_ge k e with hke|hke
   ·have hcl:=hno.out k hke
    by_cases hin:k+2+nm.length<S.length
    ·rw[sM hin]at hcl
     have hsame:=Lib.hid (fun W=>yx ((S.take (k+2+nm.length)).drop (k+2)) nm (by simp;omega) hnm W);generalize Ap ((S.take (k+2+nm.length)).drop (k+2)) nm=sm at *;have hsl:=Lib.hid (fun W=>pJ S[k+2+nm.length].toNat W);obtain⟨n0,hn0⟩:∃n,S[k].toNat=n:=⟨_,rfl⟩
     obtain⟨n1,hn1⟩:∃n,S[k+1].toNat=n:=⟨_,rfl⟩
     obtain⟨n2,hn2⟩:∃n,S[k+2+nm.length].toNat=n:=⟨_,rfl⟩
     rw[hn0,hn1,hn2]at hcl;rw[hn2]at hsl;generalize hq:nY n2=q at *;have hinI:(k:Int)+2+nm.length<S.length:=by omega
     have hinJ:(k:Int)+2≤(k:Int)+2+nm.length:=by omega
     have hinK:(0:Int)≤(k:Int)+2:=by omega
     have hinL:(k:Int)+2+nm.length≤S.length:=by omega
     have hext:(⟨S.toArray⟩:Bt).extract (k+2) (k+2+nm.length)=⟨((S.take (k+2+nm.length)).drop (k+2)).toArray⟩:=by rw[Lib.extract_eq,iF,List.drop_take]
     by_cases h60:n0=60
     ·subst h60
      by_cases h47:n1=47
      ·subst h47
       simp only[decide_true,Bool.true_and]at hcl;cases sm with
       |false=>
        clear hcl
        go_wp2_with(go_at_call 153;((with_reducible refine(hsame.out _).mono ?_);rintro e1 w2 ⟨rfl,hb2⟩))
        exact⟨⟨k+1,rfl,rfl,by omega,aT r1 hb2,hT.below hb2,bB hB Hy hb2⟩,by simp[intOf];omega⟩
       |true=>
        simp only[Bool.true_and]at hcl;subst hcl
        go_wp2_with(first
         |(go_at_call 153;((with_reducible refine(hsame.out _).mono ?_);rintro e1 w2 ⟨rfl,hb2⟩;obtain⟨⟨y0,y1,y2⟩,y5⟩:=aN (aT r1 hb2)))
         |(go_at_call 154;((with_reducible refine(hsl.out _).mono ?_);rintro e1 w3 ⟨rfl,rfl⟩)))
        exact⟨⟨k+1,rfl,rfl,by omega,aT r1 hb2,hT.below hb2,bB hB Hy hb2⟩,by simp[intOf];omega⟩
      ·have h47I:¬((n1:Int)=47):=by omega
       clear hcl;go_wp2;exact⟨⟨k+1,rfl,rfl,by omega,r1,hT,hB⟩,by simp[intOf];omega⟩
     ·have h60I:¬((n0:Int)=60):=by omega
      clear hcl;go_wp2;exact⟨⟨k+1,rfl,rfl,by omega,r1,hT,hB⟩,by simp[intOf];omega⟩
    ·have hinI:¬((k:Int)+2+nm.length<S.length):=by omega
     clear hcl;go_wp2;exact⟨⟨k+1,rfl,rfl,by omega,r1,hT,hB⟩,by simp[intOf];omega⟩
   ·obtain rfl:k=e:=by omega
    have hcl:gQ nm (S.drop k)=true:=by
     rcases hat.out with h|h
     ·rw[h]at hdx
      have:=congrArg List.length hdx;simp at this;omega
     ·rw[hdx];exact h
    have hin:k+2+nm.length<S.length:=by
     by_cases h:k+2+nm.length<S.length
     ·exact h
     ·rw[yA h]at hcl
      cases hcl
    rw[sM hin]at hcl;simp only[Bool.and_eq_true,decide_eq_true_eq]at hcl;obtain⟨⟨⟨hn0,hn1⟩,hsm⟩,hq⟩:=hcl;have hsame:=Lib.hid (fun W=>yx ((S.take (k+2+nm.length)).drop (k+2)) nm (by simp;omega) hnm W);rw[hsm]at hsame;have hsl:=Lib.hid (fun W=>pJ S[k+2+nm.length].toNat W);rw[hq]at hsl;have hinI:(k:Int)+2+nm.length<S.length:=by omega
    clear hsm hq;have hinJ:(k:Int)+2≤(k:Int)+2+nm.length:=by omega
    have hinK:(0:Int)≤(k:Int)+2:=by omega
    have hinL:(k:Int)+2+nm.length≤S.length:=by omega
    have hext:(⟨S.toArray⟩:Bt).extract (k+2) (k+2+nm.length)=⟨((S.take (k+2+nm.length)).drop (k+2)).toArray⟩:=by rw[Lib.extract_eq,iF,List.drop_take]
    go_wp2_with(first
     |(go_at_call 153;((with_reducible refine(hsame.out _).mono ?_);rintro e1 w2s ⟨rfl,zw⟩;replace r1:=aT r1 zw;replace hT:=hT.below zw;replace hB:=bB hB Hy zw;obtain⟨⟨y0,y1,y2⟩,y5⟩:=aN r1;have hx2:=nX (s':=dx) r1;have hX2:=hT.other (jr _ ⟨b,0,none⟩ (.string ⟨(dx).toArray⟩)) r1 (by decide) (by decide);have hXB:=aH (j:=0) hB hbb (.string ⟨(dx).toArray⟩);have hEX:=hE.below hXB;have hSX:=hEX.std;have hleX:=hEX.le))
     |(go_at_call 154;((with_reducible refine(hsl.out _).mono ?_);rintro e1 w3 ⟨rfl,rfl⟩))
     |(go_at_call 33;((with_reducible refine(pK.out _).mono ?_);rintro e1 w2 ⟨rfl,hb2⟩;have hh2:=aT hx2 hb2;have hT2:=hX2.below hb2;obtain⟨⟨d0,d1,d2⟩,d5⟩:=aN hh2;have hB2:=bB hXB hleX hb2;have hE2:=hE.below hB2;have hS2:=hE2.std;have hle2:=hE2.le))
     |(go_at_call 155;((with_reducible refine(hdec.out _ hS2).mono ?_);rintro e1 w4 ⟨rfl,hb4⟩;have hh4:=aT hh2 hb4;have hT4:=hT2.below hb4;obtain⟨⟨f0,f1,f2⟩,f5⟩:=aN hh4;have hB4:=bB hB2 hle2 hb4;have hle4:=(hE.below hB4).le;obtain⟨⟨k0,k1,k2,k3,k4⟩,k5⟩:=aW (bP w4 (#[.int .i64 0,.string ⟨#[]⟩,.string ⟨dq.toArray⟩,.slice none 0 0,.bool false]) _);have hT3:=hT4.alloc (.cells #[.int .i64 0,.string ⟨#[]⟩,.string ⟨dq.toArray⟩,.slice none 0 0,.bool false] 65);have hh3:=dP hh4 (.cells #[.int .i64 0,.string ⟨#[]⟩,.string ⟨dq.toArray⟩,.slice none 0 0,.bool false] 65);have hB3:=hB4.alloc hle4 (.cells #[.int .i64 0,.string ⟨#[]⟩,.string ⟨dq.toArray⟩,.slice none 0 0,.bool false] 65);have hle3:base≤(w4.alloc (.cells #[.int .i64 0,.string ⟨#[]⟩,.string ⟨dq.toArray⟩,.slice none 0 0,.bool false] 65)).heap.size:=(by rw[World.size_alloc];omega)))
     |(at_builtin;refine uV rfl (.tmp 100) (.tmp 103) rfl base w4.heap.size (.slice ad l.length cp) (.slice none 0 0) l ⟨0,[],[],dq,false⟩ rfl hT3 rfl k0 k1 k2 k3 k4 (jy.nil _ _) (by omega) hle3 ?_;intro v5 w5 hT5 hg5 hb5 hk5;obtain⟨ad5,cp5,rfl⟩:=hT5.len;rw[show(l++[(⟨0,[],[],dq,false⟩:Tok)]).length=l.length+1 from List.length_append]at hT5;have hh5:=hk5 _ _ _ _ hh3 (by decide);obtain⟨⟨e0,e1,e2⟩,e5⟩:=aN hh5;have hB5:=hB3.trans hb5))
    go_end0;exact⟨rfl,Sc.wz (l:=l) hbb hh5 hT5,aH hB5 hbb _⟩
  ·obtain rfl:k=S.length:=by omega
   obtain rfl:e=S.length:=by omega
   rw[List.take_length]at htx;rw[List.drop_length]at hdx;subst htx hdx;have hx2:=nX (s':=[]) r1;have hX2:=hT.other (jr _ ⟨b,0,none⟩ (.string ByteArray.empty)) r1 (by decide) (by decide);have hXB:=aH (j:=0) hB hbb (.string ByteArray.empty);have hEX:=hE.below hXB;have hSX:=hEX.std;have hleX:=hEX.le
   go_wp2_with(first
    |(go_at_call 33;((with_reducible refine(pK.out _).mono ?_);rintro e1 w2 ⟨rfl,hb2⟩;have hh2:=aT hx2 hb2;have hT2:=hX2.below hb2;obtain⟨⟨d0,d1,d2⟩,d5⟩:=aN hh2;have hB2:=bB hXB hleX hb2;have hE2:=hE.below hB2;have hS2:=hE2.std;have hle2:=hE2.le))
    |(go_at_call 155;((with_reducible refine(hdec.out _ hS2).mono ?_);rintro e1 w4 ⟨rfl,hb4⟩;have hh4:=aT hh2 hb4;have hT4:=hT2.below hb4;obtain⟨⟨f0,f1,f2⟩,f5⟩:=aN hh4;have hB4:=bB hB2 hle2 hb4;have hle4:=(hE.below hB4).le;obtain⟨⟨k0,k1,k2,k3,k4⟩,k5⟩:=aW (bP w4 (#[.int .i64 0,.string ⟨#[]⟩,.string ⟨dq.toArray⟩,.slice none 0 0,.bool false]) _);have hT3:=hT4.alloc (.cells #[.int .i64 0,.string ⟨#[]⟩,.string ⟨dq.toArray⟩,.slice none 0 0,.bool false] 65);have hh3:=dP hh4 (.cells #[.int .i64 0,.string ⟨#[]⟩,.string ⟨dq.toArray⟩,.slice none 0 0,.bool false] 65);have hB3:=hB4.alloc hle4 (.cells #[.int .i64 0,.string ⟨#[]⟩,.string ⟨dq.toArray⟩,.slice none 0 0,.bool false] 65);have hle3:base≤(w4.alloc (.cells #[.int .i64 0,.string ⟨#[]⟩,.string ⟨dq.toArray⟩,.slice none 0 0,.bool false] 65)).heap.size:=(by rw[World.size_alloc];omega)))
    |(at_builtin;refine uV rfl (.tmp 100) (.tmp 103) rfl base w4.heap.size (.slice ad l.length cp) (.slice none 0 0) l ⟨0,[],[],dq,false⟩ rfl hT3 rfl k0 k1 k2 k3 k4 (jy.nil _ _) (by omega) hle3 ?_;intro v5 w5 hT5 hg5 hb5 hk5;obtain⟨ad5,cp5,rfl⟩:=hT5.len;rw[show(l++[(⟨0,[],[],dq,false⟩:Tok)]).length=l.length+1 from List.length_append]at hT5;have hh5:=hk5 _ _ _ _ hh3 (by decide);obtain⟨⟨e0,e1,e2⟩,e5⟩:=aN hh5;have hB5:=hB3.trans hb5))
   go_end0;exact⟨rfl,Sc.wz (l:=l) hbb hh5 hT5,aH hB5 hbb _⟩
theorem inside_C(base b:Nat)(S t nm:Txt)(l:List Tok)(hs:S.length≤1000000000)(hnm:nm.length≤1000000000)(hl:l.length≤10000000000)(ht0:S.take (iL nm S)≠[])(hso:kV nm=false)(w:World)(hsc:Sc w base b S t l)(hE:Env w base):
 Calls Tryz.prog 115 #[.pointer (some ⟨b,0,none⟩),.string ⟨nm.toArray⟩] w fun r w'=>r=.returned (.tuple #[])∧Sc w' base b (S.drop (iL nm S)) t (l++[⟨0,[],[],S.take (iL nm S),false⟩])∧Below base w w':=by
 have hbb:=hsc.1;obtain⟨_,v,hh,hT0⟩:=id hsc;obtain⟨ad,cp,rfl⟩:=hT0.len;have hno:=Lib.hid (fun j=>CF nm S j);have hat:=Lib.hid (CG nm S);have hel:=zO nm S;generalize iL nm S=e at *;have htl:(S.take e).length≤1000000000:=by simp;omega
 generalize htx:S.take e=tx at *;generalize hdx:S.drop e=dx at *;have pK:=Lib.hid (fun W=>GA nm W);rw[hso]at pK;have hne:(tx==[])=false:=by simpa using ht0
 have c0h:=aN hh;obtain⟨⟨c0,c1,c2⟩,c5⟩:=c0h;go_enter Tryz.func115,Tryz.ntmps115;go_wp2
 go_loopw [4,5,6,18] (fun ve _ _ vi wr=>∃(k:Nat),vi=.int .i64 k∧ve=.int .i64 S.length∧k≤e∧wr.heap[b]?=some (.cells #[.string ⟨S.toArray⟩,.string ⟨t.toArray⟩,.slice ad l.length cp] 92 (0,0))∧nV wr base (.slice ad l.length cp) l∧Below base w wr) (fun _ _ _ vi _=>S.length - (intOf vi).toNat)
 case atStart=>exact⟨0,rfl,rfl,by omega,hh,hT0,Below.refl _ _⟩
 case round=>
  obtain⟨k,rfl,rfl,hk,r1,hT,hB⟩:=hrel;obtain⟨⟨q0,q1,q2⟩,q5⟩:=aN r1;have hEr:=hE.below hB;have Hy:=hEr.le
  by_cases hlt:k<S.length
  ·rcases Nat.lt_or_ge k e with hke|hke
   ·have hcl:=hno.out k hke
    by_cases hin:k+2+nm.length<S.length
    ·rw[sM hin]at hcl
     have hsame:=Lib.hid (fun W=>yx ((S.take (k+2+nm.length)).drop (k+2)) nm (by simp;omega) hnm W);generalize Ap ((S.take (k+2+nm.length)).drop (k+2)) nm=sm at *;have hsl:=Lib.hid (fun W=>pJ S[k+2+nm.length].toNat W);obtain⟨n0,hn0⟩:∃n,S[k].toNat=n:=⟨_,rfl⟩
     obtain⟨n1,hn1⟩:∃n,S[k+1].toNat=n:=⟨_,rfl⟩
     obtain⟨n2,hn2⟩:∃n,S[k+2+nm.length].toNat=n:=⟨_,rfl⟩
     rw[hn0,hn1,hn2]at hcl;rw[hn2]at hsl;generalize hq:nY n2=q at *;have hinI:(k:Int)+2+nm.length<S.length:=by omega
     have hinJ:(k:Int)+2≤(k:Int)+2+nm.length:=by omega
     have hinK:(0:Int)≤(k:Int)+2:=by omega
     have hinL:(k:Int)+2+nm.length≤S.length:=by omega
     have hext:(⟨S.toArray⟩:Bt).extract (k+2) (k+2+nm.length)=⟨((S.take (k+2+nm.length)).drop (k+2)).toArray⟩:=by rw[Lib.extract_eq,iF,List.drop_take]
     by_cases h60:n0=60
     ·subst h60
      by_cases h47:n1=47
      ·subst h47
       simp only[decide_true,Bool.true_and]at hcl;cases sm with
       |false=>
        clear hcl
        go_wp2_with(go_at_call 153;((with_reducible refine(hsame.out _).mono ?_);rintro e1 w2 ⟨rfl,hb2⟩))
        exact⟨⟨k+1,rfl,rfl,by omega,aT r1 hb2,hT.below hb2,bB hB Hy hb2⟩,by simp[intOf];omega⟩
       |true=>
        simp only[Bool.true_and]at hcl;subst hcl
        go_wp2_with(first
         |(go_at_call 153;((with_reducible refine(hsame.out _).mono ?_);rintro e1 w2 ⟨rfl,hb2⟩;obtain⟨⟨y0,y1,y2⟩,y5⟩:=aN (aT r1 hb2)))
         |(go_at_call 154;((with_reducible refine(hsl.out _).mono ?_);rintro e1 w3 ⟨rfl,rfl⟩)))
        exact⟨⟨k+1,rfl,rfl,by omega,aT r1 hb2,hT.below hb2,bB hB Hy hb2⟩,by simp[intOf];omega⟩
      ·have h47I:¬((n1:Int)=47):=by omega
       clear hcl;go_wp2;exact⟨⟨k+1,rfl,rfl,by omega,r1,hT,hB⟩,by simp[intOf];omega⟩
     ·have h60I:¬((n0:Int)=60):=by omega
      clear hcl;go_wp2;exact⟨⟨k+1,rfl,rfl,by omega,r1,hT,hB⟩,by simp[intOf];omega⟩
    ·have hinI:¬((k:Int)+2+nm.length<S.length):=by omega
     clear hcl;go_wp2;exact⟨⟨k+1,rfl,rfl,by omega,r1,hT,hB⟩,by simp[intOf];omega⟩
   ·obtain rfl:k=e:=by omega
    have hcl:gQ nm (S.drop k)=true:=by
     rcases hat.out with h|h
     ·rw[h]at hdx
      have:=congrArg List.length hdx;simp at this;omega
     ·rw[hdx];exact h
    have hin:k+2+nm.length<S.length:=by
     by_cases h:k+2+nm.length<S.length
     ·exact h
     ·rw[yA h]at hcl
      cases hcl
    rw[sM hin]at hcl;simp only[Bool.and_eq_true,decide_eq_true_eq]at hcl;obtain⟨⟨⟨hn0,hn1⟩,hsm⟩,hq⟩:=hcl;have hsame:=Lib.hid (fun W=>yx ((S.take (k+2+nm.length)).drop (k+2)) nm (by simp;omega) hnm W);rw[hsm]at hsame;have hsl:=Lib.hid (fun W=>pJ S[k+2+nm.length].toNat W);rw[hq]at hsl;have hinI:(k:Int)+2+nm.length<S.length:=by omega
    clear hsm hq;have hinJ:(k:Int)+2≤(k:Int)+2+nm.length:=by omega
    have hinK:(0:Int)≤(k:Int)+2:=by omega
    have hinL:(k:Int)+2+nm.length≤S.length:=by omega
    have hext:(⟨S.toArray⟩:Bt).extract (k+2) (k+2+nm.length)=⟨((S.take (k+2+nm.length)).drop (k+2)).toArray⟩:=by rw[Lib.extract_eq,iF,List.drop_take]
    go_wp2_with(first
     |(go_at_call 153;((with_reducible refine(hsame.out _).mono ?_);rintro e1 w2s ⟨rfl,zw⟩;replace r1:=aT r1 zw;replace hT:=hT.below zw;replace hB:=bB hB Hy zw;obtain⟨⟨y0,y1,y2⟩,y5⟩:=aN r1;have hx2:=nX (s':=dx) r1;have hX2:=hT.other (jr _ ⟨b,0,none⟩ (.string ⟨(dx).toArray⟩)) r1 (by decide) (by decide);have hXB:=aH (j:=0) hB hbb (.string ⟨(dx).toArray⟩);have hEX:=hE.below hXB;have hSX:=hEX.std;have hleX:=hEX.le))
     |(go_at_call 154;((with_reducible refine(hsl.out _).mono ?_);rintro e1 w3 ⟨rfl,rfl⟩))
     |(go_at_call 33;((with_reducible refine(pK.out _).mono ?_);rintro e1 w2 ⟨rfl,hb2⟩;have hh2:=aT hx2 hb2;have hT2:=hX2.below hb2;obtain⟨⟨d0,d1,d2⟩,d5⟩:=aN hh2;have hB2:=bB hXB hleX hb2;have hE2:=hE.below hB2;have hS2:=hE2.std;have hle2:=hE2.le;obtain⟨⟨k0,k1,k2,k3,k4⟩,k5⟩:=aW (bP w2 (#[.int .i64 0,.string ⟨#[]⟩,.string ⟨tx.toArray⟩,.slice none 0 0,.bool false]) _);have hT3:=hT2.alloc (.cells #[.int .i64 0,.string ⟨#[]⟩,.string ⟨tx.toArray⟩,.slice none 0 0,.bool false] 65);have hh3:=dP hh2 (.cells #[.int .i64 0,.string ⟨#[]⟩,.string ⟨tx.toArray⟩,.slice none 0 0,.bool false] 65);have hB3:=hB2.alloc hle2 (.cells #[.int .i64 0,.string ⟨#[]⟩,.string ⟨tx.toArray⟩,.slice none 0 0,.bool false] 65);have hle3:base≤(w2.alloc (.cells #[.int .i64 0,.string ⟨#[]⟩,.string ⟨tx.toArray⟩,.slice none 0 0,.bool false] 65)).heap.size:=(by rw[World.size_alloc];omega)))
     |(at_builtin;refine uV rfl (.tmp 100) (.tmp 103) rfl base w2.heap.size (.slice ad l.length cp) (.slice none 0 0) l ⟨0,[],[],tx,false⟩ rfl hT3 rfl k0 k1 k2 k3 k4 (jy.nil _ _) (by omega) hle3 ?_;intro v5 w5 hT5 hg5 hb5 hk5;obtain⟨ad5,cp5,rfl⟩:=hT5.len;rw[show(l++[(⟨0,[],[],tx,false⟩:Tok)]).length=l.length+1 from List.length_append]at hT5;have hh5:=hk5 _ _ _ _ hh3 (by decide);obtain⟨⟨e0,e1,e2⟩,e5⟩:=aN hh5;have hB5:=hB3.trans hb5))
    go_end0;exact⟨rfl,Sc.wz (l:=l) hbb hh5 hT5,aH hB5 hbb _⟩
  ·obtain rfl:k=S.length:=by omega
   obtain rfl:e=S.length:=by omega
   rw[List.take_length]at htx;rw[List.drop_length]at hdx;subst htx hdx;have hx2:=nX (s':=[]) r1;have hX2:=hT.other (jr _ ⟨b,0,none⟩ (.string ByteArray.empty)) r1 (by decide) (by decide);have hXB:=aH (j:=0) hB hbb (.string ByteArray.empty);have hEX:=hE.below hXB;have hSX:=hEX.std;have hleX:=hEX.le
   go_wp2_with(first
    |(go_at_call 33;((with_reducible refine(pK.out _).mono ?_);rintro e1 w2 ⟨rfl,hb2⟩;have hh2:=aT hx2 hb2;have hT2:=hX2.below hb2;obtain⟨⟨d0,d1,d2⟩,d5⟩:=aN hh2;have hB2:=bB hXB hleX hb2;have hE2:=hE.below hB2;have hS2:=hE2.std;have hle2:=hE2.le;obtain⟨⟨k0,k1,k2,k3,k4⟩,k5⟩:=aW (bP w2 (#[.int .i64 0,.string ⟨#[]⟩,.string ⟨S.toArray⟩,.slice none 0 0,.bool false]) _);have hT3:=hT2.alloc (.cells #[.int .i64 0,.string ⟨#[]⟩,.string ⟨S.toArray⟩,.slice none 0 0,.bool false] 65);have hh3:=dP hh2 (.cells #[.int .i64 0,.string ⟨#[]⟩,.string ⟨S.toArray⟩,.slice none 0 0,.bool false] 65);have hB3:=hB2.alloc hle2 (.cells #[.int .i64 0,.string ⟨#[]⟩,.string ⟨S.toArray⟩,.slice none 0 0,.bool false] 65);have hle3:base≤(w2.alloc (.cells #[.int .i64 0,.string ⟨#[]⟩,.string ⟨S.toArray⟩,.slice none 0 0,.bool false] 65)).heap.size:=(by rw[World.size_alloc];omega)))
    |(at_builtin;refine uV rfl (.tmp 100) (.tmp 103) rfl base w2.heap.size (.slice ad l.length cp) (.slice none 0 0) l ⟨0,[],[],S,false⟩ rfl hT3 rfl k0 k1 k2 k3 k4 (jy.nil _ _) (by omega) hle3 ?_;intro v5 w5 hT5 hg5 hb5 hk5;obtain⟨ad5,cp5,rfl⟩:=hT5.len;rw[show(l++[(⟨0,[],[],S,false⟩:Tok)]).length=l.length+1 from List.length_append]at hT5;have hh5:=hk5 _ _ _ _ hh3 (by decide);obtain⟨⟨e0,e1,e2⟩,e5⟩:=aN hh5;have hB5:=hB3.trans hb5))
   go_end0;exact⟨rfl,Sc.wz (l:=l) hbb hh5 hT5,aH hB5 hbb _⟩
theorem Hz(base b:Nat)(S t nm:Txt)(l:List Tok)(hs:S.length≤1000000000)(hnm:nm.length≤1000000000)(hl:l.length≤10000000000)(w:World)(hsc:Sc w base b S t l)(hE:Env w base):
 Calls Tryz.prog 115 #[.pointer (some ⟨b,0,none⟩),.string ⟨nm.toArray⟩] w fun r w'=>r=.returned (.tuple #[])∧Sc w' base b (jD nm S) t (l++jE nm S)∧Below base w w':=by
 unfold jE jD
 by_cases h:S.take (iL nm S)=[]
 ·rw[if_pos h,List.append_nil]
  exact inside_A base b S t nm l hs hnm hl h w hsc hE
 ·rw[if_neg h]
  cases hq:kV nm with
  |true=>exact inside_B base b S t nm l hs hnm hl h hq w hsc hE
  |false=>exact inside_C base b S t nm l hs hnm hl h hq w hsc hE
theorem jy.mono{w:World}{base base':Nat}{v:Value}{l:List (Txt×Txt)}(h:jy w base' v l)(hb:base≤base'):jy w base v l:=by
 obtain⟨h1,h2⟩:=h;refine⟨h1,?_⟩
 rcases h2 with h2|⟨g,cap,cur,e1,e2,e3⟩
 ·exact .inl h2
 ·exact .inr ⟨g,cap,cur,e1,Nat.le_trans hb e2,e3⟩
theorem nV.Qd{w:World}{base tb j:Nat}{v x:Value}{l:List Tok}{cur:Array Value}{fz:Nat×Nat}(h:nV w base v l)(hne:v.ownBlock≠some tb)(hb:w.heap[tb]?=some (.cells cur 65 fz)):nV (w.setCell ⟨tb,j,none⟩ x) base v l:=by
 obtain⟨ps,k1,k2,k3⟩:=h;exact⟨ps,k1,World.ownsRow.kept k2 (jr w ⟨tb,j,none⟩ x) (.inr hne),fun p hp=>pF (k3 p hp) (jr w ⟨tb,j,none⟩ x) hb (by decide)⟩
theorem nV.fresh{w:World}{base:Nat}{v:Value}{l:List Tok}(h:nV w base v l):v.ownBlock≠some w.heap.size:=by
 obtain⟨ps,k1,k2,k3⟩:=h;intro e;obtain⟨cur,hc⟩:=zL k2 e;have:=(Array.getElem?_eq_some_iff.1 hc).1;omega
theorem jy.set{w:World}{base b j:Nat}{v x:Value}{l:List (Txt×Txt)}{cur:Array Value}{e':TypeId}{fz:Nat×Nat}(h:jy w base v l)(hb:w.heap[b]?=some (.cells cur e' fz))(hne:e'≠36):jy (w.setCell ⟨b,j,none⟩ x) base v l:=pF h (jr w ⟨b,j,none⟩ x) hb hne
theorem HV{w w':World}{v:Value}{tb:Nat}{o:Obj}(hg:w.grownBy w' v.ownBlock)(hb:w.heap[tb]?=some o)(hne:v.ownBlock≠some tb):w'.heap[tb]?=some o:=
 (hg.block tb (Array.getElem?_eq_some_iff.1 hb).1 (fun e=>hne e.symm)).trans hb
structure Qe (w2 W:World) (base b tb:Nat) (r:Txt) (v1:Value) (l1:List Tok) (k:Int) (nm:Txt) (va:Value) (at0:List (Txt×Txt)) (sf:Bool):Prop where
 hb:W.heap[b]?=some (.cells #[.string ⟨r.toArray⟩,.string ⟨#[]⟩,v1] 92 (0,0))
 ht:W.heap[tb]?=some (.cells #[.int .i64 k,.string ⟨nm.toArray⟩,.string ⟨#[]⟩,va,.bool sf] 65 (0,0))
 toks:nV W base v1 l1
 atts:jy W base va at0
 below:Below base w2 W
 ne:v1.ownBlock≠some tb
theorem CJ{w2:World}{base b:Nat}{S r nm:Txt}{v1 va:Value}{l1:List Tok}{at0:List (Txt×Txt)}{sf:Bool}(k:Int)(hh2:w2.heap[b]?=some (.cells #[.string ⟨S.toArray⟩,.string ⟨#[]⟩,v1] 92 (0,0)))(hT2:nV w2 base v1 l1)(hA:jy w2 base va at0)(hbb:base≤b)(hle:base≤w2.heap.size):
 Qe w2 (((w2.alloc (.cells #[.int .i64 0,.string ⟨nm.toArray⟩,.string ⟨#[]⟩,va,.bool sf] 65)).setCell ⟨b,0,none⟩ (.string ⟨r.toArray⟩)).setCell ⟨w2.heap.size,0,none⟩ (.int .i64 k)) base b w2.heap.size r v1 l1 k nm va at0 sf:=by
 have hlt:=lu hh2;have a1:=dP hh2 (.cells #[.int .i64 0,.string ⟨nm.toArray⟩,.string ⟨#[]⟩,va,.bool sf] 65);have a2:=bP w2 #[.int .i64 0,.string ⟨nm.toArray⟩,.string ⟨#[]⟩,va,.bool sf] 65;have a3:=hT2.alloc (.cells #[.int .i64 0,.string ⟨nm.toArray⟩,.string ⟨#[]⟩,va,.bool sf] 65);have a4:jy (w2.alloc (.cells #[.int .i64 0,.string ⟨nm.toArray⟩,.string ⟨#[]⟩,va,.bool sf] 65)) base va at0:=World.ownsRow.alloc hA _;have a5:=(Below.refl base w2).alloc hle (.cells #[.int .i64 0,.string ⟨nm.toArray⟩,.string ⟨#[]⟩,va,.bool sf] 65);generalize w2.alloc (.cells #[.int .i64 0,.string ⟨nm.toArray⟩,.string ⟨#[]⟩,va,.bool sf] 65)=W3 at *;have hfr:=hT2.fresh;generalize hz:w2.heap.size=tb at *;have hne1:tb≠b:=by omega
 have hne2:b≠tb:=by omega
 have b1:(W3.setCell ⟨b,0,none⟩ (.string ⟨r.toArray⟩)).heap[b]?=some (.cells #[.string ⟨r.toArray⟩,.string ⟨#[]⟩,v1] 92 (0,0)):=heap_setCell_same W3 b 0 _ _ _ a1;have b2:(W3.setCell ⟨b,0,none⟩ (.string ⟨r.toArray⟩)).heap[tb]?=some (.cells #[.int .i64 0,.string ⟨nm.toArray⟩,.string ⟨#[]⟩,va,.bool sf] 65 (0,0)):=(heap_setCell_other W3 ⟨b,0,none⟩ tb _ hne1).trans a2;have b3:nV (W3.setCell ⟨b,0,none⟩ (.string ⟨r.toArray⟩)) base v1 l1:=a3.other (jr W3 ⟨b,0,none⟩ _) a1 (by decide) (by decide);have b4:jy (W3.setCell ⟨b,0,none⟩ (.string ⟨r.toArray⟩)) base va at0:=a4.set a1 (by decide);have b5:=aH (j:=0) a5 hbb (.string ⟨r.toArray⟩);generalize W3.setCell ⟨b,0,none⟩ (.string ⟨r.toArray⟩)=W4 at *;exact⟨(heap_setCell_other W4 ⟨tb,0,none⟩ b _ hne2).trans b1,heap_setCell_same W4 tb 0 _ _ _ b2,b3.Qd hfr b2,b4.set b2 (by decide),aH b5 (by omega) _,hfr⟩
theorem tag_lay2{w2 W:World}{base b tb:Nat}{r nm:Txt}{v1 va:Value}{l1:List Tok}{k:Int}{at0:List (Txt×Txt)}{sf:Bool}(hne:b≠tb)(hle:base≤tb)(h:Qe w2 W base b tb r v1 l1 k nm va at0 sf):
 Qe w2 ((W.setCell ⟨tb,3,none⟩ (.slice none 0 0)).setCell ⟨tb,4,none⟩ (.bool false)) base b tb r v1 l1 k nm (.slice none 0 0) [] false:=by
 obtain⟨b1,b2,b3,b4,b5,hfr⟩:=h;have d1:=(heap_setCell_other W ⟨tb,3,none⟩ b (.slice none 0 0) hne).trans b1;have d2:(W.setCell ⟨tb,3,none⟩ (.slice none 0 0)).heap[tb]?=some (.cells #[.int .i64 k,.string ⟨nm.toArray⟩,.string ⟨#[]⟩,.slice none 0 0,.bool sf] 65 (0,0)):=heap_setCell_same W tb 3 _ _ _ b2;have d3:=b3.Qd (j:=3) (x:=.slice none 0 0) hfr b2;have d5:=aH (j:=3) b5 hle (.slice none 0 0);generalize W.setCell ⟨tb,3,none⟩ (.slice none 0 0)=W4 at *;exact⟨(heap_setCell_other W4 ⟨tb,4,none⟩ b _ hne).trans d1,heap_setCell_same W4 tb 4 _ _ _ d2,d3.Qd hfr d2,jy.nil _ _,aH d5 hle _,hfr⟩
theorem tag_E(base b:Nat)(S t:Txt)(l:List Tok)(hs:S.length≤1000000000)(hs2:2≤S.length)(ht:t.length≤1000000000)(hl:l.length≤9000000000)(nm:Txt)(at0:List (Txt×Txt))(sf:Bool)(r:Txt)(ho:fC (S.drop 2)=some (⟨0,nm,at0,[],sf⟩,r))(w:World)(hsc:Sc w base b S t l)(hE:Env w base):
 Calls Tryz.prog 191 #[.pointer (some ⟨b,0,none⟩),.int .i64 2,.int .i64 2] w fun e w'=>e=.returned (.tuple #[])∧Sc w' base b r [] ((l++fE t)++[⟨2,nm,[],[],false⟩])∧Below base w w':=by
 have hbb:=hsc.1;have hc1:=Lib.hid (rO base b S t l ht (by omega) w hsc hE);have hl1:(l++fE t).length≤9000000001:=by unfold fE;split<;>simp<;>omega
 generalize l++fE t=l1 at *;have hc2:=Lib.hid (fun W hS=>vW (S.drop 2) (by simp;omega) W hS);rw[ho]at hc2;simp only[qc,GH]at hc2;have h2I:(2:Int)≤S.length:=by omega
 go_enter Tryz.func191,Tryz.ntmps191
 go_wp2_with(first
  |(go_at_call 159;((with_reducible refine(hc1.out).mono ?_);rintro e w1 ⟨rfl,hsc1,hb1⟩;have hE1:=hE.below hb1;obtain⟨_,v1,hh1,hT1⟩:=id hsc1;obtain⟨ad1,cp1,rfl⟩:=hT1.len;obtain⟨⟨d0,d1,d2⟩,d5⟩:=aN hh1;have hle1:=hE1.le;have hS1:=hE1.std;have hlt1:=lu hh1))
  |(go_at_call 213;((with_reducible refine(hc2.out _ hS1).mono ?_);rintro e w2 ⟨va,rfl,hA2,hb2⟩;obtain⟨ad2,cp2,rfl⟩:=hA2.len;have hh2:=aT hh1 hb2;obtain⟨⟨f0,f1,f2⟩,f5⟩:=aN hh2;have hT2:=hT1.below hb2;have zw:=hb2.size;have hne1:b≠w2.heap.size:=(by omega);have hne2:w2.heap.size≠b:=(by omega);have hle2:base≤w2.heap.size:=(by omega);have hh3:=dP hh2 (.cells #[.int .i64 0,.string ⟨nm.toArray⟩,.string ⟨#[]⟩,.slice ad2 at0.length cp2,.bool sf] 65);obtain⟨⟨p0,p1,p2⟩,p5⟩:=aN hh3;obtain⟨⟨g0,g1,g2,g3,g4⟩,g5⟩:=aW (bP w2 #[.int .i64 0,.string ⟨nm.toArray⟩,.string ⟨#[]⟩,.slice ad2 at0.length cp2,.bool sf] 65);have hBb:=bB hb1 hle1 hb2;have hL:=CJ (r:=r) (nm:=nm) (sf:=sf) 2 hh2 hT2 (hA2.mono hle1) hbb hle2;have hL:=tag_lay2 hne1 hle2 hL)))
 have hLb:=hBb.trans hL.below;have hW0:=hL.hb;have hW1:=hL.ht;have hWT:=hL.toks;have hWA:=hL.atts;have hWn:=hL.ne;clear hL p0 p1 p2 p5 g0 g1 g2 g3 g4 g5 hh3;generalize ((((w2.alloc (.cells #[.int .i64 0,.string ⟨nm.toArray⟩,.string ⟨#[]⟩,.slice ad2 at0.length cp2,.bool sf] 65)).setCell ⟨b,0,none⟩ (.string ⟨r.toArray⟩)).setCell ⟨w2.heap.size,0,none⟩ (.int .i64 2)).setCell ⟨w2.heap.size,3,none⟩ (.slice none 0 0)).setCell ⟨w2.heap.size,4,none⟩ (.bool false)=W7 at *;generalize w2.heap.size=tb at *;obtain⟨⟨c0,c1,c2⟩,c5⟩:=aN hW0;obtain⟨⟨g0,g1,g2,g3,g4⟩,g5⟩:=aW hW1;have hE7:=hE.below hLb;have hle7:=hE7.le;have hY0:=dP hW0 (.cells #[.int .i64 2,.string ⟨nm.toArray⟩,.string ⟨#[]⟩,.slice none 0 0,.bool false] 65);obtain⟨⟨y0,y1,y2⟩,y5⟩:=aN hY0;obtain⟨⟨z0,z1,z2,z3,z4⟩,z5⟩:=aW (bP W7 #[.int .i64 2,.string ⟨nm.toArray⟩,.string ⟨#[]⟩,.slice none 0 0,.bool false] 65);have hX0:((W7.alloc (.cells #[.int .i64 2,.string ⟨nm.toArray⟩,.string ⟨#[]⟩,.slice none 0 0,.bool false] 65)).drew).heap[b]?=_:=hY0
 have hX1:((W7.alloc (.cells #[.int .i64 2,.string ⟨nm.toArray⟩,.string ⟨#[]⟩,.slice none 0 0,.bool false] 65)).drew).heap[tb]?=_:=dP hW1 (.cells #[.int .i64 2,.string ⟨nm.toArray⟩,.string ⟨#[]⟩,.slice none 0 0,.bool false] 65);obtain⟨⟨k0,k1,k2,k3,k4⟩,k5⟩:=aW (w:=(W7.alloc (.cells #[.int .i64 2,.string ⟨nm.toArray⟩,.string ⟨#[]⟩,.slice none 0 0,.bool false] 65)).drew) (bP W7 #[.int .i64 2,.string ⟨nm.toArray⟩,.string ⟨#[]⟩,.slice none 0 0,.bool false] 65);have hXT:=(hWT.alloc (.cells #[.int .i64 2,.string ⟨nm.toArray⟩,.string ⟨#[]⟩,.slice none 0 0,.bool false] 65)).below (Below.refl _ _).drew;have hXA:jy (W7.alloc (.cells #[.int .i64 2,.string ⟨nm.toArray⟩,.string ⟨#[]⟩,.slice none 0 0,.bool false] 65)).drew base (.slice none 0 0) []:=jy.below (World.ownsRow.alloc hWA (.cells #[.int .i64 2,.string ⟨nm.toArray⟩,.string ⟨#[]⟩,.slice none 0 0,.bool false] 65)) (Below.refl _ _).drew;have hXB:=(hLb.alloc (by exact hle7) (.cells #[.int .i64 2,.string ⟨nm.toArray⟩,.string ⟨#[]⟩,.slice none 0 0,.bool false] 65)).drew
 have hle8:base≤((W7.alloc (.cells #[.int .i64 2,.string ⟨nm.toArray⟩,.string ⟨#[]⟩,.slice none 0 0,.bool false] 65)).drew).heap.size:=hXB.size |> Nat.le_trans hE.le
 go_region_law (refine tL rfl (.tmp 41) (.tmp 43) rfl base W7.heap.size (.slice ad1 l1.length cp1) (.slice none 0 0) l1 ⟨2,nm,[],[],false⟩ rfl hXT rfl k0 k1 k2 k3 k4 hXA (by omega) hle8 ?_;intro v5 w5 hT5 hg5 hb5 hk5;obtain⟨ad5,cp5,rfl⟩:=hT5.len;rw[show(l1++[(⟨2,nm,[],[],false⟩:Tok)]).length=l1.length+1 from List.length_append]at hT5;have hh5:=hk5 _ _ _ _ hX0 (by decide);obtain⟨⟨e0,e1,e2⟩,e5⟩:=aN hh5;have hB5:=hXB.trans hb5)
 all_goals
  have hfin:=Sc.wz (l:=l1) hbb hh5 hT5;have hbf:=fun x=>aH (j:=2) hB5 hbb x
  go_wp2;go_end0;exact⟨rfl,hfin,hbf _⟩
theorem tag_P(base b:Nat)(S t:Txt)(l:List Tok)(hs:S.length≤1000000000)(hs2:1≤S.length)(ht:t.length≤1000000000)(hl:l.length≤9000000000)(nm:Txt)(at0:List (Txt×Txt))(sf:Bool)(r:Txt)(ho:fC (S.drop 1)=some (⟨0,nm,at0,[],sf⟩,r))(hr:kX nm=false)(hso:kV nm=false)(w:World)(hsc:Sc w base b S t l)(hE:Env w base):
 Calls Tryz.prog 191 #[.pointer (some ⟨b,0,none⟩),.int .i64 1,.int .i64 1] w fun e w'=>e=.returned (.tuple #[])∧Sc w' base b r [] ((l++fE t)++[⟨1,nm,at0,[],sf⟩])∧Below base w w':=by
 have hbb:=hsc.1;have hc1:=Lib.hid (rO base b S t l ht (by omega) w hsc hE);have hl1:(l++fE t).length≤9000000001:=by unfold fE;split<;>simp<;>omega
 generalize l++fE t=l1 at *;have hc2:=Lib.hid (fun W hS=>vW (S.drop 1) (by simp;omega) W hS);rw[ho]at hc2;simp only[qc,GH]at hc2;rw[List.drop_one]at hc2;have hraw:=Lib.hid (fun W=>raw_c nm W);rw[hr]at hraw;have pK:=Lib.hid (fun W=>GA nm W);rw[hso]at pK;have h2I:(1:Int)≤S.length:=by omega
 go_enter Tryz.func191,Tryz.ntmps191
 go_wp2_with(first
  |(go_at_call 159;((with_reducible refine(hc1.out).mono ?_);rintro e w1 ⟨rfl,hsc1,hb1⟩;have hE1:=hE.below hb1;obtain⟨_,v1,hh1,hT1⟩:=id hsc1;obtain⟨ad1,cp1,rfl⟩:=hT1.len;obtain⟨⟨d0,d1,d2⟩,d5⟩:=aN hh1;have hle1:=hE1.le;have hS1:=hE1.std;have hlt1:=lu hh1))
  |(go_at_call 213;((with_reducible refine(hc2.out _ hS1).mono ?_);rintro e w2 ⟨va,rfl,hA2,hb2⟩;obtain⟨ad2,cp2,rfl⟩:=hA2.len;have hh2:=aT hh1 hb2;obtain⟨⟨f0,f1,f2⟩,f5⟩:=aN hh2;have hT2:=hT1.below hb2;have zw:=hb2.size;have hne1:b≠w2.heap.size:=(by omega);have hne2:w2.heap.size≠b:=(by omega);have hle2:base≤w2.heap.size:=(by omega);have hh3:=dP hh2 (.cells #[.int .i64 0,.string ⟨nm.toArray⟩,.string ⟨#[]⟩,.slice ad2 at0.length cp2,.bool sf] 65);obtain⟨⟨p0,p1,p2⟩,p5⟩:=aN hh3;obtain⟨⟨g0,g1,g2,g3,g4⟩,g5⟩:=aW (bP w2 #[.int .i64 0,.string ⟨nm.toArray⟩,.string ⟨#[]⟩,.slice ad2 at0.length cp2,.bool sf] 65);have hBb:=bB hb1 hle1 hb2;have hL:=CJ (r:=r) (nm:=nm) (sf:=sf) 1 hh2 hT2 (hA2.mono hle1) hbb hle2)))
 have hLb:=hBb.trans hL.below;have hW0:=hL.hb;have hW1:=hL.ht;have hWT:=hL.toks;have hWA:=hL.atts;have hWn:=hL.ne;clear hL p0 p1 p2 p5 g0 g1 g2 g3 g4 g5 hh3;generalize ((w2.alloc (.cells #[.int .i64 0,.string ⟨nm.toArray⟩,.string ⟨#[]⟩,.slice ad2 at0.length cp2,.bool sf] 65)).setCell ⟨b,0,none⟩ (.string ⟨r.toArray⟩)).setCell ⟨w2.heap.size,0,none⟩ (.int .i64 1)=W7 at *;generalize w2.heap.size=tb at *;obtain⟨⟨c0,c1,c2⟩,c5⟩:=aN hW0;obtain⟨⟨g0,g1,g2,g3,g4⟩,g5⟩:=aW hW1;have hE7:=hE.below hLb;have hle7:=hE7.le;have hY0:=dP hW0 (.cells #[.int .i64 1,.string ⟨nm.toArray⟩,.string ⟨#[]⟩,.slice ad2 at0.length cp2,.bool sf] 65);obtain⟨⟨y0,y1,y2⟩,y5⟩:=aN hY0;obtain⟨⟨z0,z1,z2,z3,z4⟩,z5⟩:=aW (bP W7 #[.int .i64 1,.string ⟨nm.toArray⟩,.string ⟨#[]⟩,.slice ad2 at0.length cp2,.bool sf] 65);have hX0:((W7.alloc (.cells #[.int .i64 1,.string ⟨nm.toArray⟩,.string ⟨#[]⟩,.slice ad2 at0.length cp2,.bool sf] 65)).drew).heap[b]?=_:=hY0
 have hX1:((W7.alloc (.cells #[.int .i64 1,.string ⟨nm.toArray⟩,.string ⟨#[]⟩,.slice ad2 at0.length cp2,.bool sf] 65)).drew).heap[tb]?=_:=dP hW1 (.cells #[.int .i64 1,.string ⟨nm.toArray⟩,.string ⟨#[]⟩,.slice ad2 at0.length cp2,.bool sf] 65);obtain⟨⟨k0,k1,k2,k3,k4⟩,k5⟩:=aW (w:=(W7.alloc (.cells #[.int .i64 1,.string ⟨nm.toArray⟩,.string ⟨#[]⟩,.slice ad2 at0.length cp2,.bool sf] 65)).drew) (bP W7 #[.int .i64 1,.string ⟨nm.toArray⟩,.string ⟨#[]⟩,.slice ad2 at0.length cp2,.bool sf] 65);have hXT:=(hWT.alloc (.cells #[.int .i64 1,.string ⟨nm.toArray⟩,.string ⟨#[]⟩,.slice ad2 at0.length cp2,.bool sf] 65)).below (Below.refl _ _).drew;have hXA:jy (W7.alloc (.cells #[.int .i64 1,.string ⟨nm.toArray⟩,.string ⟨#[]⟩,.slice ad2 at0.length cp2,.bool sf] 65)).drew base (.slice ad2 at0.length cp2) at0:=jy.below (World.ownsRow.alloc hWA (.cells #[.int .i64 1,.string ⟨nm.toArray⟩,.string ⟨#[]⟩,.slice ad2 at0.length cp2,.bool sf] 65)) (Below.refl _ _).drew;have hXB:=(hLb.alloc (by exact hle7) (.cells #[.int .i64 1,.string ⟨nm.toArray⟩,.string ⟨#[]⟩,.slice ad2 at0.length cp2,.bool sf] 65)).drew
 have hle8:base≤((W7.alloc (.cells #[.int .i64 1,.string ⟨nm.toArray⟩,.string ⟨#[]⟩,.slice ad2 at0.length cp2,.bool sf] 65)).drew).heap.size:=hXB.size |> Nat.le_trans hE.le
 go_region_law (refine tL rfl (.tmp 41) (.tmp 43) rfl base W7.heap.size (.slice ad1 l1.length cp1) (.slice ad2 at0.length cp2) l1 ⟨1,nm,at0,[],sf⟩ rfl hXT rfl k0 k1 k2 k3 k4 hXA (by omega) hle8 ?_;intro v5 w5 hT5 hg5 hb5 hk5;obtain⟨ad5,cp5,rfl⟩:=hT5.len;rw[show(l1++[(⟨1,nm,at0,[],sf⟩:Tok)]).length=l1.length+1 from List.length_append]at hT5;have hh5:=hk5 _ _ _ _ hX0 (by decide);obtain⟨⟨e0,e1,e2⟩,e5⟩:=aN hh5;have hB5:=hXB.trans hb5;have ht5:=HV hg5 hX1 hWn;obtain⟨⟨n0,n1,n2,n3,n4⟩,n5⟩:=aW ht5)
 all_goals
  have hfin:=Sc.wz (l:=l1) hbb hh5 hT5;have hbf:=fun x=>aH (j:=2) hB5 hbb x
  have hscP:=hfin;have htP:=(heap_setCell_other w5 ⟨b,2,none⟩ tb (.slice ad5 (l1.length+1) cp5) hne2).trans ht5;have hBP:=hbf (.slice ad5 (l1.length+1) cp5);have hleP:=(hE.below hBP).le;obtain⟨⟨m0,m1,m2,m3,m4⟩,m5⟩:=aW htP
  go_wp2_with(first
   |(go_at_call 32;((with_reducible refine(hraw.out _).mono ?_);rintro e w6 ⟨rfl,hb6⟩;have hsc6:=hscP.below hb6;have ht6:=aT htP hb6;obtain⟨⟨o0,o1,o2,o3,o4⟩,o5⟩:=aW ht6;have hb6s:=hb6.size;have hB6:=bB hBP hleP hb6;have hE6:=hE.below hB6))
   |(go_at_call 33;((with_reducible refine(pK.out _).mono ?_);rintro e w7 ⟨rfl,hb7⟩)))
  go_end0;exact⟨rfl,hsc6.below hb7,bB hB6 hE6.le hb7⟩
theorem tag_R(base b:Nat)(S t:Txt)(l:List Tok)(hs:S.length≤1000000000)(hs2:1≤S.length)(ht:t.length≤1000000000)(hl:l.length≤9000000000)(nm:Txt)(at0:List (Txt×Txt))(sf:Bool)(r:Txt)(ho:fC (S.drop 1)=some (⟨0,nm,at0,[],sf⟩,r))(hr:kX nm=true)(hnl:nm.length≤1000000000)(w:World)(hsc:Sc w base b S t l)(hE:Env w base):
 Calls Tryz.prog 191 #[.pointer (some ⟨b,0,none⟩),.int .i64 1,.int .i64 1] w fun e w'=>e=.returned (.tuple #[])∧Sc w' base b (jD nm r) [] (((l++fE t)++[⟨1,nm,at0,[],sf⟩])++jE nm r)∧Below base w w':=by
 have hbb:=hsc.1;have hc1:=Lib.hid (rO base b S t l ht (by omega) w hsc hE);have hl1:(l++fE t).length≤9000000001:=by unfold fE;split<;>simp<;>omega
 generalize l++fE t=l1 at *;have hc2:=Lib.hid (fun W hS=>vW (S.drop 1) (by simp;omega) W hS);rw[ho]at hc2;simp only[qc,GH]at hc2;rw[List.drop_one]at hc2
 have hrl:r.length≤1000000000:=by
  have:=yB ho;simp at this;omega
 have hraw:=Lib.hid (fun W=>raw_c nm W);rw[hr]at hraw;have h2I:(1:Int)≤S.length:=by omega
 go_enter Tryz.func191,Tryz.ntmps191
 go_wp2_with(first
  |(go_at_call 159;((with_reducible refine(hc1.out).mono ?_);rintro e w1 ⟨rfl,hsc1,hb1⟩;have hE1:=hE.below hb1;obtain⟨_,v1,hh1,hT1⟩:=id hsc1;obtain⟨ad1,cp1,rfl⟩:=hT1.len;obtain⟨⟨d0,d1,d2⟩,d5⟩:=aN hh1;have hle1:=hE1.le;have hS1:=hE1.std;have hlt1:=lu hh1))
  |(go_at_call 213;((with_reducible refine(hc2.out _ hS1).mono ?_);rintro e w2 ⟨va,rfl,hA2,hb2⟩;obtain⟨ad2,cp2,rfl⟩:=hA2.len;have hh2:=aT hh1 hb2;obtain⟨⟨f0,f1,f2⟩,f5⟩:=aN hh2;have hT2:=hT1.below hb2;have zw:=hb2.size;have hne1:b≠w2.heap.size:=(by omega);have hne2:w2.heap.size≠b:=(by omega);have hle2:base≤w2.heap.size:=(by omega);have hh3:=dP hh2 (.cells #[.int .i64 0,.string ⟨nm.toArray⟩,.string ⟨#[]⟩,.slice ad2 at0.length cp2,.bool sf] 65);obtain⟨⟨p0,p1,p2⟩,p5⟩:=aN hh3;obtain⟨⟨g0,g1,g2,g3,g4⟩,g5⟩:=aW (bP w2 #[.int .i64 0,.string ⟨nm.toArray⟩,.string ⟨#[]⟩,.slice ad2 at0.length cp2,.bool sf] 65);have hBb:=bB hb1 hle1 hb2;have hL:=CJ (r:=r) (nm:=nm) (sf:=sf) 1 hh2 hT2 (hA2.mono hle1) hbb hle2)))
 have hLb:=hBb.trans hL.below;have hW0:=hL.hb;have hW1:=hL.ht;have hWT:=hL.toks;have hWA:=hL.atts;have hWn:=hL.ne;clear hL p0 p1 p2 p5 g0 g1 g2 g3 g4 g5 hh3;generalize ((w2.alloc (.cells #[.int .i64 0,.string ⟨nm.toArray⟩,.string ⟨#[]⟩,.slice ad2 at0.length cp2,.bool sf] 65)).setCell ⟨b,0,none⟩ (.string ⟨r.toArray⟩)).setCell ⟨w2.heap.size,0,none⟩ (.int .i64 1)=W7 at *;generalize w2.heap.size=tb at *;obtain⟨⟨c0,c1,c2⟩,c5⟩:=aN hW0;obtain⟨⟨g0,g1,g2,g3,g4⟩,g5⟩:=aW hW1;have hE7:=hE.below hLb;have hle7:=hE7.le;have hY0:=dP hW0 (.cells #[.int .i64 1,.string ⟨nm.toArray⟩,.string ⟨#[]⟩,.slice ad2 at0.length cp2,.bool sf] 65);obtain⟨⟨y0,y1,y2⟩,y5⟩:=aN hY0;obtain⟨⟨z0,z1,z2,z3,z4⟩,z5⟩:=aW (bP W7 #[.int .i64 1,.string ⟨nm.toArray⟩,.string ⟨#[]⟩,.slice ad2 at0.length cp2,.bool sf] 65);have hX0:((W7.alloc (.cells #[.int .i64 1,.string ⟨nm.toArray⟩,.string ⟨#[]⟩,.slice ad2 at0.length cp2,.bool sf] 65)).drew).heap[b]?=_:=hY0
 have hX1:((W7.alloc (.cells #[.int .i64 1,.string ⟨nm.toArray⟩,.string ⟨#[]⟩,.slice ad2 at0.length cp2,.bool sf] 65)).drew).heap[tb]?=_:=dP hW1 (.cells #[.int .i64 1,.string ⟨nm.toArray⟩,.string ⟨#[]⟩,.slice ad2 at0.length cp2,.bool sf] 65);obtain⟨⟨k0,k1,k2,k3,k4⟩,k5⟩:=aW (w:=(W7.alloc (.cells #[.int .i64 1,.string ⟨nm.toArray⟩,.string ⟨#[]⟩,.slice ad2 at0.length cp2,.bool sf] 65)).drew) (bP W7 #[.int .i64 1,.string ⟨nm.toArray⟩,.string ⟨#[]⟩,.slice ad2 at0.length cp2,.bool sf] 65);have hXT:=(hWT.alloc (.cells #[.int .i64 1,.string ⟨nm.toArray⟩,.string ⟨#[]⟩,.slice ad2 at0.length cp2,.bool sf] 65)).below (Below.refl _ _).drew;have hXA:jy (W7.alloc (.cells #[.int .i64 1,.string ⟨nm.toArray⟩,.string ⟨#[]⟩,.slice ad2 at0.length cp2,.bool sf] 65)).drew base (.slice ad2 at0.length cp2) at0:=jy.below (World.ownsRow.alloc hWA (.cells #[.int .i64 1,.string ⟨nm.toArray⟩,.string ⟨#[]⟩,.slice ad2 at0.length cp2,.bool sf] 65)) (Below.refl _ _).drew;have hXB:=(hLb.alloc (by exact hle7) (.cells #[.int .i64 1,.string ⟨nm.toArray⟩,.string ⟨#[]⟩,.slice ad2 at0.length cp2,.bool sf] 65)).drew
 have hle8:base≤((W7.alloc (.cells #[.int .i64 1,.string ⟨nm.toArray⟩,.string ⟨#[]⟩,.slice ad2 at0.length cp2,.bool sf] 65)).drew).heap.size:=hXB.size |> Nat.le_trans hE.le
 go_region_law (refine tL rfl (.tmp 41) (.tmp 43) rfl base W7.heap.size (.slice ad1 l1.length cp1) (.slice ad2 at0.length cp2) l1 ⟨1,nm,at0,[],sf⟩ rfl hXT rfl k0 k1 k2 k3 k4 hXA (by omega) hle8 ?_;intro v5 w5 hT5 hg5 hb5 hk5;obtain⟨ad5,cp5,rfl⟩:=hT5.len;rw[show(l1++[(⟨1,nm,at0,[],sf⟩:Tok)]).length=l1.length+1 from List.length_append]at hT5;have hh5:=hk5 _ _ _ _ hX0 (by decide);obtain⟨⟨e0,e1,e2⟩,e5⟩:=aN hh5;have hB5:=hXB.trans hb5;have ht5:=HV hg5 hX1 hWn;obtain⟨⟨n0,n1,n2,n3,n4⟩,n5⟩:=aW ht5)
 all_goals
  have hfin:=Sc.wz (l:=l1) hbb hh5 hT5;have hbf:=fun x=>aH (j:=2) hB5 hbb x
  have hscP:=hfin;have htP:=(heap_setCell_other w5 ⟨b,2,none⟩ tb (.slice ad5 (l1.length+1) cp5) hne2).trans ht5;have hBP:=hbf (.slice ad5 (l1.length+1) cp5);have hleP:=(hE.below hBP).le;obtain⟨⟨m0,m1,m2,m3,m4⟩,m5⟩:=aW htP
  go_wp2_with(first
   |(go_at_call 32;((with_reducible refine(hraw.out _).mono ?_);rintro e w6 ⟨rfl,hb6⟩;have hsc6:=hscP.below hb6;have ht6:=aT htP hb6;obtain⟨⟨o0,o1,o2,o3,o4⟩,o5⟩:=aW ht6;have hb6s:=hb6.size;have hB6:=bB hBP hleP hb6;have hE6:=hE.below hB6))
   |(go_at_call 115;((with_reducible refine(Hz base b r [] nm _ hrl hnl (by simp;omega) _ hsc6 hE6).mono ?_);rintro e w8 ⟨rfl,hsc8,hb8⟩)))
  go_end0;exact⟨rfl,hsc8,hB6.trans hb8⟩
theorem tag_S(base b:Nat)(S t:Txt)(l:List Tok)(hs:S.length≤1000000000)(hs2:1≤S.length)(ht:t.length≤1000000000)(hl:l.length≤9000000000)(nm:Txt)(at0:List (Txt×Txt))(sf:Bool)(r:Txt)(ho:fC (S.drop 1)=some (⟨0,nm,at0,[],sf⟩,r))(hr:kX nm=false)(hso:kV nm=true)(hnl:nm.length≤1000000000)(w:World)(hsc:Sc w base b S t l)(hE:Env w base):
 Calls Tryz.prog 191 #[.pointer (some ⟨b,0,none⟩),.int .i64 1,.int .i64 1] w fun e w'=>e=.returned (.tuple #[])∧Sc w' base b (jD nm r) [] (((l++fE t)++[⟨1,nm,at0,[],sf⟩])++jE nm r)∧Below base w w':=by
 have hbb:=hsc.1;have hc1:=Lib.hid (rO base b S t l ht (by omega) w hsc hE);have hl1:(l++fE t).length≤9000000001:=by unfold fE;split<;>simp<;>omega
 generalize l++fE t=l1 at *;have hc2:=Lib.hid (fun W hS=>vW (S.drop 1) (by simp;omega) W hS);rw[ho]at hc2;simp only[qc,GH]at hc2;rw[List.drop_one]at hc2
 have hrl:r.length≤1000000000:=by
  have:=yB ho;simp at this;omega
 have hraw:=Lib.hid (fun W=>raw_c nm W);rw[hr]at hraw;have pK:=Lib.hid (fun W=>GA nm W);rw[hso]at pK;have h2I:(1:Int)≤S.length:=by omega
 go_enter Tryz.func191,Tryz.ntmps191
 go_wp2_with(first
  |(go_at_call 159;((with_reducible refine(hc1.out).mono ?_);rintro e w1 ⟨rfl,hsc1,hb1⟩;have hE1:=hE.below hb1;obtain⟨_,v1,hh1,hT1⟩:=id hsc1;obtain⟨ad1,cp1,rfl⟩:=hT1.len;obtain⟨⟨d0,d1,d2⟩,d5⟩:=aN hh1;have hle1:=hE1.le;have hS1:=hE1.std;have hlt1:=lu hh1))
  |(go_at_call 213;((with_reducible refine(hc2.out _ hS1).mono ?_);rintro e w2 ⟨va,rfl,hA2,hb2⟩;obtain⟨ad2,cp2,rfl⟩:=hA2.len;have hh2:=aT hh1 hb2;obtain⟨⟨f0,f1,f2⟩,f5⟩:=aN hh2;have hT2:=hT1.below hb2;have zw:=hb2.size;have hne1:b≠w2.heap.size:=(by omega);have hne2:w2.heap.size≠b:=(by omega);have hle2:base≤w2.heap.size:=(by omega);have hh3:=dP hh2 (.cells #[.int .i64 0,.string ⟨nm.toArray⟩,.string ⟨#[]⟩,.slice ad2 at0.length cp2,.bool sf] 65);obtain⟨⟨p0,p1,p2⟩,p5⟩:=aN hh3;obtain⟨⟨g0,g1,g2,g3,g4⟩,g5⟩:=aW (bP w2 #[.int .i64 0,.string ⟨nm.toArray⟩,.string ⟨#[]⟩,.slice ad2 at0.length cp2,.bool sf] 65);have hBb:=bB hb1 hle1 hb2;have hL:=CJ (r:=r) (nm:=nm) (sf:=sf) 1 hh2 hT2 (hA2.mono hle1) hbb hle2)))
 have hLb:=hBb.trans hL.below;have hW0:=hL.hb;have hW1:=hL.ht;have hWT:=hL.toks;have hWA:=hL.atts;have hWn:=hL.ne;clear hL p0 p1 p2 p5 g0 g1 g2 g3 g4 g5 hh3;generalize ((w2.alloc (.cells #[.int .i64 0,.string ⟨nm.toArray⟩,.string ⟨#[]⟩,.slice ad2 at0.length cp2,.bool sf] 65)).setCell ⟨b,0,none⟩ (.string ⟨r.toArray⟩)).setCell ⟨w2.heap.size,0,none⟩ (.int .i64 1)=W7 at *;generalize w2.heap.size=tb at *;obtain⟨⟨c0,c1,c2⟩,c5⟩:=aN hW0;obtain⟨⟨g0,g1,g2,g3,g4⟩,g5⟩:=aW hW1;have hE7:=hE.below hLb;have hle7:=hE7.le;have hY0:=dP hW0 (.cells #[.int .i64 1,.string ⟨nm.toArray⟩,.string ⟨#[]⟩,.slice ad2 at0.length cp2,.bool sf] 65);obtain⟨⟨y0,y1,y2⟩,y5⟩:=aN hY0;obtain⟨⟨z0,z1,z2,z3,z4⟩,z5⟩:=aW (bP W7 #[.int .i64 1,.string ⟨nm.toArray⟩,.string ⟨#[]⟩,.slice ad2 at0.length cp2,.bool sf] 65);have hX0:((W7.alloc (.cells #[.int .i64 1,.string ⟨nm.toArray⟩,.string ⟨#[]⟩,.slice ad2 at0.length cp2,.bool sf] 65)).drew).heap[b]?=_:=hY0
 have hX1:((W7.alloc (.cells #[.int .i64 1,.string ⟨nm.toArray⟩,.string ⟨#[]⟩,.slice ad2 at0.length cp2,.bool sf] 65)).drew).heap[tb]?=_:=dP hW1 (.cells #[.int .i64 1,.string ⟨nm.toArray⟩,.string ⟨#[]⟩,.slice ad2 at0.length cp2,.bool sf] 65);obtain⟨⟨k0,k1,k2,k3,k4⟩,k5⟩:=aW (w:=(W7.alloc (.cells #[.int .i64 1,.string ⟨nm.toArray⟩,.string ⟨#[]⟩,.slice ad2 at0.length cp2,.bool sf] 65)).drew) (bP W7 #[.int .i64 1,.string ⟨nm.toArray⟩,.string ⟨#[]⟩,.slice ad2 at0.length cp2,.bool sf] 65);have hXT:=(hWT.alloc (.cells #[.int .i64 1,.string ⟨nm.toArray⟩,.string ⟨#[]⟩,.slice ad2 at0.length cp2,.bool sf] 65)).below (Below.refl _ _).drew;have hXA:jy (W7.alloc (.cells #[.int .i64 1,.string ⟨nm.toArray⟩,.string ⟨#[]⟩,.slice ad2 at0.length cp2,.bool sf] 65)).drew base (.slice ad2 at0.length cp2) at0:=jy.below (World.ownsRow.alloc hWA (.cells #[.int .i64 1,.string ⟨nm.toArray⟩,.string ⟨#[]⟩,.slice ad2 at0.length cp2,.bool sf] 65)) (Below.refl _ _).drew;have hXB:=(hLb.alloc (by exact hle7) (.cells #[.int .i64 1,.string ⟨nm.toArray⟩,.string ⟨#[]⟩,.slice ad2 at0.length cp2,.bool sf] 65)).drew
 have hle8:base≤((W7.alloc (.cells #[.int .i64 1,.string ⟨nm.toArray⟩,.string ⟨#[]⟩,.slice ad2 at0.length cp2,.bool sf] 65)).drew).heap.size:=hXB.size |> Nat.le_trans hE.le
 go_region_law (refine tL rfl (.tmp 41) (.tmp 43) rfl base W7.heap.size (.slice ad1 l1.length cp1) (.slice ad2 at0.length cp2) l1 ⟨1,nm,at0,[],sf⟩ rfl hXT rfl k0 k1 k2 k3 k4 hXA (by omega) hle8 ?_;intro v5 w5 hT5 hg5 hb5 hk5;obtain⟨ad5,cp5,rfl⟩:=hT5.len;rw[show(l1++[(⟨1,nm,at0,[],sf⟩:Tok)]).length=l1.length+1 from List.length_append]at hT5;have hh5:=hk5 _ _ _ _ hX0 (by decide);obtain⟨⟨e0,e1,e2⟩,e5⟩:=aN hh5;have hB5:=hXB.trans hb5;have ht5:=HV hg5 hX1 hWn;obtain⟨⟨n0,n1,n2,n3,n4⟩,n5⟩:=aW ht5)
 all_goals
  have hfin:=Sc.wz (l:=l1) hbb hh5 hT5;have hbf:=fun x=>aH (j:=2) hB5 hbb x
  have hscP:=hfin;have htP:=(heap_setCell_other w5 ⟨b,2,none⟩ tb (.slice ad5 (l1.length+1) cp5) hne2).trans ht5;have hBP:=hbf (.slice ad5 (l1.length+1) cp5);have hleP:=(hE.below hBP).le;obtain⟨⟨m0,m1,m2,m3,m4⟩,m5⟩:=aW htP
  go_wp2_with(first
   |(go_at_call 32;((with_reducible refine(hraw.out _).mono ?_);rintro e w6 ⟨rfl,hb6⟩;have hsc6:=hscP.below hb6;have ht6:=aT htP hb6;obtain⟨⟨o0,o1,o2,o3,o4⟩,o5⟩:=aW ht6;have hb6s:=hb6.size;have hB6:=bB hBP hleP hb6;have hE6:=hE.below hB6))
   |(go_at_call 33;((with_reducible refine(pK.out _).mono ?_);rintro e w7 ⟨rfl,hb7⟩;have hsc7:=hsc6.below hb7;have ht7:=aT ht6 hb7;obtain⟨⟨q0,q1,q2,q3,q4⟩,q5⟩:=aW ht7;have hB7:=bB hB6 hE6.le hb7;have hE7':=hE.below hB7))
   |(go_at_call 115;((with_reducible refine(Hz base b r [] nm _ hrl hnl (by simp;omega) _ hsc7 hE7').mono ?_);rintro e w8 ⟨rfl,hsc8,hb8⟩)))
  go_end0;exact⟨rfl,hsc8,hB7.trans hb8⟩
end Go.Proofs.YtkcmghlhpbepcaaGreatDoor
