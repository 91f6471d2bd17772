/- Lemmas and walks, part 33. -/
import Derived.Test.YtkcmghlhpbepcaaGreatDoorT732
set_option linter.unusedVariables false
set_option linter.unusedSimpArgs false
set_option maxHeartbeats 8000000
set_option maxRecDepth 100000
namespace Go.Proofs.YtkcmghlhpbepcaaGreatDoor
open Go.RowKit Go.Proofs
theorem nE{nm S:Txt}{k:Nat}(h:k+2+nm.length<S.length):kZ nm (S.drop k)=(decide (S[k].toNat=60)&&decide (S[k+1].toNat=47)&&tQ ((S.take (k+2+nm.length)).drop (k+2)) nm&&ko S[k+2+nm.length].toNat):=by
 have e1:S.drop k=S[k]::S[k+1]::S.drop (k+2):=by
  rw[List.drop_eq_getElem_cons (by omega),List.drop_eq_getElem_cons (by omega)]
 have e2:(S.drop (k+2)).drop nm.length=S[k+2+nm.length]::S.drop (k+2+nm.length+1):=by
  rw[List.drop_drop,List.drop_eq_getElem_cons (by omega)]
 have e3:(S.take (k+2+nm.length)).drop (k+2)=(S.drop (k+2)).take nm.length:=by
  rw[List.drop_take]
  congr 1
  omega
 have hc0:∀c:UInt8,(decide (c.toNat=60)==(c==60))=true:=lQ (by decide +kernel)
 have hc1:∀c:UInt8,(decide (c.toNat=47)==(c==47))=true:=lQ (by decide +kernel)
 have h0:=beq_iff_eq.1 (hc0 S[k]);have h1:=beq_iff_eq.1 (hc1 S[k+1]);rw[h0,h1,xQ,e1,e3];unfold kZ tQ
 by_cases ha:S[k]=60
 ·by_cases hb:S[k+1]=47
  ·rw[ha,hb]
   simp only[e2];have:nm.length<(S.drop (k+2)).length:=by rw[List.length_drop];omega
   have h2:nm.length<S.length - (k+2):=by omega
   simp[h2]
  ·rw[beq_eq_false_iff_ne.2 hb]
   split
   ·rename_i e
    simp only[List.cons.injEq]at e;exact absurd e.2.1 hb
   ·simp
 ·rw[beq_eq_false_iff_ne.2 ha]
  split
  ·rename_i e
   simp only[List.cons.injEq]at e;exact absurd e.1 ha
  ·simp
theorem qW{nm S:Txt}{k:Nat}(h:¬k+2+nm.length<S.length):kZ nm (S.drop k)=false:=by
 cases hc:kZ nm (S.drop k)with
 |false=>rfl
 |true=>
  unfold kZ at hc
  split at hc
  ·rename_i r e
   have:=congrArg List.length e;simp only[List.length_drop,List.length_cons]at this;simp only[Bool.and_eq_true,decide_eq_true_eq]at hc;omega
  ·cases hc
theorem inside_A(base b:Nat)(S t nm:Txt)(l:List Tok)(hs:S.length≤1000000000)(hnm:nm.length≤1000000000)(hl:l.length≤10000000000)(ht0:S.take (jo nm S)=[])(w:World)(hsc:Sc w base b S t l)(hE:Env w base):
 Calls Tryz.prog 115 #[.pointer (some ⟨b,0,none⟩),.string ⟨nm.toArray⟩] w fun r w'=>r=.returned (.tuple #[])∧Sc w' base b (S.drop (jo nm S)) t l∧Below base w w':=by
 have hbb:=hsc.1;obtain⟨_,v,hh,hT0⟩:=id hsc;obtain⟨ad,cp,rfl⟩:=hT0.len;have hno:=Lib.hid (fun j=>zk nm S j);have hat:=Lib.hid (zl nm S);have hel:=zm nm S;generalize jo nm S=e at *;have htl:(S.take e).length≤1000000000:=by simp;omega
 generalize htx:S.take e=tx at *;generalize hdx:S.drop e=dx at *;have c0h:=aH hh;obtain⟨⟨c0,c1,c2⟩,c5⟩:=c0h;go_enter Tryz.func115,Tryz.ntmps115;go_wp2
 go_loopw [4,5,6,18] (fun ve _ _ vi wr=>∃(k:Nat),vi=.int .i64 k∧ve=.int .i64 S.length∧k≤e∧wr.heap[b]?=some (.cells #[.string ⟨S.toArray⟩,.string ⟨t.toArray⟩,.slice ad l.length cp] 92 (0,0))∧jW wr base (.slice ad l.length cp) l∧Below base w wr) (fun _ _ _ vi _=>S.length - (intOf vi).toNat)
 case atStart=>exact⟨0,rfl,rfl,by omega,hh,hT0,Below.refl _ _⟩
 case round=>
  obtain⟨k,rfl,rfl,hk,r1,hT,hB⟩:=hrel;obtain⟨⟨q0,q1,q2⟩,q5⟩:=aH r1;have hEr:=hE.below hB;have Az:=hEr.le
  by_cases hlt:k<S.length
  ·rcases Nat.lt_or_ge k e with hke|hke
   ·have hcl:=hno.out k hke
    by_cases hin:k+2+nm.length<S.length
    ·rw[nE hin]at hcl
     have hsame:=Lib.hid (fun W=>qV ((S.take (k+2+nm.length)).drop (k+2)) nm (by simp;omega) hnm W);generalize tQ ((S.take (k+2+nm.length)).drop (k+2)) nm=sm at *;have hsl:=Lib.hid (fun W=>lH S[k+2+nm.length].toNat W);obtain⟨n0,hn0⟩:∃n,S[k].toNat=n:=⟨_,rfl⟩
     obtain⟨n1,hn1⟩:∃n,S[k+1].toNat=n:=⟨_,rfl⟩
     obtain⟨n2,hn2⟩:∃n,S[k+2+nm.length].toNat=n:=⟨_,rfl⟩
     rw[hn0,hn1,hn2]at hcl;rw[hn2]at hsl;generalize hq:ko n2=q at *;have hinI:(k:Int)+2+nm.length<S.length:=by omega
     have hinJ:(k:Int)+2≤(k:Int)+2+nm.length:=by omega
     have hinK:(0:Int)≤(k:Int)+2:=by omega
     have hinL:(k:Int)+2+nm.length≤S.length:=by omega
     have hext:(⟨S.toArray⟩:Bt).extract (k+2) (k+2+nm.length)=⟨((S.take (k+2+nm.length)).drop (k+2)).toArray⟩:=by rw[Lib.extract_eq,fQ,List.drop_take]
     by_cases h60:n0=60
     ·subst h60
      by_cases h47:n1=47
      ·subst h47
       simp only[decide_true,Bool.true_and]at hcl;cases sm with
       |false=>
        clear hcl
        go_wp2_with(go_at_call 153;((with_reducible refine(hsame.out _).mono ?_);rintro e1 w2 ⟨rfl,hb2⟩))
        exact⟨⟨k+1,rfl,rfl,by omega,bg r1 hb2,hT.below hb2,bO hB Az hb2⟩,by simp[intOf];omega⟩
       |true=>
        simp only[Bool.true_and]at hcl;subst hcl
        go_wp2_with(first
         |(go_at_call 153;((with_reducible refine(hsame.out _).mono ?_);rintro e1 w2 ⟨rfl,hb2⟩;obtain⟨⟨y0,y1,y2⟩,y5⟩:=aH (bg r1 hb2)))
         |(go_at_call 154;((with_reducible refine(hsl.out _).mono ?_);rintro e1 w3 ⟨rfl,rfl⟩)))
        exact⟨⟨k+1,rfl,rfl,by omega,bg r1 hb2,hT.below hb2,bO hB Az hb2⟩,by simp[intOf];omega⟩
      ·have h47I:¬((n1:Int)=47):=by omega
       clear hcl;go_wp2;exact⟨⟨k+1,rfl,rfl,by omega,r1,hT,hB⟩,by simp[intOf];omega⟩
     ·have h60I:¬((n0:Int)=60):=by omega
      clear hcl;go_wp2;exact⟨⟨k+1,rfl,rfl,by omega,r1,hT,hB⟩,by simp[intOf];omega⟩
    ·have hinI:¬((k:Int)+2+nm.length<S.length):=by omega
     clear hcl;go_wp2;exact⟨⟨k+1,rfl,rfl,by omega,r1,hT,hB⟩,by simp[intOf];omega⟩
   ·obtain rfl:k=e:=by omega
    have hcl:kZ nm (S.drop k)=true:=by
     rcases hat.out with h|h
     ·rw[h]at hdx
      have:=congrArg List.length hdx;simp at this;omega
     ·rw[hdx];exact h
    have hin:k+2+nm.length<S.length:=by
     by_cases h:k+2+nm.length<S.length
     ·exact h
     ·rw[qW h]at hcl
      cases hcl
    rw[nE hin]at hcl;simp only[Bool.and_eq_true,decide_eq_true_eq]at hcl;obtain⟨⟨⟨hn0,hn1⟩,hsm⟩,hq⟩:=hcl;have hsame:=Lib.hid (fun W=>qV ((S.take (k+2+nm.length)).drop (k+2)) nm (by simp;omega) hnm W);rw[hsm]at hsame;have hsl:=Lib.hid (fun W=>lH S[k+2+nm.length].toNat W);rw[hq]at hsl;have hinI:(k:Int)+2+nm.length<S.length:=by omega
    clear hsm hq;have hinJ:(k:Int)+2≤(k:Int)+2+nm.length:=by omega
    have hinK:(0:Int)≤(k:Int)+2:=by omega
    have hinL:(k:Int)+2+nm.length≤S.length:=by omega
    have hext:(⟨S.toArray⟩:Bt).extract (k+2) (k+2+nm.length)=⟨((S.take (k+2+nm.length)).drop (k+2)).toArray⟩:=by rw[Lib.extract_eq,fQ,List.drop_take]
    go_wp2_with(first
     |(go_at_call 153;((with_reducible refine(hsame.out _).mono ?_);rintro e1 w2s ⟨rfl,sG⟩;replace r1:=bg r1 sG;replace hT:=hT.below sG;replace hB:=bO hB Az sG;obtain⟨⟨y0,y1,y2⟩,y5⟩:=aH r1;have hx2:=kg (s':=dx) r1;have hX2:=hT.other (gL _ ⟨b,0,none⟩ (.string ⟨(dx).toArray⟩)) r1 (by decide) (by decide);have hXB:=aW (j:=0) hB hbb (.string ⟨(dx).toArray⟩)))
     |(go_at_call 154;((with_reducible refine(hsl.out _).mono ?_);rintro e1 w3 ⟨rfl,rfl⟩)))
    refine bodyPost_ret (v:=.tuple #[]) (by simp[results,Tryz.results115,go_sem]) rfl ⟨rfl,⟨hbb,_,hx2,hX2⟩,hXB⟩
  ·obtain rfl:k=S.length:=by omega
   obtain rfl:e=S.length:=by omega
   rw[List.take_length]at htx;rw[List.drop_length]at hdx;subst htx hdx;have hx2:=kg (s':=[]) r1;have hX2:=hT.other (gL _ ⟨b,0,none⟩ (.string ByteArray.empty)) r1 (by decide) (by decide);have hXB:=aW (j:=0) hB hbb (.string ByteArray.empty);go_wp2;refine bodyPost_ret (v:=.tuple #[]) (by simp[results,Tryz.results115,go_sem]) rfl ⟨rfl,⟨hbb,_,hx2,hX2⟩,hXB⟩
theorem inside_B(base b:Nat)(S t nm:Txt)(l:List Tok)(hs:S.length≤1000000000)(hnm:nm.length≤1000000000)(hl:l.length≤10000000000)(ht0:S.take (jo nm S)≠[])(hso:oL nm=true)(w:World)(hsc:Sc w base b S t l)(hE:Env w base):
 Calls Tryz.prog 115 #[.pointer (some ⟨b,0,none⟩),.string ⟨nm.toArray⟩] w fun r w'=>r=.returned (.tuple #[])∧Sc w' base b (S.drop (jo nm S)) t (l++[⟨0,[],[],iY (S.take (jo nm S)),false⟩])∧Below base w w':=by
 have hbb:=hsc.1;obtain⟨_,v,hh,hT0⟩:=id hsc;obtain⟨ad,cp,rfl⟩:=hT0.len;have hno:=Lib.hid (fun j=>zk nm S j);have hat:=Lib.hid (zl nm S);have hel:=zm nm S;generalize jo nm S=e at *;have htl:(S.take e).length≤1000000000:=by simp;omega
 generalize htx:S.take e=tx at *;generalize hdx:S.drop e=dx at *;have nk:=Lib.hid (fun W=>zM nm W);rw[hso]at nk;have hdec:=Lib.hid (fun W hS=>pO tx htl W hS);generalize iY tx=dq at *;have hne:(tx==[])=false:=by simpa using ht0
 have c0h:=aH hh;obtain⟨⟨c0,c1,c2⟩,c5⟩:=c0h;go_enter Tryz.func115,Tryz.ntmps115;go_wp2
 go_loopw [4,5,6,18] (fun ve _ _ vi wr=>∃(k:Nat),vi=.int .i64 k∧ve=.int .i64 S.length∧k≤e∧wr.heap[b]?=some (.cells #[.string ⟨S.toArray⟩,.string ⟨t.toArray⟩,.slice ad l.length cp] 92 (0,0))∧jW wr base (.slice ad l.length cp) l∧Below base w wr) (fun _ _ _ vi _=>S.length - (intOf vi).toNat)
 case atStart=>exact⟨0,rfl,rfl,by omega,hh,hT0,Below.refl _ _⟩
 case round=>
  obtain⟨k,rfl,rfl,hk,r1,hT,hB⟩:=hrel;obtain⟨⟨q0,q1,q2⟩,q5⟩:=aH r1;have hEr:=hE.below hB;have Az:=hEr.le
  by_cases hlt:k<S.length
  ·rcases Nat.lt_or_ge k e with hke|hke
   ·have hcl:=hno.out k hke
    by_cases hin:k+2+nm.length<S.length
    ·rw[nE hin]at hcl
     have hsame:=Lib.hid (fun W=>qV ((S.take (k+2+nm.length)).drop (k+2)) nm (by simp;omega) hnm W);generalize tQ ((S.take (k+2+nm.length)).drop (k+2)) nm=sm at *;have hsl:=Lib.hid (fun W=>lH S[k+2+nm.length].toNat W);obtain⟨n0,hn0⟩:∃n,S[k].toNat=n:=⟨_,rfl⟩
     obtain⟨n1,hn1⟩:∃n,S[k+1].toNat=n:=⟨_,rfl⟩
     obtain⟨n2,hn2⟩:∃n,S[k+2+nm.length].toNat=n:=⟨_,rfl⟩
     rw[hn0,hn1,hn2]at hcl;rw[hn2]at hsl;generalize hq:ko n2=q at *;have hinI:(k:Int)+2+nm.length<S.length:=by omega
     have hinJ:(k:Int)+2≤(k:Int)+2+nm.length:=by omega
     have hinK:(0:Int)≤(k:Int)+2:=by omega
     have hinL:(k:Int)+2+nm.length≤S.length:=by omega
     have hext:(⟨S.toArray⟩:Bt).extract (k+2) (k+2+nm.length)=⟨((S.take (k+2+nm.length)).drop (k+2)).toArray⟩:=by rw[Lib.extract_eq,fQ,List.drop_take]
     by_cases h60:n0=60
     ·subst h60
      by_cases h47:n1=47
      ·subst h47
       simp only[decide_true,Bool.true_and]at hcl;cases sm with
       |false=>
        clear hcl
        go_wp2_with(go_at_call 153;((with_reducible refine(hsame.out _).mono ?_);rintro e1 w2 ⟨rfl,hb2⟩))
        exact⟨⟨k+1,rfl,rfl,by omega,bg r1 hb2,hT.below hb2,bO hB Az hb2⟩,by simp[intOf];omega⟩
       |true=>
        simp only[Bool.true_and]at hcl;subst hcl
        go_wp2_with(first
         |(go_at_call 153;((with_reducible refine(hsame.out _).mono ?_);rintro e1 w2 ⟨rfl,hb2⟩;obtain⟨⟨y0,y1,y2⟩,y5⟩:=aH (bg r1 hb2)))
         |(go_at_call 154;((with_reducible refine(hsl.out _).mono ?_);rintro e1 w3 ⟨rfl,rfl⟩)))
        exact⟨⟨k+1,rfl,rfl,by omega,bg r1 hb2,hT.below hb2,bO hB Az hb2⟩,by simp[intOf];omega⟩
      ·have h47I:¬((n1:Int)=47):=by omega
       clear hcl;go_wp2;exact⟨⟨k+1,rfl,rfl,by omega,r1,hT,hB⟩,by simp[intOf];omega⟩
     ·have h60I:¬((n0:Int)=60):=by omega
      clear hcl;go_wp2;exact⟨⟨k+1,rfl,rfl,by omega,r1,hT,hB⟩,by simp[intOf];omega⟩
    ·have hinI:¬((k:Int)+2+nm.length<S.length):=by omega
     clear hcl;go_wp2;exact⟨⟨k+1,rfl,rfl,by omega,r1,hT,hB⟩,by simp[intOf];omega⟩
   ·obtain rfl:k=e:=by omega
    have hcl:kZ nm (S.drop k)=true:=by
     rcases hat.out with h|h
     ·rw[h]at hdx
      have:=congrArg List.length hdx;simp at this;omega
     ·rw[hdx];exact h
    have hin:k+2+nm.length<S.length:=by
     by_cases h:k+2+nm.length<S.length
     ·exact h
     ·rw[qW h]at hcl
      cases hcl
    rw[nE hin]at hcl;simp only[Bool.and_eq_true,decide_eq_true_eq]at hcl;obtain⟨⟨⟨hn0,hn1⟩,hsm⟩,hq⟩:=hcl;have hsame:=Lib.hid (fun W=>qV ((S.take (k+2+nm.length)).drop (k+2)) nm (by simp;omega) hnm W);rw[hsm]at hsame;have hsl:=Lib.hid (fun W=>lH S[k+2+nm.length].toNat W);rw[hq]at hsl;have hinI:(k:Int)+2+nm.length<S.length:=by omega
    clear hsm hq;have hinJ:(k:Int)+2≤(k:Int)+2+nm.length:=by omega
    have hinK:(0:Int)≤(k:Int)+2:=by omega
    have hinL:(k:Int)+2+nm.length≤S.length:=by omega
    have hext:(⟨S.toArray⟩:Bt).extract (k+2) (k+2+nm.length)=⟨((S.take (k+2+nm.length)).drop (k+2)).toArray⟩:=by rw[Lib.extract_eq,fQ,List.drop_take]
    go_wp2_with(first
     |(go_at_call 153;((with_reducible refine(hsame.out _).mono ?_);rintro e1 w2s ⟨rfl,sG⟩;replace r1:=bg r1 sG;replace hT:=hT.below sG;replace hB:=bO hB Az sG;obtain⟨⟨y0,y1,y2⟩,y5⟩:=aH r1;have hx2:=kg (s':=dx) r1;have hX2:=hT.other (gL _ ⟨b,0,none⟩ (.string ⟨(dx).toArray⟩)) r1 (by decide) (by decide);have hXB:=aW (j:=0) hB hbb (.string ⟨(dx).toArray⟩);have hEX:=hE.below hXB;have hSX:=hEX.std;have hleX:=hEX.le))
     |(go_at_call 154;((with_reducible refine(hsl.out _).mono ?_);rintro e1 w3 ⟨rfl,rfl⟩))
     |(go_at_call 33;((with_reducible refine(nk.out _).mono ?_);rintro e1 w2 ⟨rfl,hb2⟩;have hh2:=bg hx2 hb2;have hT2:=hX2.below hb2;obtain⟨⟨d0,d1,d2⟩,d5⟩:=aH hh2;have hB2:=bO hXB hleX hb2;have hE2:=hE.below hB2;have hS2:=hE2.std;have hle2:=hE2.le))
     |(go_at_call 155;((with_reducible refine(hdec.out _ hS2).mono ?_);rintro e1 w4 ⟨rfl,hb4⟩;have hh4:=bg hh2 hb4;have hT4:=hT2.below hb4;obtain⟨⟨f0,f1,f2⟩,f5⟩:=aH hh4;have hB4:=bO hB2 hle2 hb4;have hle4:=(hE.below hB4).le;obtain⟨⟨k0,k1,k2,k3,k4⟩,k5⟩:=bE (bR w4 (#[.int .i64 0,.string ⟨#[]⟩,.string ⟨dq.toArray⟩,.slice none 0 0,.bool false]) _);have hT3:=hT4.alloc (.cells #[.int .i64 0,.string ⟨#[]⟩,.string ⟨dq.toArray⟩,.slice none 0 0,.bool false] 65);have hh3:=dn hh4 (.cells #[.int .i64 0,.string ⟨#[]⟩,.string ⟨dq.toArray⟩,.slice none 0 0,.bool false] 65);have hB3:=hB4.alloc hle4 (.cells #[.int .i64 0,.string ⟨#[]⟩,.string ⟨dq.toArray⟩,.slice none 0 0,.bool false] 65);have hle3:base≤(w4.alloc (.cells #[.int .i64 0,.string ⟨#[]⟩,.string ⟨dq.toArray⟩,.slice none 0 0,.bool false] 65)).heap.size:=(by rw[World.size_alloc];omega)))
     |(at_builtin;refine oV rfl (.tmp 100) (.tmp 103) rfl base w4.heap.size (.slice ad l.length cp) (.slice none 0 0) l ⟨0,[],[],dq,false⟩ rfl hT3 rfl k0 k1 k2 k3 k4 (gQ.nil _ _) (by omega) hle3 ?_;intro v5 w5 hT5 hg5 hb5 hk5;obtain⟨ad5,cp5,rfl⟩:=hT5.len;rw[show(l++[(⟨0,[],[],dq,false⟩:Tok)]).length=l.length+1 from List.length_append]at hT5;have hh5:=hk5 _ _ _ _ hh3 (by decide);obtain⟨⟨e0,e1,e2⟩,e5⟩:=aH hh5;have hB5:=hB3.trans hb5))
    go_end0;exact⟨rfl,Sc.qp (l:=l) hbb hh5 hT5,aW hB5 hbb _⟩
  ·obtain rfl:k=S.length:=by omega
   obtain rfl:e=S.length:=by omega
   rw[List.take_length]at htx;rw[List.drop_length]at hdx;subst htx hdx;have hx2:=kg (s':=[]) r1;have hX2:=hT.other (gL _ ⟨b,0,none⟩ (.string ByteArray.empty)) r1 (by decide) (by decide);have hXB:=aW (j:=0) hB hbb (.string ByteArray.empty);have hEX:=hE.below hXB;have hSX:=hEX.std;have hleX:=hEX.le
   go_wp2_with(first
    |(go_at_call 33;((with_reducible refine(nk.out _).mono ?_);rintro e1 w2 ⟨rfl,hb2⟩;have hh2:=bg hx2 hb2;have hT2:=hX2.below hb2;obtain⟨⟨d0,d1,d2⟩,d5⟩:=aH hh2;have hB2:=bO hXB hleX hb2;have hE2:=hE.below hB2;have hS2:=hE2.std;have hle2:=hE2.le))
    |(go_at_call 155;((with_reducible refine(hdec.out _ hS2).mono ?_);rintro e1 w4 ⟨rfl,hb4⟩;have hh4:=bg hh2 hb4;have hT4:=hT2.below hb4;obtain⟨⟨f0,f1,f2⟩,f5⟩:=aH hh4;have hB4:=bO hB2 hle2 hb4;have hle4:=(hE.below hB4).le;obtain⟨⟨k0,k1,k2,k3,k4⟩,k5⟩:=bE (bR w4 (#[.int .i64 0,.string ⟨#[]⟩,.string ⟨dq.toArray⟩,.slice none 0 0,.bool false]) _);have hT3:=hT4.alloc (.cells #[.int .i64 0,.string ⟨#[]⟩,.string ⟨dq.toArray⟩,.slice none 0 0,.bool false] 65);have hh3:=dn hh4 (.cells #[.int .i64 0,.string ⟨#[]⟩,.string ⟨dq.toArray⟩,.slice none 0 0,.bool false] 65);have hB3:=hB4.alloc hle4 (.cells #[.int .i64 0,.string ⟨#[]⟩,.string ⟨dq.toArray⟩,.slice none 0 0,.bool false] 65);have hle3:base≤(w4.alloc (.cells #[.int .i64 0,.string ⟨#[]⟩,.string ⟨dq.toArray⟩,.slice none 0 0,.bool false] 65)).heap.size:=(by rw[World.size_alloc];omega)))
    |(at_builtin;refine oV rfl (.tmp 100) (.tmp 103) rfl base w4.heap.size (.slice ad l.length cp) (.slice none 0 0) l ⟨0,[],[],dq,false⟩ rfl hT3 rfl k0 k1 k2 k3 k4 (gQ.nil _ _) (by omega) hle3 ?_;intro v5 w5 hT5 hg5 hb5 hk5;obtain⟨ad5,cp5,rfl⟩:=hT5.len;rw[show(l++[(⟨0,[],[],dq,false⟩:Tok)]).length=l.length+1 from List.length_append]at hT5;have hh5:=hk5 _ _ _ _ hh3 (by decide);obtain⟨⟨e0,e1,e2⟩,e5⟩:=aH hh5;have hB5:=hB3.trans hb5))
   go_end0;exact⟨rfl,Sc.qp (l:=l) hbb hh5 hT5,aW hB5 hbb _⟩
theorem inside_C(base b:Nat)(S t nm:Txt)(l:List Tok)(hs:S.length≤1000000000)(hnm:nm.length≤1000000000)(hl:l.length≤10000000000)(ht0:S.take (jo nm S)≠[])(hso:oL nm=false)(w:World)(hsc:Sc w base b S t l)(hE:Env w base):
 Calls Tryz.prog 115 #[.pointer (some ⟨b,0,none⟩),.string ⟨nm.toArray⟩] w fun r w'=>r=.returned (.tuple #[])∧Sc w' base b (S.drop (jo nm S)) t (l++[⟨0,[],[],S.take (jo nm S),false⟩])∧Below base w w':=by
 have hbb:=hsc.1;obtain⟨_,v,hh,hT0⟩:=id hsc;obtain⟨ad,cp,rfl⟩:=hT0.len;have hno:=Lib.hid (fun j=>zk nm S j);have hat:=Lib.hid (zl nm S);have hel:=zm nm S;generalize jo nm S=e at *;have htl:(S.take e).length≤1000000000:=by simp;omega
 generalize htx:S.take e=tx at *;generalize hdx:S.drop e=dx at *;have nk:=Lib.hid (fun W=>zM nm W);rw[hso]at nk;have hne:(tx==[])=false:=by simpa using ht0
 have c0h:=aH hh;obtain⟨⟨c0,c1,c2⟩,c5⟩:=c0h;go_enter Tryz.func115,Tryz.ntmps115;go_wp2
 go_loopw [4,5,6,18] (fun ve _ _ vi wr=>∃(k:Nat),vi=.int .i64 k∧ve=.int .i64 S.length∧k≤e∧wr.heap[b]?=some (.cells #[.string ⟨S.toArray⟩,.string ⟨t.toArray⟩,.slice ad l.length cp] 92 (0,0))∧jW wr base (.slice ad l.length cp) l∧Below base w wr) (fun _ _ _ vi _=>S.length - (intOf vi).toNat)
 case atStart=>exact⟨0,rfl,rfl,by omega,hh,hT0,Below.refl _ _⟩
 case round=>
  obtain⟨k,rfl,rfl,hk,r1,hT,hB⟩:=hrel;obtain⟨⟨q0,q1,q2⟩,q5⟩:=aH r1;have hEr:=hE.below hB;have Az:=hEr.le
  by_cases hlt:k<S.length
  ·rcases Nat.lt_or_ge k e with hke|hke
   ·have hcl:=hno.out k hke
    by_cases hin:k+2+nm.length<S.length
    ·rw[nE hin]at hcl
     have hsame:=Lib.hid (fun W=>qV ((S.take (k+2+nm.length)).drop (k+2)) nm (by simp;omega) hnm W);generalize tQ ((S.take (k+2+nm.length)).drop (k+2)) nm=sm at *;have hsl:=Lib.hid (fun W=>lH S[k+2+nm.length].toNat W);obtain⟨n0,hn0⟩:∃n,S[k].toNat=n:=⟨_,rfl⟩
     obtain⟨n1,hn1⟩:∃n,S[k+1].toNat=n:=⟨_,rfl⟩
     obtain⟨n2,hn2⟩:∃n,S[k+2+nm.length].toNat=n:=⟨_,rfl⟩
     rw[hn0,hn1,hn2]at hcl;rw[hn2]at hsl;generalize hq:ko n2=q at *;have hinI:(k:Int)+2+nm.length<S.length:=by omega
     have hinJ:(k:Int)+2≤(k:Int)+2+nm.length:=by omega
     have hinK:(0:Int)≤(k:Int)+2:=by omega
     have hinL:(k:Int)+2+nm.length≤S.length:=by omega
     have hext:(⟨S.toArray⟩:Bt).extract (k+2) (k+2+nm.length)=⟨((S.take (k+2+nm.length)).drop (k+2)).toArray⟩:=by rw[Lib.extract_eq,fQ,List.drop_take]
     by_cases h60:n0=60
     ·subst h60
      by_cases h47:n1=47
      ·subst h47
       simp only[decide_true,Bool.true_and]at hcl;cases sm with
       |false=>
        clear hcl
        go_wp2_with(go_at_call 153;((with_reducible refine(hsame.out _).mono ?_);rintro e1 w2 ⟨rfl,hb2⟩))
        exact⟨⟨k+1,rfl,rfl,by omega,bg r1 hb2,hT.below hb2,bO hB Az hb2⟩,by simp[intOf];omega⟩
       |true=>
        simp only[Bool.true_and]at hcl;subst hcl
        go_wp2_with(first
         |(go_at_call 153;((with_reducible refine(hsame.out _).mono ?_);rintro e1 w2 ⟨rfl,hb2⟩;obtain⟨⟨y0,y1,y2⟩,y5⟩:=aH (bg r1 hb2)))
         |(go_at_call 154;((with_reducible refine(hsl.out _).mono ?_);rintro e1 w3 ⟨rfl,rfl⟩)))
        exact⟨⟨k+1,rfl,rfl,by omega,bg r1 hb2,hT.below hb2,bO hB Az hb2⟩,by simp[intOf];omega⟩
      ·have h47I:¬((n1:Int)=47):=by omega
       clear hcl;go_wp2;exact⟨⟨k+1,rfl,rfl,by omega,r1,hT,hB⟩,by simp[intOf];omega⟩
     ·have h60I:¬((n0:Int)=60):=by omega
      clear hcl;go_wp2;exact⟨⟨k+1,rfl,rfl,by omega,r1,hT,hB⟩,by simp[intOf];omega⟩
    ·have hinI:¬((k:Int)+2+nm.length<S.length):=by omega
     clear hcl;go_wp2;exact⟨⟨k+1,rfl,rfl,by omega,r1,hT,hB⟩,by simp[intOf];omega⟩
   ·obtain rfl:k=e:=by omega
    have hcl:kZ nm (S.drop k)=true:=by
     rcases hat.out with h|h
     ·rw[h]at hdx
      have:=congrArg List.length hdx;simp at this;omega
     ·rw[hdx];exact h
    have hin:k+2+nm.length<S.length:=by
     by_cases h:k+2+nm.length<S.length
     ·exact h
     ·rw[qW h]at hcl
      cases hcl
    rw[nE hin]at hcl;simp only[Bool.and_eq_true,decide_eq_true_eq]at hcl;obtain⟨⟨⟨hn0,hn1⟩,hsm⟩,hq⟩:=hcl;have hsame:=Lib.hid (fun W=>qV ((S.take (k+2+nm.length)).drop (k+2)) nm (by simp;omega) hnm W);rw[hsm]at hsame;have hsl:=Lib.hid (fun W=>lH S[k+2+nm.length].toNat W);rw[hq]at hsl;have hinI:(k:Int)+2+nm.length<S.length:=by omega
    clear hsm hq;have hinJ:(k:Int)+2≤(k:Int)+2+nm.length:=by omega
    have hinK:(0:Int)≤(k:Int)+2:=by omega
    have hinL:(k:Int)+2+nm.length≤S.length:=by omega
    have hext:(⟨S.toArray⟩:Bt).extract (k+2) (k+2+nm.length)=⟨((S.take (k+2+nm.length)).drop (k+2)).toArray⟩:=by rw[Lib.extract_eq,fQ,List.drop_take]
    go_wp2_with(first
     |(go_at_call 153;((with_reducible refine(hsame.out _).mono ?_);rintro e1 w2s ⟨rfl,sG⟩;replace r1:=bg r1 sG;replace hT:=hT.below sG;replace hB:=bO hB Az sG;obtain⟨⟨y0,y1,y2⟩,y5⟩:=aH r1;have hx2:=kg (s':=dx) r1;have hX2:=hT.other (gL _ ⟨b,0,none⟩ (.string ⟨(dx).toArray⟩)) r1 (by decide) (by decide);have hXB:=aW (j:=0) hB hbb (.string ⟨(dx).toArray⟩);have hEX:=hE.below hXB;have hSX:=hEX.std;have hleX:=hEX.le))
     |(go_at_call 154;((with_reducible refine(hsl.out _).mono ?_);rintro e1 w3 ⟨rfl,rfl⟩))
     |(go_at_call 33;((with_reducible refine(nk.out _).mono ?_);rintro e1 w2 ⟨rfl,hb2⟩;have hh2:=bg hx2 hb2;have hT2:=hX2.below hb2;obtain⟨⟨d0,d1,d2⟩,d5⟩:=aH hh2;have hB2:=bO hXB hleX hb2;have hE2:=hE.below hB2;have hS2:=hE2.std;have hle2:=hE2.le;obtain⟨⟨k0,k1,k2,k3,k4⟩,k5⟩:=bE (bR w2 (#[.int .i64 0,.string ⟨#[]⟩,.string ⟨tx.toArray⟩,.slice none 0 0,.bool false]) _);have hT3:=hT2.alloc (.cells #[.int .i64 0,.string ⟨#[]⟩,.string ⟨tx.toArray⟩,.slice none 0 0,.bool false] 65);have hh3:=dn hh2 (.cells #[.int .i64 0,.string ⟨#[]⟩,.string ⟨tx.toArray⟩,.slice none 0 0,.bool false] 65);have hB3:=hB2.alloc hle2 (.cells #[.int .i64 0,.string ⟨#[]⟩,.string ⟨tx.toArray⟩,.slice none 0 0,.bool false] 65);have hle3:base≤(w2.alloc (.cells #[.int .i64 0,.string ⟨#[]⟩,.string ⟨tx.toArray⟩,.slice none 0 0,.bool false] 65)).heap.size:=(by rw[World.size_alloc];omega)))
     |(at_builtin;refine oV rfl (.tmp 100) (.tmp 103) rfl base w2.heap.size (.slice ad l.length cp) (.slice none 0 0) l ⟨0,[],[],tx,false⟩ rfl hT3 rfl k0 k1 k2 k3 k4 (gQ.nil _ _) (by omega) hle3 ?_;intro v5 w5 hT5 hg5 hb5 hk5;obtain⟨ad5,cp5,rfl⟩:=hT5.len;rw[show(l++[(⟨0,[],[],tx,false⟩:Tok)]).length=l.length+1 from List.length_append]at hT5;have hh5:=hk5 _ _ _ _ hh3 (by decide);obtain⟨⟨e0,e1,e2⟩,e5⟩:=aH hh5;have hB5:=hB3.trans hb5))
    go_end0;exact⟨rfl,Sc.qp (l:=l) hbb hh5 hT5,aW hB5 hbb _⟩
  ·obtain rfl:k=S.length:=by omega
   obtain rfl:e=S.length:=by omega
   rw[List.take_length]at htx;rw[List.drop_length]at hdx;subst htx hdx;have hx2:=kg (s':=[]) r1;have hX2:=hT.other (gL _ ⟨b,0,none⟩ (.string ByteArray.empty)) r1 (by decide) (by decide);have hXB:=aW (j:=0) hB hbb (.string ByteArray.empty);have hEX:=hE.below hXB;have hSX:=hEX.std;have hleX:=hEX.le
   go_wp2_with(first
    |(go_at_call 33;((with_reducible refine(nk.out _).mono ?_);rintro e1 w2 ⟨rfl,hb2⟩;have hh2:=bg hx2 hb2;have hT2:=hX2.below hb2;obtain⟨⟨d0,d1,d2⟩,d5⟩:=aH hh2;have hB2:=bO hXB hleX hb2;have hE2:=hE.below hB2;have hS2:=hE2.std;have hle2:=hE2.le;obtain⟨⟨k0,k1,k2,k3,k4⟩,k5⟩:=bE (bR w2 (#[.int .i64 0,.string ⟨#[]⟩,.string ⟨S.toArray⟩,.slice none 0 0,.bool false]) _);have hT3:=hT2.alloc (.cells #[.int .i64 0,.string ⟨#[]⟩,.string ⟨S.toArray⟩,.slice none 0 0,.bool false] 65);have hh3:=dn hh2 (.cells #[.int .i64 0,.string ⟨#[]⟩,.string ⟨S.toArray⟩,.slice none 0 0,.bool false] 65);have hB3:=hB2.alloc hle2 (.cells #[.int .i64 0,.string ⟨#[]⟩,.string ⟨S.toArray⟩,.slice none 0 0,.bool false] 65);have hle3:base≤(w2.alloc (.cells #[.int .i64 0,.string ⟨#[]⟩,.string ⟨S.toArray⟩,.slice none 0 0,.bool false] 65)).heap.size:=(by rw[World.size_alloc];omega)))
    |(at_builtin;refine oV rfl (.tmp 100) (.tmp 103) rfl base w2.heap.size (.slice ad l.length cp) (.slice none 0 0) l ⟨0,[],[],S,false⟩ rfl hT3 rfl k0 k1 k2 k3 k4 (gQ.nil _ _) (by omega) hle3 ?_;intro v5 w5 hT5 hg5 hb5 hk5;obtain⟨ad5,cp5,rfl⟩:=hT5.len;rw[show(l++[(⟨0,[],[],S,false⟩:Tok)]).length=l.length+1 from List.length_append]at hT5;have hh5:=hk5 _ _ _ _ hh3 (by decide);obtain⟨⟨e0,e1,e2⟩,e5⟩:=aH hh5;have hB5:=hB3.trans hb5))
   go_end0;exact⟨rfl,Sc.qp (l:=l) hbb hh5 hT5,aW hB5 hbb _⟩
end Go.Proofs.YtkcmghlhpbepcaaGreatDoor
