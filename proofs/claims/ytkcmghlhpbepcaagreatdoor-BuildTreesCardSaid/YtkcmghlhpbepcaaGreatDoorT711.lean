/- Lemmas and walks, part 11. -/
import Derived.Test.YtkcmghlhpbepcaaGreatDoorT710
set_option linter.unusedVariables false
set_option linter.unusedSimpArgs false
set_option maxHeartbeats 8000000
set_option maxRecDepth 100000
namespace Go.Proofs.YtkcmghlhpbepcaaGreatDoor
open Go.RowKit Go.Proofs
theorem Bn(l nm s1 t2 s3 t3:Txt)(q:UInt8)(m k:Nat)(hl:l.length≤1000000000)(hk:1+k≤l.length)(hK:l.tail.findIdx (fun c=>dY c||c==61)=k)(hnm:kQ (l.take (1+k))=nm)(hs1:l.drop (1+k)=s1)(hsk:kI s1=61::t2)(hs3:s3=q::t3)(pK:kI t2=q::t3)(hq1:q≠34)(hq2:q≠39)(hm:xC s3=m)(hlt:m<s3.length)(w:World)(hS:Std w):
 Calls Tryz.prog 230 #[.string ⟨l.toArray⟩] w fun e w'=>e=.returned (.tuple #[.agg #[.string ⟨nm.toArray⟩,.string ⟨(iY (s3.take m):Txt).toArray⟩],.string ⟨(s3.drop m:Txt).toArray⟩,.bool true])∧Below w.heap.size w w':=by
 have hsl:s1.length≤1000000000:=by rw[←hs1];simp;omega
 have hc1:=Lib.hid (fun W=>nH l.tail (by simp;omega) W);have hc2:=Lib.hid (fun W=>kR (l.take (1+k)) (by simp;omega) W);have hc3:=Lib.hid (fun W=>nI s1 hsl W);rw[hK]at hc1;rw[hnm]at hc2;obtain⟨k2,h21,h22,h23,h24⟩:=nC hsk;rw[h21]at hc3;have h23:=h23 h22;have ht2:t2.length≤1000000000:=by rw[←h24];simp;omega
 have hc4:=Lib.hid (fun W=>rH t2 ht2 W);obtain⟨k3,h31⟩:∃k3,t2.findIdx (fun c=>!dQ c)=k3:=⟨_,rfl⟩
 rw[h31]at hc4;have h3le:k3≤t2.length:=by rw[←h31];exact List.findIdx_le_length
 have h32:t2.drop k3=s3:=by rw[←h31,hs3];exact pK
 have h3l:=congrArg List.length h32;simp only[List.length_drop]at h3l;have hc5:=Lib.hid (fun W=>Es s3 (by omega) W);rw[show s3.findIdx (fun c=>dQ c||c==62)=m from hm]at hc5;have hml:m≤s3.length:=by rw[←hm];unfold xC;exact List.findIdx_le_length
 have hdec:=Lib.hid (fun W hS=>pO (s3.take m) (by simp;omega) W hS);have hs31:s3.take 1=[q]:=by rw[hs3];rfl
 have hs30:0<s3.length:=by rw[hs3];simp
 have hbe:(s3==[])=false:=by rw[hs3];rfl
 generalize iY (s3.take m)=dv at *;have hb1:¬q=34:=hq1;have hb2:(q==39)=false:=by simpa using hq2
 clear hsk h21 pK h31 hs3 hm hq1 hq2;clear hK hnm;go_enter Tryz.func230,Tryz.ntmps230
 go_wp2_with(first
  |(go_at_call 156;first
   |((with_reducible refine(hc1.out _).mono ?_);rintro e w1 ⟨rfl,rfl⟩)
   |((with_reducible refine(hc3.out _).mono ?_);rintro e w1 ⟨rfl,rfl⟩)
   |((with_reducible refine(hc4.out _).mono ?_);rintro e w1 ⟨rfl,rfl⟩)
   |((with_reducible refine(hc5.out _).mono ?_);rintro e w1 ⟨rfl,rfl⟩))
  |(go_at_call 187;((with_reducible refine(hc2.out _).mono ?_);rintro e w1 ⟨rfl,hb⟩;have hB1:=bO ((Below.refl w.heap.size w).alloc (Nat.le_refl _) _) (by simp) hb;have r0:=(hb.block w.heap.size (by simp)).trans (bR _ _ _);obtain⟨q1,q2,q3,q4⟩:=kr r0;have hz1:=hb.size;simp at hz1;have hS1:=hS.below hB1;have hne1:w1.heap.size≠w.heap.size:=(by omega);have hne2:w.heap.size≠w1.heap.size:=(by omega);clear hb))
  |(go_at_call 155;((with_reducible refine(hdec.out _ (hS1.alloc _)).mono ?_);rintro e w3 ⟨rfl,hb3⟩;have hB3:=bO (hB1.alloc (by omega) _) (by simp;omega) hb3;obtain⟨p1,p2,p3,p4⟩:=fM ((hb3.block w.heap.size (by simp;omega)).trans ((heap_alloc_old w1 _ (by omega)).trans r0));obtain⟨p5,p6,p7,p8⟩:=fM ((hb3.block w1.heap.size (by simp)).trans (bR _ _ _));clear hb3)))
 go_region
 all_goals(go_wp2_with fail)
 all_goals
  refine bodyPost_ret (v:=.tuple #[.agg #[.string ⟨nm.toArray⟩,.string ⟨(dv:Txt).toArray⟩],.string ⟨(s3.drop m:Txt).toArray⟩,.bool true]) (by simp[results,Tryz.results230,go_sem,p1,p2,hne1,hne2]) rfl ⟨rfl,(aW (aW (aW hB3 (by omega) _) (Nat.le_refl _) _) (Nat.le_refl _) _).drew⟩
theorem Bo(l nm s1 t2 s3 t3:Txt)(q:UInt8)(m k:Nat)(hl:l.length≤1000000000)(hk:1+k≤l.length)(hK:l.tail.findIdx (fun c=>dY c||c==61)=k)(hnm:kQ (l.take (1+k))=nm)(hs1:l.drop (1+k)=s1)(hsk:kI s1=61::t2)(hs3:s3=q::t3)(pK:kI t2=q::t3)(hq1:q≠34)(hq2:q≠39)(hm:xC s3=m)(hlt:¬m<s3.length)(w:World)(hS:Std w):
 Calls Tryz.prog 230 #[.string ⟨l.toArray⟩] w fun e w'=>e=.returned (.tuple #[.agg #[.string ⟨nm.toArray⟩,.string ⟨(iY (s3.take m):Txt).toArray⟩],.string ⟨(s3.drop m:Txt).toArray⟩,.bool false])∧Below w.heap.size w w':=by
 have hsl:s1.length≤1000000000:=by rw[←hs1];simp;omega
 have hc1:=Lib.hid (fun W=>nH l.tail (by simp;omega) W);have hc2:=Lib.hid (fun W=>kR (l.take (1+k)) (by simp;omega) W);have hc3:=Lib.hid (fun W=>nI s1 hsl W);rw[hK]at hc1;rw[hnm]at hc2;obtain⟨k2,h21,h22,h23,h24⟩:=nC hsk;rw[h21]at hc3;have h23:=h23 h22;have ht2:t2.length≤1000000000:=by rw[←h24];simp;omega
 have hc4:=Lib.hid (fun W=>rH t2 ht2 W);obtain⟨k3,h31⟩:∃k3,t2.findIdx (fun c=>!dQ c)=k3:=⟨_,rfl⟩
 rw[h31]at hc4;have h3le:k3≤t2.length:=by rw[←h31];exact List.findIdx_le_length
 have h32:t2.drop k3=s3:=by rw[←h31,hs3];exact pK
 have h3l:=congrArg List.length h32;simp only[List.length_drop]at h3l;have hc5:=Lib.hid (fun W=>Es s3 (by omega) W);rw[show s3.findIdx (fun c=>dQ c||c==62)=m from hm]at hc5;have hml:m≤s3.length:=by rw[←hm];unfold xC;exact List.findIdx_le_length
 have hdec:=Lib.hid (fun W hS=>pO (s3.take m) (by simp;omega) W hS);have hs31:s3.take 1=[q]:=by rw[hs3];rfl
 have hs30:0<s3.length:=by rw[hs3];simp
 have hbe:(s3==[])=false:=by rw[hs3];rfl
 generalize iY (s3.take m)=dv at *;have hb1:¬q=34:=hq1;have hb2:(q==39)=false:=by simpa using hq2
 clear hsk h21 pK h31 hs3 hm hq1 hq2;clear hK hnm;go_enter Tryz.func230,Tryz.ntmps230
 go_wp2_with(first
  |(go_at_call 156;first
   |((with_reducible refine(hc1.out _).mono ?_);rintro e w1 ⟨rfl,rfl⟩)
   |((with_reducible refine(hc3.out _).mono ?_);rintro e w1 ⟨rfl,rfl⟩)
   |((with_reducible refine(hc4.out _).mono ?_);rintro e w1 ⟨rfl,rfl⟩)
   |((with_reducible refine(hc5.out _).mono ?_);rintro e w1 ⟨rfl,rfl⟩))
  |(go_at_call 187;((with_reducible refine(hc2.out _).mono ?_);rintro e w1 ⟨rfl,hb⟩;have hB1:=bO ((Below.refl w.heap.size w).alloc (Nat.le_refl _) _) (by simp) hb;have r0:=(hb.block w.heap.size (by simp)).trans (bR _ _ _);obtain⟨q1,q2,q3,q4⟩:=kr r0;have hz1:=hb.size;simp at hz1;have hS1:=hS.below hB1;have hne1:w1.heap.size≠w.heap.size:=(by omega);have hne2:w.heap.size≠w1.heap.size:=(by omega);clear hb))
  |(go_at_call 155;((with_reducible refine(hdec.out _ (hS1.alloc _)).mono ?_);rintro e w3 ⟨rfl,hb3⟩;have hB3:=bO (hB1.alloc (by omega) _) (by simp;omega) hb3;obtain⟨p1,p2,p3,p4⟩:=fM ((hb3.block w.heap.size (by simp;omega)).trans ((heap_alloc_old w1 _ (by omega)).trans r0));obtain⟨p5,p6,p7,p8⟩:=fM ((hb3.block w1.heap.size (by simp)).trans (bR _ _ _));clear hb3)))
 go_region
 all_goals(go_wp2_with fail)
 all_goals
  refine bodyPost_ret (v:=.tuple #[.agg #[.string ⟨nm.toArray⟩,.string ⟨(dv:Txt).toArray⟩],.string ⟨(s3.drop m:Txt).toArray⟩,.bool false]) (by simp[results,Tryz.results230,go_sem,p1,p2,hne1,hne2]) rfl ⟨rfl,(aW (aW (aW hB3 (by omega) _) (Nat.le_refl _) _) (Nat.le_refl _) _).drew⟩
theorem xD(l:Txt)(h0:0<l.length)(hl:l.length≤1000000000)(w:World)(hS:Std w):
 Calls Tryz.prog 230 #[.string ⟨l.toArray⟩] w fun e w'=>e=.returned (.tuple #[.agg #[.string ⟨(pQ l).1.1.toArray⟩,.string ⟨(pQ l).1.2.toArray⟩],.string ⟨(pQ l).2.1.toArray⟩,.bool (pQ l).2.2])∧Below w.heap.size w w':=by
 obtain⟨k,hK,hk,hkl⟩:=attrK_le h0;unfold pQ;rw[hK];generalize hnm:kQ (l.take (1+k))=nm;generalize hs1:l.drop (1+k)=s1;unfold attrR;cases hsk:kI s1 with
 |nil=>exact Eo l nm s1 k hl hkl hk hnm hs1 hsk w hS
 |cons c t2=>
  simp only
  by_cases hc:c=61
  ·subst hc
   rw[if_pos rfl];unfold valF;cases pK:kI t2 with
   |nil=>exact Er l nm s1 t2 k hl hkl hk hnm hs1 hsk pK w hS
   |cons q t3=>
    simp only
    by_cases hq:q=34∨q=39
    ·rw[if_pos hq]
     rcases hq with rfl|rfl
     ·exact Bj l nm s1 t2 t3 k hl hkl hk hnm hs1 hsk pK w hS
     ·exact Bl l nm s1 t2 t3 k hl hkl hk hnm hs1 hsk pK w hS
    ·rw[if_neg hq]
     simp only[not_or]at hq
     by_cases hm:xC (q::t3)<(q::t3).length
     ·simp only[hm,decide_true]
      exact Bn l nm s1 t2 (q::t3) t3 q _ k hl hkl hk hnm hs1 hsk rfl pK hq.1 hq.2 rfl hm w hS
     ·simp only[hm,decide_false]
      exact Bo l nm s1 t2 (q::t3) t3 q _ k hl hkl hk hnm hs1 hsk rfl pK hq.1 hq.2 rfl hm w hS
  ·rw[if_neg hc]
   exact Ep l nm s1 t2 c k hl hkl hk hnm hs1 hsk hc w hS
theorem bE{w:World}{b:Nat}{v0 v1 v2 v3 v4:Value}{t:TypeId}(h:w.heap[b]?=some (.cells #[v0,v1,v2,v3,v4] t (0,0))):
 (w.cell? ⟨b,0,none⟩=some v0∧w.cell? ⟨b,1,none⟩=some v1∧w.cell? ⟨b,2,none⟩=some v2∧w.cell? ⟨b,3,none⟩=some v3∧w.cell? ⟨b,4,none⟩=some v4)∧(∀j,w.frozen? ⟨b,j,none⟩=false):=by
 refine⟨⟨?_,?_,?_,?_,?_⟩,fun j=>frozen_of_row w b j _ _ h⟩<;>(rw[Lib.cell_of_heap h];rfl)
theorem dn{w:World}{b:Nat}{x:Obj}(h:w.heap[b]?=some x)(o:Obj):(w.alloc o).heap[b]?=some x:=(heap_alloc_old w o (Array.getElem?_eq_some_iff.1 h).1).trans h
theorem bg{w w1:World}{b:Nat}{x:Obj}(h:w.heap[b]?=some x)(hb:Below w.heap.size w w1):w1.heap[b]?=some x:=(hb.block b (Array.getElem?_eq_some_iff.1 h).1).trans h
theorem jc{w:World}{b:Nat}{x:Obj}(h:w.heap[b]?=some x):b<w.heap.size:=(Array.getElem?_eq_some_iff.1 h).1
theorem gQ.len{w:World}{base:Nat}{va:Value}{acc:List (Txt×Txt)}(h:gQ w base va acc):∃a c,va=.slice a acc.length c:=by
 rcases h.2 with⟨rfl,h0⟩|⟨g,cap,cur,rfl,_⟩
 ·exact⟨none,0,by rw[h0]⟩
 ·exact⟨_,_,rfl⟩
theorem gQ.at{w:World}{base:Nat}{va:Value}{acc:List (Txt×Txt)}(h:gQ w base va acc){i:Nat}(hi:i<acc.length):∃g cap,va=.slice (some ⟨g,0,none⟩) acc.length cap∧base≤g∧g<w.heap.size∧w.cell? ⟨g,i * 2,none⟩=some (.string ⟨acc[i].1.toArray⟩)∧w.cell? ⟨g,i * 2+1,none⟩=some (.string ⟨acc[i].2.toArray⟩):=by
 rcases h.2 with⟨rfl,h0⟩|⟨g,cap,cur,rfl,hg,hh,hn,hc,hs,ht⟩
 ·omega
 ·have key:∀j,j<2→w.cell? ⟨g,i * 2+j,none⟩=(mP acc)[i * 2+j]?:=by
   intro j hj;rw[Lib.cell_of_heap hh,←Array.getElem?_toList,←ht,List.getElem?_take,if_pos (by omega)]
  have hv:∀(l:List (Txt×Txt)) (i:Nat) (hi:i<l.length),(mP l)[i * 2]?=some (.string ⟨l[i].1.toArray⟩)∧(mP l)[i * 2+1]?=some (.string ⟨l[i].2.toArray⟩):=by
   intro l
   induction l with
   |nil=>intro i hi;simp at hi
   |cons a l ih=>
    intro i hi;cases i with
    |zero=>simp[mP]
    |succ i=>
     have:=ih i (by simpa using hi);rw[show(i+1) * 2=i * 2+2 from by omega];simpa [mP]using this
  exact⟨g,cap,rfl,hg,jc hh,by rw[←(hv acc i hi).1];exact key 0 (by omega),by rw[←(hv acc i hi).2];exact key 1 (by omega)⟩
def tok0(nm va sf:Value):Array Value:=#[.int .i64 0,nm,.string ⟨#[]⟩,va,sf]
def lT(r:Option (Tok×Txt))(va:Value):Value:=
 match r with
 |none=>.tuple #[.agg #[.int .i64 0,.string ⟨#[]⟩,.string ⟨#[]⟩,.slice none 0 0,.bool false],.string ⟨#[]⟩,.bool false]
 |some (t,r)=>.tuple #[.agg #[.int .i64 0,.string ⟨t.name.toArray⟩,.string ⟨#[]⟩,va,.bool t.self],.string ⟨r.toArray⟩,.bool true]
def zN(r:Option (Tok×Txt)):List (Txt×Txt):=match r with|none=>[] |some (t,_)=>t.attrs
def IsT(w:World)(b:Nat):Prop:=∃cur,w.heap[b]?=some (.cells cur 65 (0,0))
theorem fJ{w:World}{b b' j:Nat}{v:Value}(h:IsT w b):IsT (w.setCell ⟨b',j,none⟩ v) b:=by
 obtain⟨cur,h⟩:=h
 by_cases e:b=b'
 ·subst e
  exact⟨_,heap_setCell_same w b j _ _ v h⟩
 ·exact⟨cur,(heap_setCell_other w ⟨b',j,none⟩ b v e).trans h⟩
theorem jd{w:World}{base b j:Nat}{v va:Value}{acc:List (Txt×Txt)}(h:gQ w base va acc)(ht:IsT w b):gQ (w.setCell ⟨b,j,none⟩ v) base va acc:=by
 obtain⟨cur,ht⟩:=ht;exact lD h (gL w ⟨b,j,none⟩ v) ht (by decide)
theorem slash_at{s:Txt}{k:Nat}(hk:uT s=k+1)(hlt:k<s.length):uq s=(s[k]==47):=by
 unfold uq;rw[hk];simp[hlt]
theorem slash_no{s:Txt}(hk:uT s=0):uq s=false:=by
 unfold uq;rw[hk];rfl
theorem sO{w w5:World}{base b:Nat}{cur:Array Value}{e':TypeId}{fz:Nat×Nat}{v:Value}{acc:List (Txt×Txt)}(hA:gQ w base v acc)(hg:w.grownBy w5 v.ownBlock)(hb:w.heap[b]?=some (.cells cur e' fz))(hne:e'≠36):w5.heap[b]?=some (.cells cur e' fz):=
 (hg.block b (jc hb) (fun e0=>own_ne hA hb hne e0.symm)).trans hb
theorem Io{acc:List (Txt×Txt)}{an av:Txt}(h:∀j (hj:j<acc.length),acc[j].1≠an):addA acc (an,av)=acc++[(an,av)]:=by
 unfold addA;rw[if_neg];simp only[List.any_eq_true,not_exists,not_and];intro x hx;obtain⟨j,hj,rfl⟩:=List.getElem_of_mem hx;simpa using h j hj
theorem Ip{acc:List (Txt×Txt)}{an av:Txt}{i:Nat}(hi:i<acc.length)(h:acc[i].1=an):addA acc (an,av)=acc:=by
 unfold addA;rw[if_pos];rw[List.any_eq_true];exact⟨acc[i],List.getElem_mem hi,by simpa using h⟩
theorem ne62{c:UInt8}(h:¬c=62):((c.toNat:Int)==62)=false:=by
 have:=lQ (p:=fun c=>((c.toNat:Int)==62)==(c==62)) (by decide +kernel) c;simp only[beq_iff_eq]at this;rw[this];simpa using h
theorem eq47(c:UInt8):((c.toNat:Int)==47)=(c==47):=by
 have:=lQ (p:=fun c=>((c.toNat:Int)==47)==(c==47)) (by decide +kernel) c;simpa using this
theorem p9(l:Txt)(hl:l.length≤1000000000)(w:World)(hS:Std w):
 Calls Tryz.prog 213 #[.string ⟨l.toArray⟩] w fun e w'=>∃va,e=.returned (lT (fK l) va)∧gQ w' w.heap.size va (zN (fK l))∧Below w.heap.size w w':=by
 have hc1:=Lib.hid (fun W=>Cz l hl W);have hnl:l.findIdx dY≤l.length:=List.findIdx_le_length;have hof:Hid (fK l=(lU [] (l.drop (l.findIdx dY))).map fun r=>(⟨0,kQ (l.take (l.findIdx dY)),r.1,[],r.2.1⟩,r.2.2)):=rfl;generalize l.findIdx dY=n at *;have hc2:=Lib.hid (fun W=>kR (l.take n) (by simp;omega) W);generalize hnm:kQ (l.take n)=nm at *;clear hnm;go_enter Tryz.func213,Tryz.ntmps213;go_wp2;go_step3
 go_wp2_with(first
  |(go_at_call 156;((with_reducible refine(hc1.out _).mono ?_);rintro e w1 ⟨rfl,rfl⟩))
  |(go_at_call 187;((with_reducible refine(hc2.out _).mono ?_);rintro e w1 ⟨rfl,hb⟩;have hB1:=bO ((Below.refl w.heap.size w).alloc (Nat.le_refl _) _) (by simp) hb;have r0:=(hb.block w.heap.size (by simp)).trans (bR _ _ _);have hz1:=hb.size;simp at hz1;have hS1:=hS.below hB1;clear hb)))
 go_step3;go_wp2
 go_loopg [0] (l.drop n).length (fun g vs wr=>∃(s:Txt) (acc:List (Txt×Txt)) (va:Value),s.length=g∧vs=.string ⟨s.toArray⟩∧acc.length+s.length≤l.length∧
  wr.heap[w.heap.size]?=some (.cells (tok0 (.string ⟨#[]⟩) (.slice none 0 0) (.bool false)) 65 (0,0))∧wr.heap[w1.heap.size]?=some (.cells (tok0 (.string ⟨nm.toArray⟩) va (.bool false)) 65 (0,0))∧
  gQ wr w.heap.size va acc∧Below w.heap.size w wr∧Hid (fK l=(lU acc s).map fun r=>(⟨0,nm,r.1,[],r.2.1⟩,r.2.2)))
 case atStart=>exact⟨l.drop n,[],.slice none 0 0,rfl,rfl,by simp,dn r0 _,bR _ _ _,gQ.nil _ _,hB1.alloc (by omega) _,hof⟩
 case round=>
  obtain⟨s,acc,va,hsg,rfl,hlen,r1,r2,hA,hB,hinv⟩:=hrel;subst hsg;obtain⟨ad,cp,rfl⟩:=hA.len;have hS2:=hS.below hB;have hlt1:=jc r1;have hlt2:=jc r2;have hne1:w1.heap.size≠w.heap.size:=by omega
  have hne2:w.heap.size≠w1.heap.size:=by omega
  have hI1:IsT wr w.heap.size:=⟨_,r1⟩;have hI2:IsT wr w1.heap.size:=⟨_,r2⟩;obtain⟨⟨q0,q1,q2,q3,q4⟩,q5⟩:=bE r1;obtain⟨⟨p0,p1,p2,p3,p4⟩,p5⟩:=bE r2;have hcs:=Lib.hid (fun W=>span_op1 s (by omega) W);have hgl:uT s≤s.length:=List.findIdx_le_length;have heq:=JZ acc s;rw[show s.findIdx (fun c=>!dQ c&&c !=47)=uT s from rfl]at hcs;obtain⟨sb,hsb⟩:∃sb,uq s=sb:=⟨_,rfl⟩
  rw[hsb]at heq
  rcases Nat.eq_zero_or_pos (uT s)with hg0|hg0
  ·rw[hg0]at hcs heq
   rw[slash_no hg0]at hsb;subst hsb;clear hg0 hgl;obtain⟨d,hd⟩:∃d,s.drop 0=d:=⟨_,rfl⟩
   rw[hd]at heq;simp only[List.drop_zero]at hd;subst hd;cases s with
   |nil=>
    have hopen:=Lib.hid (show fK l=none by rw[hinv.out,heq];rfl);clear heq hinv
    go_wp2_with(go_at_call 156;((with_reducible refine(hcs.out _).mono ?_);rintro e w4 ⟨rfl,rfl⟩))
    try rw[Exit.noGoto_ret]
    refine bodyPost_ret (v:=lT none (.slice none 0 0)) (by simp[results,Tryz.results213,go_sem,lT,q0,q1,q2,q3,q4,p0,p1,p2,p3,p4,hne1,hne2]) rfl ⟨.slice none 0 0,by rw[hopen.out],by rw[hopen.out];exact gQ.nil _ _,aW (aW (aW (aW (aW (hB) (Nat.le_refl _) _) (Nat.le_refl _) _) (Nat.le_refl _) _) (Nat.le_refl _) _) (Nat.le_refl _) _⟩
   |cons c s1=>
    by_cases hc:c=62
    ·subst hc
     have hopen:=Lib.hid (show fK l=some (⟨0,nm,acc,[],false⟩,s1) by rw[hinv.out,heq];simp);clear heq hinv
     go_wp2_with(go_at_call 156;((with_reducible refine(hcs.out _).mono ?_);rintro e w4 ⟨rfl,rfl⟩))
     have m0:∀x,(wr.setCell ⟨w1.heap.size,4,none⟩ x).cell? ⟨w.heap.size,0,none⟩=some (.int .i64 0):=fun x=>(bE ((heap_setCell_other wr ⟨w1.heap.size,4,none⟩ w.heap.size x hne2).trans r1)).1.1
     have m1:∀x,(wr.setCell ⟨w1.heap.size,4,none⟩ x).cell? ⟨w.heap.size,1,none⟩=some (.string ⟨#[]⟩):=fun x=>(bE ((heap_setCell_other wr ⟨w1.heap.size,4,none⟩ w.heap.size x hne2).trans r1)).1.2.1
     have m2:∀x,(wr.setCell ⟨w1.heap.size,4,none⟩ x).cell? ⟨w.heap.size,2,none⟩=some (.string ⟨#[]⟩):=fun x=>(bE ((heap_setCell_other wr ⟨w1.heap.size,4,none⟩ w.heap.size x hne2).trans r1)).1.2.2.1
     have m3:∀x,(wr.setCell ⟨w1.heap.size,4,none⟩ x).cell? ⟨w.heap.size,3,none⟩=some (.slice none 0 0):=fun x=>(bE ((heap_setCell_other wr ⟨w1.heap.size,4,none⟩ w.heap.size x hne2).trans r1)).1.2.2.2.1
     have m4:∀x,(wr.setCell ⟨w1.heap.size,4,none⟩ x).cell? ⟨w.heap.size,4,none⟩=some (.bool false):=fun x=>(bE ((heap_setCell_other wr ⟨w1.heap.size,4,none⟩ w.heap.size x hne2).trans r1)).1.2.2.2.2
     have hb1:(1:Int)≤(s1.length:Int)+1:=by omega
     have hb2:(0:Int)≤(s1.length:Int)+1:=by omega
     go_region
     all_goals
      go_wp2_with fail
      try rw[Exit.noGoto_ret]
      refine bodyPost_ret (v:=lT (some (⟨0,nm,acc,[],false⟩,s1)) (.slice ad acc.length cp)) (by simp[results,Tryz.results213,go_sem,lT,q0,q1,q2,q3,q4,p0,p1,p2,p3,p4,hne1,hne2,m0,m1,m2,m3,m4]) rfl ⟨_,by rw[hopen.out],by rw[hopen.out];exact gQ.below (jd (jd (jd (jd (jd (jd hA hI2) (fJ hI1)) (fJ (fJ hI1))) (fJ (fJ (fJ hI1)))) (fJ (fJ (fJ (fJ hI1))))) (fJ (fJ (fJ (fJ (fJ hI1)))))) ((Below.refl _ _).drew),(aW (aW (aW (aW (aW (aW hB (by omega) _) (Nat.le_refl _) _) (Nat.le_refl _) _) (Nat.le_refl _) _) (Nat.le_refl _) _) (Nat.le_refl _) _).drew⟩
    ·have hat:=Lib.hid (fun W hS=>xD (c::s1) (by simp) (by simp only[List.length_cons]at *;omega) W hS)
     have hal:=rU c s1;simp only[hc,if_false]at heq;have h62:=ne62 hc;obtain⟨nc,hnc⟩:∃nc,(c.toNat:Int)=nc:=⟨_,rfl⟩
     rw[hnc]at h62;generalize pQ (c::s1)=r at *;obtain⟨⟨an,av⟩,rest,ok⟩:=r;simp only at heq hal hat;cases ok with
     |false=>
      have hopen:=Lib.hid (show fK l=none by rw[hinv.out,heq];rfl);clear heq hinv
      go_wp2_with(first
       |(go_at_call 156;((with_reducible refine(hcs.out _).mono ?_);rintro e w4 ⟨rfl,rfl⟩))
       |(go_at_call 230;((with_reducible refine(hat.out _ hS2).mono ?_);rintro e w2 ⟨rfl,hb2⟩;have hB2:=bO hB hB.size hb2;have hz2:=hb2.size;have n0:=fun o=>(bE (dn (bg r1 hb2) o)).1.1;have n1:=fun o=>(bE (dn (bg r1 hb2) o)).1.2.1;have n2:=fun o=>(bE (dn (bg r1 hb2) o)).1.2.2.1;have n3:=fun o=>(bE (dn (bg r1 hb2) o)).1.2.2.2.1;have n4:=fun o=>(bE (dn (bg r1 hb2) o)).1.2.2.2.2;have n5:=fun o j=>(bE (dn (bg r1 hb2) o)).2 j;clear hb2)))
      try rw[Exit.noGoto_ret]
      refine bodyPost_ret (v:=lT none (.slice none 0 0)) (by simp[results,Tryz.results213,go_sem,lT,n0,n1,n2,n3,n4]) rfl ⟨.slice none 0 0,by rw[hopen.out],by rw[hopen.out];exact gQ.nil _ _,aW (aW (aW (aW (aW (hB2.alloc (by omega) _) (Nat.le_refl _) _) (Nat.le_refl _) _) (Nat.le_refl _) _) (Nat.le_refl _) _) (Nat.le_refl _) _⟩
     |true=>
      have hopen:=Lib.hid (show fK l=(lU (addA acc (an,av)) rest).map fun r=>(⟨0,nm,r.1,[],r.2.1⟩,r.2.2) by rw[hinv.out,heq];rfl);clear heq hinv
      go_wp2_with(first
       |(go_at_call 156;((with_reducible refine(hcs.out _).mono ?_);rintro e w4 ⟨rfl,rfl⟩))
       |(go_at_call 230;((with_reducible refine(hat.out _ hS2).mono ?_);rintro e w2 ⟨rfl,hb2⟩;have hB2:=bO hB hB.size hb2;have hz2:=hb2.size;have n3:=fun o=>(bE (dn (bg r2 hb2) o)).1.2.2.2.1)))
      have hA2:=hA.below hb2;have r12:=bg r1 hb2;have r22:=bg r2 hb2;have hlr:acc.length+1+rest.length≤l.length:=by simp only[List.length_cons]at *;omega
      have hrg:rest.length<(c::s1).length:=by simp only[List.length_cons]at *;omega
      clear hcs hat hal
      go_loopg [61] acc.length (fun g2 v wx=>∃i,i+g2=acc.length∧v=.int .i64 i∧Below (w2.alloc (.cells #[.string ⟨an.toArray⟩,.string ⟨av.toArray⟩] 36)).heap.size (w2.alloc (.cells #[.string ⟨an.toArray⟩,.string ⟨av.toArray⟩] 36)) wx∧Hid (∀j (hj:j<acc.length),j<i→acc[j].1≠an))
      case atStart=>exact⟨0,by omega,rfl,Below.refl _ _,fun j _ h=>by omega⟩
      case round=>
       obtain⟨i,hig,rfl,hbx,hno⟩:=hrel;have hlt3:=jc r12;have hlt4:=jc r22;have hBx:=bO (hB2.alloc (by omega) _) (by simp;omega) hbx;have hAx:gQ wr w.heap.size (.slice ad acc.length cp) acc:=own_below (World.ownsRow.alloc hA2 _) hbx;have rx0:=bg (dn r12 _) hbx;have rx1:=bg (dn r22 _) hbx;have rxa:=bg (bR w2 #[.string ⟨an.toArray⟩,.string ⟨av.toArray⟩] 36) hbx;have hszx:=hbx.size;rw[World.size_alloc]at hszx;obtain⟨⟨y0,y1,y2,y3,y4⟩,y5⟩:=bE rx1;obtain⟨z0,z1,z2,z3⟩:=fM rxa;obtain⟨t0,t1,t2,t3⟩:=kr rxa;cases gk with
       |zero=>
        have hil:¬((i:Int)<(acc.length:Int)):=by omega
        have uw:=Lib.hid (show fK l=(lU (acc++[(an,av)]) rest).map fun r=>(⟨0,nm,r.1,[],r.2.1⟩,r.2.2) by rw[←Io (av:=av) (fun j hj=>hno.out j hj (by omega))];exact hopen.out);have hA3:∀o,gQ (wr.alloc o) w.heap.size (.slice ad acc.length cp) acc:=fun o=>World.ownsRow.alloc hAx o
        have hlb:acc.length+1≤1000000000000:=by omega
        have hsb:∀o,w.heap.size≤(wr.alloc o).heap.size:=fun o=>by rw[World.size_alloc];omega
        obtain⟨zc0,zc1,zc2,zc3⟩:=fM (bR wr #[.string ⟨an.toArray⟩,.string ⟨av.toArray⟩] 36)
        go_wp2_with(at_builtin;refine EH rfl (.tmp 72) (.tmp 74) rfl w.heap.size wr.heap.size (.slice ad acc.length cp) acc (an,av) rfl (hA3 _) rfl zc0 zc1 hlb (hsb _) ?_;intro v5 w5 hA5 hg5 hb5;obtain⟨ad5,cp5,rfl⟩:=hA5.len;rw[show(acc++[(an,av)]).length=acc.length+1 from List.length_append]at hA5;have r50:=sO (hA3 _) hg5 (dn rx0 _) (by decide);have r51:=sO (hA3 _) hg5 (dn rx1 _) (by decide);have hB5:=(hBx.alloc (by omega) _).trans hb5;have x3:=(bE r51).1.2.2.2.1;have x5:=(bE r51).2)
        go_roundg rest.length
        case measure=>exact hrg
        case rel=>exact⟨rest,acc++[(an,av)],_,rfl,rfl,by simp only[List.length_append,List.length_cons,List.length_nil];omega,(heap_setCell_other w5 ⟨w1.heap.size,3,none⟩ w.heap.size _ hne2).trans r50,heap_setCell_same w5 w1.heap.size 3 _ _ _ r51,jd hA5 ⟨_,r51⟩,aW hB5 (by omega) _,uw⟩
       |succ g2=>
        have hil:(i:Int)<(acc.length:Int):=by omega
        have hi:i<acc.length:=by omega
        obtain⟨gb,cap,hva,hgb,hgl,ca,cb⟩:=hAx.at hi;obtain⟨rfl,rfl⟩:ad=some ⟨gb,0,none⟩∧cp=cap:=by simpa using hva
        by_cases he:acc[i].1=an
        ·have uw:=Lib.hid (show fK l=(lU acc rest).map fun r=>(⟨0,nm,r.1,[],r.2.1⟩,r.2.2) by rw[←Ip (av:=av) hi he];exact hopen.out)
         rw[he]at ca;have hbe:(an==an)=true:=by simp
         clear he;go_wp2
         go_roundg rest.length
         case measure=>exact hrg
         case rel=>exact⟨rest,acc,_,rfl,rfl,by omega,dn rx0 _,dn rx1 _,World.ownsRow.alloc hAx _,hBx.alloc (by omega) _,uw⟩
        ·have nK:=Lib.hid (show∀j (hj:j<acc.length),j<i+1→acc[j].1≠an by
          intro j hj hji
          by_cases e:j=i
          ·subst e;exact he
          ·exact hno.out j hj (by omega))
         have hbe:(acc[i].1==an)=false:=by simpa using he
         clear he;generalize acc[i].1=bn at *;generalize acc[i].2=bv at *;go_wp2
         go_roundg g2
         case measure=>omega
         case rel=>exact⟨i+1,by omega,rfl,hbx.alloc (by simp;omega) _,nK⟩
  ·obtain⟨k,hk⟩:∃k,uT s=k+1:=⟨uT s - 1,by omega⟩
   have hlt:k<s.length:=by omega
   rw[slash_at hk hlt]at hsb;rw[hk]at hcs heq;have h47:=eq47 s[k];rw[hsb]at h47;obtain⟨n0,hn0⟩:∃n0,(s[k].toNat:Int)=n0:=⟨_,rfl⟩
   rw[hn0]at h47;clear hsb hg0;obtain⟨d,hd⟩:∃d,s.drop (k+1)=d:=⟨_,rfl⟩
   rw[hd]at heq;have hdl:d.length+(k+1)=s.length:=by rw[←hd];simp;omega
   cases d with
   |nil=>
    have hopen:=Lib.hid (show fK l=none by rw[hinv.out,heq];rfl);clear heq hinv
    go_wp2_with(go_at_call 156;((with_reducible refine(hcs.out _).mono ?_);rintro e w4 ⟨rfl,rfl⟩))
    try rw[Exit.noGoto_ret]
    refine bodyPost_ret (v:=lT none (.slice none 0 0)) (by simp[results,Tryz.results213,go_sem,lT,q0,q1,q2,q3,q4,p0,p1,p2,p3,p4,hne1,hne2]) rfl ⟨.slice none 0 0,by rw[hopen.out],by rw[hopen.out];exact gQ.nil _ _,aW (aW (aW (aW (aW (hB) (Nat.le_refl _) _) (Nat.le_refl _) _) (Nat.le_refl _) _) (Nat.le_refl _) _) (Nat.le_refl _) _⟩
   |cons c s1=>
    by_cases hc:c=62
    ·subst hc
     have hopen:=Lib.hid (show fK l=some (⟨0,nm,acc,[],sb⟩,s1) by rw[hinv.out,heq];simp);clear heq hinv
     go_wp2_with(go_at_call 156;((with_reducible refine(hcs.out _).mono ?_);rintro e w4 ⟨rfl,rfl⟩))
     have m0:∀x,(wr.setCell ⟨w1.heap.size,4,none⟩ x).cell? ⟨w.heap.size,0,none⟩=some (.int .i64 0):=fun x=>(bE ((heap_setCell_other wr ⟨w1.heap.size,4,none⟩ w.heap.size x hne2).trans r1)).1.1
     have m1:∀x,(wr.setCell ⟨w1.heap.size,4,none⟩ x).cell? ⟨w.heap.size,1,none⟩=some (.string ⟨#[]⟩):=fun x=>(bE ((heap_setCell_other wr ⟨w1.heap.size,4,none⟩ w.heap.size x hne2).trans r1)).1.2.1
     have m2:∀x,(wr.setCell ⟨w1.heap.size,4,none⟩ x).cell? ⟨w.heap.size,2,none⟩=some (.string ⟨#[]⟩):=fun x=>(bE ((heap_setCell_other wr ⟨w1.heap.size,4,none⟩ w.heap.size x hne2).trans r1)).1.2.2.1
     have m3:∀x,(wr.setCell ⟨w1.heap.size,4,none⟩ x).cell? ⟨w.heap.size,3,none⟩=some (.slice none 0 0):=fun x=>(bE ((heap_setCell_other wr ⟨w1.heap.size,4,none⟩ w.heap.size x hne2).trans r1)).1.2.2.2.1
     have m4:∀x,(wr.setCell ⟨w1.heap.size,4,none⟩ x).cell? ⟨w.heap.size,4,none⟩=some (.bool false):=fun x=>(bE ((heap_setCell_other wr ⟨w1.heap.size,4,none⟩ w.heap.size x hne2).trans r1)).1.2.2.2.2
     have hb1:(1:Int)≤(s1.length:Int)+1:=by omega
     have hb2:(0:Int)≤(s1.length:Int)+1:=by omega
     go_region
     all_goals
      go_wp2_with fail
      try rw[Exit.noGoto_ret]
      refine bodyPost_ret (v:=lT (some (⟨0,nm,acc,[],sb⟩,s1)) (.slice ad acc.length cp)) (by simp[results,Tryz.results213,go_sem,lT,q0,q1,q2,q3,q4,p0,p1,p2,p3,p4,hne1,hne2,m0,m1,m2,m3,m4]) rfl ⟨_,by rw[hopen.out],by rw[hopen.out];exact gQ.below (jd (jd (jd (jd (jd (jd hA hI2) (fJ hI1)) (fJ (fJ hI1))) (fJ (fJ (fJ hI1)))) (fJ (fJ (fJ (fJ hI1))))) (fJ (fJ (fJ (fJ (fJ hI1)))))) ((Below.refl _ _).drew),(aW (aW (aW (aW (aW (aW hB (by omega) _) (Nat.le_refl _) _) (Nat.le_refl _) _) (Nat.le_refl _) _) (Nat.le_refl _) _) (Nat.le_refl _) _).drew⟩
    ·have hat:=Lib.hid (fun W hS=>xD (c::s1) (by simp) (by simp only[List.length_cons]at *;omega) W hS)
     have hal:=rU c s1;simp only[hc,if_false]at heq;have h62:=ne62 hc;obtain⟨nc,hnc⟩:∃nc,(c.toNat:Int)=nc:=⟨_,rfl⟩
     rw[hnc]at h62;generalize pQ (c::s1)=r at *;obtain⟨⟨an,av⟩,rest,ok⟩:=r;simp only at heq hal hat;cases ok with
     |false=>
      have hopen:=Lib.hid (show fK l=none by rw[hinv.out,heq];rfl);clear heq hinv
      go_wp2_with(first
       |(go_at_call 156;((with_reducible refine(hcs.out _).mono ?_);rintro e w4 ⟨rfl,rfl⟩))
       |(go_at_call 230;((with_reducible refine(hat.out _ hS2).mono ?_);rintro e w2 ⟨rfl,hb2⟩;have hB2:=bO hB hB.size hb2;have hz2:=hb2.size;have n0:=fun o=>(bE (dn (bg r1 hb2) o)).1.1;have n1:=fun o=>(bE (dn (bg r1 hb2) o)).1.2.1;have n2:=fun o=>(bE (dn (bg r1 hb2) o)).1.2.2.1;have n3:=fun o=>(bE (dn (bg r1 hb2) o)).1.2.2.2.1;have n4:=fun o=>(bE (dn (bg r1 hb2) o)).1.2.2.2.2;have n5:=fun o j=>(bE (dn (bg r1 hb2) o)).2 j;clear hb2)))
      try rw[Exit.noGoto_ret]
      refine bodyPost_ret (v:=lT none (.slice none 0 0)) (by simp[results,Tryz.results213,go_sem,lT,n0,n1,n2,n3,n4]) rfl ⟨.slice none 0 0,by rw[hopen.out],by rw[hopen.out];exact gQ.nil _ _,aW (aW (aW (aW (aW (hB2.alloc (by omega) _) (Nat.le_refl _) _) (Nat.le_refl _) _) (Nat.le_refl _) _) (Nat.le_refl _) _) (Nat.le_refl _) _⟩
     |true=>
      have hopen:=Lib.hid (show fK l=(lU (addA acc (an,av)) rest).map fun r=>(⟨0,nm,r.1,[],r.2.1⟩,r.2.2) by rw[hinv.out,heq];rfl);clear heq hinv
      go_wp2_with(first
       |(go_at_call 156;((with_reducible refine(hcs.out _).mono ?_);rintro e w4 ⟨rfl,rfl⟩))
       |(go_at_call 230;((with_reducible refine(hat.out _ hS2).mono ?_);rintro e w2 ⟨rfl,hb2⟩;have hB2:=bO hB hB.size hb2;have hz2:=hb2.size;have n3:=fun o=>(bE (dn (bg r2 hb2) o)).1.2.2.2.1)))
      have hA2:=hA.below hb2;have r12:=bg r1 hb2;have r22:=bg r2 hb2;have hlr:acc.length+1+rest.length≤l.length:=by simp only[List.length_cons]at *;omega
      have hrg:rest.length<s.length:=by simp only[List.length_cons]at *;omega
      clear hcs hat hal
      go_loopg [61] acc.length (fun g2 v wx=>∃i,i+g2=acc.length∧v=.int .i64 i∧Below (w2.alloc (.cells #[.string ⟨an.toArray⟩,.string ⟨av.toArray⟩] 36)).heap.size (w2.alloc (.cells #[.string ⟨an.toArray⟩,.string ⟨av.toArray⟩] 36)) wx∧Hid (∀j (hj:j<acc.length),j<i→acc[j].1≠an))
      case atStart=>exact⟨0,by omega,rfl,Below.refl _ _,fun j _ h=>by omega⟩
      case round=>
       obtain⟨i,hig,rfl,hbx,hno⟩:=hrel;have hlt3:=jc r12;have hlt4:=jc r22;have hBx:=bO (hB2.alloc (by omega) _) (by simp;omega) hbx;have hAx:gQ wr w.heap.size (.slice ad acc.length cp) acc:=own_below (World.ownsRow.alloc hA2 _) hbx;have rx0:=bg (dn r12 _) hbx;have rx1:=bg (dn r22 _) hbx;have rxa:=bg (bR w2 #[.string ⟨an.toArray⟩,.string ⟨av.toArray⟩] 36) hbx;have hszx:=hbx.size;rw[World.size_alloc]at hszx;obtain⟨⟨y0,y1,y2,y3,y4⟩,y5⟩:=bE rx1;obtain⟨z0,z1,z2,z3⟩:=fM rxa;obtain⟨t0,t1,t2,t3⟩:=kr rxa;cases gk with
       |zero=>
        have hil:¬((i:Int)<(acc.length:Int)):=by omega
        have uw:=Lib.hid (show fK l=(lU (acc++[(an,av)]) rest).map fun r=>(⟨0,nm,r.1,[],r.2.1⟩,r.2.2) by rw[←Io (av:=av) (fun j hj=>hno.out j hj (by omega))];exact hopen.out);have hA3:∀o,gQ (wr.alloc o) w.heap.size (.slice ad acc.length cp) acc:=fun o=>World.ownsRow.alloc hAx o
        have hlb:acc.length+1≤1000000000000:=by omega
        have hsb:∀o,w.heap.size≤(wr.alloc o).heap.size:=fun o=>by rw[World.size_alloc];omega
        obtain⟨zc0,zc1,zc2,zc3⟩:=fM (bR wr #[.string ⟨an.toArray⟩,.string ⟨av.toArray⟩] 36)
        go_wp2_with(at_builtin;refine EH rfl (.tmp 72) (.tmp 74) rfl w.heap.size wr.heap.size (.slice ad acc.length cp) acc (an,av) rfl (hA3 _) rfl zc0 zc1 hlb (hsb _) ?_;intro v5 w5 hA5 hg5 hb5;obtain⟨ad5,cp5,rfl⟩:=hA5.len;rw[show(acc++[(an,av)]).length=acc.length+1 from List.length_append]at hA5;have r50:=sO (hA3 _) hg5 (dn rx0 _) (by decide);have r51:=sO (hA3 _) hg5 (dn rx1 _) (by decide);have hB5:=(hBx.alloc (by omega) _).trans hb5;have x3:=(bE r51).1.2.2.2.1;have x5:=(bE r51).2)
        go_roundg rest.length
        case measure=>exact hrg
        case rel=>exact⟨rest,acc++[(an,av)],_,rfl,rfl,by simp only[List.length_append,List.length_cons,List.length_nil];omega,(heap_setCell_other w5 ⟨w1.heap.size,3,none⟩ w.heap.size _ hne2).trans r50,heap_setCell_same w5 w1.heap.size 3 _ _ _ r51,jd hA5 ⟨_,r51⟩,aW hB5 (by omega) _,uw⟩
       |succ g2=>
        have hil:(i:Int)<(acc.length:Int):=by omega
        have hi:i<acc.length:=by omega
        obtain⟨gb,cap,hva,hgb,hgl,ca,cb⟩:=hAx.at hi;obtain⟨rfl,rfl⟩:ad=some ⟨gb,0,none⟩∧cp=cap:=by simpa using hva
        by_cases he:acc[i].1=an
        ·have uw:=Lib.hid (show fK l=(lU acc rest).map fun r=>(⟨0,nm,r.1,[],r.2.1⟩,r.2.2) by rw[←Ip (av:=av) hi he];exact hopen.out)
         rw[he]at ca;have hbe:(an==an)=true:=by simp
         clear he;go_wp2
         go_roundg rest.length
         case measure=>exact hrg
         case rel=>exact⟨rest,acc,_,rfl,rfl,by omega,dn rx0 _,dn rx1 _,World.ownsRow.alloc hAx _,hBx.alloc (by omega) _,uw⟩
        ·have nK:=Lib.hid (show∀j (hj:j<acc.length),j<i+1→acc[j].1≠an by
          intro j hj hji
          by_cases e:j=i
          ·subst e;exact he
          ·exact hno.out j hj (by omega))
         have hbe:(acc[i].1==an)=false:=by simpa using he
         clear he;generalize acc[i].1=bn at *;generalize acc[i].2=bv at *;go_wp2
         go_roundg g2
         case measure=>omega
         case rel=>exact⟨i+1,by omega,rfl,hbx.alloc (by simp;omega) _,nK⟩
end Go.Proofs.YtkcmghlhpbepcaaGreatDoor
