/- Lemmas and walks, part 11. -/
import Derived.Test.YtkcmghlhpbepcaaGreatDoorWS10
set_option linter.unusedVariables false
set_option linter.unusedSimpArgs false
set_option maxHeartbeats 8000000
set_option maxRecDepth 100000
namespace Go.Proofs.YtkcmghlhpbepcaaGreatDoor
open Go.RowKit Go.Proofs
@[go_sem] theorem tail_go (c : UInt8) (t : Txt) : (⟨(c :: t).toArray⟩ : Bt).extract 1 (t.length + 1) = ⟨t.toArray⟩ := xG
theorem gN{w:World}{b:Nat}{x y:Value}{t:TypeId}(h:w.heap[b]?=some (.cells #[x,y] t (0,0))):w.cell? ⟨b,0,none⟩=some x∧w.cell? ⟨b,1,none⟩=some y∧w.frozen? ⟨b,0,none⟩=false∧w.frozen? ⟨b,1,none⟩=false:=by
 refine⟨?_,?_,?_,?_⟩
 ·rw[Lib.cell_of_heap h];rfl
 ·rw[Lib.cell_of_heap h];rfl
 ·exact frozen_of_row w b 0 _ _ h
 ·exact frozen_of_row w b 1 _ _ h
theorem nu{w:World}{b:Nat}{x y:Value}{t:TypeId}(h:w.heap[b]?=some (.cells #[x,y] t (0,0))):(∀o,(w.alloc o).cell? ⟨b,0,none⟩=some x)∧(∀o,(w.alloc o).cell? ⟨b,1,none⟩=some y)∧(∀o,(w.alloc o).frozen? ⟨b,0,none⟩=false)∧(∀o,(w.alloc o).frozen? ⟨b,1,none⟩=false):=by
 have hlt:b<w.heap.size:=(Array.getElem?_eq_some_iff.1 h).1;have h':∀o,(w.alloc o).heap[b]?=some (.cells #[x,y] t (0,0)):=fun o=>(heap_alloc_old w _ hlt).trans h
 exact⟨fun o=>(gN (h' o)).1,fun o=>(gN (h' o)).2.1,fun o=>(gN (h' o)).2.2.1,fun o=>(gN (h' o)).2.2.2⟩
theorem attrK_le{l:Txt}(h:0<l.length):∃k,o9 l=1+k∧l.tail.findIdx (fun c=>bS c||c==61)=k∧1+k≤l.length:=by
 refine⟨_,rfl,rfl,?_⟩;have:=List.findIdx_le_length (p:=fun c=>bS c||c==61) (xs:=l.tail);rw[List.length_tail]at this;omega
theorem qP{s t:Txt}{c:UInt8}(h:lu s=c::t):∃k,s.findIdx (fun c=>!cO c)=k∧k<s.length∧(∀h:k<s.length,s[k]=c)∧s.drop (k+1)=t:=by
 unfold lu at h;refine⟨_,rfl,?_⟩;generalize s.findIdx (fun c=>!cO c)=k at *
 have hlt:k<s.length:=by
  have:=congrArg List.length h;simp at this;omega
 rw[List.drop_eq_getElem_cons hlt]at h;injection h with h1 h2
 exact⟨hlt,fun _=>h1,h2⟩
theorem GD{s:Txt}(h:lu s=[]):s.findIdx (fun c=>!cO c)=s.length:=by
 have h1:=List.findIdx_le_length (p:=fun c=>!cO c) (xs:=s);have h2:=List.drop_eq_nil_iff.1 h;omega
theorem KJ(l nm s1:Txt)(k:Nat)(hl:l.length≤1000000000)(hk:1+k≤l.length)(hK:l.tail.findIdx (fun c=>bS c||c==61)=k)(hnm:iJ (l.take (1+k))=nm)(hs1:l.drop (1+k)=s1)(hsk:lu s1=[])(w:World)(hS:Std w):
 Calls Tryz.prog 230 #[.string ⟨l.toArray⟩] w fun e w'=>e=.returned (.tuple #[.agg #[.string ⟨nm.toArray⟩,.string ⟨([] :Txt).toArray⟩],.string ⟨([] :Txt).toArray⟩,.bool false])∧Below w.heap.size w w':=by
 have hsl:s1.length≤1000000000:=by rw[←hs1];simp;omega
 have hc1:=Lib.hid (fun W=>qX l.tail (by simp;omega) W);have hc2:=Lib.hid (fun W=>nQ (l.take (1+k)) (by simp;omega) W);have hc3:=Lib.hid (fun W=>qY s1 hsl W);rw[hK]at hc1;rw[hnm]at hc2;rw[GD hsk]at hc3;clear hsk;clear hK hnm;go_enter Tryz.func230,Tryz.ntmps230
 go_wp2_with(first
  |(go_at_call 156;first
   |((with_reducible refine(hc1.out _).mono ?_);rintro e w1 ⟨rfl,rfl⟩)
   |((with_reducible refine(hc3.out _).mono ?_);rintro e w1 ⟨rfl,rfl⟩))
  |(go_at_call 187;((with_reducible refine(hc2.out _).mono ?_);rintro e w1 ⟨rfl,hb⟩;have hB1:=bC ((Below.refl w.heap.size w).alloc (Nat.le_refl _) _) (by simp) hb;have r0:=(hb.block w.heap.size (by simp)).trans (bM _ _ _);obtain⟨q1,q2,q3,q4⟩:=nu r0;have hz1:=hb.size;simp at hz1;have hS1:=hS.below hB1;have hne1:w1.heap.size≠w.heap.size:=(by omega);have hne2:w.heap.size≠w1.heap.size:=(by omega);clear hb)))
 refine bodyPost_ret (v:=.tuple #[.agg #[.string ⟨nm.toArray⟩,.string ⟨([] :Txt).toArray⟩],.string ⟨([] :Txt).toArray⟩,.bool false]) (by simp[results,Tryz.results230,go_sem,q1,q2]) rfl ⟨rfl,aH (aH (hB1.alloc (by omega) _) (Nat.le_refl _) _) (Nat.le_refl _) _⟩
theorem KL(l nm s1 t2:Txt)(c:UInt8)(k:Nat)(hl:l.length≤1000000000)(hk:1+k≤l.length)(hK:l.tail.findIdx (fun c=>bS c||c==61)=k)(hnm:iJ (l.take (1+k))=nm)(hs1:l.drop (1+k)=s1)(hsk:lu s1=c::t2)(hc61:c≠61)(w:World)(hS:Std w):
 Calls Tryz.prog 230 #[.string ⟨l.toArray⟩] w fun e w'=>e=.returned (.tuple #[.agg #[.string ⟨nm.toArray⟩,.string ⟨([] :Txt).toArray⟩],.string ⟨(s1:Txt).toArray⟩,.bool true])∧Below w.heap.size w w':=by
 have hsl:s1.length≤1000000000:=by rw[←hs1];simp;omega
 have hc1:=Lib.hid (fun W=>qX l.tail (by simp;omega) W);have hc2:=Lib.hid (fun W=>nQ (l.take (1+k)) (by simp;omega) W);have hc3:=Lib.hid (fun W=>qY s1 hsl W);rw[hK]at hc1;rw[hnm]at hc2;obtain⟨k2,h21,h22,h23,h24⟩:=qP hsk;rw[h21]at hc3;have h23:=h23 h22;obtain⟨n,hn⟩:∃n,(c.toNat:Int)=n:=⟨_,rfl⟩
 have hn61:n≠61:=by
  intro e;exact hc61 (Ac (n:=61) (by omega) (by omega))
 clear hsk h21 h24 hc61;clear hK hnm;go_enter Tryz.func230,Tryz.ntmps230
 go_wp2_with(first
  |(go_at_call 156;first
   |((with_reducible refine(hc1.out _).mono ?_);rintro e w1 ⟨rfl,rfl⟩)
   |((with_reducible refine(hc3.out _).mono ?_);rintro e w1 ⟨rfl,rfl⟩))
  |(go_at_call 187;((with_reducible refine(hc2.out _).mono ?_);rintro e w1 ⟨rfl,hb⟩;have hB1:=bC ((Below.refl w.heap.size w).alloc (Nat.le_refl _) _) (by simp) hb;have r0:=(hb.block w.heap.size (by simp)).trans (bM _ _ _);obtain⟨q1,q2,q3,q4⟩:=nu r0;have hz1:=hb.size;simp at hz1;have hS1:=hS.below hB1;have hne1:w1.heap.size≠w.heap.size:=(by omega);have hne2:w.heap.size≠w1.heap.size:=(by omega);clear hb)))
 refine bodyPost_ret (v:=.tuple #[.agg #[.string ⟨nm.toArray⟩,.string ⟨([] :Txt).toArray⟩],.string ⟨(s1:Txt).toArray⟩,.bool true]) (by simp[results,Tryz.results230,go_sem,q1,q2]) rfl ⟨rfl,aH (aH (hB1.alloc (by omega) _) (Nat.le_refl _) _) (Nat.le_refl _) _⟩
theorem KM(l nm s1 t2:Txt)(k:Nat)(hl:l.length≤1000000000)(hk:1+k≤l.length)(hK:l.tail.findIdx (fun c=>bS c||c==61)=k)(hnm:iJ (l.take (1+k))=nm)(hs1:l.drop (1+k)=s1)(hsk:lu s1=61::t2)(tK:lu t2=[])(w:World)(hS:Std w):
 Calls Tryz.prog 230 #[.string ⟨l.toArray⟩] w fun e w'=>e=.returned (.tuple #[.agg #[.string ⟨nm.toArray⟩,.string ⟨([] :Txt).toArray⟩],.string ⟨([] :Txt).toArray⟩,.bool false])∧Below w.heap.size w w':=by
 have hsl:s1.length≤1000000000:=by rw[←hs1];simp;omega
 have hc1:=Lib.hid (fun W=>qX l.tail (by simp;omega) W);have hc2:=Lib.hid (fun W=>nQ (l.take (1+k)) (by simp;omega) W);have hc3:=Lib.hid (fun W=>qY s1 hsl W);rw[hK]at hc1;rw[hnm]at hc2;obtain⟨k2,h21,h22,h23,h24⟩:=qP hsk;rw[h21]at hc3;have h23:=h23 h22;have ht2:t2.length≤1000000000:=by rw[←h24];simp;omega
 have hc4:=Lib.hid (fun W=>xH t2 ht2 W);rw[GD tK]at hc4;clear hsk h21 tK;clear hK hnm;go_enter Tryz.func230,Tryz.ntmps230
 go_wp2_with(first
  |(go_at_call 156;first
   |((with_reducible refine(hc1.out _).mono ?_);rintro e w1 ⟨rfl,rfl⟩)
   |((with_reducible refine(hc3.out _).mono ?_);rintro e w1 ⟨rfl,rfl⟩)
   |((with_reducible refine(hc4.out _).mono ?_);rintro e w1 ⟨rfl,rfl⟩))
  |(go_at_call 187;((with_reducible refine(hc2.out _).mono ?_);rintro e w1 ⟨rfl,hb⟩;have hB1:=bC ((Below.refl w.heap.size w).alloc (Nat.le_refl _) _) (by simp) hb;have r0:=(hb.block w.heap.size (by simp)).trans (bM _ _ _);obtain⟨q1,q2,q3,q4⟩:=nu r0;have hz1:=hb.size;simp at hz1;have hS1:=hS.below hB1;have hne1:w1.heap.size≠w.heap.size:=(by omega);have hne2:w.heap.size≠w1.heap.size:=(by omega);clear hb)))
 refine bodyPost_ret (v:=.tuple #[.agg #[.string ⟨nm.toArray⟩,.string ⟨([] :Txt).toArray⟩],.string ⟨([] :Txt).toArray⟩,.bool false]) (by simp[results,Tryz.results230,go_sem,q1,q2]) rfl ⟨rfl,aH (aH (hB1.alloc (by omega) _) (Nat.le_refl _) _) (Nat.le_refl _) _⟩
theorem Gn(l nm s1 t2 t3:Txt)(k:Nat)(hl:l.length≤1000000000)(hk:1+k≤l.length)(hK:l.tail.findIdx (fun c=>bS c||c==61)=k)(hnm:iJ (l.take (1+k))=nm)(hs1:l.drop (1+k)=s1)(hsk:lu s1=61::t2)(tK:lu t2=34::t3)(w:World)(hS:Std w):
 Calls Tryz.prog 230 #[.string ⟨l.toArray⟩] w fun e w'=>e=.returned (.tuple #[.agg #[.string ⟨nm.toArray⟩,.string ⟨(iK (gH 34 t3).1:Txt).toArray⟩],.string ⟨((gH 34 t3).2.1:Txt).toArray⟩,.bool (gH 34 t3).2.2])∧Below w.heap.size w w':=by
 have hsl:s1.length≤1000000000:=by rw[←hs1];simp;omega
 have hc1:=Lib.hid (fun W=>qX l.tail (by simp;omega) W);have hc2:=Lib.hid (fun W=>nQ (l.take (1+k)) (by simp;omega) W);have hc3:=Lib.hid (fun W=>qY s1 hsl W);rw[hK]at hc1;rw[hnm]at hc2;obtain⟨k2,h21,h22,h23,h24⟩:=qP hsk;rw[h21]at hc3;have h23:=h23 h22;have ht2:t2.length≤1000000000:=by rw[←h24];simp;omega
 have hc4:=Lib.hid (fun W=>xH t2 ht2 W);obtain⟨k3,h31⟩:∃k3,t2.findIdx (fun c=>!cO c)=k3:=⟨_,rfl⟩
 rw[h31]at hc4;have h3le:k3≤t2.length:=by rw[←h31];exact List.findIdx_le_length
 have h32:t2.drop k3=34::t3:=by rw[←h31];exact tK
 have h3l:=congrArg List.length h32;simp only[List.length_drop,List.length_cons]at h3l;have hcut:=Lib.hid (fun W hS=>cut_c t3 34 (by omega) W hS);have hcl:=mK 34 t3;generalize gH 34 t3=cc at *;obtain⟨v1,v2,fd⟩:=cc;have hdec:=Lib.hid (fun W hS=>tL v1 (by simp only at hcl;omega) W hS);simp only at hcut;clear hsk h21 tK h31 hcl;clear hK hnm;go_enter Tryz.func230,Tryz.ntmps230
 go_wp2_with(first
  |(go_at_call 156;first
   |((with_reducible refine(hc1.out _).mono ?_);rintro e w1 ⟨rfl,rfl⟩)
   |((with_reducible refine(hc3.out _).mono ?_);rintro e w1 ⟨rfl,rfl⟩)
   |((with_reducible refine(hc4.out _).mono ?_);rintro e w1 ⟨rfl,rfl⟩))
  |(go_at_call 187;((with_reducible refine(hc2.out _).mono ?_);rintro e w1 ⟨rfl,hb⟩;have hB1:=bC ((Below.refl w.heap.size w).alloc (Nat.le_refl _) _) (by simp) hb;have r0:=(hb.block w.heap.size (by simp)).trans (bM _ _ _);obtain⟨q1,q2,q3,q4⟩:=nu r0;have hz1:=hb.size;simp at hz1;have hS1:=hS.below hB1;have hne1:w1.heap.size≠w.heap.size:=(by omega);have hne2:w.heap.size≠w1.heap.size:=(by omega);clear hb))
  |(go_at_call 188;((with_reducible refine(hcut.out _ (hS1.alloc _)).mono ?_);rintro e w2 ⟨rfl,hb2⟩;have hB2:=bC (hB1.alloc (by omega) _) (by simp;omega) hb2;have r02:=(hb2.block w.heap.size (by simp;omega)).trans ((heap_alloc_old w1 _ (by omega)).trans r0);have r12:=(hb2.block w1.heap.size (by simp)).trans (bM _ _ _);have hz2:=hb2.size;simp at hz2;have hS2:=hS.below hB2;clear hb2))
  |(go_at_call 155;((with_reducible refine(hdec.out _ hS2).mono ?_);rintro e w3 ⟨rfl,hb3⟩;have hB3:=bC hB2 (by omega) hb3;obtain⟨p1,p2,p3,p4⟩:=gN ((hb3.block w.heap.size (by omega)).trans r02);obtain⟨p5,p6,p7,p8⟩:=gN ((hb3.block w1.heap.size (by omega)).trans r12);clear hb3)))
 refine bodyPost_ret (v:=.tuple #[.agg #[.string ⟨nm.toArray⟩,.string ⟨(iK v1:Txt).toArray⟩],.string ⟨(v2:Txt).toArray⟩,.bool fd]) (by simp[results,Tryz.results230,go_sem,p1,p2,hne1,hne2]) rfl ⟨rfl,aH (aH (aH hB3 (by omega) _) (Nat.le_refl _) _) (Nat.le_refl _) _⟩
theorem Gp(l nm s1 t2 t3:Txt)(k:Nat)(hl:l.length≤1000000000)(hk:1+k≤l.length)(hK:l.tail.findIdx (fun c=>bS c||c==61)=k)(hnm:iJ (l.take (1+k))=nm)(hs1:l.drop (1+k)=s1)(hsk:lu s1=61::t2)(tK:lu t2=39::t3)(w:World)(hS:Std w):
 Calls Tryz.prog 230 #[.string ⟨l.toArray⟩] w fun e w'=>e=.returned (.tuple #[.agg #[.string ⟨nm.toArray⟩,.string ⟨(iK (gH 39 t3).1:Txt).toArray⟩],.string ⟨((gH 39 t3).2.1:Txt).toArray⟩,.bool (gH 39 t3).2.2])∧Below w.heap.size w w':=by
 have hsl:s1.length≤1000000000:=by rw[←hs1];simp;omega
 have hc1:=Lib.hid (fun W=>qX l.tail (by simp;omega) W);have hc2:=Lib.hid (fun W=>nQ (l.take (1+k)) (by simp;omega) W);have hc3:=Lib.hid (fun W=>qY s1 hsl W);rw[hK]at hc1;rw[hnm]at hc2;obtain⟨k2,h21,h22,h23,h24⟩:=qP hsk;rw[h21]at hc3;have h23:=h23 h22;have ht2:t2.length≤1000000000:=by rw[←h24];simp;omega
 have hc4:=Lib.hid (fun W=>xH t2 ht2 W);obtain⟨k3,h31⟩:∃k3,t2.findIdx (fun c=>!cO c)=k3:=⟨_,rfl⟩
 rw[h31]at hc4;have h3le:k3≤t2.length:=by rw[←h31];exact List.findIdx_le_length
 have h32:t2.drop k3=39::t3:=by rw[←h31];exact tK
 have h3l:=congrArg List.length h32;simp only[List.length_drop,List.length_cons]at h3l;have hcut:=Lib.hid (fun W hS=>cut_c t3 39 (by omega) W hS);have hcl:=mK 39 t3;generalize gH 39 t3=cc at *;obtain⟨v1,v2,fd⟩:=cc;have hdec:=Lib.hid (fun W hS=>tL v1 (by simp only at hcl;omega) W hS);simp only at hcut;clear hsk h21 tK h31 hcl;clear hK hnm;go_enter Tryz.func230,Tryz.ntmps230
 go_wp2_with(first
  |(go_at_call 156;first
   |((with_reducible refine(hc1.out _).mono ?_);rintro e w1 ⟨rfl,rfl⟩)
   |((with_reducible refine(hc3.out _).mono ?_);rintro e w1 ⟨rfl,rfl⟩)
   |((with_reducible refine(hc4.out _).mono ?_);rintro e w1 ⟨rfl,rfl⟩))
  |(go_at_call 187;((with_reducible refine(hc2.out _).mono ?_);rintro e w1 ⟨rfl,hb⟩;have hB1:=bC ((Below.refl w.heap.size w).alloc (Nat.le_refl _) _) (by simp) hb;have r0:=(hb.block w.heap.size (by simp)).trans (bM _ _ _);obtain⟨q1,q2,q3,q4⟩:=nu r0;have hz1:=hb.size;simp at hz1;have hS1:=hS.below hB1;have hne1:w1.heap.size≠w.heap.size:=(by omega);have hne2:w.heap.size≠w1.heap.size:=(by omega);clear hb))
  |(go_at_call 188;((with_reducible refine(hcut.out _ (hS1.alloc _)).mono ?_);rintro e w2 ⟨rfl,hb2⟩;have hB2:=bC (hB1.alloc (by omega) _) (by simp;omega) hb2;have r02:=(hb2.block w.heap.size (by simp;omega)).trans ((heap_alloc_old w1 _ (by omega)).trans r0);have r12:=(hb2.block w1.heap.size (by simp)).trans (bM _ _ _);have hz2:=hb2.size;simp at hz2;have hS2:=hS.below hB2;clear hb2))
  |(go_at_call 155;((with_reducible refine(hdec.out _ hS2).mono ?_);rintro e w3 ⟨rfl,hb3⟩;have hB3:=bC hB2 (by omega) hb3;obtain⟨p1,p2,p3,p4⟩:=gN ((hb3.block w.heap.size (by omega)).trans r02);obtain⟨p5,p6,p7,p8⟩:=gN ((hb3.block w1.heap.size (by omega)).trans r12);clear hb3)))
 refine bodyPost_ret (v:=.tuple #[.agg #[.string ⟨nm.toArray⟩,.string ⟨(iK v1:Txt).toArray⟩],.string ⟨(v2:Txt).toArray⟩,.bool fd]) (by simp[results,Tryz.results230,go_sem,p1,p2,hne1,hne2]) rfl ⟨rfl,aH (aH (aH hB3 (by omega) _) (Nat.le_refl _) _) (Nat.le_refl _) _⟩
theorem Gq(l nm s1 t2 s3 t3:Txt)(q:UInt8)(m k:Nat)(hl:l.length≤1000000000)(hk:1+k≤l.length)(hK:l.tail.findIdx (fun c=>bS c||c==61)=k)(hnm:iJ (l.take (1+k))=nm)(hs1:l.drop (1+k)=s1)(hsk:lu s1=61::t2)(hs3:s3=q::t3)(tK:lu t2=q::t3)(hq1:q≠34)(hq2:q≠39)(hm:Ad s3=m)(hlt:m<s3.length)(w:World)(hS:Std w):
 Calls Tryz.prog 230 #[.string ⟨l.toArray⟩] w fun e w'=>e=.returned (.tuple #[.agg #[.string ⟨nm.toArray⟩,.string ⟨(iK (s3.take m):Txt).toArray⟩],.string ⟨(s3.drop m:Txt).toArray⟩,.bool true])∧Below w.heap.size w w':=by
 have hsl:s1.length≤1000000000:=by rw[←hs1];simp;omega
 have hc1:=Lib.hid (fun W=>qX l.tail (by simp;omega) W);have hc2:=Lib.hid (fun W=>nQ (l.take (1+k)) (by simp;omega) W);have hc3:=Lib.hid (fun W=>qY s1 hsl W);rw[hK]at hc1;rw[hnm]at hc2;obtain⟨k2,h21,h22,h23,h24⟩:=qP hsk;rw[h21]at hc3;have h23:=h23 h22;have ht2:t2.length≤1000000000:=by rw[←h24];simp;omega
 have hc4:=Lib.hid (fun W=>xH t2 ht2 W);obtain⟨k3,h31⟩:∃k3,t2.findIdx (fun c=>!cO c)=k3:=⟨_,rfl⟩
 rw[h31]at hc4;have h3le:k3≤t2.length:=by rw[←h31];exact List.findIdx_le_length
 have h32:t2.drop k3=s3:=by rw[←h31,hs3];exact tK
 have h3l:=congrArg List.length h32;simp only[List.length_drop]at h3l;have hc5:=Lib.hid (fun W=>KN s3 (by omega) W);rw[show s3.findIdx (fun c=>cO c||c==62)=m from hm]at hc5;have hml:m≤s3.length:=by rw[←hm];unfold Ad;exact List.findIdx_le_length
 have hdec:=Lib.hid (fun W hS=>tL (s3.take m) (by simp;omega) W hS);have hs31:s3.take 1=[q]:=by rw[hs3];rfl
 have hs30:0<s3.length:=by rw[hs3];simp
 have hbe:(s3==[])=false:=by rw[hs3];rfl
 generalize iK (s3.take m)=dv at *;have hb1:¬q=34:=hq1;have hb2:(q==39)=false:=by simpa using hq2
 clear hsk h21 tK h31 hs3 hm hq1 hq2;clear hK hnm;go_enter Tryz.func230,Tryz.ntmps230
 go_wp2_with(first
  |(go_at_call 156;first
   |((with_reducible refine(hc1.out _).mono ?_);rintro e w1 ⟨rfl,rfl⟩)
   |((with_reducible refine(hc3.out _).mono ?_);rintro e w1 ⟨rfl,rfl⟩)
   |((with_reducible refine(hc4.out _).mono ?_);rintro e w1 ⟨rfl,rfl⟩)
   |((with_reducible refine(hc5.out _).mono ?_);rintro e w1 ⟨rfl,rfl⟩))
  |(go_at_call 187;((with_reducible refine(hc2.out _).mono ?_);rintro e w1 ⟨rfl,hb⟩;have hB1:=bC ((Below.refl w.heap.size w).alloc (Nat.le_refl _) _) (by simp) hb;have r0:=(hb.block w.heap.size (by simp)).trans (bM _ _ _);obtain⟨q1,q2,q3,q4⟩:=nu r0;have hz1:=hb.size;simp at hz1;have hS1:=hS.below hB1;have hne1:w1.heap.size≠w.heap.size:=(by omega);have hne2:w.heap.size≠w1.heap.size:=(by omega);clear hb))
  |(go_at_call 155;((with_reducible refine(hdec.out _ (hS1.alloc _)).mono ?_);rintro e w3 ⟨rfl,hb3⟩;have hB3:=bC (hB1.alloc (by omega) _) (by simp;omega) hb3;obtain⟨p1,p2,p3,p4⟩:=gN ((hb3.block w.heap.size (by simp;omega)).trans ((heap_alloc_old w1 _ (by omega)).trans r0));obtain⟨p5,p6,p7,p8⟩:=gN ((hb3.block w1.heap.size (by simp)).trans (bM _ _ _));clear hb3)))
 go_region
 all_goals(go_wp2_with fail)
 all_goals
  refine bodyPost_ret (v:=.tuple #[.agg #[.string ⟨nm.toArray⟩,.string ⟨(dv:Txt).toArray⟩],.string ⟨(s3.drop m:Txt).toArray⟩,.bool true]) (by simp[results,Tryz.results230,go_sem,p1,p2,hne1,hne2]) rfl ⟨rfl,(aH (aH (aH hB3 (by omega) _) (Nat.le_refl _) _) (Nat.le_refl _) _).drew⟩
theorem Gr(l nm s1 t2 s3 t3:Txt)(q:UInt8)(m k:Nat)(hl:l.length≤1000000000)(hk:1+k≤l.length)(hK:l.tail.findIdx (fun c=>bS c||c==61)=k)(hnm:iJ (l.take (1+k))=nm)(hs1:l.drop (1+k)=s1)(hsk:lu s1=61::t2)(hs3:s3=q::t3)(tK:lu t2=q::t3)(hq1:q≠34)(hq2:q≠39)(hm:Ad s3=m)(hlt:¬m<s3.length)(w:World)(hS:Std w):
 Calls Tryz.prog 230 #[.string ⟨l.toArray⟩] w fun e w'=>e=.returned (.tuple #[.agg #[.string ⟨nm.toArray⟩,.string ⟨(iK (s3.take m):Txt).toArray⟩],.string ⟨(s3.drop m:Txt).toArray⟩,.bool false])∧Below w.heap.size w w':=by
 have hsl:s1.length≤1000000000:=by rw[←hs1];simp;omega
 have hc1:=Lib.hid (fun W=>qX l.tail (by simp;omega) W);have hc2:=Lib.hid (fun W=>nQ (l.take (1+k)) (by simp;omega) W);have hc3:=Lib.hid (fun W=>qY s1 hsl W);rw[hK]at hc1;rw[hnm]at hc2;obtain⟨k2,h21,h22,h23,h24⟩:=qP hsk;rw[h21]at hc3;have h23:=h23 h22;have ht2:t2.length≤1000000000:=by rw[←h24];simp;omega
 have hc4:=Lib.hid (fun W=>xH t2 ht2 W);obtain⟨k3,h31⟩:∃k3,t2.findIdx (fun c=>!cO c)=k3:=⟨_,rfl⟩
 rw[h31]at hc4;have h3le:k3≤t2.length:=by rw[←h31];exact List.findIdx_le_length
 have h32:t2.drop k3=s3:=by rw[←h31,hs3];exact tK
 have h3l:=congrArg List.length h32;simp only[List.length_drop]at h3l;have hc5:=Lib.hid (fun W=>KN s3 (by omega) W);rw[show s3.findIdx (fun c=>cO c||c==62)=m from hm]at hc5;have hml:m≤s3.length:=by rw[←hm];unfold Ad;exact List.findIdx_le_length
 have hdec:=Lib.hid (fun W hS=>tL (s3.take m) (by simp;omega) W hS);have hs31:s3.take 1=[q]:=by rw[hs3];rfl
 have hs30:0<s3.length:=by rw[hs3];simp
 have hbe:(s3==[])=false:=by rw[hs3];rfl
 generalize iK (s3.take m)=dv at *;have hb1:¬q=34:=hq1;have hb2:(q==39)=false:=by simpa using hq2
 clear hsk h21 tK h31 hs3 hm hq1 hq2;clear hK hnm;go_enter Tryz.func230,Tryz.ntmps230
 go_wp2_with(first
  |(go_at_call 156;first
   |((with_reducible refine(hc1.out _).mono ?_);rintro e w1 ⟨rfl,rfl⟩)
   |((with_reducible refine(hc3.out _).mono ?_);rintro e w1 ⟨rfl,rfl⟩)
   |((with_reducible refine(hc4.out _).mono ?_);rintro e w1 ⟨rfl,rfl⟩)
   |((with_reducible refine(hc5.out _).mono ?_);rintro e w1 ⟨rfl,rfl⟩))
  |(go_at_call 187;((with_reducible refine(hc2.out _).mono ?_);rintro e w1 ⟨rfl,hb⟩;have hB1:=bC ((Below.refl w.heap.size w).alloc (Nat.le_refl _) _) (by simp) hb;have r0:=(hb.block w.heap.size (by simp)).trans (bM _ _ _);obtain⟨q1,q2,q3,q4⟩:=nu r0;have hz1:=hb.size;simp at hz1;have hS1:=hS.below hB1;have hne1:w1.heap.size≠w.heap.size:=(by omega);have hne2:w.heap.size≠w1.heap.size:=(by omega);clear hb))
  |(go_at_call 155;((with_reducible refine(hdec.out _ (hS1.alloc _)).mono ?_);rintro e w3 ⟨rfl,hb3⟩;have hB3:=bC (hB1.alloc (by omega) _) (by simp;omega) hb3;obtain⟨p1,p2,p3,p4⟩:=gN ((hb3.block w.heap.size (by simp;omega)).trans ((heap_alloc_old w1 _ (by omega)).trans r0));obtain⟨p5,p6,p7,p8⟩:=gN ((hb3.block w1.heap.size (by simp)).trans (bM _ _ _));clear hb3)))
 go_region
 all_goals(go_wp2_with fail)
 all_goals
  refine bodyPost_ret (v:=.tuple #[.agg #[.string ⟨nm.toArray⟩,.string ⟨(dv:Txt).toArray⟩],.string ⟨(s3.drop m:Txt).toArray⟩,.bool false]) (by simp[results,Tryz.results230,go_sem,p1,p2,hne1,hne2]) rfl ⟨rfl,(aH (aH (aH hB3 (by omega) _) (Nat.le_refl _) _) (Nat.le_refl _) _).drew⟩
theorem CX(l:Txt)(h0:0<l.length)(hl:l.length≤1000000000)(w:World)(hS:Std w):
 Calls Tryz.prog 230 #[.string ⟨l.toArray⟩] w fun e w'=>e=.returned (.tuple #[.agg #[.string ⟨(kV l).1.1.toArray⟩,.string ⟨(kV l).1.2.toArray⟩],.string ⟨(kV l).2.1.toArray⟩,.bool (kV l).2.2])∧Below w.heap.size w w':=by
 obtain⟨k,hK,hk,hkl⟩:=attrK_le h0;unfold kV;rw[hK];generalize hnm:iJ (l.take (1+k))=nm;generalize hs1:l.drop (1+k)=s1;unfold qZ;cases hsk:lu s1 with
 |nil=>exact KJ l nm s1 k hl hkl hk hnm hs1 hsk w hS
 |cons c t2=>
  simp only
  by_cases hc:c=61
  ·subst hc
   rw[if_pos rfl];unfold zB;cases tK:lu t2 with
   |nil=>exact KM l nm s1 t2 k hl hkl hk hnm hs1 hsk tK w hS
   |cons q t3=>
    simp only
    by_cases hq:q=34∨q=39
    ·rw[if_pos hq]
     rcases hq with rfl|rfl
     ·exact Gn l nm s1 t2 t3 k hl hkl hk hnm hs1 hsk tK w hS
     ·exact Gp l nm s1 t2 t3 k hl hkl hk hnm hs1 hsk tK w hS
    ·rw[if_neg hq]
     simp only[not_or]at hq
     by_cases hm:Ad (q::t3)<(q::t3).length
     ·simp only[hm,decide_true]
      exact Gq l nm s1 t2 (q::t3) t3 q _ k hl hkl hk hnm hs1 hsk rfl tK hq.1 hq.2 rfl hm w hS
     ·simp only[hm,decide_false]
      exact Gr l nm s1 t2 (q::t3) t3 q _ k hl hkl hk hnm hs1 hsk rfl tK hq.1 hq.2 rfl hm w hS
  ·rw[if_neg hc]
   exact KL l nm s1 t2 c k hl hkl hk hnm hs1 hsk hc w hS
end Go.Proofs.YtkcmghlhpbepcaaGreatDoor
