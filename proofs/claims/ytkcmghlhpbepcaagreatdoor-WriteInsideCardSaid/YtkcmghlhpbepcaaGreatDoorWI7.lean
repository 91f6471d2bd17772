/- Lemmas and walks, part 7. -/
import Derived.Test.YtkcmghlhpbepcaaGreatDoorWI6
import Derived.RangeFuncNested
import Derived.RangeFuncBound
import Derived.Shelf.RegionOpen
import Derived.OwnWalkIn
import Derived.LoopNIn
import Derived.LoopIn
set_option linter.unusedVariables false
set_option linter.unusedSimpArgs false
set_option maxHeartbeats 8000000
set_option maxRecDepth 100000
namespace Go.Proofs.YtkcmghlhpbepcaaGreatDoor
open Go.RowKit Go.Proofs
@[go_sem] theorem tail_go (c : UInt8) (t : Txt) : (⟨(c :: t).toArray⟩ : Bt).extract 1 (t.length + 1) = ⟨t.toArray⟩ := yO
theorem iB{w:World}{b:Nat}{x y:Value}{t:TypeId}(h:w.heap[b]?=some (.cells #[x,y] t (0,0))):w.cell? ⟨b,0,none⟩=some x∧w.cell? ⟨b,1,none⟩=some y∧w.frozen? ⟨b,0,none⟩=false∧w.frozen? ⟨b,1,none⟩=false:=by
 refine⟨?_,?_,?_,?_⟩
 ·rw[Lib.cell_of_heap h];rfl
 ·rw[Lib.cell_of_heap h];rfl
 ·exact frozen_of_row w b 0 _ _ h
 ·exact frozen_of_row w b 1 _ _ h
theorem oh{w:World}{b:Nat}{x y:Value}{t:TypeId}(h:w.heap[b]?=some (.cells #[x,y] t (0,0))):(∀o,(w.alloc o).cell? ⟨b,0,none⟩=some x)∧(∀o,(w.alloc o).cell? ⟨b,1,none⟩=some y)∧(∀o,(w.alloc o).frozen? ⟨b,0,none⟩=false)∧(∀o,(w.alloc o).frozen? ⟨b,1,none⟩=false):=by
 have hlt:b<w.heap.size:=(Array.getElem?_eq_some_iff.1 h).1;have h':∀o,(w.alloc o).heap[b]?=some (.cells #[x,y] t (0,0)):=fun o=>(heap_alloc_old w _ hlt).trans h
 exact⟨fun o=>(iB (h' o)).1,fun o=>(iB (h' o)).2.1,fun o=>(iB (h' o)).2.2.1,fun o=>(iB (h' o)).2.2.2⟩
theorem attrK_le{l:Txt}(h:0<l.length):∃k,qB l=1+k∧l.tail.findIdx (fun c=>bY c||c==61)=k∧1+k≤l.length:=by
 refine⟨_,rfl,rfl,?_⟩;have:=List.findIdx_le_length (p:=fun c=>bY c||c==61) (xs:=l.tail);rw[List.length_tail]at this;omega
theorem sH{s t:Txt}{c:UInt8}(h:mg s=c::t):∃k,s.findIdx (fun c=>!dz c)=k∧k<s.length∧(∀h:k<s.length,s[k]=c)∧s.drop (k+1)=t:=by
 unfold mg at h;refine⟨_,rfl,?_⟩;generalize s.findIdx (fun c=>!dz c)=k at *
 have hlt:k<s.length:=by
  have:=congrArg List.length h;simp at this;omega
 rw[List.drop_eq_getElem_cons hlt]at h;injection h with h1 h2
 exact⟨hlt,fun _=>h1,h2⟩
theorem Js{s:Txt}(h:mg s=[]):s.findIdx (fun c=>!dz c)=s.length:=by
 have h1:=List.findIdx_le_length (p:=fun c=>!dz c) (xs:=s);have h2:=List.drop_eq_nil_iff.1 h;omega
theorem MH(l nm s1:Txt)(k:Nat)(hl:l.length≤1000000000)(hk:1+k≤l.length)(hK:l.tail.findIdx (fun c=>bY c||c==61)=k)(hnm:iZ (l.take (1+k))=nm)(hs1:l.drop (1+k)=s1)(hsk:mg s1=[])(w:World)(hS:Std w):
 Calls Tryz.prog 230 #[.string ⟨l.toArray⟩] w fun e w'=>e=.returned (.tuple #[.agg #[.string ⟨nm.toArray⟩,.string ⟨([] :Txt).toArray⟩],.string ⟨([] :Txt).toArray⟩,.bool false])∧Below w.heap.size w w':=by
 have hsl:s1.length≤1000000000:=by rw[←hs1];simp;omega
 have hc1:=Lib.hid (fun W=>sP l.tail (by simp;omega) W);have hc2:=Lib.hid (fun W=>oH (l.take (1+k)) (by simp;omega) W);have hc3:=Lib.hid (fun W=>sQ s1 hsl W);rw[hK]at hc1;rw[hnm]at hc2;rw[Js hsk]at hc3;clear hsk;clear hK hnm;go_enter Tryz.func230,Tryz.ntmps230
 go_wp2_with(first
  |(go_at_call 156;first
   |((with_reducible refine(hc1.out _).mono ?_);rintro e w1 ⟨rfl,rfl⟩)
   |((with_reducible refine(hc3.out _).mono ?_);rintro e w1 ⟨rfl,rfl⟩))
  |(go_at_call 187;((with_reducible refine(hc2.out _).mono ?_);rintro e w1 ⟨rfl,hb⟩;have hB1:=bB ((Below.refl w.heap.size w).alloc (Nat.le_refl _) _) (by simp) hb;have r0:=(hb.block w.heap.size (by simp)).trans (bP _ _ _);obtain⟨q1,q2,q3,q4⟩:=oh r0;have hz1:=hb.size;simp at hz1;have hS1:=hS.below hB1;have hne1:w1.heap.size≠w.heap.size:=(by omega);have hne2:w.heap.size≠w1.heap.size:=(by omega);clear hb)))
 refine bodyPost_ret (v:=.tuple #[.agg #[.string ⟨nm.toArray⟩,.string ⟨([] :Txt).toArray⟩],.string ⟨([] :Txt).toArray⟩,.bool false]) (by simp[results,Tryz.results230,go_sem,q1,q2]) rfl ⟨rfl,aH (aH (hB1.alloc (by omega) _) (Nat.le_refl _) _) (Nat.le_refl _) _⟩
theorem MI(l nm s1 t2:Txt)(c:UInt8)(k:Nat)(hl:l.length≤1000000000)(hk:1+k≤l.length)(hK:l.tail.findIdx (fun c=>bY c||c==61)=k)(hnm:iZ (l.take (1+k))=nm)(hs1:l.drop (1+k)=s1)(hsk:mg s1=c::t2)(hc61:c≠61)(w:World)(hS:Std w):
 Calls Tryz.prog 230 #[.string ⟨l.toArray⟩] w fun e w'=>e=.returned (.tuple #[.agg #[.string ⟨nm.toArray⟩,.string ⟨([] :Txt).toArray⟩],.string ⟨(s1:Txt).toArray⟩,.bool true])∧Below w.heap.size w w':=by
 have hsl:s1.length≤1000000000:=by rw[←hs1];simp;omega
 have hc1:=Lib.hid (fun W=>sP l.tail (by simp;omega) W);have hc2:=Lib.hid (fun W=>oH (l.take (1+k)) (by simp;omega) W);have hc3:=Lib.hid (fun W=>sQ s1 hsl W);rw[hK]at hc1;rw[hnm]at hc2;obtain⟨k2,h21,h22,h23,h24⟩:=sH hsk;rw[h21]at hc3;have h23:=h23 h22;obtain⟨n,hn⟩:∃n,(c.toNat:Int)=n:=⟨_,rfl⟩
 have hn61:n≠61:=by
  intro e;exact hc61 (Bz (n:=61) (by omega) (by omega))
 clear hsk h21 h24 hc61;clear hK hnm;go_enter Tryz.func230,Tryz.ntmps230
 go_wp2_with(first
  |(go_at_call 156;first
   |((with_reducible refine(hc1.out _).mono ?_);rintro e w1 ⟨rfl,rfl⟩)
   |((with_reducible refine(hc3.out _).mono ?_);rintro e w1 ⟨rfl,rfl⟩))
  |(go_at_call 187;((with_reducible refine(hc2.out _).mono ?_);rintro e w1 ⟨rfl,hb⟩;have hB1:=bB ((Below.refl w.heap.size w).alloc (Nat.le_refl _) _) (by simp) hb;have r0:=(hb.block w.heap.size (by simp)).trans (bP _ _ _);obtain⟨q1,q2,q3,q4⟩:=oh r0;have hz1:=hb.size;simp at hz1;have hS1:=hS.below hB1;have hne1:w1.heap.size≠w.heap.size:=(by omega);have hne2:w.heap.size≠w1.heap.size:=(by omega);clear hb)))
 refine bodyPost_ret (v:=.tuple #[.agg #[.string ⟨nm.toArray⟩,.string ⟨([] :Txt).toArray⟩],.string ⟨(s1:Txt).toArray⟩,.bool true]) (by simp[results,Tryz.results230,go_sem,q1,q2]) rfl ⟨rfl,aH (aH (hB1.alloc (by omega) _) (Nat.le_refl _) _) (Nat.le_refl _) _⟩
theorem MJ(l nm s1 t2:Txt)(k:Nat)(hl:l.length≤1000000000)(hk:1+k≤l.length)(hK:l.tail.findIdx (fun c=>bY c||c==61)=k)(hnm:iZ (l.take (1+k))=nm)(hs1:l.drop (1+k)=s1)(hsk:mg s1=61::t2)(vL:mg t2=[])(w:World)(hS:Std w):
 Calls Tryz.prog 230 #[.string ⟨l.toArray⟩] w fun e w'=>e=.returned (.tuple #[.agg #[.string ⟨nm.toArray⟩,.string ⟨([] :Txt).toArray⟩],.string ⟨([] :Txt).toArray⟩,.bool false])∧Below w.heap.size w w':=by
 have hsl:s1.length≤1000000000:=by rw[←hs1];simp;omega
 have hc1:=Lib.hid (fun W=>sP l.tail (by simp;omega) W);have hc2:=Lib.hid (fun W=>oH (l.take (1+k)) (by simp;omega) W);have hc3:=Lib.hid (fun W=>sQ s1 hsl W);rw[hK]at hc1;rw[hnm]at hc2;obtain⟨k2,h21,h22,h23,h24⟩:=sH hsk;rw[h21]at hc3;have h23:=h23 h22;have ht2:t2.length≤1000000000:=by rw[←h24];simp;omega
 have hc4:=Lib.hid (fun W=>yP t2 ht2 W);rw[Js vL]at hc4;clear hsk h21 vL;clear hK hnm;go_enter Tryz.func230,Tryz.ntmps230
 go_wp2_with(first
  |(go_at_call 156;first
   |((with_reducible refine(hc1.out _).mono ?_);rintro e w1 ⟨rfl,rfl⟩)
   |((with_reducible refine(hc3.out _).mono ?_);rintro e w1 ⟨rfl,rfl⟩)
   |((with_reducible refine(hc4.out _).mono ?_);rintro e w1 ⟨rfl,rfl⟩))
  |(go_at_call 187;((with_reducible refine(hc2.out _).mono ?_);rintro e w1 ⟨rfl,hb⟩;have hB1:=bB ((Below.refl w.heap.size w).alloc (Nat.le_refl _) _) (by simp) hb;have r0:=(hb.block w.heap.size (by simp)).trans (bP _ _ _);obtain⟨q1,q2,q3,q4⟩:=oh r0;have hz1:=hb.size;simp at hz1;have hS1:=hS.below hB1;have hne1:w1.heap.size≠w.heap.size:=(by omega);have hne2:w.heap.size≠w1.heap.size:=(by omega);clear hb)))
 refine bodyPost_ret (v:=.tuple #[.agg #[.string ⟨nm.toArray⟩,.string ⟨([] :Txt).toArray⟩],.string ⟨([] :Txt).toArray⟩,.bool false]) (by simp[results,Tryz.results230,go_sem,q1,q2]) rfl ⟨rfl,aH (aH (hB1.alloc (by omega) _) (Nat.le_refl _) _) (Nat.le_refl _) _⟩
theorem Je(l nm s1 t2 t3:Txt)(k:Nat)(hl:l.length≤1000000000)(hk:1+k≤l.length)(hK:l.tail.findIdx (fun c=>bY c||c==61)=k)(hnm:iZ (l.take (1+k))=nm)(hs1:l.drop (1+k)=s1)(hsk:mg s1=61::t2)(vL:mg t2=34::t3)(w:World)(hS:Std w):
 Calls Tryz.prog 230 #[.string ⟨l.toArray⟩] w fun e w'=>e=.returned (.tuple #[.agg #[.string ⟨nm.toArray⟩,.string ⟨(jc (gW 34 t3).1:Txt).toArray⟩],.string ⟨((gW 34 t3).2.1:Txt).toArray⟩,.bool (gW 34 t3).2.2])∧Below w.heap.size w w':=by
 have hsl:s1.length≤1000000000:=by rw[←hs1];simp;omega
 have hc1:=Lib.hid (fun W=>sP l.tail (by simp;omega) W);have hc2:=Lib.hid (fun W=>oH (l.take (1+k)) (by simp;omega) W);have hc3:=Lib.hid (fun W=>sQ s1 hsl W);rw[hK]at hc1;rw[hnm]at hc2;obtain⟨k2,h21,h22,h23,h24⟩:=sH hsk;rw[h21]at hc3;have h23:=h23 h22;have ht2:t2.length≤1000000000:=by rw[←h24];simp;omega
 have hc4:=Lib.hid (fun W=>yP t2 ht2 W);obtain⟨k3,h31⟩:∃k3,t2.findIdx (fun c=>!dz c)=k3:=⟨_,rfl⟩
 rw[h31]at hc4;have h3le:k3≤t2.length:=by rw[←h31];exact List.findIdx_le_length
 have h32:t2.drop k3=34::t3:=by rw[←h31];exact vL
 have h3l:=congrArg List.length h32;simp only[List.length_drop,List.length_cons]at h3l;have hcut:=Lib.hid (fun W hS=>cut_c t3 34 (by omega) W hS);have hcl:=nO 34 t3;generalize gW 34 t3=cc at *;obtain⟨v1,v2,fd⟩:=cc;have hdec:=Lib.hid (fun W hS=>vM v1 (by simp only at hcl;omega) W hS);simp only at hcut;clear hsk h21 vL h31 hcl;clear hK hnm;go_enter Tryz.func230,Tryz.ntmps230
 go_wp2_with(first
  |(go_at_call 156;first
   |((with_reducible refine(hc1.out _).mono ?_);rintro e w1 ⟨rfl,rfl⟩)
   |((with_reducible refine(hc3.out _).mono ?_);rintro e w1 ⟨rfl,rfl⟩)
   |((with_reducible refine(hc4.out _).mono ?_);rintro e w1 ⟨rfl,rfl⟩))
  |(go_at_call 187;((with_reducible refine(hc2.out _).mono ?_);rintro e w1 ⟨rfl,hb⟩;have hB1:=bB ((Below.refl w.heap.size w).alloc (Nat.le_refl _) _) (by simp) hb;have r0:=(hb.block w.heap.size (by simp)).trans (bP _ _ _);obtain⟨q1,q2,q3,q4⟩:=oh r0;have hz1:=hb.size;simp at hz1;have hS1:=hS.below hB1;have hne1:w1.heap.size≠w.heap.size:=(by omega);have hne2:w.heap.size≠w1.heap.size:=(by omega);clear hb))
  |(go_at_call 188;((with_reducible refine(hcut.out _ (hS1.alloc _)).mono ?_);rintro e w2 ⟨rfl,hb2⟩;have hB2:=bB (hB1.alloc (by omega) _) (by simp;omega) hb2;have r02:=(hb2.block w.heap.size (by simp;omega)).trans ((heap_alloc_old w1 _ (by omega)).trans r0);have r12:=(hb2.block w1.heap.size (by simp)).trans (bP _ _ _);have hz2:=hb2.size;simp at hz2;have hS2:=hS.below hB2;clear hb2))
  |(go_at_call 155;((with_reducible refine(hdec.out _ hS2).mono ?_);rintro e w3 ⟨rfl,hb3⟩;have hB3:=bB hB2 (by omega) hb3;obtain⟨p1,p2,p3,p4⟩:=iB ((hb3.block w.heap.size (by omega)).trans r02);obtain⟨p5,p6,p7,p8⟩:=iB ((hb3.block w1.heap.size (by omega)).trans r12);clear hb3)))
 refine bodyPost_ret (v:=.tuple #[.agg #[.string ⟨nm.toArray⟩,.string ⟨(jc v1:Txt).toArray⟩],.string ⟨(v2:Txt).toArray⟩,.bool fd]) (by simp[results,Tryz.results230,go_sem,p1,p2,hne1,hne2]) rfl ⟨rfl,aH (aH (aH hB3 (by omega) _) (Nat.le_refl _) _) (Nat.le_refl _) _⟩
theorem Jf(l nm s1 t2 t3:Txt)(k:Nat)(hl:l.length≤1000000000)(hk:1+k≤l.length)(hK:l.tail.findIdx (fun c=>bY c||c==61)=k)(hnm:iZ (l.take (1+k))=nm)(hs1:l.drop (1+k)=s1)(hsk:mg s1=61::t2)(vL:mg t2=39::t3)(w:World)(hS:Std w):
 Calls Tryz.prog 230 #[.string ⟨l.toArray⟩] w fun e w'=>e=.returned (.tuple #[.agg #[.string ⟨nm.toArray⟩,.string ⟨(jc (gW 39 t3).1:Txt).toArray⟩],.string ⟨((gW 39 t3).2.1:Txt).toArray⟩,.bool (gW 39 t3).2.2])∧Below w.heap.size w w':=by
 have hsl:s1.length≤1000000000:=by rw[←hs1];simp;omega
 have hc1:=Lib.hid (fun W=>sP l.tail (by simp;omega) W);have hc2:=Lib.hid (fun W=>oH (l.take (1+k)) (by simp;omega) W);have hc3:=Lib.hid (fun W=>sQ s1 hsl W);rw[hK]at hc1;rw[hnm]at hc2;obtain⟨k2,h21,h22,h23,h24⟩:=sH hsk;rw[h21]at hc3;have h23:=h23 h22;have ht2:t2.length≤1000000000:=by rw[←h24];simp;omega
 have hc4:=Lib.hid (fun W=>yP t2 ht2 W);obtain⟨k3,h31⟩:∃k3,t2.findIdx (fun c=>!dz c)=k3:=⟨_,rfl⟩
 rw[h31]at hc4;have h3le:k3≤t2.length:=by rw[←h31];exact List.findIdx_le_length
 have h32:t2.drop k3=39::t3:=by rw[←h31];exact vL
 have h3l:=congrArg List.length h32;simp only[List.length_drop,List.length_cons]at h3l;have hcut:=Lib.hid (fun W hS=>cut_c t3 39 (by omega) W hS);have hcl:=nO 39 t3;generalize gW 39 t3=cc at *;obtain⟨v1,v2,fd⟩:=cc;have hdec:=Lib.hid (fun W hS=>vM v1 (by simp only at hcl;omega) W hS);simp only at hcut;clear hsk h21 vL h31 hcl;clear hK hnm;go_enter Tryz.func230,Tryz.ntmps230
 go_wp2_with(first
  |(go_at_call 156;first
   |((with_reducible refine(hc1.out _).mono ?_);rintro e w1 ⟨rfl,rfl⟩)
   |((with_reducible refine(hc3.out _).mono ?_);rintro e w1 ⟨rfl,rfl⟩)
   |((with_reducible refine(hc4.out _).mono ?_);rintro e w1 ⟨rfl,rfl⟩))
  |(go_at_call 187;((with_reducible refine(hc2.out _).mono ?_);rintro e w1 ⟨rfl,hb⟩;have hB1:=bB ((Below.refl w.heap.size w).alloc (Nat.le_refl _) _) (by simp) hb;have r0:=(hb.block w.heap.size (by simp)).trans (bP _ _ _);obtain⟨q1,q2,q3,q4⟩:=oh r0;have hz1:=hb.size;simp at hz1;have hS1:=hS.below hB1;have hne1:w1.heap.size≠w.heap.size:=(by omega);have hne2:w.heap.size≠w1.heap.size:=(by omega);clear hb))
  |(go_at_call 188;((with_reducible refine(hcut.out _ (hS1.alloc _)).mono ?_);rintro e w2 ⟨rfl,hb2⟩;have hB2:=bB (hB1.alloc (by omega) _) (by simp;omega) hb2;have r02:=(hb2.block w.heap.size (by simp;omega)).trans ((heap_alloc_old w1 _ (by omega)).trans r0);have r12:=(hb2.block w1.heap.size (by simp)).trans (bP _ _ _);have hz2:=hb2.size;simp at hz2;have hS2:=hS.below hB2;clear hb2))
  |(go_at_call 155;((with_reducible refine(hdec.out _ hS2).mono ?_);rintro e w3 ⟨rfl,hb3⟩;have hB3:=bB hB2 (by omega) hb3;obtain⟨p1,p2,p3,p4⟩:=iB ((hb3.block w.heap.size (by omega)).trans r02);obtain⟨p5,p6,p7,p8⟩:=iB ((hb3.block w1.heap.size (by omega)).trans r12);clear hb3)))
 refine bodyPost_ret (v:=.tuple #[.agg #[.string ⟨nm.toArray⟩,.string ⟨(jc v1:Txt).toArray⟩],.string ⟨(v2:Txt).toArray⟩,.bool fd]) (by simp[results,Tryz.results230,go_sem,p1,p2,hne1,hne2]) rfl ⟨rfl,aH (aH (aH hB3 (by omega) _) (Nat.le_refl _) _) (Nat.le_refl _) _⟩
theorem Jg(l nm s1 t2 s3 t3:Txt)(q:UInt8)(m k:Nat)(hl:l.length≤1000000000)(hk:1+k≤l.length)(hK:l.tail.findIdx (fun c=>bY c||c==61)=k)(hnm:iZ (l.take (1+k))=nm)(hs1:l.drop (1+k)=s1)(hsk:mg s1=61::t2)(hs3:s3=q::t3)(vL:mg t2=q::t3)(hq1:q≠34)(hq2:q≠39)(hm:BA s3=m)(hlt:m<s3.length)(w:World)(hS:Std w):
 Calls Tryz.prog 230 #[.string ⟨l.toArray⟩] w fun e w'=>e=.returned (.tuple #[.agg #[.string ⟨nm.toArray⟩,.string ⟨(jc (s3.take m):Txt).toArray⟩],.string ⟨(s3.drop m:Txt).toArray⟩,.bool true])∧Below w.heap.size w w':=by
 have hsl:s1.length≤1000000000:=by rw[←hs1];simp;omega
 have hc1:=Lib.hid (fun W=>sP l.tail (by simp;omega) W);have hc2:=Lib.hid (fun W=>oH (l.take (1+k)) (by simp;omega) W);have hc3:=Lib.hid (fun W=>sQ s1 hsl W);rw[hK]at hc1;rw[hnm]at hc2;obtain⟨k2,h21,h22,h23,h24⟩:=sH hsk;rw[h21]at hc3;have h23:=h23 h22;have ht2:t2.length≤1000000000:=by rw[←h24];simp;omega
 have hc4:=Lib.hid (fun W=>yP t2 ht2 W);obtain⟨k3,h31⟩:∃k3,t2.findIdx (fun c=>!dz c)=k3:=⟨_,rfl⟩
 rw[h31]at hc4;have h3le:k3≤t2.length:=by rw[←h31];exact List.findIdx_le_length
 have h32:t2.drop k3=s3:=by rw[←h31,hs3];exact vL
 have h3l:=congrArg List.length h32;simp only[List.length_drop]at h3l;have hc5:=Lib.hid (fun W=>MK s3 (by omega) W);rw[show s3.findIdx (fun c=>dz c||c==62)=m from hm]at hc5;have hml:m≤s3.length:=by rw[←hm];unfold BA;exact List.findIdx_le_length
 have hdec:=Lib.hid (fun W hS=>vM (s3.take m) (by simp;omega) W hS);have hs31:s3.take 1=[q]:=by rw[hs3];rfl
 have hs30:0<s3.length:=by rw[hs3];simp
 have hbe:(s3==[])=false:=by rw[hs3];rfl
 generalize jc (s3.take m)=dv at *;have hb1:¬q=34:=hq1;have hb2:(q==39)=false:=by simpa using hq2
 clear hsk h21 vL h31 hs3 hm hq1 hq2;clear hK hnm;go_enter Tryz.func230,Tryz.ntmps230
 go_wp2_with(first
  |(go_at_call 156;first
   |((with_reducible refine(hc1.out _).mono ?_);rintro e w1 ⟨rfl,rfl⟩)
   |((with_reducible refine(hc3.out _).mono ?_);rintro e w1 ⟨rfl,rfl⟩)
   |((with_reducible refine(hc4.out _).mono ?_);rintro e w1 ⟨rfl,rfl⟩)
   |((with_reducible refine(hc5.out _).mono ?_);rintro e w1 ⟨rfl,rfl⟩))
  |(go_at_call 187;((with_reducible refine(hc2.out _).mono ?_);rintro e w1 ⟨rfl,hb⟩;have hB1:=bB ((Below.refl w.heap.size w).alloc (Nat.le_refl _) _) (by simp) hb;have r0:=(hb.block w.heap.size (by simp)).trans (bP _ _ _);obtain⟨q1,q2,q3,q4⟩:=oh r0;have hz1:=hb.size;simp at hz1;have hS1:=hS.below hB1;have hne1:w1.heap.size≠w.heap.size:=(by omega);have hne2:w.heap.size≠w1.heap.size:=(by omega);clear hb))
  |(go_at_call 155;((with_reducible refine(hdec.out _ (hS1.alloc _)).mono ?_);rintro e w3 ⟨rfl,hb3⟩;have hB3:=bB (hB1.alloc (by omega) _) (by simp;omega) hb3;obtain⟨p1,p2,p3,p4⟩:=iB ((hb3.block w.heap.size (by simp;omega)).trans ((heap_alloc_old w1 _ (by omega)).trans r0));obtain⟨p5,p6,p7,p8⟩:=iB ((hb3.block w1.heap.size (by simp)).trans (bP _ _ _));clear hb3)))
 go_region
 all_goals(go_wp2_with fail)
 all_goals
  refine bodyPost_ret (v:=.tuple #[.agg #[.string ⟨nm.toArray⟩,.string ⟨(dv:Txt).toArray⟩],.string ⟨(s3.drop m:Txt).toArray⟩,.bool true]) (by simp[results,Tryz.results230,go_sem,p1,p2,hne1,hne2]) rfl ⟨rfl,(aH (aH (aH hB3 (by omega) _) (Nat.le_refl _) _) (Nat.le_refl _) _).drew⟩
theorem Jh(l nm s1 t2 s3 t3:Txt)(q:UInt8)(m k:Nat)(hl:l.length≤1000000000)(hk:1+k≤l.length)(hK:l.tail.findIdx (fun c=>bY c||c==61)=k)(hnm:iZ (l.take (1+k))=nm)(hs1:l.drop (1+k)=s1)(hsk:mg s1=61::t2)(hs3:s3=q::t3)(vL:mg t2=q::t3)(hq1:q≠34)(hq2:q≠39)(hm:BA s3=m)(hlt:¬m<s3.length)(w:World)(hS:Std w):
 Calls Tryz.prog 230 #[.string ⟨l.toArray⟩] w fun e w'=>e=.returned (.tuple #[.agg #[.string ⟨nm.toArray⟩,.string ⟨(jc (s3.take m):Txt).toArray⟩],.string ⟨(s3.drop m:Txt).toArray⟩,.bool false])∧Below w.heap.size w w':=by
 have hsl:s1.length≤1000000000:=by rw[←hs1];simp;omega
 have hc1:=Lib.hid (fun W=>sP l.tail (by simp;omega) W);have hc2:=Lib.hid (fun W=>oH (l.take (1+k)) (by simp;omega) W);have hc3:=Lib.hid (fun W=>sQ s1 hsl W);rw[hK]at hc1;rw[hnm]at hc2;obtain⟨k2,h21,h22,h23,h24⟩:=sH hsk;rw[h21]at hc3;have h23:=h23 h22;have ht2:t2.length≤1000000000:=by rw[←h24];simp;omega
 have hc4:=Lib.hid (fun W=>yP t2 ht2 W);obtain⟨k3,h31⟩:∃k3,t2.findIdx (fun c=>!dz c)=k3:=⟨_,rfl⟩
 rw[h31]at hc4;have h3le:k3≤t2.length:=by rw[←h31];exact List.findIdx_le_length
 have h32:t2.drop k3=s3:=by rw[←h31,hs3];exact vL
 have h3l:=congrArg List.length h32;simp only[List.length_drop]at h3l;have hc5:=Lib.hid (fun W=>MK s3 (by omega) W);rw[show s3.findIdx (fun c=>dz c||c==62)=m from hm]at hc5;have hml:m≤s3.length:=by rw[←hm];unfold BA;exact List.findIdx_le_length
 have hdec:=Lib.hid (fun W hS=>vM (s3.take m) (by simp;omega) W hS);have hs31:s3.take 1=[q]:=by rw[hs3];rfl
 have hs30:0<s3.length:=by rw[hs3];simp
 have hbe:(s3==[])=false:=by rw[hs3];rfl
 generalize jc (s3.take m)=dv at *;have hb1:¬q=34:=hq1;have hb2:(q==39)=false:=by simpa using hq2
 clear hsk h21 vL h31 hs3 hm hq1 hq2;clear hK hnm;go_enter Tryz.func230,Tryz.ntmps230
 go_wp2_with(first
  |(go_at_call 156;first
   |((with_reducible refine(hc1.out _).mono ?_);rintro e w1 ⟨rfl,rfl⟩)
   |((with_reducible refine(hc3.out _).mono ?_);rintro e w1 ⟨rfl,rfl⟩)
   |((with_reducible refine(hc4.out _).mono ?_);rintro e w1 ⟨rfl,rfl⟩)
   |((with_reducible refine(hc5.out _).mono ?_);rintro e w1 ⟨rfl,rfl⟩))
  |(go_at_call 187;((with_reducible refine(hc2.out _).mono ?_);rintro e w1 ⟨rfl,hb⟩;have hB1:=bB ((Below.refl w.heap.size w).alloc (Nat.le_refl _) _) (by simp) hb;have r0:=(hb.block w.heap.size (by simp)).trans (bP _ _ _);obtain⟨q1,q2,q3,q4⟩:=oh r0;have hz1:=hb.size;simp at hz1;have hS1:=hS.below hB1;have hne1:w1.heap.size≠w.heap.size:=(by omega);have hne2:w.heap.size≠w1.heap.size:=(by omega);clear hb))
  |(go_at_call 155;((with_reducible refine(hdec.out _ (hS1.alloc _)).mono ?_);rintro e w3 ⟨rfl,hb3⟩;have hB3:=bB (hB1.alloc (by omega) _) (by simp;omega) hb3;obtain⟨p1,p2,p3,p4⟩:=iB ((hb3.block w.heap.size (by simp;omega)).trans ((heap_alloc_old w1 _ (by omega)).trans r0));obtain⟨p5,p6,p7,p8⟩:=iB ((hb3.block w1.heap.size (by simp)).trans (bP _ _ _));clear hb3)))
 go_region
 all_goals(go_wp2_with fail)
 all_goals
  refine bodyPost_ret (v:=.tuple #[.agg #[.string ⟨nm.toArray⟩,.string ⟨(dv:Txt).toArray⟩],.string ⟨(s3.drop m:Txt).toArray⟩,.bool false]) (by simp[results,Tryz.results230,go_sem,p1,p2,hne1,hne2]) rfl ⟨rfl,(aH (aH (aH hB3 (by omega) _) (Nat.le_refl _) _) (Nat.le_refl _) _).drew⟩
theorem Ei(l:Txt)(h0:0<l.length)(hl:l.length≤1000000000)(w:World)(hS:Std w):
 Calls Tryz.prog 230 #[.string ⟨l.toArray⟩] w fun e w'=>e=.returned (.tuple #[.agg #[.string ⟨(lU l).1.1.toArray⟩,.string ⟨(lU l).1.2.toArray⟩],.string ⟨(lU l).2.1.toArray⟩,.bool (lU l).2.2])∧Below w.heap.size w w':=by
 obtain⟨k,hK,hk,hkl⟩:=attrK_le h0;unfold lU;rw[hK];generalize hnm:iZ (l.take (1+k))=nm;generalize hs1:l.drop (1+k)=s1;unfold sS;cases hsk:mg s1 with
 |nil=>exact MH l nm s1 k hl hkl hk hnm hs1 hsk w hS
 |cons c t2=>
  simp only
  by_cases hc:c=61
  ·subst hc
   rw[if_pos rfl];unfold Aw;cases vL:mg t2 with
   |nil=>exact MJ l nm s1 t2 k hl hkl hk hnm hs1 hsk vL w hS
   |cons q t3=>
    simp only
    by_cases hq:q=34∨q=39
    ·rw[if_pos hq]
     rcases hq with rfl|rfl
     ·exact Je l nm s1 t2 t3 k hl hkl hk hnm hs1 hsk vL w hS
     ·exact Jf l nm s1 t2 t3 k hl hkl hk hnm hs1 hsk vL w hS
    ·rw[if_neg hq]
     simp only[not_or]at hq
     by_cases hm:BA (q::t3)<(q::t3).length
     ·simp only[hm,decide_true]
      exact Jg l nm s1 t2 (q::t3) t3 q _ k hl hkl hk hnm hs1 hsk rfl vL hq.1 hq.2 rfl hm w hS
     ·simp only[hm,decide_false]
      exact Jh l nm s1 t2 (q::t3) t3 q _ k hl hkl hk hnm hs1 hsk rfl vL hq.1 hq.2 rfl hm w hS
  ·rw[if_neg hc]
   exact MI l nm s1 t2 c k hl hkl hk hnm hs1 hsk hc w hS
theorem aW{w:World}{b:Nat}{v0 v1 v2 v3 v4:Value}{t:TypeId}(h:w.heap[b]?=some (.cells #[v0,v1,v2,v3,v4] t (0,0))):
 (w.cell? ⟨b,0,none⟩=some v0∧w.cell? ⟨b,1,none⟩=some v1∧w.cell? ⟨b,2,none⟩=some v2∧w.cell? ⟨b,3,none⟩=some v3∧w.cell? ⟨b,4,none⟩=some v4)∧(∀j,w.frozen? ⟨b,j,none⟩=false):=by
 refine⟨⟨?_,?_,?_,?_,?_⟩,fun j=>frozen_of_row w b j _ _ h⟩<;>(rw[Lib.cell_of_heap h];rfl)
theorem dP{w:World}{b:Nat}{x:Obj}(h:w.heap[b]?=some x)(o:Obj):(w.alloc o).heap[b]?=some x:=(heap_alloc_old w o (Array.getElem?_eq_some_iff.1 h).1).trans h
theorem aT{w w1:World}{b:Nat}{x:Obj}(h:w.heap[b]?=some x)(hb:Below w.heap.size w w1):w1.heap[b]?=some x:=(hb.block b (Array.getElem?_eq_some_iff.1 h).1).trans h
theorem lu{w:World}{b:Nat}{x:Obj}(h:w.heap[b]?=some x):b<w.heap.size:=(Array.getElem?_eq_some_iff.1 h).1
theorem jy.len{w:World}{base:Nat}{va:Value}{acc:List (Txt×Txt)}(h:jy w base va acc):∃a c,va=.slice a acc.length c:=by
 rcases h.2 with⟨rfl,h0⟩|⟨g,cap,cur,rfl,_⟩
 ·exact⟨none,0,by rw[h0]⟩
 ·exact⟨_,_,rfl⟩
theorem jy.at{w:World}{base:Nat}{va:Value}{acc:List (Txt×Txt)}(h:jy w base va acc){i:Nat}(hi:i<acc.length):∃g cap,va=.slice (some ⟨g,0,none⟩) acc.length cap∧base≤g∧g<w.heap.size∧w.cell? ⟨g,i * 2,none⟩=some (.string ⟨acc[i].1.toArray⟩)∧w.cell? ⟨g,i * 2+1,none⟩=some (.string ⟨acc[i].2.toArray⟩):=by
 rcases h.2 with⟨rfl,h0⟩|⟨g,cap,cur,rfl,hg,hh,hn,hc,hs,ht⟩
 ·omega
 ·have key:∀j,j<2→w.cell? ⟨g,i * 2+j,none⟩=(rA acc)[i * 2+j]?:=by
   intro j hj;rw[Lib.cell_of_heap hh,←Array.getElem?_toList,←ht,List.getElem?_take,if_pos (by omega)]
  have hv:∀(l:List (Txt×Txt)) (i:Nat) (hi:i<l.length),(rA l)[i * 2]?=some (.string ⟨l[i].1.toArray⟩)∧(rA l)[i * 2+1]?=some (.string ⟨l[i].2.toArray⟩):=by
   intro l
   induction l with
   |nil=>intro i hi;simp at hi
   |cons a l ih=>
    intro i hi;cases i with
    |zero=>simp[rA]
    |succ i=>
     have:=ih i (by simpa using hi);rw[show(i+1) * 2=i * 2+2 from by omega];simpa [rA]using this
  exact⟨g,cap,rfl,hg,lu hh,by rw[←(hv acc i hi).1];exact key 0 (by omega),by rw[←(hv acc i hi).2];exact key 1 (by omega)⟩
def tok0(nm va sf:Value):Array Value:=#[.int .i64 0,nm,.string ⟨#[]⟩,va,sf]
def qc(r:Option (Tok×Txt))(va:Value):Value:=
 match r with
 |none=>.tuple #[.agg #[.int .i64 0,.string ⟨#[]⟩,.string ⟨#[]⟩,.slice none 0 0,.bool false],.string ⟨#[]⟩,.bool false]
 |some (t,r)=>.tuple #[.agg #[.int .i64 0,.string ⟨t.name.toArray⟩,.string ⟨#[]⟩,va,.bool t.self],.string ⟨r.toArray⟩,.bool true]
def GH(r:Option (Tok×Txt)):List (Txt×Txt):=match r with|none=>[] |some (t,_)=>t.attrs
def IsT(w:World)(b:Nat):Prop:=∃cur,w.heap[b]?=some (.cells cur 65 (0,0))
theorem iy{w:World}{b b' j:Nat}{v:Value}(h:IsT w b):IsT (w.setCell ⟨b',j,none⟩ v) b:=by
 obtain⟨cur,h⟩:=h
 by_cases e:b=b'
 ·subst e
  exact⟨_,heap_setCell_same w b j _ _ v h⟩
 ·exact⟨cur,(heap_setCell_other w ⟨b',j,none⟩ b v e).trans h⟩
theorem lC{w:World}{base b j:Nat}{v va:Value}{acc:List (Txt×Txt)}(h:jy w base va acc)(ht:IsT w b):jy (w.setCell ⟨b,j,none⟩ v) base va acc:=by
 obtain⟨cur,ht⟩:=ht;exact pF h (jr w ⟨b,j,none⟩ v) ht (by decide)
theorem slash_at{s:Txt}{k:Nat}(hk:rC s=k+1)(hlt:k<s.length):wU s=(s[k]==47):=by
 unfold wU;rw[hk];simp[hlt]
theorem slash_no{s:Txt}(hk:rC s=0):wU s=false:=by
 unfold wU;rw[hk];rfl
theorem zM{w w5:World}{base b:Nat}{cur:Array Value}{e':TypeId}{fz:Nat×Nat}{v:Value}{acc:List (Txt×Txt)}(hA:jy w base v acc)(hg:w.grownBy w5 v.ownBlock)(hb:w.heap[b]?=some (.cells cur e' fz))(hne:e'≠36):w5.heap[b]?=some (.cells cur e' fz):=
 (hg.block b (lu hb) (fun e0=>own_ne hA hb hne e0.symm)).trans hb
theorem Q5{acc:List (Txt×Txt)}{an av:Txt}(h:∀j (hj:j<acc.length),acc[j].1≠an):z8 acc (an,av)=acc++[(an,av)]:=by
 unfold z8;rw[if_neg];simp only[List.any_eq_true,not_exists,not_and];intro x hx;obtain⟨j,hj,rfl⟩:=List.getElem_of_mem hx;simpa using h j hj
theorem Q6{acc:List (Txt×Txt)}{an av:Txt}{i:Nat}(hi:i<acc.length)(h:acc[i].1=an):z8 acc (an,av)=acc:=by
 unfold z8;rw[if_pos];rw[List.any_eq_true];exact⟨acc[i],List.getElem_mem hi,by simpa using h⟩
theorem ne62{c:UInt8}(h:¬c=62):((c.toNat:Int)==62)=false:=by
 have:=jw (p:=fun c=>((c.toNat:Int)==62)==(c==62)) (by decide +kernel) c;simp only[beq_iff_eq]at this;rw[this];simpa using h
theorem eq47(c:UInt8):((c.toNat:Int)==47)=(c==47):=by
 have:=jw (p:=fun c=>((c.toNat:Int)==47)==(c==47)) (by decide +kernel) c;simpa using this
theorem vW(l:Txt)(hl:l.length≤1000000000)(w:World)(hS:Std w):
 Calls Tryz.prog 213 #[.string ⟨l.toArray⟩] w fun e w'=>∃va,e=.returned (qc (fC l) va)∧jy w' w.heap.size va (GH (fC l))∧Below w.heap.size w w':=by
 have hc1:=Lib.hid (fun W=>KA l hl W);have hnl:l.findIdx bY≤l.length:=List.findIdx_le_length;have hof:Hid (fC l=(kR [] (l.drop (l.findIdx bY))).map fun r=>(⟨0,iZ (l.take (l.findIdx bY)),r.1,[],r.2.1⟩,r.2.2)):=rfl;generalize l.findIdx bY=n at *;have hc2:=Lib.hid (fun W=>oH (l.take n) (by simp;omega) W);generalize hnm:iZ (l.take n)=nm at *;clear hnm;go_enter Tryz.func213,Tryz.ntmps213;go_wp2;go_step3
 go_wp2_with(first
  |(go_at_call 156;((with_reducible refine(hc1.out _).mono ?_);rintro e w1 ⟨rfl,rfl⟩))
  |(go_at_call 187;((with_reducible refine(hc2.out _).mono ?_);rintro e w1 ⟨rfl,hb⟩;have hB1:=bB ((Below.refl w.heap.size w).alloc (Nat.le_refl _) _) (by simp) hb;have r0:=(hb.block w.heap.size (by simp)).trans (bP _ _ _);have hz1:=hb.size;simp at hz1;have hS1:=hS.below hB1;clear hb)))
 go_step3;go_wp2
 go_loopg [0] (l.drop n).length (fun g vs wr=>∃(s:Txt) (acc:List (Txt×Txt)) (va:Value),s.length=g∧vs=.string ⟨s.toArray⟩∧acc.length+s.length≤l.length∧
  wr.heap[w.heap.size]?=some (.cells (tok0 (.string ⟨#[]⟩) (.slice none 0 0) (.bool false)) 65 (0,0))∧wr.heap[w1.heap.size]?=some (.cells (tok0 (.string ⟨nm.toArray⟩) va (.bool false)) 65 (0,0))∧
  jy wr w.heap.size va acc∧Below w.heap.size w wr∧Hid (fC l=(kR acc s).map fun r=>(⟨0,nm,r.1,[],r.2.1⟩,r.2.2)))
 case atStart=>exact⟨l.drop n,[],.slice none 0 0,rfl,rfl,by simp,dP r0 _,bP _ _ _,jy.nil _ _,hB1.alloc (by omega) _,hof⟩
 case round=>
  obtain⟨s,acc,va,hsg,rfl,hlen,r1,r2,hA,hB,hinv⟩:=hrel;subst hsg;obtain⟨ad,cp,rfl⟩:=hA.len;have hS2:=hS.below hB;have hlt1:=lu r1;have hlt2:=lu r2;have hne1:w1.heap.size≠w.heap.size:=by omega
  have hne2:w.heap.size≠w1.heap.size:=by omega
  have hI1:IsT wr w.heap.size:=⟨_,r1⟩;have hI2:IsT wr w1.heap.size:=⟨_,r2⟩;obtain⟨⟨q0,q1,q2,q3,q4⟩,q5⟩:=aW r1;obtain⟨⟨p0,p1,p2,p3,p4⟩,p5⟩:=aW r2;have hcs:=Lib.hid (fun W=>span_op1 s (by omega) W);have hgl:rC s≤s.length:=List.findIdx_le_length;have heq:=zN acc s;rw[show s.findIdx (fun c=>!dz c&&c !=47)=rC s from rfl]at hcs;obtain⟨sb,hsb⟩:∃sb,wU s=sb:=⟨_,rfl⟩
  rw[hsb]at heq
  rcases Nat.eq_zero_or_pos (rC s)with hg0|hg0
  ·rw[hg0]at hcs heq
   rw[slash_no hg0]at hsb;subst hsb;clear hg0 hgl;obtain⟨d,hd⟩:∃d,s.drop 0=d:=⟨_,rfl⟩
   rw[hd]at heq;simp only[List.drop_zero]at hd;subst hd;cases s with
   |nil=>
    have hopen:=Lib.hid (show fC l=none by rw[hinv.out,heq];rfl);clear heq hinv
    go_wp2_with(go_at_call 156;((with_reducible refine(hcs.out _).mono ?_);rintro e w4 ⟨rfl,rfl⟩))
    try rw[Exit.noGoto_ret]
    refine bodyPost_ret (v:=qc none (.slice none 0 0)) (by simp[results,Tryz.results213,go_sem,qc,q0,q1,q2,q3,q4,p0,p1,p2,p3,p4,hne1,hne2]) rfl ⟨.slice none 0 0,by rw[hopen.out],by rw[hopen.out];exact jy.nil _ _,aH (aH (aH (aH (aH (hB) (Nat.le_refl _) _) (Nat.le_refl _) _) (Nat.le_refl _) _) (Nat.le_refl _) _) (Nat.le_refl _) _⟩
   |cons c s1=>
    by_cases hc:c=62
    ·subst hc
     have hopen:=Lib.hid (show fC l=some (⟨0,nm,acc,[],false⟩,s1) by rw[hinv.out,heq];simp);clear heq hinv
     go_wp2_with(go_at_call 156;((with_reducible refine(hcs.out _).mono ?_);rintro e w4 ⟨rfl,rfl⟩))
     have m0:∀x,(wr.setCell ⟨w1.heap.size,4,none⟩ x).cell? ⟨w.heap.size,0,none⟩=some (.int .i64 0):=fun x=>(aW ((heap_setCell_other wr ⟨w1.heap.size,4,none⟩ w.heap.size x hne2).trans r1)).1.1
     have m1:∀x,(wr.setCell ⟨w1.heap.size,4,none⟩ x).cell? ⟨w.heap.size,1,none⟩=some (.string ⟨#[]⟩):=fun x=>(aW ((heap_setCell_other wr ⟨w1.heap.size,4,none⟩ w.heap.size x hne2).trans r1)).1.2.1
     have m2:∀x,(wr.setCell ⟨w1.heap.size,4,none⟩ x).cell? ⟨w.heap.size,2,none⟩=some (.string ⟨#[]⟩):=fun x=>(aW ((heap_setCell_other wr ⟨w1.heap.size,4,none⟩ w.heap.size x hne2).trans r1)).1.2.2.1
     have m3:∀x,(wr.setCell ⟨w1.heap.size,4,none⟩ x).cell? ⟨w.heap.size,3,none⟩=some (.slice none 0 0):=fun x=>(aW ((heap_setCell_other wr ⟨w1.heap.size,4,none⟩ w.heap.size x hne2).trans r1)).1.2.2.2.1
     have m4:∀x,(wr.setCell ⟨w1.heap.size,4,none⟩ x).cell? ⟨w.heap.size,4,none⟩=some (.bool false):=fun x=>(aW ((heap_setCell_other wr ⟨w1.heap.size,4,none⟩ w.heap.size x hne2).trans r1)).1.2.2.2.2
     have hb1:(1:Int)≤(s1.length:Int)+1:=by omega
     have hb2:(0:Int)≤(s1.length:Int)+1:=by omega
     go_region
     all_goals
      go_wp2_with fail
      try rw[Exit.noGoto_ret]
      refine bodyPost_ret (v:=qc (some (⟨0,nm,acc,[],false⟩,s1)) (.slice ad acc.length cp)) (by simp[results,Tryz.results213,go_sem,qc,q0,q1,q2,q3,q4,p0,p1,p2,p3,p4,hne1,hne2,m0,m1,m2,m3,m4]) rfl ⟨_,by rw[hopen.out],by rw[hopen.out];exact jy.below (lC (lC (lC (lC (lC (lC hA hI2) (iy hI1)) (iy (iy hI1))) (iy (iy (iy hI1)))) (iy (iy (iy (iy hI1))))) (iy (iy (iy (iy (iy hI1)))))) ((Below.refl _ _).drew),(aH (aH (aH (aH (aH (aH hB (by omega) _) (Nat.le_refl _) _) (Nat.le_refl _) _) (Nat.le_refl _) _) (Nat.le_refl _) _) (Nat.le_refl _) _).drew⟩
    ·have hat:=Lib.hid (fun W hS=>Ei (c::s1) (by simp) (by simp only[List.length_cons]at *;omega) W hS)
     have hal:=yY c s1;simp only[hc,if_false]at heq;have h62:=ne62 hc;obtain⟨nc,hnc⟩:∃nc,(c.toNat:Int)=nc:=⟨_,rfl⟩
     rw[hnc]at h62;generalize lU (c::s1)=r at *;obtain⟨⟨an,av⟩,rest,ok⟩:=r;simp only at heq hal hat;cases ok with
     |false=>
      have hopen:=Lib.hid (show fC l=none by rw[hinv.out,heq];rfl);clear heq hinv
      go_wp2_with(first
       |(go_at_call 156;((with_reducible refine(hcs.out _).mono ?_);rintro e w4 ⟨rfl,rfl⟩))
       |(go_at_call 230;((with_reducible refine(hat.out _ hS2).mono ?_);rintro e w2 ⟨rfl,hb2⟩;have hB2:=bB hB hB.size hb2;have hz2:=hb2.size;have n0:=fun o=>(aW (dP (aT r1 hb2) o)).1.1;have n1:=fun o=>(aW (dP (aT r1 hb2) o)).1.2.1;have n2:=fun o=>(aW (dP (aT r1 hb2) o)).1.2.2.1;have n3:=fun o=>(aW (dP (aT r1 hb2) o)).1.2.2.2.1;have n4:=fun o=>(aW (dP (aT r1 hb2) o)).1.2.2.2.2;have n5:=fun o j=>(aW (dP (aT r1 hb2) o)).2 j;clear hb2)))
      try rw[Exit.noGoto_ret]
      refine bodyPost_ret (v:=qc none (.slice none 0 0)) (by simp[results,Tryz.results213,go_sem,qc,n0,n1,n2,n3,n4]) rfl ⟨.slice none 0 0,by rw[hopen.out],by rw[hopen.out];exact jy.nil _ _,aH (aH (aH (aH (aH (hB2.alloc (by omega) _) (Nat.le_refl _) _) (Nat.le_refl _) _) (Nat.le_refl _) _) (Nat.le_refl _) _) (Nat.le_refl _) _⟩
     |true=>
      have hopen:=Lib.hid (show fC l=(kR (z8 acc (an,av)) rest).map fun r=>(⟨0,nm,r.1,[],r.2.1⟩,r.2.2) by rw[hinv.out,heq];rfl);clear heq hinv
      go_wp2_with(first
       |(go_at_call 156;((with_reducible refine(hcs.out _).mono ?_);rintro e w4 ⟨rfl,rfl⟩))
       |(go_at_call 230;((with_reducible refine(hat.out _ hS2).mono ?_);rintro e w2 ⟨rfl,hb2⟩;have hB2:=bB hB hB.size hb2;have hz2:=hb2.size;have n3:=fun o=>(aW (dP (aT r2 hb2) o)).1.2.2.2.1)))
      have hA2:=hA.below hb2;have r12:=aT r1 hb2;have r22:=aT r2 hb2;have hlr:acc.length+1+rest.length≤l.length:=by simp only[List.length_cons]at *;omega
      have hrg:rest.length<(c::s1).length:=by simp only[List.length_cons]at *;omega
      clear hcs hat hal
      go_loopg [61] acc.length (fun g2 v wx=>∃i,i+g2=acc.length∧v=.int .i64 i∧Below (w2.alloc (.cells #[.string ⟨an.toArray⟩,.string ⟨av.toArray⟩] 36)).heap.size (w2.alloc (.cells #[.string ⟨an.toArray⟩,.string ⟨av.toArray⟩] 36)) wx∧Hid (∀j (hj:j<acc.length),j<i→acc[j].1≠an))
      case atStart=>exact⟨0,by omega,rfl,Below.refl _ _,fun j _ h=>by omega⟩
      case round=>
       obtain⟨i,hig,rfl,hbx,hno⟩:=hrel;have hlt3:=lu r12;have hlt4:=lu r22;have hBx:=bB (hB2.alloc (by omega) _) (by simp;omega) hbx;have hAx:jy wr w.heap.size (.slice ad acc.length cp) acc:=own_below (World.ownsRow.alloc hA2 _) hbx;have rx0:=aT (dP r12 _) hbx;have rx1:=aT (dP r22 _) hbx;have rxa:=aT (bP w2 #[.string ⟨an.toArray⟩,.string ⟨av.toArray⟩] 36) hbx;have hszx:=hbx.size;rw[World.size_alloc]at hszx;obtain⟨⟨y0,y1,y2,y3,y4⟩,y5⟩:=aW rx1;obtain⟨z0,z1,z2,z3⟩:=iB rxa;obtain⟨t0,t1,t2,t3⟩:=oh rxa;cases gk with
       |zero=>
        have hil:¬((i:Int)<(acc.length:Int)):=by omega
        have AJ:=Lib.hid (show fC l=(kR (acc++[(an,av)]) rest).map fun r=>(⟨0,nm,r.1,[],r.2.1⟩,r.2.2) by rw[←Q5 (av:=av) (fun j hj=>hno.out j hj (by omega))];exact hopen.out);have hA3:∀o,jy (wr.alloc o) w.heap.size (.slice ad acc.length cp) acc:=fun o=>World.ownsRow.alloc hAx o
        have hlb:acc.length+1≤1000000000000:=by omega
        have hsb:∀o,w.heap.size≤(wr.alloc o).heap.size:=fun o=>by rw[World.size_alloc];omega
        obtain⟨zc0,zc1,zc2,zc3⟩:=iB (bP wr #[.string ⟨an.toArray⟩,.string ⟨av.toArray⟩] 36)
        go_wp2_with(at_builtin;refine Nc rfl (.tmp 72) (.tmp 74) rfl w.heap.size wr.heap.size (.slice ad acc.length cp) acc (an,av) rfl (hA3 _) rfl zc0 zc1 hlb (hsb _) ?_;intro v5 w5 hA5 hg5 hb5;obtain⟨ad5,cp5,rfl⟩:=hA5.len;rw[show(acc++[(an,av)]).length=acc.length+1 from List.length_append]at hA5;have r50:=zM (hA3 _) hg5 (dP rx0 _) (by decide);have r51:=zM (hA3 _) hg5 (dP rx1 _) (by decide);have hB5:=(hBx.alloc (by omega) _).trans hb5;have x3:=(aW r51).1.2.2.2.1;have x5:=(aW r51).2)
        go_roundg rest.length
        case measure=>exact hrg
        case rel=>exact⟨rest,acc++[(an,av)],_,rfl,rfl,by simp only[List.length_append,List.length_cons,List.length_nil];omega,(heap_setCell_other w5 ⟨w1.heap.size,3,none⟩ w.heap.size _ hne2).trans r50,heap_setCell_same w5 w1.heap.size 3 _ _ _ r51,lC hA5 ⟨_,r51⟩,aH hB5 (by omega) _,AJ⟩
       |succ g2=>
        have hil:(i:Int)<(acc.length:Int):=by omega
        have hi:i<acc.length:=by omega
        obtain⟨gb,cap,hva,hgb,hgl,ca,cb⟩:=hAx.at hi;obtain⟨rfl,rfl⟩:ad=some ⟨gb,0,none⟩∧cp=cap:=by simpa using hva
        by_cases he:acc[i].1=an
        ·have AJ:=Lib.hid (show fC l=(kR acc rest).map fun r=>(⟨0,nm,r.1,[],r.2.1⟩,r.2.2) by rw[←Q6 (av:=av) hi he];exact hopen.out)
         rw[he]at ca;have hbe:(an==an)=true:=by simp
         clear he;go_wp2
         go_roundg rest.length
         case measure=>exact hrg
         case rel=>exact⟨rest,acc,_,rfl,rfl,by omega,dP rx0 _,dP rx1 _,World.ownsRow.alloc hAx _,hBx.alloc (by omega) _,AJ⟩
        ·have oZ:=Lib.hid (show∀j (hj:j<acc.length),j<i+1→acc[j].1≠an by
          intro j hj hji
          by_cases e:j=i
          ·subst e;exact he
          ·exact hno.out j hj (by omega))
         have hbe:(acc[i].1==an)=false:=by simpa using he
         clear he;generalize acc[i].1=bn at *;generalize acc[i].2=bv at *;go_wp2
         go_roundg g2
         case measure=>omega
         case rel=>exact⟨i+1,by omega,rfl,hbx.alloc (by simp;omega) _,oZ⟩
  ·obtain⟨k,hk⟩:∃k,rC s=k+1:=⟨rC s - 1,by omega⟩
   have hlt:k<s.length:=by omega
   rw[slash_at hk hlt]at hsb;rw[hk]at hcs heq;have h47:=eq47 s[k];rw[hsb]at h47;obtain⟨n0,hn0⟩:∃n0,(s[k].toNat:Int)=n0:=⟨_,rfl⟩
   rw[hn0]at h47;clear hsb hg0;obtain⟨d,hd⟩:∃d,s.drop (k+1)=d:=⟨_,rfl⟩
   rw[hd]at heq;have hdl:d.length+(k+1)=s.length:=by rw[←hd];simp;omega
   cases d with
   |nil=>
    have hopen:=Lib.hid (show fC l=none by rw[hinv.out,heq];rfl);clear heq hinv
    go_wp2_with(go_at_call 156;((with_reducible refine(hcs.out _).mono ?_);rintro e w4 ⟨rfl,rfl⟩))
    try rw[Exit.noGoto_ret]
    refine bodyPost_ret (v:=qc none (.slice none 0 0)) (by simp[results,Tryz.results213,go_sem,qc,q0,q1,q2,q3,q4,p0,p1,p2,p3,p4,hne1,hne2]) rfl ⟨.slice none 0 0,by rw[hopen.out],by rw[hopen.out];exact jy.nil _ _,aH (aH (aH (aH (aH (hB) (Nat.le_refl _) _) (Nat.le_refl _) _) (Nat.le_refl _) _) (Nat.le_refl _) _) (Nat.le_refl _) _⟩
   |cons c s1=>
    by_cases hc:c=62
    ·subst hc
     have hopen:=Lib.hid (show fC l=some (⟨0,nm,acc,[],sb⟩,s1) by rw[hinv.out,heq];simp);clear heq hinv
     go_wp2_with(go_at_call 156;((with_reducible refine(hcs.out _).mono ?_);rintro e w4 ⟨rfl,rfl⟩))
     have m0:∀x,(wr.setCell ⟨w1.heap.size,4,none⟩ x).cell? ⟨w.heap.size,0,none⟩=some (.int .i64 0):=fun x=>(aW ((heap_setCell_other wr ⟨w1.heap.size,4,none⟩ w.heap.size x hne2).trans r1)).1.1
     have m1:∀x,(wr.setCell ⟨w1.heap.size,4,none⟩ x).cell? ⟨w.heap.size,1,none⟩=some (.string ⟨#[]⟩):=fun x=>(aW ((heap_setCell_other wr ⟨w1.heap.size,4,none⟩ w.heap.size x hne2).trans r1)).1.2.1
     have m2:∀x,(wr.setCell ⟨w1.heap.size,4,none⟩ x).cell? ⟨w.heap.size,2,none⟩=some (.string ⟨#[]⟩):=fun x=>(aW ((heap_setCell_other wr ⟨w1.heap.size,4,none⟩ w.heap.size x hne2).trans r1)).1.2.2.1
     have m3:∀x,(wr.setCell ⟨w1.heap.size,4,none⟩ x).cell? ⟨w.heap.size,3,none⟩=some (.slice none 0 0):=fun x=>(aW ((heap_setCell_other wr ⟨w1.heap.size,4,none⟩ w.heap.size x hne2).trans r1)).1.2.2.2.1
     have m4:∀x,(wr.setCell ⟨w1.heap.size,4,none⟩ x).cell? ⟨w.heap.size,4,none⟩=some (.bool false):=fun x=>(aW ((heap_setCell_other wr ⟨w1.heap.size,4,none⟩ w.heap.size x hne2).trans r1)).1.2.2.2.2
     have hb1:(1:Int)≤(s1.length:Int)+1:=by omega
     have hb2:(0:Int)≤(s1.length:Int)+1:=by omega
     go_region
     all_goals
      go_wp2_with fail
      try rw[Exit.noGoto_ret]
      refine bodyPost_ret (v:=qc (some (⟨0,nm,acc,[],sb⟩,s1)) (.slice ad acc.length cp)) (by simp[results,Tryz.results213,go_sem,qc,q0,q1,q2,q3,q4,p0,p1,p2,p3,p4,hne1,hne2,m0,m1,m2,m3,m4]) rfl ⟨_,by rw[hopen.out],by rw[hopen.out];exact jy.below (lC (lC (lC (lC (lC (lC hA hI2) (iy hI1)) (iy (iy hI1))) (iy (iy (iy hI1)))) (iy (iy (iy (iy hI1))))) (iy (iy (iy (iy (iy hI1)))))) ((Below.refl _ _).drew),(aH (aH (aH (aH (aH (aH hB (by omega) _) (Nat.le_refl _) _) (Nat.le_refl _) _) (Nat.le_refl _) _) (Nat.le_refl _) _) (Nat.le_refl _) _).drew⟩
    ·have hat:=Lib.hid (fun W hS=>Ei (c::s1) (by simp) (by simp only[List.length_cons]at *;omega) W hS)
     have hal:=yY c s1;simp only[hc,if_false]at heq;have h62:=ne62 hc;obtain⟨nc,hnc⟩:∃nc,(c.toNat:Int)=nc:=⟨_,rfl⟩
     rw[hnc]at h62;generalize lU (c::s1)=r at *;obtain⟨⟨an,av⟩,rest,ok⟩:=r;simp only at heq hal hat;cases ok with
     |false=>
      have hopen:=Lib.hid (show fC l=none by rw[hinv.out,heq];rfl);clear heq hinv
      go_wp2_with(first
       |(go_at_call 156;((with_reducible refine(hcs.out _).mono ?_);rintro e w4 ⟨rfl,rfl⟩))
       |(go_at_call 230;((with_reducible refine(hat.out _ hS2).mono ?_);rintro e w2 ⟨rfl,hb2⟩;have hB2:=bB hB hB.size hb2;have hz2:=hb2.size;have n0:=fun o=>(aW (dP (aT r1 hb2) o)).1.1;have n1:=fun o=>(aW (dP (aT r1 hb2) o)).1.2.1;have n2:=fun o=>(aW (dP (aT r1 hb2) o)).1.2.2.1;have n3:=fun o=>(aW (dP (aT r1 hb2) o)).1.2.2.2.1;have n4:=fun o=>(aW (dP (aT r1 hb2) o)).1.2.2.2.2;have n5:=fun o j=>(aW (dP (aT r1 hb2) o)).2 j;clear hb2)))
      try rw[Exit.noGoto_ret]
      refine bodyPost_ret (v:=qc none (.slice none 0 0)) (by simp[results,Tryz.results213,go_sem,qc,n0,n1,n2,n3,n4]) rfl ⟨.slice none 0 0,by rw[hopen.out],by rw[hopen.out];exact jy.nil _ _,aH (aH (aH (aH (aH (hB2.alloc (by omega) _) (Nat.le_refl _) _) (Nat.le_refl _) _) (Nat.le_refl _) _) (Nat.le_refl _) _) (Nat.le_refl _) _⟩
     |true=>
      have hopen:=Lib.hid (show fC l=(kR (z8 acc (an,av)) rest).map fun r=>(⟨0,nm,r.1,[],r.2.1⟩,r.2.2) by rw[hinv.out,heq];rfl);clear heq hinv
      go_wp2_with(first
       |(go_at_call 156;((with_reducible refine(hcs.out _).mono ?_);rintro e w4 ⟨rfl,rfl⟩))
       |(go_at_call 230;((with_reducible refine(hat.out _ hS2).mono ?_);rintro e w2 ⟨rfl,hb2⟩;have hB2:=bB hB hB.size hb2;have hz2:=hb2.size;have n3:=fun o=>(aW (dP (aT r2 hb2) o)).1.2.2.2.1)))
      have hA2:=hA.below hb2;have r12:=aT r1 hb2;have r22:=aT r2 hb2;have hlr:acc.length+1+rest.length≤l.length:=by simp only[List.length_cons]at *;omega
      have hrg:rest.length<s.length:=by simp only[List.length_cons]at *;omega
      clear hcs hat hal
      go_loopg [61] acc.length (fun g2 v wx=>∃i,i+g2=acc.length∧v=.int .i64 i∧Below (w2.alloc (.cells #[.string ⟨an.toArray⟩,.string ⟨av.toArray⟩] 36)).heap.size (w2.alloc (.cells #[.string ⟨an.toArray⟩,.string ⟨av.toArray⟩] 36)) wx∧Hid (∀j (hj:j<acc.length),j<i→acc[j].1≠an))
      case atStart=>exact⟨0,by omega,rfl,Below.refl _ _,fun j _ h=>by omega⟩
      case round=>
       obtain⟨i,hig,rfl,hbx,hno⟩:=hrel;have hlt3:=lu r12;have hlt4:=lu r22;have hBx:=bB (hB2.alloc (by omega) _) (by simp;omega) hbx;have hAx:jy wr w.heap.size (.slice ad acc.length cp) acc:=own_below (World.ownsRow.alloc hA2 _) hbx;have rx0:=aT (dP r12 _) hbx;have rx1:=aT (dP r22 _) hbx;have rxa:=aT (bP w2 #[.string ⟨an.toArray⟩,.string ⟨av.toArray⟩] 36) hbx;have hszx:=hbx.size;rw[World.size_alloc]at hszx;obtain⟨⟨y0,y1,y2,y3,y4⟩,y5⟩:=aW rx1;obtain⟨z0,z1,z2,z3⟩:=iB rxa;obtain⟨t0,t1,t2,t3⟩:=oh rxa;cases gk with
       |zero=>
        have hil:¬((i:Int)<(acc.length:Int)):=by omega
        have AJ:=Lib.hid (show fC l=(kR (acc++[(an,av)]) rest).map fun r=>(⟨0,nm,r.1,[],r.2.1⟩,r.2.2) by rw[←Q5 (av:=av) (fun j hj=>hno.out j hj (by omega))];exact hopen.out);have hA3:∀o,jy (wr.alloc o) w.heap.size (.slice ad acc.length cp) acc:=fun o=>World.ownsRow.alloc hAx o
        have hlb:acc.length+1≤1000000000000:=by omega
        have hsb:∀o,w.heap.size≤(wr.alloc o).heap.size:=fun o=>by rw[World.size_alloc];omega
        obtain⟨zc0,zc1,zc2,zc3⟩:=iB (bP wr #[.string ⟨an.toArray⟩,.string ⟨av.toArray⟩] 36)
        go_wp2_with(at_builtin;refine Nc rfl (.tmp 72) (.tmp 74) rfl w.heap.size wr.heap.size (.slice ad acc.length cp) acc (an,av) rfl (hA3 _) rfl zc0 zc1 hlb (hsb _) ?_;intro v5 w5 hA5 hg5 hb5;obtain⟨ad5,cp5,rfl⟩:=hA5.len;rw[show(acc++[(an,av)]).length=acc.length+1 from List.length_append]at hA5;have r50:=zM (hA3 _) hg5 (dP rx0 _) (by decide);have r51:=zM (hA3 _) hg5 (dP rx1 _) (by decide);have hB5:=(hBx.alloc (by omega) _).trans hb5;have x3:=(aW r51).1.2.2.2.1;have x5:=(aW r51).2)
        go_roundg rest.length
        case measure=>exact hrg
        case rel=>exact⟨rest,acc++[(an,av)],_,rfl,rfl,by simp only[List.length_append,List.length_cons,List.length_nil];omega,(heap_setCell_other w5 ⟨w1.heap.size,3,none⟩ w.heap.size _ hne2).trans r50,heap_setCell_same w5 w1.heap.size 3 _ _ _ r51,lC hA5 ⟨_,r51⟩,aH hB5 (by omega) _,AJ⟩
       |succ g2=>
        have hil:(i:Int)<(acc.length:Int):=by omega
        have hi:i<acc.length:=by omega
        obtain⟨gb,cap,hva,hgb,hgl,ca,cb⟩:=hAx.at hi;obtain⟨rfl,rfl⟩:ad=some ⟨gb,0,none⟩∧cp=cap:=by simpa using hva
        by_cases he:acc[i].1=an
        ·have AJ:=Lib.hid (show fC l=(kR acc rest).map fun r=>(⟨0,nm,r.1,[],r.2.1⟩,r.2.2) by rw[←Q6 (av:=av) hi he];exact hopen.out)
         rw[he]at ca;have hbe:(an==an)=true:=by simp
         clear he;go_wp2
         go_roundg rest.length
         case measure=>exact hrg
         case rel=>exact⟨rest,acc,_,rfl,rfl,by omega,dP rx0 _,dP rx1 _,World.ownsRow.alloc hAx _,hBx.alloc (by omega) _,AJ⟩
        ·have oZ:=Lib.hid (show∀j (hj:j<acc.length),j<i+1→acc[j].1≠an by
          intro j hj hji
          by_cases e:j=i
          ·subst e;exact he
          ·exact hno.out j hj (by omega))
         have hbe:(acc[i].1==an)=false:=by simpa using he
         clear he;generalize acc[i].1=bn at *;generalize acc[i].2=bv at *;go_wp2
         go_roundg g2
         case measure=>omega
         case rel=>exact⟨i+1,by omega,rfl,hbx.alloc (by simp;omega) _,oZ⟩
end Go.Proofs.YtkcmghlhpbepcaaGreatDoor
namespace Go.Proofs.aj.W7
open Go.RowKit Go.Shelf Go.Proofs YtkcmghlhpbepcaaGreatDoor
attribute [local go_sem] Oper.semAt_some
abbrev IxS:=Nat×ByteArray
def vT(xs:List ByteArray)(k:Nat):List IxS:=(List.range k).map (fun m=>(xs.length - 1 - m,xs.getD (xs.length - 1 - m) ⟨#[]⟩))
theorem AB(xs:List ByteArray)(k:Nat):vT xs (k+1)=vT xs k++[(xs.length - 1 - k,xs.getD (xs.length - 1 - k) ⟨#[]⟩)]:=by simp[vT,List.range_succ]
theorem LU(xs:List ByteArray)(k:Nat):(vT xs k).length=k:=by simp[vT]
def KpB(t:TypeId)(n₀ B:Nat)(v:Value)(W W':World):Prop:=Below n₀ W W'∧(Boxed W B t v→Boxed W' B t v)
theorem kpB_t{t:TypeId}{n₀ B:Nat}{v:Value}{X Y Z:World}(h:KpB t n₀ B v X Y)(k:KpB t n₀ B v Y Z):KpB t n₀ B v X Z:=⟨h.1.trans k.1,fun e=>k.2 (h.2 e)⟩
theorem kpB_b{t:TypeId}{n₀ B:Nat}{v:Value}{w:World}(hn:n₀≤w.heap.size)(hB:B<w.heap.size)(W:World)(l:Nat)(o o':Obj)(hl:w.heap.size≤l)(h:W.heap[l]?=some o)(h1:o.isCells=false)(h2:o.isWalk=false):KpB t n₀ B v W (W.putObj l o'):=
 ⟨belowK_b hn W l o o' hl h h1 h2,fun e=>e.kept (grownBy_putObj' W l o') (fun e'=>by cases e';omega)⟩
theorem spotF{w:World}{a:Addr}{v:Value}(h:w.cell? a=some v):a=⟨a.block,a.off,none⟩:=by
 obtain⟨b,o,s⟩:=a;cases s with
 |none=>rfl
 |some s=>
  unfold World.cell? at h
  split at h<;>simp at h
theorem addF(b o n:Nat):Addr.add ⟨b,o,none⟩ n=⟨b,o+n,none⟩:=by
 unfold Addr.add
 split<;>simp_all
abbrev Strs(w:World)(A:Option Addr)(xs:List ByteArray):Prop:=ah.aD.Kd.string.C w A xs.length xs
theorem str_at{w:World}{A:Option Addr}{xs:List ByteArray}(h:Strs w A xs):(xs=[]∨∃g o,A=some ⟨g,o,none⟩∧∀j,j<xs.length→w.cell? ⟨g,o+j,none⟩=some (.string (xs.getD j ⟨#[]⟩))):=by
 cases hx:xs with
 |nil=>exact .inl rfl
 |cons x t=>
  rw[←hx];have hl:0<xs.length:=by rw[hx];simp
  obtain⟨ad,e,hc⟩:=h.2.2 hl
  have key:∀j,j<xs.length→w.cell? (ad.add j)=some (.string (xs.getD j ⟨#[]⟩)):=fun j hj=>by
   have hg:xs[j]?=some (xs.getD j ⟨#[]⟩):=by rw[List.getD_eq_getElem?_getD,List.getElem?_eq_getElem hj];rfl
   obtain⟨c,hcl,hR,hcc⟩:=hc j _ hg;have hR2:c=[.string (xs.getD j ⟨#[]⟩)]:=hR;have:=hcc 0 (.string (xs.getD j ⟨#[]⟩)) (by rw[hR2];rfl);have hz:j * ah.aD.Kd.string.sz+0=j:=by show j * 1+0=j;omega
   rwa [hz]at this
  have h0:=key 0 hl;have hs:=spotF (a:=ad) (by simpa [Addr.add]using h0);refine .inr ⟨ad.block,ad.off,by rw[e,←hs],fun j hj=>?_⟩;have:=key j hj;rw[hs,addF]at this;exact this
theorem back1_in(n:Nat)(hn:1≤n)(l B1:Nat)(A:Option Addr)(c:Nat)(xs:List ByteArray)(w0:World)(hr:Strs w0 A xs)(J Jx:List IxS→World→Prop)
 (hY:∀pre x W,J pre W→pre.length<xs.length→YieldAt Fence.wide (n - 1) Tryz.prog l #[.int .i64 (x.1:Nat),.string x.2] W fun e W'=>
   (e=.returned (.bool true)∧J (pre++[x]) W'∧KpB 41 w0.heap.size B1 (.slice A xs.length c) W W')∨(e=.returned (.bool false)∧Jx (pre++[x]) W'))
 (W:World) (hW:Below w0.heap.size w0 W) (b1:Boxed W B1 41 (.slice A xs.length c)) (h0:J [] W):
 CallsIn Fence.wide n Tryz.prog 172 #[.func (.yield l) #[] #[],.pointer (some ⟨B1,0,none⟩)] W fun e W'=>(∃v,e=.returned v)∧
  ((∃ys,ys=vT xs xs.length∧J ys W')∨(∃pre,(∃k,k≤xs.length∧pre=vT xs k)∧Jx pre W')):=by
 have hxl:=hr.2.1;have hat:=str_at hr;refine callsIn_of_wp Tryz.func172 rfl trivial ?_ rfl;simp only[Tryz.ntmps172,List.size_toArray,List.length_cons,List.length_nil,Nat.reduceAdd,Nat.reduceSub,Array.replicate_succ,Array.replicate_zero,List.push_toArray,List.append_toArray,List.nil_append,List.cons_append];have c1:=b1.cell
 gi_wp2
 gi_loopw [3] (fun v wr=>∃k:Nat,k≤xs.length∧v=.int .i64 ((xs.length:Int) - 1 - k)∧J (vT xs k) wr∧Below w0.heap.size w0 wr∧Boxed wr B1 41 (.slice A xs.length c)) (fun v _=>(intOf v+1).toNat)
 case atStart=>exact⟨0,Nat.zero_le _,by simp,h0,hW,b1⟩
 case round=>
  obtain⟨k,hk,rfl,hJs,hB,hbx⟩:=hrel;have cb:=hbx.cell
  by_cases hlt:k<xs.length
  ·rcases hat with rfl|⟨g,o,rfl,hcs⟩
   ·simp at hlt
   ·have hj:xs.length - 1 - k<xs.length:=by omega
    obtain⟨fn,tmps,assign,body,hy,hR⟩:=hY _ (xs.length - 1 - k,xs.getD (xs.length - 1 - k) ⟨#[]⟩) wr hJs (by rw[LU];exact hlt);have hj2:(xs.length:Int) - 1 - k=((xs.length - 1 - k:Nat):Int):=by omega
    have hcx:=(hB.cell (p:=⟨g,o+(xs.length - 1 - k),none⟩) (World.block_lt_of_cell? w0 _ (hcs _ hj))).trans (hcs _ hj);have hsucc:=Lib.hid (AB xs k);clear hcs;dsimp only at hy;rw[hj2];generalize xs.getD (xs.length - 1 - k) ⟨#[]⟩=sx at *;obtain⟨q,hq⟩:∃q,xs.length - 1 - k=q:=⟨_,rfl⟩
    rw[hq]at hy hcx hR hsucc hj;rw[hq];have hqk:Hid (xs.length - 1 - k=q):=hq;clear hq hj2
    gi_wp2
    refine hR.mono ?_;rintro e W3 (⟨rfl,hJ3,hk3⟩|⟨rfl,hJx3⟩)
    ·gi_wp2
     go_roundw
     case rel=>exact⟨k+1,by omega,by have:=hqk.out;congr 1;omega,by rw[hsucc.out];exact hJ3,hB.trans hk3.1,hk3.2 hbx⟩
     case measure=>first|(simp[intOf];done)|(simp[intOf];omega)
    ·gi_wp2
     refine bodyPost_ret (results_none rfl _ _ _) rfl ?_;exact⟨⟨_,rfl⟩,.inr ⟨_,⟨k+1,by omega,hsucc.out.symm⟩,hJx3⟩⟩
  ·obtain rfl:k=xs.length:=by omega
   gi_wp2
   go_end0;exact⟨⟨_,rfl⟩,.inl ⟨_,rfl,hJs⟩⟩
end Go.Proofs.aj.W7
