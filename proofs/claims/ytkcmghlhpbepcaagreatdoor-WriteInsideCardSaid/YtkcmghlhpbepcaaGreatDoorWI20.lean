/- Lemmas and walks, part 20. -/
import Derived.Test.YtkcmghlhpbepcaaGreatDoorWI19
set_option linter.unusedVariables false
set_option linter.unusedSimpArgs false
set_option maxHeartbeats 8000000
set_option maxRecDepth 100000
namespace Go.Proofs.YtkcmghlhpbepcaaGreatDoor
open Go.RowKit Go.Proofs
theorem nX{w:World}{b:Nat}{s t s':Txt}{v:Value}(h:w.heap[b]?=some (.cells #[.string ⟨s.toArray⟩,.string ⟨t.toArray⟩,v] 92 (0,0))):(w.setCell ⟨b,0,none⟩ (.string ⟨s'.toArray⟩)).heap[b]?=some (.cells #[.string ⟨s'.toArray⟩,.string ⟨t.toArray⟩,v] 92 (0,0)):=heap_setCell_same w b 0 _ _ _ h
theorem P9{w:World}{b:Nat}{s t t':Txt}{v:Value}(h:w.heap[b]?=some (.cells #[.string ⟨s.toArray⟩,.string ⟨t.toArray⟩,v] 92 (0,0))):(w.setCell ⟨b,1,none⟩ (.string ⟨t'.toArray⟩)).heap[b]?=some (.cells #[.string ⟨s.toArray⟩,.string ⟨t'.toArray⟩,v] 92 (0,0)):=heap_setCell_same w b 1 _ _ _ h
theorem SY(s sub:Txt)(hs:s.length≤1000000000)(w:World)(hS:Std w):Calls Tryz.prog 141 #[.string ⟨s.toArray⟩,.string ⟨sub.toArray⟩] w fun e w'=>e=.returned (.int .i64 (Lib.index s sub))∧w=w':=by
 obtain⟨m,hm⟩:=hS.maxLen;refine(Tryz.strings_Index ⟨s.toArray⟩ ⟨sub.toArray⟩ m w (by rw[rU];omega) hm).mono ?_;rintro e w' ⟨rfl,rfl⟩;exact⟨by simp,rfl⟩
theorem Qa(base b:Nat)(S t:Txt)(l:List Tok)(hs:S.length≤1000000000)(hs4:4≤S.length)(ht:t.length≤1000000000)(hl:l.length≤10000000000)(hp:Lib.hasPrefix (S.drop 4) [62]=true)(w:World)(hsc:Sc w base b S t l)(hE:Env w base):
 Calls Tryz.prog 192 #[.pointer (some ⟨b,0,none⟩)] w fun r w'=>r=.returned (.tuple #[])∧Sc w' base b ((S.drop 4).drop 1) [] ((l++fE t)++[⟨3,[],[],[],false⟩])∧Below base w w':=by
 have hbb:=hsc.1;have hle:=hE.le;have hpl:1≤(S.drop 4).length:=qV hp;have hBa:=(Below.refl base w).alloc hle (.cells #[.string ⟨#[62]⟩,.string ⟨#[45,62]⟩] 9);have hEa:=hE.below hBa;have hsca:=hsc.below ((Below.refl _ w).alloc (Nat.le_refl _) (.cells #[.string ⟨#[62]⟩,.string ⟨#[45,62]⟩] 9));obtain⟨_,v0,hh0,hT0⟩:=id hsc;obtain⟨⟨c0,c1,c2⟩,c5⟩:=aN hh0;have hc1:=Lib.hid (rO base b S t l ht (by omega) _ hsca hEa);have hl1:(l++fE t).length≤100000000000:=by unfold fE;split<;>simp<;>omega
 generalize l++fE t=l1 at *;generalize hsd:S.drop 4=s at *;have h4I:(4:Int)≤S.length:=by omega
 have hnI:(1:Int)≤s.length:=by omega
 have q1:=Lib.hid (fun W=>kY s [62] W);have q2:=Lib.hid (fun W=>kY s [45,62] W);obtain⟨x0,x1,x2,x3⟩:=iB (bP w #[.string ⟨#[62]⟩,.string ⟨#[45,62]⟩] 9);rw[hp]at q1;go_enter Tryz.func192,Tryz.ntmps192;go_wp2
 go_loop [15] (fun v=>∃(j:Nat),v=.int .i64 j∧j≤0) (fun v=>0 - (intOf v).toNat)
 case atStart=>exact⟨0,rfl,by omega⟩
 case round=>
  obtain⟨j,rfl,hj⟩:=hrel;obtain rfl:j=0:=by omega
  go_wp2_with(first
   |(go_at_call 94;((with_reducible refine(q1.out _).mono ?_);rintro e w3 ⟨rfl,rfl⟩))
   |(go_at_call 159;((with_reducible refine(hc1.out).mono ?_);rintro e w1 ⟨rfl,hsc1,hb1⟩;have hE1:=hEa.below hb1;obtain⟨_,v1,hh1,hT1⟩:=id hsc1;obtain⟨ad2,cp2,rfl⟩:=hT1.len;obtain⟨⟨d0,d1,d2⟩,d5⟩:=aN hh1;have hle2:=hE1.le;have hB1:=hBa.trans hb1;have hsc2:=hsc1.tK (s.tail);have hh2:=nX (s':=s.tail) hh1;have hT2:=hT1.other (jr w1 ⟨b,0,none⟩ (.string ⟨(s.tail).toArray⟩)) hh1 (by decide) (by decide);have hh3:=dP hh2 (.cells #[.int .i64 3,.string ⟨#[]⟩,.string ⟨#[]⟩,.slice none 0 0,.bool false] 65);have hT3:=hT2.alloc (.cells #[.int .i64 3,.string ⟨#[]⟩,.string ⟨#[]⟩,.slice none 0 0,.bool false] 65);have hB3:=(aH (j:=0) hB1 hbb (.string ⟨(s.tail).toArray⟩)).alloc (by rw[World.size_setCell];omega) (.cells #[.int .i64 3,.string ⟨#[]⟩,.string ⟨#[]⟩,.slice none 0 0,.bool false] 65);have hle3:base≤((w1.setCell ⟨b,0,none⟩ (.string ⟨(s.tail).toArray⟩)).alloc (.cells #[.int .i64 3,.string ⟨#[]⟩,.string ⟨#[]⟩,.slice none 0 0,.bool false] 65)).heap.size:=(by rw[World.size_alloc,World.size_setCell];omega);obtain⟨⟨k0,k1,k2,k3,k4⟩,k5⟩:=aW (bP (w1.setCell ⟨b,0,none⟩ (.string ⟨(s.tail).toArray⟩)) #[.int .i64 3,.string ⟨#[]⟩,.string ⟨#[]⟩,.slice none 0 0,.bool false] 65);rw[World.size_setCell]at k0 k1 k2 k3 k4))
   |(at_builtin;refine uV rfl (.tmp 35) (.tmp 37) rfl base w1.heap.size _ (.slice none 0 0) l1 ⟨3,[],[],[],false⟩ rfl hT3 rfl k0 k1 k2 k3 k4 (jy.nil _ _) (by omega) hle3 ?_;intro v5 w5 hT5 hg5 hb5 hk5;obtain⟨ad5,cp5,rfl⟩:=hT5.len;rw[show(l1++[(⟨3,[],[],[],false⟩:Tok)]).length=l1.length+1 from List.length_append]at hT5;have hh5:=hk5 _ _ _ _ hh3 (by decide);obtain⟨⟨e0,e1,e2⟩,e5⟩:=aN hh5;have hB5:=hB3.trans hb5))
  refine bodyPost_ret (v:=.tuple #[]) (by simp[results,Tryz.results192,go_sem]) rfl ⟨rfl,(by rw[List.drop_one];exact Sc.wz (l:=l1) hbb hh5 hT5),aH hB5 hbb _⟩
theorem Qb(base b:Nat)(S t:Txt)(l:List Tok)(hs:S.length≤1000000000)(hs4:4≤S.length)(ht:t.length≤1000000000)(hl:l.length≤10000000000)(hp0:Lib.hasPrefix (S.drop 4) [62]=false)(hp:Lib.hasPrefix (S.drop 4) [45,62]=true)(w:World)(hsc:Sc w base b S t l)(hE:Env w base):
 Calls Tryz.prog 192 #[.pointer (some ⟨b,0,none⟩)] w fun r w'=>r=.returned (.tuple #[])∧Sc w' base b ((S.drop 4).drop 2) [] ((l++fE t)++[⟨3,[],[],[],false⟩])∧Below base w w':=by
 have hbb:=hsc.1;have hle:=hE.le;have hpl:2≤(S.drop 4).length:=qV hp;have hBa:=(Below.refl base w).alloc hle (.cells #[.string ⟨#[62]⟩,.string ⟨#[45,62]⟩] 9);have hEa:=hE.below hBa;have hsca:=hsc.below ((Below.refl _ w).alloc (Nat.le_refl _) (.cells #[.string ⟨#[62]⟩,.string ⟨#[45,62]⟩] 9));obtain⟨_,v0,hh0,hT0⟩:=id hsc;obtain⟨⟨c0,c1,c2⟩,c5⟩:=aN hh0;have hc1:=Lib.hid (rO base b S t l ht (by omega) _ hsca hEa);have hl1:(l++fE t).length≤100000000000:=by unfold fE;split<;>simp<;>omega
 generalize l++fE t=l1 at *;generalize hsd:S.drop 4=s at *;have h4I:(4:Int)≤S.length:=by omega
 have hnI:(2:Int)≤s.length:=by omega
 have q1:=Lib.hid (fun W=>kY s [62] W);have q2:=Lib.hid (fun W=>kY s [45,62] W);obtain⟨x0,x1,x2,x3⟩:=iB (bP w #[.string ⟨#[62]⟩,.string ⟨#[45,62]⟩] 9);rw[hp0]at q1;rw[hp]at q2
 go_enter Tryz.func192,Tryz.ntmps192;go_wp2
 go_loop [15] (fun v=>∃(j:Nat),v=.int .i64 j∧j≤1) (fun v=>1 - (intOf v).toNat)
 case atStart=>exact⟨0,rfl,by omega⟩
 case round=>
  obtain⟨j,rfl,hj⟩:=hrel
  rcases(by omega:j=0∨j=1)with rfl|rfl
  ·go_wp2_with(go_at_call 94;((with_reducible refine(q1.out _).mono ?_);rintro e w3 ⟨rfl,rfl⟩))
   exact⟨⟨1,rfl,by omega⟩,by simp[intOf]⟩
  go_wp2_with(first
   |(go_at_call 94;((with_reducible refine(q2.out _).mono ?_);rintro e w3 ⟨rfl,rfl⟩))
   |(go_at_call 159;((with_reducible refine(hc1.out).mono ?_);rintro e w1 ⟨rfl,hsc1,hb1⟩;have hE1:=hEa.below hb1;obtain⟨_,v1,hh1,hT1⟩:=id hsc1;obtain⟨ad2,cp2,rfl⟩:=hT1.len;obtain⟨⟨d0,d1,d2⟩,d5⟩:=aN hh1;have hle2:=hE1.le;have hB1:=hBa.trans hb1;have hsc2:=hsc1.tK (s.drop 2);have hh2:=nX (s':=s.drop 2) hh1;have hT2:=hT1.other (jr w1 ⟨b,0,none⟩ (.string ⟨(s.drop 2).toArray⟩)) hh1 (by decide) (by decide);have hh3:=dP hh2 (.cells #[.int .i64 3,.string ⟨#[]⟩,.string ⟨#[]⟩,.slice none 0 0,.bool false] 65);have hT3:=hT2.alloc (.cells #[.int .i64 3,.string ⟨#[]⟩,.string ⟨#[]⟩,.slice none 0 0,.bool false] 65);have hB3:=(aH (j:=0) hB1 hbb (.string ⟨(s.drop 2).toArray⟩)).alloc (by rw[World.size_setCell];omega) (.cells #[.int .i64 3,.string ⟨#[]⟩,.string ⟨#[]⟩,.slice none 0 0,.bool false] 65);have hle3:base≤((w1.setCell ⟨b,0,none⟩ (.string ⟨(s.drop 2).toArray⟩)).alloc (.cells #[.int .i64 3,.string ⟨#[]⟩,.string ⟨#[]⟩,.slice none 0 0,.bool false] 65)).heap.size:=(by rw[World.size_alloc,World.size_setCell];omega);obtain⟨⟨k0,k1,k2,k3,k4⟩,k5⟩:=aW (bP (w1.setCell ⟨b,0,none⟩ (.string ⟨(s.drop 2).toArray⟩)) #[.int .i64 3,.string ⟨#[]⟩,.string ⟨#[]⟩,.slice none 0 0,.bool false] 65);rw[World.size_setCell]at k0 k1 k2 k3 k4))
   |(at_builtin;refine uV rfl (.tmp 35) (.tmp 37) rfl base w1.heap.size _ (.slice none 0 0) l1 ⟨3,[],[],[],false⟩ rfl hT3 rfl k0 k1 k2 k3 k4 (jy.nil _ _) (by omega) hle3 ?_;intro v5 w5 hT5 hg5 hb5 hk5;obtain⟨ad5,cp5,rfl⟩:=hT5.len;rw[show(l1++[(⟨3,[],[],[],false⟩:Tok)]).length=l1.length+1 from List.length_append]at hT5;have hh5:=hk5 _ _ _ _ hh3 (by decide);obtain⟨⟨e0,e1,e2⟩,e5⟩:=aN hh5;have hB5:=hB3.trans hb5))
  refine bodyPost_ret (v:=.tuple #[]) (by simp[results,Tryz.results192,go_sem]) rfl ⟨rfl,Sc.wz (l:=l1) hbb hh5 hT5,aH hB5 hbb _⟩
theorem Qc(base b:Nat)(S t:Txt)(l:List Tok)(hs:S.length≤1000000000)(hs4:4≤S.length)(ht:t.length≤1000000000)(hl:l.length≤10000000000)(hp0:Lib.hasPrefix (S.drop 4) [62]=false)(hp:Lib.hasPrefix (S.drop 4) [45,62]=false)(e:Txt)(he:e=if 0≤Lib.index (S.drop 4) [45,45,33,62]∧(Lib.index (S.drop 4) [45,45,62]<0∨Lib.index (S.drop 4) [45,45,33,62]<Lib.index (S.drop 4) [45,45,62])then [45,45,33,62]else [45,45,62])(w:World)(hsc:Sc w base b S t l)(hE:Env w base):
 Calls Tryz.prog 192 #[.pointer (some ⟨b,0,none⟩)] w fun r w'=>r=.returned (.tuple #[])∧Sc w' base b (jM (S.drop 4) e).2 [] ((l++fE t)++[⟨3,[],[],(jM (S.drop 4) e).1,false⟩])∧Below base w w':=by
 have hbb:=hsc.1;have hle:=hE.le;have hBa:=(Below.refl base w).alloc hle (.cells #[.string ⟨#[62]⟩,.string ⟨#[45,62]⟩] 9);have hEa:=hE.below hBa;have hsca:=hsc.below ((Below.refl _ w).alloc (Nat.le_refl _) (.cells #[.string ⟨#[62]⟩,.string ⟨#[45,62]⟩] 9));obtain⟨_,v0,hh0,hT0⟩:=id hsc;obtain⟨⟨c0,c1,c2⟩,c5⟩:=aN hh0;have hlen:(S.drop 4).length≤1000000000:=by simp;omega
 have hi1:=Lib.hid (fun W hS=>SY (S.drop 4) [45,45,62] hlen W hS);have hi2:=Lib.hid (fun W hS=>SY (S.drop 4) [45,45,33,62] hlen W hS);have hn:=Lib.hid (LV base b S t e l 4 4 rfl hs4 hs ht hl _ hsca hEa);have hSa:=hEa.std;have q1:=Lib.hid (fun W=>kY (S.drop 4) [62] W);have q2:=Lib.hid (fun W=>kY (S.drop 4) [45,62] W);rw[hp0]at q1;rw[hp]at q2;have he':=Lib.hid he;rename_i he0;clear he he0;generalize Lib.index (S.drop 4) [45,45,62]=i at *;generalize Lib.index (S.drop 4) [45,45,33,62]=k at *;generalize jM (S.drop 4) e=u at *;obtain⟨u1,u2⟩:=u;simp only at hn⊢;generalize hsd:S.drop 4=s at *;have h4I:(4:Int)≤S.length:=by omega
 obtain⟨x0,x1,x2,x3⟩:=iB (bP w #[.string ⟨#[62]⟩,.string ⟨#[45,62]⟩] 9);go_enter Tryz.func192,Tryz.ntmps192;go_wp2
 go_loop [15] (fun v=>∃(j:Nat),v=.int .i64 j∧j≤2) (fun v=>2 - (intOf v).toNat)
 case atStart=>exact⟨0,rfl,by omega⟩
 case round=>
  obtain⟨j,rfl,hj⟩:=hrel
  rcases(by omega:j=0∨j=1∨j=2)with rfl|rfl|rfl
  ·go_wp2_with(go_at_call 94;((with_reducible refine(q1.out _).mono ?_);rintro e w3 ⟨rfl,rfl⟩))
   exact⟨⟨1,rfl,by omega⟩,by simp[intOf]⟩
  ·go_wp2_with(go_at_call 94;((with_reducible refine(q2.out _).mono ?_);rintro e w3 ⟨rfl,rfl⟩))
   exact⟨⟨2,rfl,by omega⟩,by simp[intOf]⟩
  ·by_cases hc:0≤k∧(i<0∨k<i)
   ·obtain rfl:e=[45,45,33,62]:=by rw[he'.out,if_pos hc]
    obtain⟨hc1,hc2⟩:=hc
    rcases Int.lt_or_le i 0 with hi0|hi0
    ·go_wp2_with(first
      |(go_at_call 141;first
         |((with_reducible refine(hi1.out _ hSa).mono ?_);rintro e w3 ⟨rfl,rfl⟩)
         |((with_reducible refine(hi2.out _ hSa).mono ?_);rintro e w3 ⟨rfl,rfl⟩))
      |(go_at_call 194;((with_reducible refine(hn.out).mono ?_);rintro e w4 ⟨rfl,hsc4,hb4⟩)))
     go_end0;exact⟨rfl,hsc4,hBa.trans hb4⟩
    ·have hki:k<i:=by omega
     go_wp2_with(first
      |(go_at_call 141;first
         |((with_reducible refine(hi1.out _ hSa).mono ?_);rintro e w3 ⟨rfl,rfl⟩)
         |((with_reducible refine(hi2.out _ hSa).mono ?_);rintro e w3 ⟨rfl,rfl⟩))
      |(go_at_call 194;((with_reducible refine(hn.out).mono ?_);rintro e w4 ⟨rfl,hsc4,hb4⟩)))
     go_end0;exact⟨rfl,hsc4,hBa.trans hb4⟩
   ·obtain rfl:e=[45,45,62]:=by rw[he'.out,if_neg hc]
    have hc':=Lib.hid hc;rename_i hc0;clear hc0 hc
    rcases Int.lt_or_le k 0 with hk0|hk0
    ·go_wp2_with(first
      |(go_at_call 141;first
         |((with_reducible refine(hi1.out _ hSa).mono ?_);rintro e w3 ⟨rfl,rfl⟩)
         |((with_reducible refine(hi2.out _ hSa).mono ?_);rintro e w3 ⟨rfl,rfl⟩))
      |(go_at_call 194;((with_reducible refine(hn.out).mono ?_);rintro e w4 ⟨rfl,hsc4,hb4⟩)))
     go_end0;exact⟨rfl,hsc4,hBa.trans hb4⟩
    ·have hi0:0≤i:=by
      rcases Int.lt_or_le i 0 with e|e
      ·exact absurd ⟨hk0,.inl e⟩ hc'.out
      ·exact e
     have hik:i≤k:=by
      rcases Int.lt_or_le k i with e|e
      ·exact absurd ⟨hk0,.inr e⟩ hc'.out
      ·exact e
     go_wp2_with(first
      |(go_at_call 141;first
         |((with_reducible refine(hi1.out _ hSa).mono ?_);rintro e w3 ⟨rfl,rfl⟩)
         |((with_reducible refine(hi2.out _ hSa).mono ?_);rintro e w3 ⟨rfl,rfl⟩))
      |(go_at_call 194;((with_reducible refine(hn.out).mono ?_);rintro e w4 ⟨rfl,hsc4,hb4⟩)))
     go_end0;exact⟨rfl,hsc4,hBa.trans hb4⟩
theorem Us(base b:Nat)(S t:Txt)(l:List Tok)(hs:S.length≤1000000000)(hs4:4≤S.length)(ht:t.length≤1000000000)(hl:l.length≤10000000000)(w:World)(hsc:Sc w base b S t l)(hE:Env w base):
 Calls Tryz.prog 192 #[.pointer (some ⟨b,0,none⟩)] w fun r w'=>r=.returned (.tuple #[])∧Sc w' base b (jk (S.drop 4)).2 [] ((l++fE t)++(jk (S.drop 4)).1)∧Below base w w':=by
 unfold jk;cases h0:Lib.hasPrefix (S.drop 4) [62]with
 |true=>exact Qa base b S t l hs hs4 ht hl h0 w hsc hE
 |false=>
  cases h1:Lib.hasPrefix (S.drop 4) [45,62]with
  |true=>exact Qb base b S t l hs hs4 ht hl h0 h1 w hsc hE
  |false=>exact Qc base b S t l hs hs4 ht hl h0 h1 _ rfl w hsc hE
end Go.Proofs.YtkcmghlhpbepcaaGreatDoor
