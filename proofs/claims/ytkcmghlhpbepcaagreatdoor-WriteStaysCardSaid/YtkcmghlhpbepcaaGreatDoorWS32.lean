/- Lemmas and walks, part 32. -/
import Derived.Test.YtkcmghlhpbepcaaGreatDoorWS31
set_option linter.unusedVariables false
set_option linter.unusedSimpArgs false
set_option maxHeartbeats 8000000
set_option maxRecDepth 100000
namespace Go.Proofs.YtkcmghlhpbepcaaGreatDoor
open Go.RowKit Go.Proofs
theorem cut_le1(s e:Txt):(Lib.cut s e).1.length≤s.length:=by
 unfold Lib.cut
 split
 ·simp
  omega
 ·simp
theorem J5(base b:Nat)(s t e:Txt)(l:List Tok)(k:Nat)(fr:Int)(hfr:fr=k)(hk:k≤s.length)(hs:s.length≤1000000000)(ht:t.length≤1000000000)(hl:l.length≤10000000000)(w:World)(hsc:Sc w base b s t l)(hE:Env w base):
 Calls Tryz.prog 194 #[.pointer (some ⟨b,0,none⟩),.int .i64 3,.int .i64 fr,.string ⟨e.toArray⟩] w fun r w'=>r=.returned (.tuple #[])∧Sc w' base b (jB (s.drop k) e).2 [] ((l++eO t)++[⟨3,[],[],(jB (s.drop k) e).1,false⟩])∧Below base w w':=by
 have hbb:=hsc.1;have hc1:=Lib.hid (qD base b s t l ht (by omega) w hsc hE);have hl1:(l++eO t).length≤100000000000:=by unfold eO;split<;>simp<;>omega
 generalize l++eO t=l1 at *;have hc2:=Lib.hid (fun W h1 h2=>Qq base b (s.drop k) [] e l1 (by simp;omega) W h1 h2);generalize jB (s.drop k) e=u at *;obtain⟨u1,u2⟩:=u;subst hfr;have hkI:(k:Int)≤s.length:=by omega
 have hsd:s.length≤1000000000:=hs;go_enter Tryz.func194,Tryz.ntmps194
 go_wp2_with(first
  |(go_at_call 159;((with_reducible refine(hc1.out).mono ?_);rintro e w1 ⟨rfl,hsc1,hb1⟩;have hE1:=hE.below hb1;obtain⟨_,v1,hh1,hT1⟩:=id hsc1;obtain⟨⟨d0,d1,d2⟩,d5⟩:=aN hh1;have hE1':=hE1.below (aH (j:=0) (Below.refl base w1) hbb (.string ⟨(s.drop k).toArray⟩));have hsc1':=hsc1.rM (s.drop k)))
  |(go_at_call 214;((with_reducible refine(hc2.out _ hsc1' hE1').mono ?_);rintro e w2 ⟨rfl,hsc2,hb2⟩;obtain⟨_,v2,hh2,hT2⟩:=id hsc2;obtain⟨ad2,cp2,rfl⟩:=hT2.len;obtain⟨⟨f0,f1,f2⟩,f5⟩:=aN hh2;have hE2:=hE1'.below hb2;have hle2:=hE2.le;have hB2:=(aH (j:=0) hb1 hbb (.string ⟨(s.drop k).toArray⟩)).trans hb2;obtain⟨⟨k0,k1,k2,k3,k4⟩,k5⟩:=aT (bM w2 #[.int .i64 3,.string ⟨#[]⟩,.string ⟨u1.toArray⟩,.slice none 0 0,.bool false] 65);have hT3:=hT2.alloc (.cells #[.int .i64 3,.string ⟨#[]⟩,.string ⟨u1.toArray⟩,.slice none 0 0,.bool false] 65);have hh3:=dN hh2 (.cells #[.int .i64 3,.string ⟨#[]⟩,.string ⟨u1.toArray⟩,.slice none 0 0,.bool false] 65);have hB3:=hB2.alloc hle2 (.cells #[.int .i64 3,.string ⟨#[]⟩,.string ⟨u1.toArray⟩,.slice none 0 0,.bool false] 65);have hle3:base≤(w2.alloc (.cells #[.int .i64 3,.string ⟨#[]⟩,.string ⟨u1.toArray⟩,.slice none 0 0,.bool false] 65)).heap.size:=(by rw[World.size_alloc];omega)))
  |(at_builtin;refine sI rfl (.tmp 31) (.tmp 35) rfl base w2.heap.size (.slice ad2 l1.length cp2) (.slice none 0 0) l1 ⟨3,[],[],u1,false⟩ rfl hT3 rfl k0 k1 k2 k3 k4 (ji.nil _ _) (by omega) hle3 ?_;intro v5 w5 hT5 hg5 hb5 hk5;obtain⟨ad5,cp5,rfl⟩:=hT5.len;rw[show(l1++[(⟨3,[],[],u1,false⟩:Tok)]).length=l1.length+1 from List.length_append]at hT5;have hh5:=hk5 _ _ _ _ hh3 (by decide);obtain⟨⟨e0,e1,e2⟩,e5⟩:=aN hh5;have hB5:=hB3.trans hb5))
 go_end0;exact⟨rfl,Sc.uE (l:=l1) hbb hh5 hT5,aH hB5 hbb _⟩
theorem note_c4(base b:Nat)(s t e:Txt)(l:List Tok)(k:Nat)(fr:Int)(hfr:fr=k)(hk:k≤s.length)(hs:s.length≤1000000000)(ht:t.length≤1000000000)(hl:l.length≤10000000000)(w:World)(hsc:Sc w base b s t l)(hE:Env w base):
 Calls Tryz.prog 194 #[.pointer (some ⟨b,0,none⟩),.int .i64 4,.int .i64 fr,.string ⟨e.toArray⟩] w fun r w'=>r=.returned (.tuple #[])∧Sc w' base b (jB (s.drop k) e).2 [] ((l++eO t)++[⟨4,[],[],jK (jB (s.drop k) e).1,false⟩])∧Below base w w':=by
 have hbb:=hsc.1;have hc1:=Lib.hid (qD base b s t l ht (by omega) w hsc hE);have hl1:(l++eO t).length≤100000000000:=by unfold eO;split<;>simp<;>omega
 generalize l++eO t=l1 at *;have hc2:=Lib.hid (fun W h1 h2=>Qq base b (s.drop k) [] e l1 (by simp;omega) W h1 h2);have hul:(jB (s.drop k) e).1.length≤(s.drop k).length:=cut_le1 _ _;rw[List.length_drop]at hul;generalize jB (s.drop k) e=u at *;obtain⟨u0,u2⟩:=u;have hc3:=Lib.hid (fun W=>ftrim_c u0 (by simp only at hul;omega) W);have hc2':=Lib.hid hc2.out;simp only;generalize jK u0=u1 at *;subst hfr;have hkI:(k:Int)≤s.length:=by omega
 have hsd:s.length≤1000000000:=hs;go_enter Tryz.func194,Tryz.ntmps194
 go_wp2_with(first
  |(go_at_call 159;((with_reducible refine(hc1.out).mono ?_);rintro e w1 ⟨rfl,hsc1,hb1⟩;have hE1:=hE.below hb1;obtain⟨_,v1,hh1,hT1⟩:=id hsc1;obtain⟨⟨d0,d1,d2⟩,d5⟩:=aN hh1;have hE1':=hE1.below (aH (j:=0) (Below.refl base w1) hbb (.string ⟨(s.drop k).toArray⟩));have hsc1':=hsc1.rM (s.drop k)))
  |(go_at_call 214;((with_reducible refine(hc2.out _ hsc1' hE1').mono ?_);rintro e w2 ⟨rfl,hsc2,hb2⟩;obtain⟨_,v2,hh2,hT2⟩:=id hsc2;obtain⟨ad2,cp2,rfl⟩:=hT2.len;obtain⟨⟨f0,f1,f2⟩,f5⟩:=aN hh2;have hE2:=hE1'.below hb2;have hle2:=hE2.le;have hB2:=(aH (j:=0) hb1 hbb (.string ⟨(s.drop k).toArray⟩)).trans hb2;obtain⟨⟨k0,k1,k2,k3,k4⟩,k5⟩:=aT (bM w2 #[.int .i64 4,.string ⟨#[]⟩,.string ⟨u1.toArray⟩,.slice none 0 0,.bool false] 65);have hT3:=hT2.alloc (.cells #[.int .i64 4,.string ⟨#[]⟩,.string ⟨u1.toArray⟩,.slice none 0 0,.bool false] 65);have hh3:=dN hh2 (.cells #[.int .i64 4,.string ⟨#[]⟩,.string ⟨u1.toArray⟩,.slice none 0 0,.bool false] 65);have hB3:=hB2.alloc hle2 (.cells #[.int .i64 4,.string ⟨#[]⟩,.string ⟨u1.toArray⟩,.slice none 0 0,.bool false] 65);have hle3:base≤(w2.alloc (.cells #[.int .i64 4,.string ⟨#[]⟩,.string ⟨u1.toArray⟩,.slice none 0 0,.bool false] 65)).heap.size:=(by rw[World.size_alloc];omega)))
  |(go_at_call 215;((with_reducible refine(hc3.out _).mono ?_);rintro e w3 ⟨rfl,rfl⟩))
  |(at_builtin;refine sI rfl (.tmp 31) (.tmp 35) rfl base w2.heap.size (.slice ad2 l1.length cp2) (.slice none 0 0) l1 ⟨4,[],[],u1,false⟩ rfl hT3 rfl k0 k1 k2 k3 k4 (ji.nil _ _) (by omega) hle3 ?_;intro v5 w5 hT5 hg5 hb5 hk5;obtain⟨ad5,cp5,rfl⟩:=hT5.len;rw[show(l1++[(⟨4,[],[],u1,false⟩:Tok)]).length=l1.length+1 from List.length_append]at hT5;have hh5:=hk5 _ _ _ _ hh3 (by decide);obtain⟨⟨e0,e1,e2⟩,e5⟩:=aN hh5;have hB5:=hB3.trans hb5))
 go_end0;exact⟨rfl,Sc.uE (l:=l1) hbb hh5 hT5,aH hB5 hbb _⟩
end Go.Proofs.YtkcmghlhpbepcaaGreatDoor
