/- Lemmas and walks, part 19. -/
import Derived.Test.YtkcmghlhpbepcaaGreatDoorWI18
set_option linter.unusedVariables false
set_option linter.unusedSimpArgs false
set_option maxHeartbeats 8000000
set_option maxRecDepth 100000
namespace Go.Proofs.YtkcmghlhpbepcaaGreatDoor
open Go.RowKit Go.Proofs
def Env(w:World)(base:Nat):Prop:=∃w0,Std w0∧w0.heap.size=base∧Below base w0 w
theorem Env.std{w:World}{base:Nat}(h:Env w base):Std w:=by
 obtain⟨w0,h1,rfl,h3⟩:=h;exact h1.below h3
theorem Env.below{w w':World}{base:Nat}(h:Env w base)(hb:Below base w w'):Env w' base:=by
 obtain⟨w0,h1,h2,h3⟩:=h;exact⟨w0,h1,h2,h3.trans hb⟩
theorem Env.le{w:World}{base:Nat}(h:Env w base):base≤w.heap.size:=by
 obtain⟨w0,h1,rfl,h3⟩:=h;exact h3.size
theorem jL{w w':World}{base:Nat}(hb:Below w.heap.size w w')(h:base≤w.heap.size):Below base w w':=⟨hb.os,hb.tape,hb.output,hb.size,fun i hi=>hb.block i (by omega)⟩
theorem aN{w:World}{b:Nat}{v0 v1 v2:Value}{t:TypeId}(h:w.heap[b]?=some (.cells #[v0,v1,v2] t (0,0))):
 (w.cell? ⟨b,0,none⟩=some v0∧w.cell? ⟨b,1,none⟩=some v1∧w.cell? ⟨b,2,none⟩=some v2)∧(∀j,w.frozen? ⟨b,j,none⟩=false):=by
 refine⟨⟨?_,?_,?_⟩,fun j=>frozen_of_row w b j _ _ h⟩<;>(rw[Lib.cell_of_heap h];rfl)
theorem cutg_c(s e:Txt)(hs:s.length≤1000000000)(w:World)(hS:Std w):
 Calls Tryz.prog 188 #[.string ⟨s.toArray⟩,.string ⟨e.toArray⟩] w fun r w'=>r=.returned (.tuple #[.string ⟨(Lib.cut s e).1.toArray⟩,.string ⟨(Lib.cut s e).2.1.toArray⟩,.bool (Lib.cut s e).2.2])∧Below w.heap.size w w':=by
 obtain⟨m,hm⟩:=hS.maxLen;refine(Tryz.strings_Cut ⟨s.toArray⟩ ⟨e.toArray⟩ m w (by rw[rU];omega) hm).mono ?_;rintro e w' ⟨rfl,n,rfl⟩;refine⟨?_,below_drewN (Below.refl _ _) n⟩;rw[iF,iF]
theorem Ur{s e:Txt}(h:(Lib.cut s e).2.2=false):Lib.cut s e=(s,[],false):=by
 unfold Lib.cut at *
 split
 ·rename_i h0
  rw[if_pos h0]at h;simp at h
 ·rfl
theorem SS(base b:Nat)(s t e:Txt)(l:List Tok)(hs:s.length≤1000000000)(w:World)(hsc:Sc w base b s t l)(hE:Env w base):
 Calls Tryz.prog 214 #[.pointer (some ⟨b,0,none⟩),.string ⟨e.toArray⟩] w fun r w'=>r=.returned (.string ⟨(jM s e).1.toArray⟩)∧Sc w' base b (jM s e).2 t l∧Below base w w':=by
 have hS:=hE.std;have hle:=hE.le;have hbb:=hsc.1;have hcut:=Lib.hid (fun W hS=>cutg_c s e hs W hS);unfold jM;have hcf:=Lib.hid (fun h=>Ur (s:=s) (e:=e) h);generalize Lib.cut s e=c at *;obtain⟨v1,v2,fd⟩:=c;obtain⟨_,v,hh,hT⟩:=id hsc;obtain⟨⟨c0,c1,c2⟩,c5⟩:=aN hh;cases fd with
 |true=>
  go_enter Tryz.func214,Tryz.ntmps214
  go_wp2_with(go_at_call 188;((with_reducible refine(hcut.out _ hS).mono ?_);rintro e w2 ⟨rfl,hb2⟩;have hsc2:=hsc.below hb2;obtain⟨_,v2',hh2,hT2⟩:=id hsc2;obtain⟨⟨d0,d1,d2⟩,d5⟩:=aN hh2))
  go_ret;exact⟨rfl,hsc2.tK v2,aH (jL hb2 hle) hbb _⟩
 |false=>
  have hcc:=hcf.out rfl;simp only[Prod.mk.injEq]at hcc;obtain⟨rfl,rfl,_⟩:=hcc;go_enter Tryz.func214,Tryz.ntmps214
  go_wp2_with(go_at_call 188;((with_reducible refine(hcut.out _ hS).mono ?_);rintro e w2 ⟨rfl,hb2⟩;have hsc2:=hsc.below hb2;obtain⟨_,v2',hh2,hT2⟩:=id hsc2;obtain⟨⟨d0,d1,d2⟩,d5⟩:=aN hh2))
  go_ret;exact⟨rfl,hsc2.tK [],aH (jL hb2 hle) hbb _⟩
theorem Oe(s:Txt)(hs:s.length≤1000000000)(w:World):
 Calls Tryz.prog 193 #[.string ⟨s.toArray⟩] w fun r w'=>r=.returned (.bool (jN s))∧Below w.heap.size w w':=by
 have h1:=Lib.hid (fun W=>yx (s.take 8) [33,100,111,99,116,121,112,101] (by simp;omega) (by simp) W);have h2:=Lib.hid (fun W=>Hw (s.drop 8) W);have hd:Hid (jN s=(decide (8≤s.length)&&Ap (s.take 8) [33,100,111,99,116,121,112,101]&& !gP (s.drop 8))):=rfl;generalize jN s=r at *;generalize Ap (s.take 8) [33,100,111,99,116,121,112,101]=q at *;generalize gP (s.drop 8)=p at *
 by_cases hl:8≤s.length
 ·have hlI:(8:Int)≤s.length:=by omega
  cases q with
  |true=>
   have hr:=hd.out;simp only[hl,decide_true,Bool.true_and]at hr;have hr:=Lib.hid hr;rename_i hr0;clear hr0;go_enter Tryz.func193,Tryz.ntmps193
   go_wp2_with(first
    |(go_at_call 153;((with_reducible refine(h1.out _).mono ?_);rintro e w1 ⟨rfl,hb⟩))
    |(go_at_call 190;((with_reducible refine(h2.out _).mono ?_);rintro e w2 ⟨rfl,rfl⟩)))
   go_ret;rw[hr.out];exact⟨rfl,hb⟩
  |false=>
   have hr:=hd.out;simp only[Bool.and_false,Bool.false_and]at hr;subst hr;go_enter Tryz.func193,Tryz.ntmps193
   go_wp2_with(first
    |(go_at_call 153;((with_reducible refine(h1.out _).mono ?_);rintro e w1 ⟨rfl,hb⟩))
    |(go_at_call 190;((with_reducible refine(h2.out _).mono ?_);rintro e w2 ⟨rfl,rfl⟩)))
   go_ret;exact⟨rfl,hb⟩
 ·have hlI:¬(8:Int)≤s.length:=by omega
  have hr:=hd.out;simp only[hl,decide_false,Bool.false_and]at hr;subst hr;go_enter Tryz.func193,Tryz.ntmps193;go_wp2;go_ret;exact⟨rfl,Below.refl _ _⟩
theorem nV.len{w:World}{base:Nat}{v:Value}{l:List Tok}(h:nV w base v l):∃a c,v=.slice a l.length c:=by
 obtain⟨ps,h1,h2,h3⟩:=h
 rcases h2.2 with⟨rfl,h0⟩|⟨g,cap,cur,rfl,_⟩
 ·exact⟨none,0,by rw[h0]⟩
 ·exact⟨_,_,rfl⟩
theorem nV.alloc{w:World}{base:Nat}{v:Value}{l:List Tok}(h:nV w base v l)(o:Obj):nV (w.alloc o) base v l:=h.below ((Below.refl _ _).alloc (Nat.le_refl _) o)
theorem tL{w:World}{ops:Array Oper}{o:Oper}{a:Act}{K:Act→World→Prop}{Q:Exit→Act→World→Prop}{E:Prop}(hgd:o.guard=none)(sl x:Operand)
 (ho:o.op=.call {callee:=.builtin .append,args:=#[sl,x],argTypes:=#[26,26] })
 (base g:Nat) (v va:Value) (l:List Tok) (t:Tok) (hs:a.eval sl=v) (hown:nV w base v l) (hx:a.eval x=.slice (some ⟨g,0,none⟩) 1 1)
 (hc0:w.cell? ⟨g,0,none⟩=some (.int .i64 t.kind)) (hc1:w.cell? ⟨g,1,none⟩=some (.string ⟨t.name.toArray⟩)) (hc2:w.cell? ⟨g,2,none⟩=some (.string ⟨t.data.toArray⟩)) (hc3:w.cell? ⟨g,3,none⟩=some va) (hc4:w.cell? ⟨g,4,none⟩=some (.bool t.self))
 (hat:jy w base va t.attrs) (hlen:l.length+1≤1000000000000) (hbase:base≤w.heap.size)
 (h:∀v' w',nV w' base v' (l++[t])→w.grownBy w' v.ownBlock→Below base w w'→(∀(b:Nat) (cur:Array Value) (e:TypeId) (fz:Nat×Nat),w.heap[b]?=some (.cells cur e fz)→e≠65→w'.heap[b]?=some (.cells cur e fz))→K (a.put o.dst v') w'):if Region.wanted o (yielded ops a.tmps)=true then Oper.wp Tryz.prog o a w K Q else E:=by
 have hw:Region.wanted o (yielded ops a.tmps)=true:=by simp[Region.wanted,hgd]
 rw[if_pos hw];obtain⟨i,z,hi,hz,h2,h3,hzs⟩:=SV;obtain⟨ps,k1,k2,k3⟩:=hown;refine wp_append_own _ sl x 26 ho base 65 i z 5 72 Tryz.underlying26 hi hz h2 h3 hzs (by decide) v l.length _ hs k2 ⟨g,0,none⟩ 1 1 (yX t va) hx rfl ?_ ?_ (by unfold maxLen;omega) (by omega) hbase ?_
 ·intro j u hj
  rw[addr_add]
  match j,hj with
  |0,hj=>simp[yX]at hj;subst hj;exact hc0
  |1,hj=>simp[yX]at hj;subst hj;exact hc1
  |2,hj=>simp[yX]at hj;subst hj;exact hc2
  |3,hj=>simp[yX]at hj;subst hj;exact hc3
  |4,hj=>simp[yX]at hj;subst hj;exact hc4
 ·intro u hu
  simp[yX]at hu
  rcases hu with rfl|rfl|rfl|rfl|rfl
  ·rfl
  ·rfl
  ·rfl
  ·exact SX hat
  ·rfl
 ·intro v' w' hown' hgrow _
  refine h v' w' ⟨ps++[(t,va)],by simp[k1],by simpa using hown',?_⟩ hgrow ((Below.refl base w).grown hgrow hbase (fun k hk=>qd k2 hk)) ?_
  ·intro p hp
   rw[List.mem_append]at hp
   rcases hp with hp|hp
   ·exact wu (k3 p hp) k2 hgrow (by decide)
   ·simp at hp
    subst hp;exact wu hat k2 hgrow (by decide)
  ·intro b cur e fz hb hne
   rw[hgrow.block b (Array.getElem?_eq_some_iff.1 hb).1 (fun e0=>own_ne k2 hb hne e0.symm)];exact hb
theorem rO(base b:Nat)(s t:Txt)(l:List Tok)(ht:t.length≤1000000000)(hl:l.length≤100000000000)(w:World)(hsc:Sc w base b s t l)(hE:Env w base):
 Calls Tryz.prog 159 #[.pointer (some ⟨b,0,none⟩)] w fun r w'=>r=.returned (.tuple #[])∧Sc w' base b s [] (l++fE t)∧Below base w w':=by
 have hS:=hE.std;have hle:=hE.le;have hbb:=hsc.1;obtain⟨_,v,hh,hT⟩:=id hsc;obtain⟨ad,cp,rfl⟩:=hT.len;obtain⟨⟨c0,c1,c2⟩,c5⟩:=aN hh;cases t with
 |nil=>
  go_enter Tryz.func159,Tryz.ntmps159;go_wp2;go_end0;refine⟨rfl,?_,aH (Below.refl _ _) hbb _⟩;have:=hsc.JI [];simpa [fE]using this
 |cons c u=>
  obtain⟨q,hq⟩:∃q,c::u=q:=⟨_,rfl⟩
  have htl:fE (c::u)=[⟨0,[],[],jc (c::u),false⟩]:=by simp[fE]
  have hne:(q==[])=false:=by rw[←hq];rfl
  rw[htl];rw[hq]at hsc hh c1 ht⊢;clear htl hq;have hdec:=Lib.hid (fun W hS=>vM q ht W hS);generalize jc q=dq at *;have hSd:=hS.drew;have hscd:=hsc.below (Below.refl _ w).drew;go_enter Tryz.func159,Tryz.ntmps159;go_wp2
  go_region_law (first
   |(refine tL rfl (.tmp 11) (.tmp 18) rfl base w2.heap.size (.slice ad l.length cp) (.slice none 0 0) l ⟨0,[],[],dq,false⟩ rfl hT3 rfl k0 k1 k2 k3 k4 (jy.nil _ _) (by omega) hle3 ?_;intro v5 w5 hT5 hg5 hb5 hk5;obtain⟨ad5,cp5,rfl⟩:=hT5.len;rw[show(l++[(⟨0,[],[],dq,false⟩:Tok)]).length=l.length+1 from List.length_append]at hT5;have hh5:=hk5 _ _ _ _ hh3 (by decide);obtain⟨⟨e0,e1,e2⟩,e5⟩:=aN hh5;have hB5:=hB3.trans hb5)
   |(go_simp;go_at_call 155;((with_reducible refine(hdec.out _ hSd).mono ?_);rintro e w2 ⟨rfl,hb2⟩;have hh2:=aT (w:=w.drew) hh hb2;have hT2:=(hT.below (Below.refl _ w).drew).below hb2;obtain⟨⟨d0,d1,d2⟩,d5⟩:=aN hh2;have hT3:=hT2.alloc (.cells #[.int .i64 0,.string ⟨#[]⟩,.string ⟨dq.toArray⟩,.slice none 0 0,.bool false] 65);have hh3:=dP hh2 (.cells #[.int .i64 0,.string ⟨#[]⟩,.string ⟨dq.toArray⟩,.slice none 0 0,.bool false] 65);obtain⟨⟨k0,k1,k2,k3,k4⟩,k5⟩:=aW (bP w2 #[.int .i64 0,.string ⟨#[]⟩,.string ⟨dq.toArray⟩,.slice none 0 0,.bool false] 65);obtain⟨⟨f0,f1,f2⟩,f5⟩:=aN hh3;have hB2:=bB ((Below.refl base w).drew) hle hb2;have hle2:base≤w2.heap.size:=Nat.le_trans hle hB2.size;have hB3:=hB2.alloc hle2 (.cells #[.int .i64 0,.string ⟨#[]⟩,.string ⟨dq.toArray⟩,.slice none 0 0,.bool false] 65);have hle3:base≤(w2.alloc (.cells #[.int .i64 0,.string ⟨#[]⟩,.string ⟨dq.toArray⟩,.slice none 0 0,.bool false] 65)).heap.size:=(by rw[World.size_alloc];omega))))
  all_goals
   have hfin:=(Sc.wz (l:=l) hbb hh5 hT5).JI [];have hbf:=fun x y=>aH (j:=1) (aH (j:=2) hB5 hbb x) hbb y
   go_wp2;go_end0;exact⟨rfl,hfin,hbf _ _⟩
theorem cut_le1(s e:Txt):(Lib.cut s e).1.length≤s.length:=by
 unfold Lib.cut
 split
 ·simp
  omega
 ·simp
theorem LV(base b:Nat)(s t e:Txt)(l:List Tok)(k:Nat)(fr:Int)(hfr:fr=k)(hk:k≤s.length)(hs:s.length≤1000000000)(ht:t.length≤1000000000)(hl:l.length≤10000000000)(w:World)(hsc:Sc w base b s t l)(hE:Env w base):
 Calls Tryz.prog 194 #[.pointer (some ⟨b,0,none⟩),.int .i64 3,.int .i64 fr,.string ⟨e.toArray⟩] w fun r w'=>r=.returned (.tuple #[])∧Sc w' base b (jM (s.drop k) e).2 [] ((l++fE t)++[⟨3,[],[],(jM (s.drop k) e).1,false⟩])∧Below base w w':=by
 have hbb:=hsc.1;have hc1:=Lib.hid (rO base b s t l ht (by omega) w hsc hE);have hl1:(l++fE t).length≤100000000000:=by unfold fE;split<;>simp<;>omega
 generalize l++fE t=l1 at *;have hc2:=Lib.hid (fun W h1 h2=>SS base b (s.drop k) [] e l1 (by simp;omega) W h1 h2);generalize jM (s.drop k) e=u at *;obtain⟨u1,u2⟩:=u;subst hfr;have hkI:(k:Int)≤s.length:=by omega
 have hsd:s.length≤1000000000:=hs;go_enter Tryz.func194,Tryz.ntmps194
 go_wp2_with(first
  |(go_at_call 159;((with_reducible refine(hc1.out).mono ?_);rintro e w1 ⟨rfl,hsc1,hb1⟩;have hE1:=hE.below hb1;obtain⟨_,v1,hh1,hT1⟩:=id hsc1;obtain⟨⟨d0,d1,d2⟩,d5⟩:=aN hh1;have hE1':=hE1.below (aH (j:=0) (Below.refl base w1) hbb (.string ⟨(s.drop k).toArray⟩));have hsc1':=hsc1.tK (s.drop k)))
  |(go_at_call 214;((with_reducible refine(hc2.out _ hsc1' hE1').mono ?_);rintro e w2 ⟨rfl,hsc2,hb2⟩;obtain⟨_,v2,hh2,hT2⟩:=id hsc2;obtain⟨ad2,cp2,rfl⟩:=hT2.len;obtain⟨⟨f0,f1,f2⟩,f5⟩:=aN hh2;have hE2:=hE1'.below hb2;have hle2:=hE2.le;have hB2:=(aH (j:=0) hb1 hbb (.string ⟨(s.drop k).toArray⟩)).trans hb2;obtain⟨⟨k0,k1,k2,k3,k4⟩,k5⟩:=aW (bP w2 #[.int .i64 3,.string ⟨#[]⟩,.string ⟨u1.toArray⟩,.slice none 0 0,.bool false] 65);have hT3:=hT2.alloc (.cells #[.int .i64 3,.string ⟨#[]⟩,.string ⟨u1.toArray⟩,.slice none 0 0,.bool false] 65);have hh3:=dP hh2 (.cells #[.int .i64 3,.string ⟨#[]⟩,.string ⟨u1.toArray⟩,.slice none 0 0,.bool false] 65);have hB3:=hB2.alloc hle2 (.cells #[.int .i64 3,.string ⟨#[]⟩,.string ⟨u1.toArray⟩,.slice none 0 0,.bool false] 65);have hle3:base≤(w2.alloc (.cells #[.int .i64 3,.string ⟨#[]⟩,.string ⟨u1.toArray⟩,.slice none 0 0,.bool false] 65)).heap.size:=(by rw[World.size_alloc];omega)))
  |(at_builtin;refine uV rfl (.tmp 31) (.tmp 35) rfl base w2.heap.size (.slice ad2 l1.length cp2) (.slice none 0 0) l1 ⟨3,[],[],u1,false⟩ rfl hT3 rfl k0 k1 k2 k3 k4 (jy.nil _ _) (by omega) hle3 ?_;intro v5 w5 hT5 hg5 hb5 hk5;obtain⟨ad5,cp5,rfl⟩:=hT5.len;rw[show(l1++[(⟨3,[],[],u1,false⟩:Tok)]).length=l1.length+1 from List.length_append]at hT5;have hh5:=hk5 _ _ _ _ hh3 (by decide);obtain⟨⟨e0,e1,e2⟩,e5⟩:=aN hh5;have hB5:=hB3.trans hb5))
 go_end0;exact⟨rfl,Sc.wz (l:=l1) hbb hh5 hT5,aH hB5 hbb _⟩
theorem note_c4(base b:Nat)(s t e:Txt)(l:List Tok)(k:Nat)(fr:Int)(hfr:fr=k)(hk:k≤s.length)(hs:s.length≤1000000000)(ht:t.length≤1000000000)(hl:l.length≤10000000000)(w:World)(hsc:Sc w base b s t l)(hE:Env w base):
 Calls Tryz.prog 194 #[.pointer (some ⟨b,0,none⟩),.int .i64 4,.int .i64 fr,.string ⟨e.toArray⟩] w fun r w'=>r=.returned (.tuple #[])∧Sc w' base b (jM (s.drop k) e).2 [] ((l++fE t)++[⟨4,[],[],jS (jM (s.drop k) e).1,false⟩])∧Below base w w':=by
 have hbb:=hsc.1;have hc1:=Lib.hid (rO base b s t l ht (by omega) w hsc hE);have hl1:(l++fE t).length≤100000000000:=by unfold fE;split<;>simp<;>omega
 generalize l++fE t=l1 at *;have hc2:=Lib.hid (fun W h1 h2=>SS base b (s.drop k) [] e l1 (by simp;omega) W h1 h2);have hul:(jM (s.drop k) e).1.length≤(s.drop k).length:=cut_le1 _ _;rw[List.length_drop]at hul;generalize jM (s.drop k) e=u at *;obtain⟨u0,u2⟩:=u;have hc3:=Lib.hid (fun W=>ftrim_c u0 (by simp only at hul;omega) W);have hc2':=Lib.hid hc2.out;simp only;generalize jS u0=u1 at *;subst hfr;have hkI:(k:Int)≤s.length:=by omega
 have hsd:s.length≤1000000000:=hs;go_enter Tryz.func194,Tryz.ntmps194
 go_wp2_with(first
  |(go_at_call 159;((with_reducible refine(hc1.out).mono ?_);rintro e w1 ⟨rfl,hsc1,hb1⟩;have hE1:=hE.below hb1;obtain⟨_,v1,hh1,hT1⟩:=id hsc1;obtain⟨⟨d0,d1,d2⟩,d5⟩:=aN hh1;have hE1':=hE1.below (aH (j:=0) (Below.refl base w1) hbb (.string ⟨(s.drop k).toArray⟩));have hsc1':=hsc1.tK (s.drop k)))
  |(go_at_call 214;((with_reducible refine(hc2.out _ hsc1' hE1').mono ?_);rintro e w2 ⟨rfl,hsc2,hb2⟩;obtain⟨_,v2,hh2,hT2⟩:=id hsc2;obtain⟨ad2,cp2,rfl⟩:=hT2.len;obtain⟨⟨f0,f1,f2⟩,f5⟩:=aN hh2;have hE2:=hE1'.below hb2;have hle2:=hE2.le;have hB2:=(aH (j:=0) hb1 hbb (.string ⟨(s.drop k).toArray⟩)).trans hb2;obtain⟨⟨k0,k1,k2,k3,k4⟩,k5⟩:=aW (bP w2 #[.int .i64 4,.string ⟨#[]⟩,.string ⟨u1.toArray⟩,.slice none 0 0,.bool false] 65);have hT3:=hT2.alloc (.cells #[.int .i64 4,.string ⟨#[]⟩,.string ⟨u1.toArray⟩,.slice none 0 0,.bool false] 65);have hh3:=dP hh2 (.cells #[.int .i64 4,.string ⟨#[]⟩,.string ⟨u1.toArray⟩,.slice none 0 0,.bool false] 65);have hB3:=hB2.alloc hle2 (.cells #[.int .i64 4,.string ⟨#[]⟩,.string ⟨u1.toArray⟩,.slice none 0 0,.bool false] 65);have hle3:base≤(w2.alloc (.cells #[.int .i64 4,.string ⟨#[]⟩,.string ⟨u1.toArray⟩,.slice none 0 0,.bool false] 65)).heap.size:=(by rw[World.size_alloc];omega)))
  |(go_at_call 215;((with_reducible refine(hc3.out _).mono ?_);rintro e w3 ⟨rfl,rfl⟩))
  |(at_builtin;refine uV rfl (.tmp 31) (.tmp 35) rfl base w2.heap.size (.slice ad2 l1.length cp2) (.slice none 0 0) l1 ⟨4,[],[],u1,false⟩ rfl hT3 rfl k0 k1 k2 k3 k4 (jy.nil _ _) (by omega) hle3 ?_;intro v5 w5 hT5 hg5 hb5 hk5;obtain⟨ad5,cp5,rfl⟩:=hT5.len;rw[show(l1++[(⟨4,[],[],u1,false⟩:Tok)]).length=l1.length+1 from List.length_append]at hT5;have hh5:=hk5 _ _ _ _ hh3 (by decide);obtain⟨⟨e0,e1,e2⟩,e5⟩:=aN hh5;have hB5:=hB3.trans hb5))
 go_end0;exact⟨rfl,Sc.wz (l:=l1) hbb hh5 hT5,aH hB5 hbb _⟩
end Go.Proofs.YtkcmghlhpbepcaaGreatDoor
