/- Lemmas and walks, part 35. -/
import Derived.Test.YtkcmghlhpbepcaaGreatDoorT734
set_option linter.unusedVariables false
set_option linter.unusedSimpArgs false
set_option maxHeartbeats 8000000
set_option maxRecDepth 100000
namespace Go.Proofs.YtkcmghlhpbepcaaGreatDoor
open Go.RowKit Go.Proofs
theorem xR{s r:Txt}{tk:Tok}(h:fK s=some (tk,r)):tk=⟨0,tk.name,tk.attrs,[],tk.self⟩∧tk.name.length≤s.length:=by
 unfold fK at h;cases ha:lU [] (s.drop (s.findIdx dY))with
 |none=>rw[ha]at h;simp at h
 |some q=>
  rw[ha]at h;simp only[Option.map_some,Option.some.injEq,Prod.mk.injEq]at h;obtain⟨rfl,_⟩:=h;refine⟨rfl,?_⟩;simp[kQ];omega
theorem tag_N1(base b:Nat)(S t:Txt)(l:List Tok)(hs:S.length≤1000000000)(hs2:1≤S.length)(ht:t.length≤1000000000)(hl:l.length≤9000000000)(ho:fK (S.drop 1)=none)(w:World)(hsc:Sc w base b S t l)(hE:Env w base):
 Calls Tryz.prog 191 #[.pointer (some ⟨b,0,none⟩),.int .i64 1,.int .i64 1] w fun e w'=>e=.returned (.tuple #[])∧Sc w' base b [] [] (l++eT t)∧Below base w w':=by
 have hbb:=hsc.1;have hc1:=Lib.hid (mY base b S t l ht (by omega) w hsc hE);have hl1:(l++eT t).length≤9000000001:=by unfold eT;split<;>simp<;>omega
 generalize l++eT t=l1 at *;have hc2:=Lib.hid (fun W hS=>p9 (S.drop 1) (by simp;omega) W hS);rw[ho]at hc2;simp only[lT,zN]at hc2;rw[List.drop_one]at hc2;have h2I:(1:Int)≤S.length:=by omega
 go_enter Tryz.func191,Tryz.ntmps191
 go_wp2_with(first
  |(go_at_call 159;((with_reducible refine(hc1.out).mono ?_);rintro e w1 ⟨rfl,hsc1,hb1⟩;have hE1:=hE.below hb1;obtain⟨_,v1,hh1,hT1⟩:=id hsc1;obtain⟨ad1,cp1,rfl⟩:=hT1.len;obtain⟨⟨d0,d1,d2⟩,d5⟩:=aH hh1;have hle1:=hE1.le;have hS1:=hE1.std;have hlt1:=jc hh1))
  |(go_at_call 213;((with_reducible refine(hc2.out _ hS1).mono ?_);rintro e w2 ⟨va,rfl,hA2,hb2⟩;have hh2:=bg hh1 hb2;obtain⟨⟨f0,f1,f2⟩,f5⟩:=aH hh2;have hT2:=hT1.below hb2;have sG:=hb2.size;have hne1:b≠w2.heap.size:=(by omega);have hne2:w2.heap.size≠b:=(by omega);have hle2:base≤w2.heap.size:=(by omega);have hh3:=dn hh2 (.cells #[.int .i64 0,.string ⟨#[]⟩,.string ⟨#[]⟩,.slice none 0 0,.bool false] 65);have hT3:=hT2.alloc (.cells #[.int .i64 0,.string ⟨#[]⟩,.string ⟨#[]⟩,.slice none 0 0,.bool false] 65);obtain⟨⟨p0,p1,p2⟩,p5⟩:=aH hh3;have hBb:=bO hb1 hle1 hb2;have hBc:=hBb.alloc hle2 (.cells #[.int .i64 0,.string ⟨#[]⟩,.string ⟨#[]⟩,.slice none 0 0,.bool false] 65))))
 have eF:Sc _ base b S [] l1:=⟨hbb,_,hh3,hT3⟩;refine bodyPost_ret (v:=.tuple #[]) (by simp[results,Tryz.results191,go_sem]) rfl ⟨rfl,(eF.oh []).oh [],aW (aW hBc hbb _) hbb _⟩
theorem tag_c1(base b:Nat)(S t:Txt)(l:List Tok)(hs:S.length≤1000000000)(hs2:1≤S.length)(ht:t.length≤1000000000)(hl:l.length≤9000000000)(w:World)(hsc:Sc w base b S t l)(hE:Env w base):
 Calls Tryz.prog 191 #[.pointer (some ⟨b,0,none⟩),.int .i64 1,.int .i64 1] w fun e w'=>e=.returned (.tuple #[])∧Sc w' base b (tJ 1 (S.drop 1)).2 [] ((l++eT t)++(tJ 1 (S.drop 1)).1)∧Below base w w':=by
 unfold tJ;cases ho:fK (S.drop 1)with
 |none=>
  refine(tag_N1 base b S t l hs hs2 ht hl ho w hsc hE).mono ?_;rintro e w' ⟨h1,h2,h3⟩;exact⟨h1,by simpa using h2,h3⟩
 |some x=>
  obtain⟨tk,r⟩:=x;obtain⟨hf,hnl0⟩:=xR ho;have hnl:tk.name.length≤1000000000:=by simp at hnl0;omega
  have hd:tk.data=[]:=by rw[hf]
  rw[hf]at ho;simp only;rw[if_neg (by decide)];cases hr:wP tk.name with
  |true=>
   refine(tag_R base b S t l hs hs2 ht hl tk.name tk.attrs tk.self r ho hr hnl w hsc hE).mono ?_;rintro e w' ⟨h1,h2,h3⟩;refine⟨h1,?_,h3⟩;rw[hd];simpa using h2
  |false=>
   cases hso:oL tk.name with
   |true=>
    refine(tag_S base b S t l hs hs2 ht hl tk.name tk.attrs tk.self r ho hr hso hnl w hsc hE).mono ?_;rintro e w' ⟨h1,h2,h3⟩;refine⟨h1,?_,h3⟩;rw[hd];simpa using h2
   |false=>
    refine(tag_P base b S t l hs hs2 ht hl tk.name tk.attrs tk.self r ho hr hso w hsc hE).mono ?_;rintro e w' ⟨h1,h2,h3⟩;refine⟨h1,?_,h3⟩;rw[hd];simpa using h2
theorem tag_N2(base b:Nat)(S t:Txt)(l:List Tok)(hs:S.length≤1000000000)(hs2:2≤S.length)(ht:t.length≤1000000000)(hl:l.length≤9000000000)(ho:fK (S.drop 2)=none)(w:World)(hsc:Sc w base b S t l)(hE:Env w base):
 Calls Tryz.prog 191 #[.pointer (some ⟨b,0,none⟩),.int .i64 2,.int .i64 2] w fun e w'=>e=.returned (.tuple #[])∧Sc w' base b [] [] (l++eT t)∧Below base w w':=by
 have hbb:=hsc.1;have hc1:=Lib.hid (mY base b S t l ht (by omega) w hsc hE);have hl1:(l++eT t).length≤9000000001:=by unfold eT;split<;>simp<;>omega
 generalize l++eT t=l1 at *;have hc2:=Lib.hid (fun W hS=>p9 (S.drop 2) (by simp;omega) W hS);rw[ho]at hc2;simp only[lT,zN]at hc2;have h2I:(2:Int)≤S.length:=by omega
 go_enter Tryz.func191,Tryz.ntmps191
 go_wp2_with(first
  |(go_at_call 159;((with_reducible refine(hc1.out).mono ?_);rintro e w1 ⟨rfl,hsc1,hb1⟩;have hE1:=hE.below hb1;obtain⟨_,v1,hh1,hT1⟩:=id hsc1;obtain⟨ad1,cp1,rfl⟩:=hT1.len;obtain⟨⟨d0,d1,d2⟩,d5⟩:=aH hh1;have hle1:=hE1.le;have hS1:=hE1.std;have hlt1:=jc hh1))
  |(go_at_call 213;((with_reducible refine(hc2.out _ hS1).mono ?_);rintro e w2 ⟨va,rfl,hA2,hb2⟩;have hh2:=bg hh1 hb2;obtain⟨⟨f0,f1,f2⟩,f5⟩:=aH hh2;have hT2:=hT1.below hb2;have sG:=hb2.size;have hne1:b≠w2.heap.size:=(by omega);have hne2:w2.heap.size≠b:=(by omega);have hle2:base≤w2.heap.size:=(by omega);have hh3:=dn hh2 (.cells #[.int .i64 0,.string ⟨#[]⟩,.string ⟨#[]⟩,.slice none 0 0,.bool false] 65);have hT3:=hT2.alloc (.cells #[.int .i64 0,.string ⟨#[]⟩,.string ⟨#[]⟩,.slice none 0 0,.bool false] 65);obtain⟨⟨p0,p1,p2⟩,p5⟩:=aH hh3;have hBb:=bO hb1 hle1 hb2;have hBc:=hBb.alloc hle2 (.cells #[.int .i64 0,.string ⟨#[]⟩,.string ⟨#[]⟩,.slice none 0 0,.bool false] 65))))
 have eF:Sc _ base b S [] l1:=⟨hbb,_,hh3,hT3⟩;refine bodyPost_ret (v:=.tuple #[]) (by simp[results,Tryz.results191,go_sem]) rfl ⟨rfl,(eF.oh []).oh [],aW (aW hBc hbb _) hbb _⟩
theorem tag_c2(base b:Nat)(S t:Txt)(l:List Tok)(hs:S.length≤1000000000)(hs2:2≤S.length)(ht:t.length≤1000000000)(hl:l.length≤9000000000)(w:World)(hsc:Sc w base b S t l)(hE:Env w base):
 Calls Tryz.prog 191 #[.pointer (some ⟨b,0,none⟩),.int .i64 2,.int .i64 2] w fun e w'=>e=.returned (.tuple #[])∧Sc w' base b (tJ 2 (S.drop 2)).2 [] ((l++eT t)++(tJ 2 (S.drop 2)).1)∧Below base w w':=by
 unfold tJ;cases ho:fK (S.drop 2)with
 |none=>
  refine(tag_N2 base b S t l hs hs2 ht hl ho w hsc hE).mono ?_;rintro e w' ⟨h1,h2,h3⟩;exact⟨h1,by simpa using h2,h3⟩
 |some x=>
  obtain⟨tk,r⟩:=x;obtain⟨hf,hnl0⟩:=xR ho;have hnl:tk.name.length≤1000000000:=by simp at hnl0;omega
  have hd:tk.data=[]:=by rw[hf]
  rw[hf]at ho;simp only;refine(tag_E base b S t l hs hs2 ht hl tk.name tk.attrs tk.self r ho w hsc hE).mono ?_;rintro e w' ⟨h1,h2,h3⟩;refine⟨h1,?_,h3⟩;simpa using h2
def OpenPost(o:Option (List Tok×Txt))(w':World)(base b:Nat)(s t:Txt)(l:List Tok):Prop:=
 match o with
 |none=>Sc w' base b s (t++[60]) l
 |some (ts,r)=>Sc w' base b r [] ((l++eT t)++ts)
theorem opens_c(base b:Nat)(s t:Txt)(l:List Tok)(hs:s.length≤900000000)(ht:t.length≤900000000)(hl:l.length≤9000000000)(w:World)(hsc:Sc w base b (60::s) t l)(hE:Env w base):
 Calls Tryz.prog 158 #[.pointer (some ⟨b,0,none⟩)] w fun e w'=>e=.returned (.tuple #[])∧OpenPost (kJ s) w' base b s t l∧Below base w w':=by
 have hbb:=hsc.1;have hle:=hE.le;obtain⟨_,v,hh,hT⟩:=id hsc;obtain⟨ad,cp,rfl⟩:=hT.len;obtain⟨⟨c0,c1,c2⟩,c5⟩:=aH hh;have hsl:(60::s).length≤1000000000:=by simp;omega
 have hsl1:(60::s).length=s.length+1:=rfl;have qw:=Lib.hid (mY base b (60::s) t l (by omega) (by omega) w hsc hE);have qx:=Lib.hid (tag_c1 base b (60::s) t l hsl (by omega) (by omega) hl w hsc hE);have qy:=Lib.hid (fun h=>tag_c2 base b (60::s) t l hsl h (by omega) hl w hsc hE);have hcom:=Lib.hid (fun h=>J5 base b (60::s) t l hsl h (by omega) (by omega) w hsc hE);have hn9:=Lib.hid (fun h W h1 h2=>note_c4 base b (60::s) t [62] l 9 9 rfl h hsl (by omega) (by omega) W h1 h2);have hn2:=Lib.hid (fun h W h1 h2=>D6 base b (60::s) t [62] l 2 2 rfl h hsl (by omega) (by omega) W h1 h2);have hn1:=Lib.hid (fun h W h1 h2=>D6 base b (60::s) t [62] l 1 1 rfl h hsl (by omega) (by omega) W h1 h2)
 have hof:Hid (kJ s=if jQ s then some (tJ 1 s)
  else if Lib.hasPrefix s [47]&&jQ s.tail then some (tJ 2 s.tail)
  else if Lib.hasPrefix s [47,62]then some ([],s.drop 2)
  else if Lib.hasPrefix s [33,45,45]then some (kX (s.drop 3))
  else if jv s then some (qz 4 (s.drop 8) [62])
  else if Lib.hasPrefix s [33]then some (qz 3 s.tail [62])
  else if Lib.hasPrefix s [63]then some (qz 3 s [62])
  else if decide (1<s.length)&&Lib.hasPrefix s [47]then some (qz 3 s.tail [62])
  else none):=rfl
 have p2:=@nu s [47];have p3:=@nu s [47,62];have p4:=@nu s [33,45,45]
 have p5:jv s=true→8≤s.length:=by
  intro h;unfold jv at h;simp only[Bool.and_eq_true,decide_eq_true_eq]at h;exact h.1.1
 have p6:=@nu s [33];have p7:=@nu s [63];simp only[List.length_cons,List.length_nil]at p2 p3 p4 p6 p7
 have g2:∀h:0<s.length,Lib.hasPrefix s [47]=decide ((s[0].toNat:Int)=47):=by
  intro h;cases s with
  |nil=>simp at h
  |cons c u=>
   have hc:=lQ (p:=fun c=>(47==c)==decide ((c.toNat:Int)=47)) (by decide +kernel) c;simp only[Lib.hasPrefix,List.isPrefixOf,Bool.and_true,List.getElem_cons_zero];exact beq_iff_eq.1 hc
 have q1:=Lib.hid (fun W=>Ay s W);have q2:=Lib.hid (fun W=>jI s [47] W);have q2t:=Lib.hid (fun W=>Ay s.tail W);have q3:=Lib.hid (fun W=>jI s [47,62] W);have q4:=Lib.hid (fun W=>jI s [33,45,45] W);have q5:=Lib.hid (fun W=>Gi s (by omega) W);have q6:=Lib.hid (fun W=>jI s [33] W);have q7:=Lib.hid (fun W=>jI s [63] W);have i3:((3:Int)=4)=False:=by simp
 have e2:Lib.hasPrefix s [47]=true→Lib.hasPrefix s [33,45,45]=false∧jv s=false∧Lib.hasPrefix s [33]=false∧Lib.hasPrefix s [63]=false:=by
  intro h;cases s with
  |nil=>simp[Lib.hasPrefix,List.isPrefixOf]at h
  |cons c u=>
   simp only[Lib.hasPrefix,List.isPrefixOf,Bool.and_true,beq_iff_eq]at h;subst h;simp[Lib.hasPrefix,List.isPrefixOf,jv,kQ,lowB]
 have e3:Lib.hasPrefix s [47]=false→Lib.hasPrefix s [47,62]=false:=by
  intro h;cases s with
  |nil=>rfl
  |cons c u=>
   simp only[Lib.hasPrefix,List.isPrefixOf,Bool.and_true]at h;simp[Lib.hasPrefix,List.isPrefixOf,h]
 simp only[qz,jZ,List.drop_succ_cons,List.drop_zero,List.drop_one,i3,if_true,if_false]at qx qy hcom hn9 hn2 hn1 hof;clear i3;generalize tJ 1 s=y1 at *;generalize tJ 2 s.tail=y2 at *;generalize kX (s.drop 3)=y4 at *;generalize om (Lib.cut (s.drop 8) [62]).1=z5 at *;generalize Lib.cut (s.drop 8) [62]=y5 at *;generalize Lib.cut s.tail [62]=y6 at *;generalize Lib.cut s [62]=y7 at *;obtain⟨a1,r1⟩:=y1;obtain⟨a2,r2⟩:=y2;obtain⟨a4,r4⟩:=y4;obtain⟨a5,r5,u5⟩:=y5;obtain⟨a6,r6,u6⟩:=y6;obtain⟨a7,r7,u7⟩:=y7;simp only at qx qy hcom hn9 hn2 hn1 hof;generalize jQ s=b1 at *;generalize jQ s.tail=b2t at *;generalize Lib.hasPrefix s [47]=b2 at *;generalize Lib.hasPrefix s [47,62]=b3 at *;generalize Lib.hasPrefix s [33,45,45]=b4 at *;generalize jv s=b5 at *;generalize Lib.hasPrefix s [33]=b6 at *;generalize Lib.hasPrefix s [63]=b7 at *;cases b1 with
 |true=>
  have pE:=Lib.hid (show kJ s=some (a1,r1) by rw[hof.out];simp);clear hof;go_enter Tryz.func158,Tryz.ntmps158
  go_wp2_with(first
   |(go_at_call 190;first
    |((with_reducible refine(q1.out _).mono ?_);rintro e w2 ⟨rfl,rfl⟩)
    |((with_reducible refine(q2t.out _).mono ?_);rintro e w2 ⟨rfl,rfl⟩))
   |(go_at_call 94;first
    |((with_reducible refine(q2.out _).mono ?_);rintro e w2 ⟨rfl,rfl⟩)
    |((with_reducible refine(q3.out _).mono ?_);rintro e w2 ⟨rfl,rfl⟩)
    |((with_reducible refine(q4.out _).mono ?_);rintro e w2 ⟨rfl,rfl⟩)
    |((with_reducible refine(q6.out _).mono ?_);rintro e w2 ⟨rfl,rfl⟩)
    |((with_reducible refine(q7.out _).mono ?_);rintro e w2 ⟨rfl,rfl⟩))
   |(go_at_call 193;((with_reducible refine(q5.out _).mono ?_);rintro e w1 ⟨rfl,hb1⟩;have hsc1:=hsc.below hb1;have hB1:=gY hb1 hle;have hE1:=hE.below hB1;have hh1:=bg hh hb1;obtain⟨⟨x0,x1,x2⟩,x5⟩:=aH hh1))
   |(go_at_call 159;((with_reducible refine(qw.out).mono ?_);rintro e w3 ⟨rfl,eF,hb3⟩;obtain⟨_,v3,hh3,hT3⟩:=id eF;obtain⟨⟨y0,y1,y2⟩,y5⟩:=aH hh3))
   |(go_at_call 191;first
    |((with_reducible refine(qx.out).mono ?_);rintro e w3 ⟨rfl,eF,hb3⟩)
    |((with_reducible refine(qy.out (by omega)).mono ?_);rintro e w3 ⟨rfl,eF,hb3⟩))
   |(go_at_call 192;((with_reducible refine(hcom.out (by omega)).mono ?_);rintro e w3 ⟨rfl,eF,hb3⟩))
   |(go_at_call 194;first
    |((with_reducible refine(hn9.out (by omega) _ hsc1 hE1).mono ?_);rintro e w3 ⟨rfl,eF,hb3⟩)
    |((with_reducible refine(hn2.out (by omega) _ hsc1 hE1).mono ?_);rintro e w3 ⟨rfl,eF,hb3⟩)
    |((with_reducible refine(hn1.out (by omega) _ hsc1 hE1).mono ?_);rintro e w3 ⟨rfl,eF,hb3⟩)))
  go_end0;rw[pE.out];exact⟨rfl,eF,hb3⟩
 |false=>
  cases b2 with
  |true=>
   have l1:=p2 rfl;have l1I:(1:Int)≤s.length:=by omega
   cases b2t with
   |true=>
    have pE:=Lib.hid (show kJ s=some (a2,r2) by rw[hof.out];simp);clear hof;go_enter Tryz.func158,Tryz.ntmps158
    go_wp2_with(first
     |(go_at_call 190;first
      |((with_reducible refine(q1.out _).mono ?_);rintro e w2 ⟨rfl,rfl⟩)
      |((with_reducible refine(q2t.out _).mono ?_);rintro e w2 ⟨rfl,rfl⟩))
     |(go_at_call 94;first
      |((with_reducible refine(q2.out _).mono ?_);rintro e w2 ⟨rfl,rfl⟩)
      |((with_reducible refine(q3.out _).mono ?_);rintro e w2 ⟨rfl,rfl⟩)
      |((with_reducible refine(q4.out _).mono ?_);rintro e w2 ⟨rfl,rfl⟩)
      |((with_reducible refine(q6.out _).mono ?_);rintro e w2 ⟨rfl,rfl⟩)
      |((with_reducible refine(q7.out _).mono ?_);rintro e w2 ⟨rfl,rfl⟩))
     |(go_at_call 193;((with_reducible refine(q5.out _).mono ?_);rintro e w1 ⟨rfl,hb1⟩;have hsc1:=hsc.below hb1;have hB1:=gY hb1 hle;have hE1:=hE.below hB1;have hh1:=bg hh hb1;obtain⟨⟨x0,x1,x2⟩,x5⟩:=aH hh1))
     |(go_at_call 159;((with_reducible refine(qw.out).mono ?_);rintro e w3 ⟨rfl,eF,hb3⟩;obtain⟨_,v3,hh3,hT3⟩:=id eF;obtain⟨⟨y0,y1,y2⟩,y5⟩:=aH hh3))
     |(go_at_call 191;first
      |((with_reducible refine(qx.out).mono ?_);rintro e w3 ⟨rfl,eF,hb3⟩)
      |((with_reducible refine(qy.out (by omega)).mono ?_);rintro e w3 ⟨rfl,eF,hb3⟩))
     |(go_at_call 192;((with_reducible refine(hcom.out (by omega)).mono ?_);rintro e w3 ⟨rfl,eF,hb3⟩))
     |(go_at_call 194;first
      |((with_reducible refine(hn9.out (by omega) _ hsc1 hE1).mono ?_);rintro e w3 ⟨rfl,eF,hb3⟩)
      |((with_reducible refine(hn2.out (by omega) _ hsc1 hE1).mono ?_);rintro e w3 ⟨rfl,eF,hb3⟩)
      |((with_reducible refine(hn1.out (by omega) _ hsc1 hE1).mono ?_);rintro e w3 ⟨rfl,eF,hb3⟩)))
    go_end0;rw[pE.out];exact⟨rfl,eF,hb3⟩
   |false=>
    obtain⟨f4,f5,f6,f7⟩:=e2 rfl;subst f4 f5 f6 f7;cases b3 with
    |true=>
     have l2:=p3 rfl;have l2I:(2:Int)≤s.length:=by omega
     have pE:=Lib.hid (show kJ s=some ([],s.drop 2) by rw[hof.out];simp);clear hof;go_enter Tryz.func158,Tryz.ntmps158
     go_wp2_with(first
      |(go_at_call 190;first
       |((with_reducible refine(q1.out _).mono ?_);rintro e w2 ⟨rfl,rfl⟩)
       |((with_reducible refine(q2t.out _).mono ?_);rintro e w2 ⟨rfl,rfl⟩))
      |(go_at_call 94;first
       |((with_reducible refine(q2.out _).mono ?_);rintro e w2 ⟨rfl,rfl⟩)
       |((with_reducible refine(q3.out _).mono ?_);rintro e w2 ⟨rfl,rfl⟩)
       |((with_reducible refine(q4.out _).mono ?_);rintro e w2 ⟨rfl,rfl⟩)
       |((with_reducible refine(q6.out _).mono ?_);rintro e w2 ⟨rfl,rfl⟩)
       |((with_reducible refine(q7.out _).mono ?_);rintro e w2 ⟨rfl,rfl⟩))
      |(go_at_call 193;((with_reducible refine(q5.out _).mono ?_);rintro e w1 ⟨rfl,hb1⟩;have hsc1:=hsc.below hb1;have hB1:=gY hb1 hle;have hE1:=hE.below hB1;have hh1:=bg hh hb1;obtain⟨⟨x0,x1,x2⟩,x5⟩:=aH hh1))
      |(go_at_call 159;((with_reducible refine(qw.out).mono ?_);rintro e w3 ⟨rfl,eF,hb3⟩;obtain⟨_,v3,hh3,hT3⟩:=id eF;obtain⟨⟨y0,y1,y2⟩,y5⟩:=aH hh3))
      |(go_at_call 191;first
       |((with_reducible refine(qx.out).mono ?_);rintro e w3 ⟨rfl,eF,hb3⟩)
       |((with_reducible refine(qy.out (by omega)).mono ?_);rintro e w3 ⟨rfl,eF,hb3⟩))
      |(go_at_call 192;((with_reducible refine(hcom.out (by omega)).mono ?_);rintro e w3 ⟨rfl,eF,hb3⟩))
      |(go_at_call 194;first
       |((with_reducible refine(hn9.out (by omega) _ hsc1 hE1).mono ?_);rintro e w3 ⟨rfl,eF,hb3⟩)
       |((with_reducible refine(hn2.out (by omega) _ hsc1 hE1).mono ?_);rintro e w3 ⟨rfl,eF,hb3⟩)
       |((with_reducible refine(hn1.out (by omega) _ hsc1 hE1).mono ?_);rintro e w3 ⟨rfl,eF,hb3⟩)))
     go_end0;rw[pE.out];exact⟨rfl,(by show Sc _ base b (s.drop 2) [] ((l++eT t)++[]);rw[List.append_nil];exact eF.oh (s.drop 2)),aW hb3 hbb _⟩
    |false=>
     have g3:=g2 (by omega)
     by_cases hd1:1<s.length
     ·have hd1I:(1:Int)<s.length:=by omega
      obtain⟨n0,hn0⟩:∃n,s[0].toNat=n:=⟨_,rfl⟩
      rw[hn0]at g3;have g4:n0=47:=by have h:=g3.symm;simp at h;omega
      subst g4;clear g2 g3;have pE:=Lib.hid (show kJ s=(some ([⟨3,[],[],a6,false⟩],r6)) by rw[hof.out];simp[hd1]);have hd2:=hd1;clear hof;go_enter Tryz.func158,Tryz.ntmps158
      go_wp2_with(first
       |(go_at_call 190;first
        |((with_reducible refine(q1.out _).mono ?_);rintro e w2 ⟨rfl,rfl⟩)
        |((with_reducible refine(q2t.out _).mono ?_);rintro e w2 ⟨rfl,rfl⟩))
       |(go_at_call 94;first
        |((with_reducible refine(q2.out _).mono ?_);rintro e w2 ⟨rfl,rfl⟩)
        |((with_reducible refine(q3.out _).mono ?_);rintro e w2 ⟨rfl,rfl⟩)
        |((with_reducible refine(q4.out _).mono ?_);rintro e w2 ⟨rfl,rfl⟩)
        |((with_reducible refine(q6.out _).mono ?_);rintro e w2 ⟨rfl,rfl⟩)
        |((with_reducible refine(q7.out _).mono ?_);rintro e w2 ⟨rfl,rfl⟩))
       |(go_at_call 193;((with_reducible refine(q5.out _).mono ?_);rintro e w1 ⟨rfl,hb1⟩;have hsc1:=hsc.below hb1;have hB1:=gY hb1 hle;have hE1:=hE.below hB1;have hh1:=bg hh hb1;obtain⟨⟨x0,x1,x2⟩,x5⟩:=aH hh1))
       |(go_at_call 159;((with_reducible refine(qw.out).mono ?_);rintro e w3 ⟨rfl,eF,hb3⟩;obtain⟨_,v3,hh3,hT3⟩:=id eF;obtain⟨⟨y0,y1,y2⟩,y5⟩:=aH hh3))
       |(go_at_call 191;first
        |((with_reducible refine(qx.out).mono ?_);rintro e w3 ⟨rfl,eF,hb3⟩)
        |((with_reducible refine(qy.out (by omega)).mono ?_);rintro e w3 ⟨rfl,eF,hb3⟩))
       |(go_at_call 192;((with_reducible refine(hcom.out (by omega)).mono ?_);rintro e w3 ⟨rfl,eF,hb3⟩))
       |(go_at_call 194;first
        |((with_reducible refine(hn9.out (by omega) _ hsc1 hE1).mono ?_);rintro e w3 ⟨rfl,eF,hb3⟩)
        |((with_reducible refine(hn2.out (by omega) _ hsc1 hE1).mono ?_);rintro e w3 ⟨rfl,eF,hb3⟩)
        |((with_reducible refine(hn1.out (by omega) _ hsc1 hE1).mono ?_);rintro e w3 ⟨rfl,eF,hb3⟩)))
      go_end0;rw[pE.out];exact⟨rfl,eF,hB1.trans hb3⟩
     ·have hd1I:¬(1:Int)<s.length:=by omega
      clear g2 g3;have pE:=Lib.hid (show kJ s=none by rw[hof.out];simp[hd1]);have hd2:=hd1;clear hof;go_enter Tryz.func158,Tryz.ntmps158
      go_wp2_with(first
       |(go_at_call 190;first
        |((with_reducible refine(q1.out _).mono ?_);rintro e w2 ⟨rfl,rfl⟩)
        |((with_reducible refine(q2t.out _).mono ?_);rintro e w2 ⟨rfl,rfl⟩))
       |(go_at_call 94;first
        |((with_reducible refine(q2.out _).mono ?_);rintro e w2 ⟨rfl,rfl⟩)
        |((with_reducible refine(q3.out _).mono ?_);rintro e w2 ⟨rfl,rfl⟩)
        |((with_reducible refine(q4.out _).mono ?_);rintro e w2 ⟨rfl,rfl⟩)
        |((with_reducible refine(q6.out _).mono ?_);rintro e w2 ⟨rfl,rfl⟩)
        |((with_reducible refine(q7.out _).mono ?_);rintro e w2 ⟨rfl,rfl⟩))
       |(go_at_call 193;((with_reducible refine(q5.out _).mono ?_);rintro e w1 ⟨rfl,hb1⟩;have hsc1:=hsc.below hb1;have hB1:=gY hb1 hle;have hE1:=hE.below hB1;have hh1:=bg hh hb1;obtain⟨⟨x0,x1,x2⟩,x5⟩:=aH hh1))
       |(go_at_call 159;((with_reducible refine(qw.out).mono ?_);rintro e w3 ⟨rfl,eF,hb3⟩;obtain⟨_,v3,hh3,hT3⟩:=id eF;obtain⟨⟨y0,y1,y2⟩,y5⟩:=aH hh3))
       |(go_at_call 191;first
        |((with_reducible refine(qx.out).mono ?_);rintro e w3 ⟨rfl,eF,hb3⟩)
        |((with_reducible refine(qy.out (by omega)).mono ?_);rintro e w3 ⟨rfl,eF,hb3⟩))
       |(go_at_call 192;((with_reducible refine(hcom.out (by omega)).mono ?_);rintro e w3 ⟨rfl,eF,hb3⟩))
       |(go_at_call 194;first
        |((with_reducible refine(hn9.out (by omega) _ hsc1 hE1).mono ?_);rintro e w3 ⟨rfl,eF,hb3⟩)
        |((with_reducible refine(hn2.out (by omega) _ hsc1 hE1).mono ?_);rintro e w3 ⟨rfl,eF,hb3⟩)
        |((with_reducible refine(hn1.out (by omega) _ hsc1 hE1).mono ?_);rintro e w3 ⟨rfl,eF,hb3⟩)))
      go_end0;rw[pE.out];exact⟨rfl,(hsc1.Ca (t++[60])).oh s,aW (aW hB1 hbb _) hbb _⟩
  |false=>
   have f3:=e3 rfl;subst f3;cases b4 with
   |true=>
    have l3:=p4 rfl;have l3I:(3:Int)≤s.length:=by omega
    have pE:=Lib.hid (show kJ s=some (a4,r4) by rw[hof.out];simp);clear hof;go_enter Tryz.func158,Tryz.ntmps158
    go_wp2_with(first
     |(go_at_call 190;first
      |((with_reducible refine(q1.out _).mono ?_);rintro e w2 ⟨rfl,rfl⟩)
      |((with_reducible refine(q2t.out _).mono ?_);rintro e w2 ⟨rfl,rfl⟩))
     |(go_at_call 94;first
      |((with_reducible refine(q2.out _).mono ?_);rintro e w2 ⟨rfl,rfl⟩)
      |((with_reducible refine(q3.out _).mono ?_);rintro e w2 ⟨rfl,rfl⟩)
      |((with_reducible refine(q4.out _).mono ?_);rintro e w2 ⟨rfl,rfl⟩)
      |((with_reducible refine(q6.out _).mono ?_);rintro e w2 ⟨rfl,rfl⟩)
      |((with_reducible refine(q7.out _).mono ?_);rintro e w2 ⟨rfl,rfl⟩))
     |(go_at_call 193;((with_reducible refine(q5.out _).mono ?_);rintro e w1 ⟨rfl,hb1⟩;have hsc1:=hsc.below hb1;have hB1:=gY hb1 hle;have hE1:=hE.below hB1;have hh1:=bg hh hb1;obtain⟨⟨x0,x1,x2⟩,x5⟩:=aH hh1))
     |(go_at_call 159;((with_reducible refine(qw.out).mono ?_);rintro e w3 ⟨rfl,eF,hb3⟩;obtain⟨_,v3,hh3,hT3⟩:=id eF;obtain⟨⟨y0,y1,y2⟩,y5⟩:=aH hh3))
     |(go_at_call 191;first
      |((with_reducible refine(qx.out).mono ?_);rintro e w3 ⟨rfl,eF,hb3⟩)
      |((with_reducible refine(qy.out (by omega)).mono ?_);rintro e w3 ⟨rfl,eF,hb3⟩))
     |(go_at_call 192;((with_reducible refine(hcom.out (by omega)).mono ?_);rintro e w3 ⟨rfl,eF,hb3⟩))
     |(go_at_call 194;first
      |((with_reducible refine(hn9.out (by omega) _ hsc1 hE1).mono ?_);rintro e w3 ⟨rfl,eF,hb3⟩)
      |((with_reducible refine(hn2.out (by omega) _ hsc1 hE1).mono ?_);rintro e w3 ⟨rfl,eF,hb3⟩)
      |((with_reducible refine(hn1.out (by omega) _ hsc1 hE1).mono ?_);rintro e w3 ⟨rfl,eF,hb3⟩)))
    go_end0;rw[pE.out];exact⟨rfl,eF,hb3⟩
   |false=>
    cases b5 with
    |true=>
     have l8:=p5 rfl;have pE:=Lib.hid (show kJ s=(some ([⟨4,[],[],z5,false⟩],r5)) by rw[hof.out];simp);clear hof;go_enter Tryz.func158,Tryz.ntmps158
     go_wp2_with(first
      |(go_at_call 190;first
       |((with_reducible refine(q1.out _).mono ?_);rintro e w2 ⟨rfl,rfl⟩)
       |((with_reducible refine(q2t.out _).mono ?_);rintro e w2 ⟨rfl,rfl⟩))
      |(go_at_call 94;first
       |((with_reducible refine(q2.out _).mono ?_);rintro e w2 ⟨rfl,rfl⟩)
       |((with_reducible refine(q3.out _).mono ?_);rintro e w2 ⟨rfl,rfl⟩)
       |((with_reducible refine(q4.out _).mono ?_);rintro e w2 ⟨rfl,rfl⟩)
       |((with_reducible refine(q6.out _).mono ?_);rintro e w2 ⟨rfl,rfl⟩)
       |((with_reducible refine(q7.out _).mono ?_);rintro e w2 ⟨rfl,rfl⟩))
      |(go_at_call 193;((with_reducible refine(q5.out _).mono ?_);rintro e w1 ⟨rfl,hb1⟩;have hsc1:=hsc.below hb1;have hB1:=gY hb1 hle;have hE1:=hE.below hB1;have hh1:=bg hh hb1;obtain⟨⟨x0,x1,x2⟩,x5⟩:=aH hh1))
      |(go_at_call 159;((with_reducible refine(qw.out).mono ?_);rintro e w3 ⟨rfl,eF,hb3⟩;obtain⟨_,v3,hh3,hT3⟩:=id eF;obtain⟨⟨y0,y1,y2⟩,y5⟩:=aH hh3))
      |(go_at_call 191;first
       |((with_reducible refine(qx.out).mono ?_);rintro e w3 ⟨rfl,eF,hb3⟩)
       |((with_reducible refine(qy.out (by omega)).mono ?_);rintro e w3 ⟨rfl,eF,hb3⟩))
      |(go_at_call 192;((with_reducible refine(hcom.out (by omega)).mono ?_);rintro e w3 ⟨rfl,eF,hb3⟩))
      |(go_at_call 194;first
       |((with_reducible refine(hn9.out (by omega) _ hsc1 hE1).mono ?_);rintro e w3 ⟨rfl,eF,hb3⟩)
       |((with_reducible refine(hn2.out (by omega) _ hsc1 hE1).mono ?_);rintro e w3 ⟨rfl,eF,hb3⟩)
       |((with_reducible refine(hn1.out (by omega) _ hsc1 hE1).mono ?_);rintro e w3 ⟨rfl,eF,hb3⟩)))
     go_end0;rw[pE.out];exact⟨rfl,eF,hB1.trans hb3⟩
    |false=>
     cases b6 with
     |true=>
      have l1:=p6 rfl;have pE:=Lib.hid (show kJ s=(some ([⟨3,[],[],a6,false⟩],r6)) by rw[hof.out];simp);clear hof;go_enter Tryz.func158,Tryz.ntmps158
      go_wp2_with(first
       |(go_at_call 190;first
        |((with_reducible refine(q1.out _).mono ?_);rintro e w2 ⟨rfl,rfl⟩)
        |((with_reducible refine(q2t.out _).mono ?_);rintro e w2 ⟨rfl,rfl⟩))
       |(go_at_call 94;first
        |((with_reducible refine(q2.out _).mono ?_);rintro e w2 ⟨rfl,rfl⟩)
        |((with_reducible refine(q3.out _).mono ?_);rintro e w2 ⟨rfl,rfl⟩)
        |((with_reducible refine(q4.out _).mono ?_);rintro e w2 ⟨rfl,rfl⟩)
        |((with_reducible refine(q6.out _).mono ?_);rintro e w2 ⟨rfl,rfl⟩)
        |((with_reducible refine(q7.out _).mono ?_);rintro e w2 ⟨rfl,rfl⟩))
       |(go_at_call 193;((with_reducible refine(q5.out _).mono ?_);rintro e w1 ⟨rfl,hb1⟩;have hsc1:=hsc.below hb1;have hB1:=gY hb1 hle;have hE1:=hE.below hB1;have hh1:=bg hh hb1;obtain⟨⟨x0,x1,x2⟩,x5⟩:=aH hh1))
       |(go_at_call 159;((with_reducible refine(qw.out).mono ?_);rintro e w3 ⟨rfl,eF,hb3⟩;obtain⟨_,v3,hh3,hT3⟩:=id eF;obtain⟨⟨y0,y1,y2⟩,y5⟩:=aH hh3))
       |(go_at_call 191;first
        |((with_reducible refine(qx.out).mono ?_);rintro e w3 ⟨rfl,eF,hb3⟩)
        |((with_reducible refine(qy.out (by omega)).mono ?_);rintro e w3 ⟨rfl,eF,hb3⟩))
       |(go_at_call 192;((with_reducible refine(hcom.out (by omega)).mono ?_);rintro e w3 ⟨rfl,eF,hb3⟩))
       |(go_at_call 194;first
        |((with_reducible refine(hn9.out (by omega) _ hsc1 hE1).mono ?_);rintro e w3 ⟨rfl,eF,hb3⟩)
        |((with_reducible refine(hn2.out (by omega) _ hsc1 hE1).mono ?_);rintro e w3 ⟨rfl,eF,hb3⟩)
        |((with_reducible refine(hn1.out (by omega) _ hsc1 hE1).mono ?_);rintro e w3 ⟨rfl,eF,hb3⟩)))
      go_end0;rw[pE.out];exact⟨rfl,eF,hB1.trans hb3⟩
     |false=>
      cases b7 with
      |true=>
       have l1:=p7 rfl;have pE:=Lib.hid (show kJ s=(some ([⟨3,[],[],a7,false⟩],r7)) by rw[hof.out];simp);clear hof;go_enter Tryz.func158,Tryz.ntmps158
       go_wp2_with(first
        |(go_at_call 190;first
         |((with_reducible refine(q1.out _).mono ?_);rintro e w2 ⟨rfl,rfl⟩)
         |((with_reducible refine(q2t.out _).mono ?_);rintro e w2 ⟨rfl,rfl⟩))
        |(go_at_call 94;first
         |((with_reducible refine(q2.out _).mono ?_);rintro e w2 ⟨rfl,rfl⟩)
         |((with_reducible refine(q3.out _).mono ?_);rintro e w2 ⟨rfl,rfl⟩)
         |((with_reducible refine(q4.out _).mono ?_);rintro e w2 ⟨rfl,rfl⟩)
         |((with_reducible refine(q6.out _).mono ?_);rintro e w2 ⟨rfl,rfl⟩)
         |((with_reducible refine(q7.out _).mono ?_);rintro e w2 ⟨rfl,rfl⟩))
        |(go_at_call 193;((with_reducible refine(q5.out _).mono ?_);rintro e w1 ⟨rfl,hb1⟩;have hsc1:=hsc.below hb1;have hB1:=gY hb1 hle;have hE1:=hE.below hB1;have hh1:=bg hh hb1;obtain⟨⟨x0,x1,x2⟩,x5⟩:=aH hh1))
        |(go_at_call 159;((with_reducible refine(qw.out).mono ?_);rintro e w3 ⟨rfl,eF,hb3⟩;obtain⟨_,v3,hh3,hT3⟩:=id eF;obtain⟨⟨y0,y1,y2⟩,y5⟩:=aH hh3))
        |(go_at_call 191;first
         |((with_reducible refine(qx.out).mono ?_);rintro e w3 ⟨rfl,eF,hb3⟩)
         |((with_reducible refine(qy.out (by omega)).mono ?_);rintro e w3 ⟨rfl,eF,hb3⟩))
        |(go_at_call 192;((with_reducible refine(hcom.out (by omega)).mono ?_);rintro e w3 ⟨rfl,eF,hb3⟩))
        |(go_at_call 194;first
         |((with_reducible refine(hn9.out (by omega) _ hsc1 hE1).mono ?_);rintro e w3 ⟨rfl,eF,hb3⟩)
         |((with_reducible refine(hn2.out (by omega) _ hsc1 hE1).mono ?_);rintro e w3 ⟨rfl,eF,hb3⟩)
         |((with_reducible refine(hn1.out (by omega) _ hsc1 hE1).mono ?_);rintro e w3 ⟨rfl,eF,hb3⟩)))
       go_end0;rw[pE.out];exact⟨rfl,eF,hB1.trans hb3⟩
      |false=>
       by_cases hd1:1<s.length
       ·have hd1I:(1:Int)<s.length:=by omega
        have g3:=g2 (by omega);obtain⟨n0,hn0⟩:∃n,s[0].toNat=n:=⟨_,rfl⟩
        rw[hn0]at g3;have g4:¬(n0:Int)=47:=by simpa using g3.symm
        clear g2 g3;have pE:=Lib.hid (show kJ s=none by rw[hof.out];simp[hd1]);have hd2:=hd1;clear hof;go_enter Tryz.func158,Tryz.ntmps158
        go_wp2_with(first
         |(go_at_call 190;first
          |((with_reducible refine(q1.out _).mono ?_);rintro e w2 ⟨rfl,rfl⟩)
          |((with_reducible refine(q2t.out _).mono ?_);rintro e w2 ⟨rfl,rfl⟩))
         |(go_at_call 94;first
          |((with_reducible refine(q2.out _).mono ?_);rintro e w2 ⟨rfl,rfl⟩)
          |((with_reducible refine(q3.out _).mono ?_);rintro e w2 ⟨rfl,rfl⟩)
          |((with_reducible refine(q4.out _).mono ?_);rintro e w2 ⟨rfl,rfl⟩)
          |((with_reducible refine(q6.out _).mono ?_);rintro e w2 ⟨rfl,rfl⟩)
          |((with_reducible refine(q7.out _).mono ?_);rintro e w2 ⟨rfl,rfl⟩))
         |(go_at_call 193;((with_reducible refine(q5.out _).mono ?_);rintro e w1 ⟨rfl,hb1⟩;have hsc1:=hsc.below hb1;have hB1:=gY hb1 hle;have hE1:=hE.below hB1;have hh1:=bg hh hb1;obtain⟨⟨x0,x1,x2⟩,x5⟩:=aH hh1))
         |(go_at_call 159;((with_reducible refine(qw.out).mono ?_);rintro e w3 ⟨rfl,eF,hb3⟩;obtain⟨_,v3,hh3,hT3⟩:=id eF;obtain⟨⟨y0,y1,y2⟩,y5⟩:=aH hh3))
         |(go_at_call 191;first
          |((with_reducible refine(qx.out).mono ?_);rintro e w3 ⟨rfl,eF,hb3⟩)
          |((with_reducible refine(qy.out (by omega)).mono ?_);rintro e w3 ⟨rfl,eF,hb3⟩))
         |(go_at_call 192;((with_reducible refine(hcom.out (by omega)).mono ?_);rintro e w3 ⟨rfl,eF,hb3⟩))
         |(go_at_call 194;first
          |((with_reducible refine(hn9.out (by omega) _ hsc1 hE1).mono ?_);rintro e w3 ⟨rfl,eF,hb3⟩)
          |((with_reducible refine(hn2.out (by omega) _ hsc1 hE1).mono ?_);rintro e w3 ⟨rfl,eF,hb3⟩)
          |((with_reducible refine(hn1.out (by omega) _ hsc1 hE1).mono ?_);rintro e w3 ⟨rfl,eF,hb3⟩)))
        go_end0;rw[pE.out];exact⟨rfl,(hsc1.Ca (t++[60])).oh s,aW (aW hB1 hbb _) hbb _⟩
       ·have hd1I:¬(1:Int)<s.length:=by omega
        clear g2;have pE:=Lib.hid (show kJ s=none by rw[hof.out];simp[hd1]);have hd2:=hd1;clear hof;go_enter Tryz.func158,Tryz.ntmps158
        go_wp2_with(first
         |(go_at_call 190;first
          |((with_reducible refine(q1.out _).mono ?_);rintro e w2 ⟨rfl,rfl⟩)
          |((with_reducible refine(q2t.out _).mono ?_);rintro e w2 ⟨rfl,rfl⟩))
         |(go_at_call 94;first
          |((with_reducible refine(q2.out _).mono ?_);rintro e w2 ⟨rfl,rfl⟩)
          |((with_reducible refine(q3.out _).mono ?_);rintro e w2 ⟨rfl,rfl⟩)
          |((with_reducible refine(q4.out _).mono ?_);rintro e w2 ⟨rfl,rfl⟩)
          |((with_reducible refine(q6.out _).mono ?_);rintro e w2 ⟨rfl,rfl⟩)
          |((with_reducible refine(q7.out _).mono ?_);rintro e w2 ⟨rfl,rfl⟩))
         |(go_at_call 193;((with_reducible refine(q5.out _).mono ?_);rintro e w1 ⟨rfl,hb1⟩;have hsc1:=hsc.below hb1;have hB1:=gY hb1 hle;have hE1:=hE.below hB1;have hh1:=bg hh hb1;obtain⟨⟨x0,x1,x2⟩,x5⟩:=aH hh1))
         |(go_at_call 159;((with_reducible refine(qw.out).mono ?_);rintro e w3 ⟨rfl,eF,hb3⟩;obtain⟨_,v3,hh3,hT3⟩:=id eF;obtain⟨⟨y0,y1,y2⟩,y5⟩:=aH hh3))
         |(go_at_call 191;first
          |((with_reducible refine(qx.out).mono ?_);rintro e w3 ⟨rfl,eF,hb3⟩)
          |((with_reducible refine(qy.out (by omega)).mono ?_);rintro e w3 ⟨rfl,eF,hb3⟩))
         |(go_at_call 192;((with_reducible refine(hcom.out (by omega)).mono ?_);rintro e w3 ⟨rfl,eF,hb3⟩))
         |(go_at_call 194;first
          |((with_reducible refine(hn9.out (by omega) _ hsc1 hE1).mono ?_);rintro e w3 ⟨rfl,eF,hb3⟩)
          |((with_reducible refine(hn2.out (by omega) _ hsc1 hE1).mono ?_);rintro e w3 ⟨rfl,eF,hb3⟩)
          |((with_reducible refine(hn1.out (by omega) _ hsc1 hE1).mono ?_);rintro e w3 ⟨rfl,eF,hb3⟩)))
        go_end0;rw[pE.out];exact⟨rfl,(hsc1.Ca (t++[60])).oh s,aW (aW hB1 hbb _) hbb _⟩
end Go.Proofs.YtkcmghlhpbepcaaGreatDoor
