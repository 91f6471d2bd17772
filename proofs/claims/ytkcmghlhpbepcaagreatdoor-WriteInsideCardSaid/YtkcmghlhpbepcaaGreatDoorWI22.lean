/- Lemmas and walks, part 22. -/
import Derived.Test.YtkcmghlhpbepcaaGreatDoorWI21
set_option linter.unusedVariables false
set_option linter.unusedSimpArgs false
set_option maxHeartbeats 8000000
set_option maxRecDepth 100000
namespace Go.Proofs.YtkcmghlhpbepcaaGreatDoor
open Go.RowKit Go.Proofs
theorem EA{s r:Txt}{tk:Tok}(h:fC s=some (tk,r)):tk=⟨0,tk.name,tk.attrs,[],tk.self⟩∧tk.name.length≤s.length:=by
 unfold fC at h;cases ha:kR [] (s.drop (s.findIdx bY))with
 |none=>rw[ha]at h;simp at h
 |some q=>
  rw[ha]at h;simp only[Option.map_some,Option.some.injEq,Prod.mk.injEq]at h;obtain⟨rfl,_⟩:=h;refine⟨rfl,?_⟩;simp[iZ];omega
theorem tag_N1(base b:Nat)(S t:Txt)(l:List Tok)(hs:S.length≤1000000000)(hs2:1≤S.length)(ht:t.length≤1000000000)(hl:l.length≤9000000000)(ho:fC (S.drop 1)=none)(w:World)(hsc:Sc w base b S t l)(hE:Env w base):
 Calls Tryz.prog 191 #[.pointer (some ⟨b,0,none⟩),.int .i64 1,.int .i64 1] w fun e w'=>e=.returned (.tuple #[])∧Sc w' base b [] [] (l++fE t)∧Below base w w':=by
 have hbb:=hsc.1;have hc1:=Lib.hid (rO base b S t l ht (by omega) w hsc hE);have hl1:(l++fE t).length≤9000000001:=by unfold fE;split<;>simp<;>omega
 generalize l++fE t=l1 at *;have hc2:=Lib.hid (fun W hS=>vW (S.drop 1) (by simp;omega) W hS);rw[ho]at hc2;simp only[qc,GH]at hc2;rw[List.drop_one]at hc2;have h2I:(1:Int)≤S.length:=by omega
 go_enter Tryz.func191,Tryz.ntmps191
 go_wp2_with(first
  |(go_at_call 159;((with_reducible refine(hc1.out).mono ?_);rintro e w1 ⟨rfl,hsc1,hb1⟩;have hE1:=hE.below hb1;obtain⟨_,v1,hh1,hT1⟩:=id hsc1;obtain⟨ad1,cp1,rfl⟩:=hT1.len;obtain⟨⟨d0,d1,d2⟩,d5⟩:=aN hh1;have hle1:=hE1.le;have hS1:=hE1.std;have hlt1:=lu hh1))
  |(go_at_call 213;((with_reducible refine(hc2.out _ hS1).mono ?_);rintro e w2 ⟨va,rfl,hA2,hb2⟩;have hh2:=aT hh1 hb2;obtain⟨⟨f0,f1,f2⟩,f5⟩:=aN hh2;have hT2:=hT1.below hb2;have zw:=hb2.size;have hne1:b≠w2.heap.size:=(by omega);have hne2:w2.heap.size≠b:=(by omega);have hle2:base≤w2.heap.size:=(by omega);have hh3:=dP hh2 (.cells #[.int .i64 0,.string ⟨#[]⟩,.string ⟨#[]⟩,.slice none 0 0,.bool false] 65);have hT3:=hT2.alloc (.cells #[.int .i64 0,.string ⟨#[]⟩,.string ⟨#[]⟩,.slice none 0 0,.bool false] 65);obtain⟨⟨p0,p1,p2⟩,p5⟩:=aN hh3;have hBb:=bB hb1 hle1 hb2;have hBc:=hBb.alloc hle2 (.cells #[.int .i64 0,.string ⟨#[]⟩,.string ⟨#[]⟩,.slice none 0 0,.bool false] 65))))
 have fP:Sc _ base b S [] l1:=⟨hbb,_,hh3,hT3⟩;refine bodyPost_ret (v:=.tuple #[]) (by simp[results,Tryz.results191,go_sem]) rfl ⟨rfl,(fP.tK []).tK [],aH (aH hBc hbb _) hbb _⟩
theorem tag_c1(base b:Nat)(S t:Txt)(l:List Tok)(hs:S.length≤1000000000)(hs2:1≤S.length)(ht:t.length≤1000000000)(hl:l.length≤9000000000)(w:World)(hsc:Sc w base b S t l)(hE:Env w base):
 Calls Tryz.prog 191 #[.pointer (some ⟨b,0,none⟩),.int .i64 1,.int .i64 1] w fun e w'=>e=.returned (.tuple #[])∧Sc w' base b (pq 1 (S.drop 1)).2 [] ((l++fE t)++(pq 1 (S.drop 1)).1)∧Below base w w':=by
 unfold pq;cases ho:fC (S.drop 1)with
 |none=>
  refine(tag_N1 base b S t l hs hs2 ht hl ho w hsc hE).mono ?_;rintro e w' ⟨h1,h2,h3⟩;exact⟨h1,by simpa using h2,h3⟩
 |some x=>
  obtain⟨tk,r⟩:=x;obtain⟨hf,hnl0⟩:=EA ho;have hnl:tk.name.length≤1000000000:=by simp at hnl0;omega
  have hd:tk.data=[]:=by rw[hf]
  rw[hf]at ho;simp only;rw[if_neg (by decide)];cases hr:kX tk.name with
  |true=>
   refine(tag_R base b S t l hs hs2 ht hl tk.name tk.attrs tk.self r ho hr hnl w hsc hE).mono ?_;rintro e w' ⟨h1,h2,h3⟩;refine⟨h1,?_,h3⟩;rw[hd];simpa using h2
  |false=>
   cases hso:kV tk.name with
   |true=>
    refine(tag_S base b S t l hs hs2 ht hl tk.name tk.attrs tk.self r ho hr hso hnl w hsc hE).mono ?_;rintro e w' ⟨h1,h2,h3⟩;refine⟨h1,?_,h3⟩;rw[hd];simpa using h2
   |false=>
    refine(tag_P base b S t l hs hs2 ht hl tk.name tk.attrs tk.self r ho hr hso w hsc hE).mono ?_;rintro e w' ⟨h1,h2,h3⟩;refine⟨h1,?_,h3⟩;rw[hd];simpa using h2
theorem tag_N2(base b:Nat)(S t:Txt)(l:List Tok)(hs:S.length≤1000000000)(hs2:2≤S.length)(ht:t.length≤1000000000)(hl:l.length≤9000000000)(ho:fC (S.drop 2)=none)(w:World)(hsc:Sc w base b S t l)(hE:Env w base):
 Calls Tryz.prog 191 #[.pointer (some ⟨b,0,none⟩),.int .i64 2,.int .i64 2] w fun e w'=>e=.returned (.tuple #[])∧Sc w' base b [] [] (l++fE t)∧Below base w w':=by
 have hbb:=hsc.1;have hc1:=Lib.hid (rO base b S t l ht (by omega) w hsc hE);have hl1:(l++fE t).length≤9000000001:=by unfold fE;split<;>simp<;>omega
 generalize l++fE t=l1 at *;have hc2:=Lib.hid (fun W hS=>vW (S.drop 2) (by simp;omega) W hS);rw[ho]at hc2;simp only[qc,GH]at hc2;have h2I:(2:Int)≤S.length:=by omega
 go_enter Tryz.func191,Tryz.ntmps191
 go_wp2_with(first
  |(go_at_call 159;((with_reducible refine(hc1.out).mono ?_);rintro e w1 ⟨rfl,hsc1,hb1⟩;have hE1:=hE.below hb1;obtain⟨_,v1,hh1,hT1⟩:=id hsc1;obtain⟨ad1,cp1,rfl⟩:=hT1.len;obtain⟨⟨d0,d1,d2⟩,d5⟩:=aN hh1;have hle1:=hE1.le;have hS1:=hE1.std;have hlt1:=lu hh1))
  |(go_at_call 213;((with_reducible refine(hc2.out _ hS1).mono ?_);rintro e w2 ⟨va,rfl,hA2,hb2⟩;have hh2:=aT hh1 hb2;obtain⟨⟨f0,f1,f2⟩,f5⟩:=aN hh2;have hT2:=hT1.below hb2;have zw:=hb2.size;have hne1:b≠w2.heap.size:=(by omega);have hne2:w2.heap.size≠b:=(by omega);have hle2:base≤w2.heap.size:=(by omega);have hh3:=dP hh2 (.cells #[.int .i64 0,.string ⟨#[]⟩,.string ⟨#[]⟩,.slice none 0 0,.bool false] 65);have hT3:=hT2.alloc (.cells #[.int .i64 0,.string ⟨#[]⟩,.string ⟨#[]⟩,.slice none 0 0,.bool false] 65);obtain⟨⟨p0,p1,p2⟩,p5⟩:=aN hh3;have hBb:=bB hb1 hle1 hb2;have hBc:=hBb.alloc hle2 (.cells #[.int .i64 0,.string ⟨#[]⟩,.string ⟨#[]⟩,.slice none 0 0,.bool false] 65))))
 have fP:Sc _ base b S [] l1:=⟨hbb,_,hh3,hT3⟩;refine bodyPost_ret (v:=.tuple #[]) (by simp[results,Tryz.results191,go_sem]) rfl ⟨rfl,(fP.tK []).tK [],aH (aH hBc hbb _) hbb _⟩
theorem tag_c2(base b:Nat)(S t:Txt)(l:List Tok)(hs:S.length≤1000000000)(hs2:2≤S.length)(ht:t.length≤1000000000)(hl:l.length≤9000000000)(w:World)(hsc:Sc w base b S t l)(hE:Env w base):
 Calls Tryz.prog 191 #[.pointer (some ⟨b,0,none⟩),.int .i64 2,.int .i64 2] w fun e w'=>e=.returned (.tuple #[])∧Sc w' base b (pq 2 (S.drop 2)).2 [] ((l++fE t)++(pq 2 (S.drop 2)).1)∧Below base w w':=by
 unfold pq;cases ho:fC (S.drop 2)with
 |none=>
  refine(tag_N2 base b S t l hs hs2 ht hl ho w hsc hE).mono ?_;rintro e w' ⟨h1,h2,h3⟩;exact⟨h1,by simpa using h2,h3⟩
 |some x=>
  obtain⟨tk,r⟩:=x;obtain⟨hf,hnl0⟩:=EA ho;have hnl:tk.name.length≤1000000000:=by simp at hnl0;omega
  have hd:tk.data=[]:=by rw[hf]
  rw[hf]at ho;simp only;refine(tag_E base b S t l hs hs2 ht hl tk.name tk.attrs tk.self r ho w hsc hE).mono ?_;rintro e w' ⟨h1,h2,h3⟩;refine⟨h1,?_,h3⟩;simpa using h2
def OpenPost(o:Option (List Tok×Txt))(w':World)(base b:Nat)(s t:Txt)(l:List Tok):Prop:=
 match o with
 |none=>Sc w' base b s (t++[60]) l
 |some (ts,r)=>Sc w' base b r [] ((l++fE t)++ts)
theorem opens_c(base b:Nat)(s t:Txt)(l:List Tok)(hs:s.length≤900000000)(ht:t.length≤900000000)(hl:l.length≤9000000000)(w:World)(hsc:Sc w base b (60::s) t l)(hE:Env w base):
 Calls Tryz.prog 158 #[.pointer (some ⟨b,0,none⟩)] w fun e w'=>e=.returned (.tuple #[])∧OpenPost (jd s) w' base b s t l∧Below base w w':=by
 have hbb:=hsc.1;have hle:=hE.le;obtain⟨_,v,hh,hT⟩:=id hsc;obtain⟨ad,cp,rfl⟩:=hT.len;obtain⟨⟨c0,c1,c2⟩,c5⟩:=aN hh;have hsl:(60::s).length≤1000000000:=by simp;omega
 have hsl1:(60::s).length=s.length+1:=rfl;have wB:=Lib.hid (rO base b (60::s) t l (by omega) (by omega) w hsc hE);have wC:=Lib.hid (tag_c1 base b (60::s) t l hsl (by omega) (by omega) hl w hsc hE);have wD:=Lib.hid (fun h=>tag_c2 base b (60::s) t l hsl h (by omega) hl w hsc hE);have hcom:=Lib.hid (fun h=>Us base b (60::s) t l hsl h (by omega) (by omega) w hsc hE);have hn9:=Lib.hid (fun h W h1 h2=>note_c4 base b (60::s) t [62] l 9 9 rfl h hsl (by omega) (by omega) W h1 h2);have hn2:=Lib.hid (fun h W h1 h2=>LV base b (60::s) t [62] l 2 2 rfl h hsl (by omega) (by omega) W h1 h2);have hn1:=Lib.hid (fun h W h1 h2=>LV base b (60::s) t [62] l 1 1 rfl h hsl (by omega) (by omega) W h1 h2)
 have hof:Hid (jd s=if gP s then some (pq 1 s)
  else if Lib.hasPrefix s [47]&&gP s.tail then some (pq 2 s.tail)
  else if Lib.hasPrefix s [47,62]then some ([],s.drop 2)
  else if Lib.hasPrefix s [33,45,45]then some (jk (s.drop 3))
  else if jN s then some (mF 4 (s.drop 8) [62])
  else if Lib.hasPrefix s [33]then some (mF 3 s.tail [62])
  else if Lib.hasPrefix s [63]then some (mF 3 s [62])
  else if decide (1<s.length)&&Lib.hasPrefix s [47]then some (mF 3 s.tail [62])
  else none):=rfl
 have p2:=@qV s [47];have p3:=@qV s [47,62];have p4:=@qV s [33,45,45]
 have p5:jN s=true→8≤s.length:=by
  intro h;unfold jN at h;simp only[Bool.and_eq_true,decide_eq_true_eq]at h;exact h.1.1
 have p6:=@qV s [33];have p7:=@qV s [63];simp only[List.length_cons,List.length_nil]at p2 p3 p4 p6 p7
 have g2:∀h:0<s.length,Lib.hasPrefix s [47]=decide ((s[0].toNat:Int)=47):=by
  intro h;cases s with
  |nil=>simp at h
  |cons c u=>
   have hc:=jw (p:=fun c=>(47==c)==decide ((c.toNat:Int)=47)) (by decide +kernel) c;simp only[Lib.hasPrefix,List.isPrefixOf,Bool.and_true,List.getElem_cons_zero];exact beq_iff_eq.1 hc
 have q1:=Lib.hid (fun W=>Hw s W);have q2:=Lib.hid (fun W=>kY s [47] W);have q2t:=Lib.hid (fun W=>Hw s.tail W);have q3:=Lib.hid (fun W=>kY s [47,62] W);have q4:=Lib.hid (fun W=>kY s [33,45,45] W);have q5:=Lib.hid (fun W=>Oe s (by omega) W);have q6:=Lib.hid (fun W=>kY s [33] W);have q7:=Lib.hid (fun W=>kY s [63] W);have i3:((3:Int)=4)=False:=by simp
 have e2:Lib.hasPrefix s [47]=true→Lib.hasPrefix s [33,45,45]=false∧jN s=false∧Lib.hasPrefix s [33]=false∧Lib.hasPrefix s [63]=false:=by
  intro h;cases s with
  |nil=>simp[Lib.hasPrefix,List.isPrefixOf]at h
  |cons c u=>
   simp only[Lib.hasPrefix,List.isPrefixOf,Bool.and_true,beq_iff_eq]at h;subst h;simp[Lib.hasPrefix,List.isPrefixOf,jN,iZ,mI]
 have e3:Lib.hasPrefix s [47]=false→Lib.hasPrefix s [47,62]=false:=by
  intro h;cases s with
  |nil=>rfl
  |cons c u=>
   simp only[Lib.hasPrefix,List.isPrefixOf,Bool.and_true]at h;simp[Lib.hasPrefix,List.isPrefixOf,h]
 simp only[mF,jM,List.drop_succ_cons,List.drop_zero,List.drop_one,i3,if_true,if_false]at wC wD hcom hn9 hn2 hn1 hof;clear i3;generalize pq 1 s=y1 at *;generalize pq 2 s.tail=y2 at *;generalize jk (s.drop 3)=y4 at *;generalize jS (Lib.cut (s.drop 8) [62]).1=z5 at *;generalize Lib.cut (s.drop 8) [62]=y5 at *;generalize Lib.cut s.tail [62]=y6 at *;generalize Lib.cut s [62]=y7 at *;obtain⟨a1,r1⟩:=y1;obtain⟨a2,r2⟩:=y2;obtain⟨a4,r4⟩:=y4;obtain⟨a5,r5,u5⟩:=y5;obtain⟨a6,r6,u6⟩:=y6;obtain⟨a7,r7,u7⟩:=y7;simp only at wC wD hcom hn9 hn2 hn1 hof;generalize gP s=b1 at *;generalize gP s.tail=b2t at *;generalize Lib.hasPrefix s [47]=b2 at *;generalize Lib.hasPrefix s [47,62]=b3 at *;generalize Lib.hasPrefix s [33,45,45]=b4 at *;generalize jN s=b5 at *;generalize Lib.hasPrefix s [33]=b6 at *;generalize Lib.hasPrefix s [63]=b7 at *;cases b1 with
 |true=>
  have vG:=Lib.hid (show jd s=some (a1,r1) by rw[hof.out];simp);clear hof;go_enter Tryz.func158,Tryz.ntmps158
  go_wp2_with(first
   |(go_at_call 190;first
    |((with_reducible refine(q1.out _).mono ?_);rintro e w2 ⟨rfl,rfl⟩)
    |((with_reducible refine(q2t.out _).mono ?_);rintro e w2 ⟨rfl,rfl⟩))
   |(go_at_call 94;first
    |((with_reducible refine(q2.out _).mono ?_);rintro e w2 ⟨rfl,rfl⟩)
    |((with_reducible refine(q3.out _).mono ?_);rintro e w2 ⟨rfl,rfl⟩)
    |((with_reducible refine(q4.out _).mono ?_);rintro e w2 ⟨rfl,rfl⟩)
    |((with_reducible refine(q6.out _).mono ?_);rintro e w2 ⟨rfl,rfl⟩)
    |((with_reducible refine(q7.out _).mono ?_);rintro e w2 ⟨rfl,rfl⟩))
   |(go_at_call 193;((with_reducible refine(q5.out _).mono ?_);rintro e w1 ⟨rfl,hb1⟩;have hsc1:=hsc.below hb1;have hB1:=jL hb1 hle;have hE1:=hE.below hB1;have hh1:=aT hh hb1;obtain⟨⟨x0,x1,x2⟩,x5⟩:=aN hh1))
   |(go_at_call 159;((with_reducible refine(wB.out).mono ?_);rintro e w3 ⟨rfl,fP,hb3⟩;obtain⟨_,v3,hh3,hT3⟩:=id fP;obtain⟨⟨y0,y1,y2⟩,y5⟩:=aN hh3))
   |(go_at_call 191;first
    |((with_reducible refine(wC.out).mono ?_);rintro e w3 ⟨rfl,fP,hb3⟩)
    |((with_reducible refine(wD.out (by omega)).mono ?_);rintro e w3 ⟨rfl,fP,hb3⟩))
   |(go_at_call 192;((with_reducible refine(hcom.out (by omega)).mono ?_);rintro e w3 ⟨rfl,fP,hb3⟩))
   |(go_at_call 194;first
    |((with_reducible refine(hn9.out (by omega) _ hsc1 hE1).mono ?_);rintro e w3 ⟨rfl,fP,hb3⟩)
    |((with_reducible refine(hn2.out (by omega) _ hsc1 hE1).mono ?_);rintro e w3 ⟨rfl,fP,hb3⟩)
    |((with_reducible refine(hn1.out (by omega) _ hsc1 hE1).mono ?_);rintro e w3 ⟨rfl,fP,hb3⟩)))
  go_end0;rw[vG.out];exact⟨rfl,fP,hb3⟩
 |false=>
  cases b2 with
  |true=>
   have l1:=p2 rfl;have l1I:(1:Int)≤s.length:=by omega
   cases b2t with
   |true=>
    have vG:=Lib.hid (show jd s=some (a2,r2) by rw[hof.out];simp);clear hof;go_enter Tryz.func158,Tryz.ntmps158
    go_wp2_with(first
     |(go_at_call 190;first
      |((with_reducible refine(q1.out _).mono ?_);rintro e w2 ⟨rfl,rfl⟩)
      |((with_reducible refine(q2t.out _).mono ?_);rintro e w2 ⟨rfl,rfl⟩))
     |(go_at_call 94;first
      |((with_reducible refine(q2.out _).mono ?_);rintro e w2 ⟨rfl,rfl⟩)
      |((with_reducible refine(q3.out _).mono ?_);rintro e w2 ⟨rfl,rfl⟩)
      |((with_reducible refine(q4.out _).mono ?_);rintro e w2 ⟨rfl,rfl⟩)
      |((with_reducible refine(q6.out _).mono ?_);rintro e w2 ⟨rfl,rfl⟩)
      |((with_reducible refine(q7.out _).mono ?_);rintro e w2 ⟨rfl,rfl⟩))
     |(go_at_call 193;((with_reducible refine(q5.out _).mono ?_);rintro e w1 ⟨rfl,hb1⟩;have hsc1:=hsc.below hb1;have hB1:=jL hb1 hle;have hE1:=hE.below hB1;have hh1:=aT hh hb1;obtain⟨⟨x0,x1,x2⟩,x5⟩:=aN hh1))
     |(go_at_call 159;((with_reducible refine(wB.out).mono ?_);rintro e w3 ⟨rfl,fP,hb3⟩;obtain⟨_,v3,hh3,hT3⟩:=id fP;obtain⟨⟨y0,y1,y2⟩,y5⟩:=aN hh3))
     |(go_at_call 191;first
      |((with_reducible refine(wC.out).mono ?_);rintro e w3 ⟨rfl,fP,hb3⟩)
      |((with_reducible refine(wD.out (by omega)).mono ?_);rintro e w3 ⟨rfl,fP,hb3⟩))
     |(go_at_call 192;((with_reducible refine(hcom.out (by omega)).mono ?_);rintro e w3 ⟨rfl,fP,hb3⟩))
     |(go_at_call 194;first
      |((with_reducible refine(hn9.out (by omega) _ hsc1 hE1).mono ?_);rintro e w3 ⟨rfl,fP,hb3⟩)
      |((with_reducible refine(hn2.out (by omega) _ hsc1 hE1).mono ?_);rintro e w3 ⟨rfl,fP,hb3⟩)
      |((with_reducible refine(hn1.out (by omega) _ hsc1 hE1).mono ?_);rintro e w3 ⟨rfl,fP,hb3⟩)))
    go_end0;rw[vG.out];exact⟨rfl,fP,hb3⟩
   |false=>
    obtain⟨f4,f5,f6,f7⟩:=e2 rfl;subst f4 f5 f6 f7;cases b3 with
    |true=>
     have l2:=p3 rfl;have l2I:(2:Int)≤s.length:=by omega
     have vG:=Lib.hid (show jd s=some ([],s.drop 2) by rw[hof.out];simp);clear hof;go_enter Tryz.func158,Tryz.ntmps158
     go_wp2_with(first
      |(go_at_call 190;first
       |((with_reducible refine(q1.out _).mono ?_);rintro e w2 ⟨rfl,rfl⟩)
       |((with_reducible refine(q2t.out _).mono ?_);rintro e w2 ⟨rfl,rfl⟩))
      |(go_at_call 94;first
       |((with_reducible refine(q2.out _).mono ?_);rintro e w2 ⟨rfl,rfl⟩)
       |((with_reducible refine(q3.out _).mono ?_);rintro e w2 ⟨rfl,rfl⟩)
       |((with_reducible refine(q4.out _).mono ?_);rintro e w2 ⟨rfl,rfl⟩)
       |((with_reducible refine(q6.out _).mono ?_);rintro e w2 ⟨rfl,rfl⟩)
       |((with_reducible refine(q7.out _).mono ?_);rintro e w2 ⟨rfl,rfl⟩))
      |(go_at_call 193;((with_reducible refine(q5.out _).mono ?_);rintro e w1 ⟨rfl,hb1⟩;have hsc1:=hsc.below hb1;have hB1:=jL hb1 hle;have hE1:=hE.below hB1;have hh1:=aT hh hb1;obtain⟨⟨x0,x1,x2⟩,x5⟩:=aN hh1))
      |(go_at_call 159;((with_reducible refine(wB.out).mono ?_);rintro e w3 ⟨rfl,fP,hb3⟩;obtain⟨_,v3,hh3,hT3⟩:=id fP;obtain⟨⟨y0,y1,y2⟩,y5⟩:=aN hh3))
      |(go_at_call 191;first
       |((with_reducible refine(wC.out).mono ?_);rintro e w3 ⟨rfl,fP,hb3⟩)
       |((with_reducible refine(wD.out (by omega)).mono ?_);rintro e w3 ⟨rfl,fP,hb3⟩))
      |(go_at_call 192;((with_reducible refine(hcom.out (by omega)).mono ?_);rintro e w3 ⟨rfl,fP,hb3⟩))
      |(go_at_call 194;first
       |((with_reducible refine(hn9.out (by omega) _ hsc1 hE1).mono ?_);rintro e w3 ⟨rfl,fP,hb3⟩)
       |((with_reducible refine(hn2.out (by omega) _ hsc1 hE1).mono ?_);rintro e w3 ⟨rfl,fP,hb3⟩)
       |((with_reducible refine(hn1.out (by omega) _ hsc1 hE1).mono ?_);rintro e w3 ⟨rfl,fP,hb3⟩)))
     go_end0;rw[vG.out];exact⟨rfl,(by show Sc _ base b (s.drop 2) [] ((l++fE t)++[]);rw[List.append_nil];exact fP.tK (s.drop 2)),aH hb3 hbb _⟩
    |false=>
     have g3:=g2 (by omega)
     by_cases hd1:1<s.length
     ·have hd1I:(1:Int)<s.length:=by omega
      obtain⟨n0,hn0⟩:∃n,s[0].toNat=n:=⟨_,rfl⟩
      rw[hn0]at g3;have g4:n0=47:=by have h:=g3.symm;simp at h;omega
      subst g4;clear g2 g3;have vG:=Lib.hid (show jd s=(some ([⟨3,[],[],a6,false⟩],r6)) by rw[hof.out];simp[hd1]);have hd2:=hd1;clear hof;go_enter Tryz.func158,Tryz.ntmps158
      go_wp2_with(first
       |(go_at_call 190;first
        |((with_reducible refine(q1.out _).mono ?_);rintro e w2 ⟨rfl,rfl⟩)
        |((with_reducible refine(q2t.out _).mono ?_);rintro e w2 ⟨rfl,rfl⟩))
       |(go_at_call 94;first
        |((with_reducible refine(q2.out _).mono ?_);rintro e w2 ⟨rfl,rfl⟩)
        |((with_reducible refine(q3.out _).mono ?_);rintro e w2 ⟨rfl,rfl⟩)
        |((with_reducible refine(q4.out _).mono ?_);rintro e w2 ⟨rfl,rfl⟩)
        |((with_reducible refine(q6.out _).mono ?_);rintro e w2 ⟨rfl,rfl⟩)
        |((with_reducible refine(q7.out _).mono ?_);rintro e w2 ⟨rfl,rfl⟩))
       |(go_at_call 193;((with_reducible refine(q5.out _).mono ?_);rintro e w1 ⟨rfl,hb1⟩;have hsc1:=hsc.below hb1;have hB1:=jL hb1 hle;have hE1:=hE.below hB1;have hh1:=aT hh hb1;obtain⟨⟨x0,x1,x2⟩,x5⟩:=aN hh1))
       |(go_at_call 159;((with_reducible refine(wB.out).mono ?_);rintro e w3 ⟨rfl,fP,hb3⟩;obtain⟨_,v3,hh3,hT3⟩:=id fP;obtain⟨⟨y0,y1,y2⟩,y5⟩:=aN hh3))
       |(go_at_call 191;first
        |((with_reducible refine(wC.out).mono ?_);rintro e w3 ⟨rfl,fP,hb3⟩)
        |((with_reducible refine(wD.out (by omega)).mono ?_);rintro e w3 ⟨rfl,fP,hb3⟩))
       |(go_at_call 192;((with_reducible refine(hcom.out (by omega)).mono ?_);rintro e w3 ⟨rfl,fP,hb3⟩))
       |(go_at_call 194;first
        |((with_reducible refine(hn9.out (by omega) _ hsc1 hE1).mono ?_);rintro e w3 ⟨rfl,fP,hb3⟩)
        |((with_reducible refine(hn2.out (by omega) _ hsc1 hE1).mono ?_);rintro e w3 ⟨rfl,fP,hb3⟩)
        |((with_reducible refine(hn1.out (by omega) _ hsc1 hE1).mono ?_);rintro e w3 ⟨rfl,fP,hb3⟩)))
      go_end0;rw[vG.out];exact⟨rfl,fP,hB1.trans hb3⟩
     ·have hd1I:¬(1:Int)<s.length:=by omega
      clear g2 g3;have vG:=Lib.hid (show jd s=none by rw[hof.out];simp[hd1]);have hd2:=hd1;clear hof;go_enter Tryz.func158,Tryz.ntmps158
      go_wp2_with(first
       |(go_at_call 190;first
        |((with_reducible refine(q1.out _).mono ?_);rintro e w2 ⟨rfl,rfl⟩)
        |((with_reducible refine(q2t.out _).mono ?_);rintro e w2 ⟨rfl,rfl⟩))
       |(go_at_call 94;first
        |((with_reducible refine(q2.out _).mono ?_);rintro e w2 ⟨rfl,rfl⟩)
        |((with_reducible refine(q3.out _).mono ?_);rintro e w2 ⟨rfl,rfl⟩)
        |((with_reducible refine(q4.out _).mono ?_);rintro e w2 ⟨rfl,rfl⟩)
        |((with_reducible refine(q6.out _).mono ?_);rintro e w2 ⟨rfl,rfl⟩)
        |((with_reducible refine(q7.out _).mono ?_);rintro e w2 ⟨rfl,rfl⟩))
       |(go_at_call 193;((with_reducible refine(q5.out _).mono ?_);rintro e w1 ⟨rfl,hb1⟩;have hsc1:=hsc.below hb1;have hB1:=jL hb1 hle;have hE1:=hE.below hB1;have hh1:=aT hh hb1;obtain⟨⟨x0,x1,x2⟩,x5⟩:=aN hh1))
       |(go_at_call 159;((with_reducible refine(wB.out).mono ?_);rintro e w3 ⟨rfl,fP,hb3⟩;obtain⟨_,v3,hh3,hT3⟩:=id fP;obtain⟨⟨y0,y1,y2⟩,y5⟩:=aN hh3))
       |(go_at_call 191;first
        |((with_reducible refine(wC.out).mono ?_);rintro e w3 ⟨rfl,fP,hb3⟩)
        |((with_reducible refine(wD.out (by omega)).mono ?_);rintro e w3 ⟨rfl,fP,hb3⟩))
       |(go_at_call 192;((with_reducible refine(hcom.out (by omega)).mono ?_);rintro e w3 ⟨rfl,fP,hb3⟩))
       |(go_at_call 194;first
        |((with_reducible refine(hn9.out (by omega) _ hsc1 hE1).mono ?_);rintro e w3 ⟨rfl,fP,hb3⟩)
        |((with_reducible refine(hn2.out (by omega) _ hsc1 hE1).mono ?_);rintro e w3 ⟨rfl,fP,hb3⟩)
        |((with_reducible refine(hn1.out (by omega) _ hsc1 hE1).mono ?_);rintro e w3 ⟨rfl,fP,hb3⟩)))
      go_end0;rw[vG.out];exact⟨rfl,(hsc1.JI (t++[60])).tK s,aH (aH hB1 hbb _) hbb _⟩
  |false=>
   have f3:=e3 rfl;subst f3;cases b4 with
   |true=>
    have l3:=p4 rfl;have l3I:(3:Int)≤s.length:=by omega
    have vG:=Lib.hid (show jd s=some (a4,r4) by rw[hof.out];simp);clear hof;go_enter Tryz.func158,Tryz.ntmps158
    go_wp2_with(first
     |(go_at_call 190;first
      |((with_reducible refine(q1.out _).mono ?_);rintro e w2 ⟨rfl,rfl⟩)
      |((with_reducible refine(q2t.out _).mono ?_);rintro e w2 ⟨rfl,rfl⟩))
     |(go_at_call 94;first
      |((with_reducible refine(q2.out _).mono ?_);rintro e w2 ⟨rfl,rfl⟩)
      |((with_reducible refine(q3.out _).mono ?_);rintro e w2 ⟨rfl,rfl⟩)
      |((with_reducible refine(q4.out _).mono ?_);rintro e w2 ⟨rfl,rfl⟩)
      |((with_reducible refine(q6.out _).mono ?_);rintro e w2 ⟨rfl,rfl⟩)
      |((with_reducible refine(q7.out _).mono ?_);rintro e w2 ⟨rfl,rfl⟩))
     |(go_at_call 193;((with_reducible refine(q5.out _).mono ?_);rintro e w1 ⟨rfl,hb1⟩;have hsc1:=hsc.below hb1;have hB1:=jL hb1 hle;have hE1:=hE.below hB1;have hh1:=aT hh hb1;obtain⟨⟨x0,x1,x2⟩,x5⟩:=aN hh1))
     |(go_at_call 159;((with_reducible refine(wB.out).mono ?_);rintro e w3 ⟨rfl,fP,hb3⟩;obtain⟨_,v3,hh3,hT3⟩:=id fP;obtain⟨⟨y0,y1,y2⟩,y5⟩:=aN hh3))
     |(go_at_call 191;first
      |((with_reducible refine(wC.out).mono ?_);rintro e w3 ⟨rfl,fP,hb3⟩)
      |((with_reducible refine(wD.out (by omega)).mono ?_);rintro e w3 ⟨rfl,fP,hb3⟩))
     |(go_at_call 192;((with_reducible refine(hcom.out (by omega)).mono ?_);rintro e w3 ⟨rfl,fP,hb3⟩))
     |(go_at_call 194;first
      |((with_reducible refine(hn9.out (by omega) _ hsc1 hE1).mono ?_);rintro e w3 ⟨rfl,fP,hb3⟩)
      |((with_reducible refine(hn2.out (by omega) _ hsc1 hE1).mono ?_);rintro e w3 ⟨rfl,fP,hb3⟩)
      |((with_reducible refine(hn1.out (by omega) _ hsc1 hE1).mono ?_);rintro e w3 ⟨rfl,fP,hb3⟩)))
    go_end0;rw[vG.out];exact⟨rfl,fP,hb3⟩
   |false=>
    cases b5 with
    |true=>
     have l8:=p5 rfl;have vG:=Lib.hid (show jd s=(some ([⟨4,[],[],z5,false⟩],r5)) by rw[hof.out];simp);clear hof;go_enter Tryz.func158,Tryz.ntmps158
     go_wp2_with(first
      |(go_at_call 190;first
       |((with_reducible refine(q1.out _).mono ?_);rintro e w2 ⟨rfl,rfl⟩)
       |((with_reducible refine(q2t.out _).mono ?_);rintro e w2 ⟨rfl,rfl⟩))
      |(go_at_call 94;first
       |((with_reducible refine(q2.out _).mono ?_);rintro e w2 ⟨rfl,rfl⟩)
       |((with_reducible refine(q3.out _).mono ?_);rintro e w2 ⟨rfl,rfl⟩)
       |((with_reducible refine(q4.out _).mono ?_);rintro e w2 ⟨rfl,rfl⟩)
       |((with_reducible refine(q6.out _).mono ?_);rintro e w2 ⟨rfl,rfl⟩)
       |((with_reducible refine(q7.out _).mono ?_);rintro e w2 ⟨rfl,rfl⟩))
      |(go_at_call 193;((with_reducible refine(q5.out _).mono ?_);rintro e w1 ⟨rfl,hb1⟩;have hsc1:=hsc.below hb1;have hB1:=jL hb1 hle;have hE1:=hE.below hB1;have hh1:=aT hh hb1;obtain⟨⟨x0,x1,x2⟩,x5⟩:=aN hh1))
      |(go_at_call 159;((with_reducible refine(wB.out).mono ?_);rintro e w3 ⟨rfl,fP,hb3⟩;obtain⟨_,v3,hh3,hT3⟩:=id fP;obtain⟨⟨y0,y1,y2⟩,y5⟩:=aN hh3))
      |(go_at_call 191;first
       |((with_reducible refine(wC.out).mono ?_);rintro e w3 ⟨rfl,fP,hb3⟩)
       |((with_reducible refine(wD.out (by omega)).mono ?_);rintro e w3 ⟨rfl,fP,hb3⟩))
      |(go_at_call 192;((with_reducible refine(hcom.out (by omega)).mono ?_);rintro e w3 ⟨rfl,fP,hb3⟩))
      |(go_at_call 194;first
       |((with_reducible refine(hn9.out (by omega) _ hsc1 hE1).mono ?_);rintro e w3 ⟨rfl,fP,hb3⟩)
       |((with_reducible refine(hn2.out (by omega) _ hsc1 hE1).mono ?_);rintro e w3 ⟨rfl,fP,hb3⟩)
       |((with_reducible refine(hn1.out (by omega) _ hsc1 hE1).mono ?_);rintro e w3 ⟨rfl,fP,hb3⟩)))
     go_end0;rw[vG.out];exact⟨rfl,fP,hB1.trans hb3⟩
    |false=>
     cases b6 with
     |true=>
      have l1:=p6 rfl;have vG:=Lib.hid (show jd s=(some ([⟨3,[],[],a6,false⟩],r6)) by rw[hof.out];simp);clear hof;go_enter Tryz.func158,Tryz.ntmps158
      go_wp2_with(first
       |(go_at_call 190;first
        |((with_reducible refine(q1.out _).mono ?_);rintro e w2 ⟨rfl,rfl⟩)
        |((with_reducible refine(q2t.out _).mono ?_);rintro e w2 ⟨rfl,rfl⟩))
       |(go_at_call 94;first
        |((with_reducible refine(q2.out _).mono ?_);rintro e w2 ⟨rfl,rfl⟩)
        |((with_reducible refine(q3.out _).mono ?_);rintro e w2 ⟨rfl,rfl⟩)
        |((with_reducible refine(q4.out _).mono ?_);rintro e w2 ⟨rfl,rfl⟩)
        |((with_reducible refine(q6.out _).mono ?_);rintro e w2 ⟨rfl,rfl⟩)
        |((with_reducible refine(q7.out _).mono ?_);rintro e w2 ⟨rfl,rfl⟩))
       |(go_at_call 193;((with_reducible refine(q5.out _).mono ?_);rintro e w1 ⟨rfl,hb1⟩;have hsc1:=hsc.below hb1;have hB1:=jL hb1 hle;have hE1:=hE.below hB1;have hh1:=aT hh hb1;obtain⟨⟨x0,x1,x2⟩,x5⟩:=aN hh1))
       |(go_at_call 159;((with_reducible refine(wB.out).mono ?_);rintro e w3 ⟨rfl,fP,hb3⟩;obtain⟨_,v3,hh3,hT3⟩:=id fP;obtain⟨⟨y0,y1,y2⟩,y5⟩:=aN hh3))
       |(go_at_call 191;first
        |((with_reducible refine(wC.out).mono ?_);rintro e w3 ⟨rfl,fP,hb3⟩)
        |((with_reducible refine(wD.out (by omega)).mono ?_);rintro e w3 ⟨rfl,fP,hb3⟩))
       |(go_at_call 192;((with_reducible refine(hcom.out (by omega)).mono ?_);rintro e w3 ⟨rfl,fP,hb3⟩))
       |(go_at_call 194;first
        |((with_reducible refine(hn9.out (by omega) _ hsc1 hE1).mono ?_);rintro e w3 ⟨rfl,fP,hb3⟩)
        |((with_reducible refine(hn2.out (by omega) _ hsc1 hE1).mono ?_);rintro e w3 ⟨rfl,fP,hb3⟩)
        |((with_reducible refine(hn1.out (by omega) _ hsc1 hE1).mono ?_);rintro e w3 ⟨rfl,fP,hb3⟩)))
      go_end0;rw[vG.out];exact⟨rfl,fP,hB1.trans hb3⟩
     |false=>
      cases b7 with
      |true=>
       have l1:=p7 rfl;have vG:=Lib.hid (show jd s=(some ([⟨3,[],[],a7,false⟩],r7)) by rw[hof.out];simp);clear hof;go_enter Tryz.func158,Tryz.ntmps158
       go_wp2_with(first
        |(go_at_call 190;first
         |((with_reducible refine(q1.out _).mono ?_);rintro e w2 ⟨rfl,rfl⟩)
         |((with_reducible refine(q2t.out _).mono ?_);rintro e w2 ⟨rfl,rfl⟩))
        |(go_at_call 94;first
         |((with_reducible refine(q2.out _).mono ?_);rintro e w2 ⟨rfl,rfl⟩)
         |((with_reducible refine(q3.out _).mono ?_);rintro e w2 ⟨rfl,rfl⟩)
         |((with_reducible refine(q4.out _).mono ?_);rintro e w2 ⟨rfl,rfl⟩)
         |((with_reducible refine(q6.out _).mono ?_);rintro e w2 ⟨rfl,rfl⟩)
         |((with_reducible refine(q7.out _).mono ?_);rintro e w2 ⟨rfl,rfl⟩))
        |(go_at_call 193;((with_reducible refine(q5.out _).mono ?_);rintro e w1 ⟨rfl,hb1⟩;have hsc1:=hsc.below hb1;have hB1:=jL hb1 hle;have hE1:=hE.below hB1;have hh1:=aT hh hb1;obtain⟨⟨x0,x1,x2⟩,x5⟩:=aN hh1))
        |(go_at_call 159;((with_reducible refine(wB.out).mono ?_);rintro e w3 ⟨rfl,fP,hb3⟩;obtain⟨_,v3,hh3,hT3⟩:=id fP;obtain⟨⟨y0,y1,y2⟩,y5⟩:=aN hh3))
        |(go_at_call 191;first
         |((with_reducible refine(wC.out).mono ?_);rintro e w3 ⟨rfl,fP,hb3⟩)
         |((with_reducible refine(wD.out (by omega)).mono ?_);rintro e w3 ⟨rfl,fP,hb3⟩))
        |(go_at_call 192;((with_reducible refine(hcom.out (by omega)).mono ?_);rintro e w3 ⟨rfl,fP,hb3⟩))
        |(go_at_call 194;first
         |((with_reducible refine(hn9.out (by omega) _ hsc1 hE1).mono ?_);rintro e w3 ⟨rfl,fP,hb3⟩)
         |((with_reducible refine(hn2.out (by omega) _ hsc1 hE1).mono ?_);rintro e w3 ⟨rfl,fP,hb3⟩)
         |((with_reducible refine(hn1.out (by omega) _ hsc1 hE1).mono ?_);rintro e w3 ⟨rfl,fP,hb3⟩)))
       go_end0;rw[vG.out];exact⟨rfl,fP,hB1.trans hb3⟩
      |false=>
       by_cases hd1:1<s.length
       ·have hd1I:(1:Int)<s.length:=by omega
        have g3:=g2 (by omega);obtain⟨n0,hn0⟩:∃n,s[0].toNat=n:=⟨_,rfl⟩
        rw[hn0]at g3;have g4:¬(n0:Int)=47:=by simpa using g3.symm
        clear g2 g3;have vG:=Lib.hid (show jd s=none by rw[hof.out];simp[hd1]);have hd2:=hd1;clear hof;go_enter Tryz.func158,Tryz.ntmps158
        go_wp2_with(first
         |(go_at_call 190;first
          |((with_reducible refine(q1.out _).mono ?_);rintro e w2 ⟨rfl,rfl⟩)
          |((with_reducible refine(q2t.out _).mono ?_);rintro e w2 ⟨rfl,rfl⟩))
         |(go_at_call 94;first
          |((with_reducible refine(q2.out _).mono ?_);rintro e w2 ⟨rfl,rfl⟩)
          |((with_reducible refine(q3.out _).mono ?_);rintro e w2 ⟨rfl,rfl⟩)
          |((with_reducible refine(q4.out _).mono ?_);rintro e w2 ⟨rfl,rfl⟩)
          |((with_reducible refine(q6.out _).mono ?_);rintro e w2 ⟨rfl,rfl⟩)
          |((with_reducible refine(q7.out _).mono ?_);rintro e w2 ⟨rfl,rfl⟩))
         |(go_at_call 193;((with_reducible refine(q5.out _).mono ?_);rintro e w1 ⟨rfl,hb1⟩;have hsc1:=hsc.below hb1;have hB1:=jL hb1 hle;have hE1:=hE.below hB1;have hh1:=aT hh hb1;obtain⟨⟨x0,x1,x2⟩,x5⟩:=aN hh1))
         |(go_at_call 159;((with_reducible refine(wB.out).mono ?_);rintro e w3 ⟨rfl,fP,hb3⟩;obtain⟨_,v3,hh3,hT3⟩:=id fP;obtain⟨⟨y0,y1,y2⟩,y5⟩:=aN hh3))
         |(go_at_call 191;first
          |((with_reducible refine(wC.out).mono ?_);rintro e w3 ⟨rfl,fP,hb3⟩)
          |((with_reducible refine(wD.out (by omega)).mono ?_);rintro e w3 ⟨rfl,fP,hb3⟩))
         |(go_at_call 192;((with_reducible refine(hcom.out (by omega)).mono ?_);rintro e w3 ⟨rfl,fP,hb3⟩))
         |(go_at_call 194;first
          |((with_reducible refine(hn9.out (by omega) _ hsc1 hE1).mono ?_);rintro e w3 ⟨rfl,fP,hb3⟩)
          |((with_reducible refine(hn2.out (by omega) _ hsc1 hE1).mono ?_);rintro e w3 ⟨rfl,fP,hb3⟩)
          |((with_reducible refine(hn1.out (by omega) _ hsc1 hE1).mono ?_);rintro e w3 ⟨rfl,fP,hb3⟩)))
        go_end0;rw[vG.out];exact⟨rfl,(hsc1.JI (t++[60])).tK s,aH (aH hB1 hbb _) hbb _⟩
       ·have hd1I:¬(1:Int)<s.length:=by omega
        clear g2;have vG:=Lib.hid (show jd s=none by rw[hof.out];simp[hd1]);have hd2:=hd1;clear hof;go_enter Tryz.func158,Tryz.ntmps158
        go_wp2_with(first
         |(go_at_call 190;first
          |((with_reducible refine(q1.out _).mono ?_);rintro e w2 ⟨rfl,rfl⟩)
          |((with_reducible refine(q2t.out _).mono ?_);rintro e w2 ⟨rfl,rfl⟩))
         |(go_at_call 94;first
          |((with_reducible refine(q2.out _).mono ?_);rintro e w2 ⟨rfl,rfl⟩)
          |((with_reducible refine(q3.out _).mono ?_);rintro e w2 ⟨rfl,rfl⟩)
          |((with_reducible refine(q4.out _).mono ?_);rintro e w2 ⟨rfl,rfl⟩)
          |((with_reducible refine(q6.out _).mono ?_);rintro e w2 ⟨rfl,rfl⟩)
          |((with_reducible refine(q7.out _).mono ?_);rintro e w2 ⟨rfl,rfl⟩))
         |(go_at_call 193;((with_reducible refine(q5.out _).mono ?_);rintro e w1 ⟨rfl,hb1⟩;have hsc1:=hsc.below hb1;have hB1:=jL hb1 hle;have hE1:=hE.below hB1;have hh1:=aT hh hb1;obtain⟨⟨x0,x1,x2⟩,x5⟩:=aN hh1))
         |(go_at_call 159;((with_reducible refine(wB.out).mono ?_);rintro e w3 ⟨rfl,fP,hb3⟩;obtain⟨_,v3,hh3,hT3⟩:=id fP;obtain⟨⟨y0,y1,y2⟩,y5⟩:=aN hh3))
         |(go_at_call 191;first
          |((with_reducible refine(wC.out).mono ?_);rintro e w3 ⟨rfl,fP,hb3⟩)
          |((with_reducible refine(wD.out (by omega)).mono ?_);rintro e w3 ⟨rfl,fP,hb3⟩))
         |(go_at_call 192;((with_reducible refine(hcom.out (by omega)).mono ?_);rintro e w3 ⟨rfl,fP,hb3⟩))
         |(go_at_call 194;first
          |((with_reducible refine(hn9.out (by omega) _ hsc1 hE1).mono ?_);rintro e w3 ⟨rfl,fP,hb3⟩)
          |((with_reducible refine(hn2.out (by omega) _ hsc1 hE1).mono ?_);rintro e w3 ⟨rfl,fP,hb3⟩)
          |((with_reducible refine(hn1.out (by omega) _ hsc1 hE1).mono ?_);rintro e w3 ⟨rfl,fP,hb3⟩)))
        go_end0;rw[vG.out];exact⟨rfl,(hsc1.JI (t++[60])).tK s,aH (aH hB1 hbb _) hbb _⟩
theorem open_two{s r:Txt}{ts:List Tok}(h:jd s=some (ts,r)):ts.length≤2:=by
 have hn:∀k u e,(mF k u e).1.length≤2:=by intro k u e;simp[mF]
 have ht:∀k u,(pq k u).1.length≤2:=by
  intro k u;unfold pq
  split
  ·simp
  ·split
   ·simp
   ·split
    ·unfold jE
     split<;>simp
    ·simp
 have hc:∀u,(jk u).1.length≤2:=by
  intro u;unfold jk
  split
  ·simp
  ·split
   ·simp
   ·exact hn _ _ _
 unfold jd at h
 repeat' split at h
 all_goals first
  |(simp only[Option.some.injEq]at h
    have e:=congrArg Prod.fst h;simp only at e;rw[←e]
    first|exact ht _ _|exact hc _|exact hn _ _ _)
  |(simp only[Option.some.injEq,Prod.mk.injEq]at h
    rw[←h.1];simp)
  |cases h
theorem str_app(a b:Txt):(⟨a.toArray⟩:Bt)++⟨b.toArray⟩=⟨(a++b).toArray⟩:=by
 apply ByteArray.ext;simp
theorem tell_one(t:Txt):(fE t).length≤1:=by unfold fE;split<;>simp
theorem MP(base b:Nat)(S T:Txt)(l0:List Tok)(hs:T.length+S.length≤900000000)(hl:l0.length≤10)(w:World)(hsc:Sc w base b S T l0)(hE:Env w base):
 Calls Tryz.prog 116 #[.pointer (some ⟨b,0,none⟩)] w fun e w'=>∃v,e=.returned v∧nV w' base v (l0++nZ T S)∧Below base w w':=by
 have hbb:=hsc.1;go_enter Tryz.func116,Tryz.ntmps116;go_wp2
 go_loopg [3] S.length (fun g _ wr=>∃(s t:Txt) (l:List Tok),s.length=g∧Sc wr base b s t l∧Below base w wr∧t.length+s.length≤T.length+S.length∧l.length+3 * s.length≤l0.length+3 * S.length∧Hid (l0++nZ T S=l++nZ t s))
 case atStart=>exact⟨S,T,l0,rfl,hsc,Below.refl _ _,by omega,by omega,rfl⟩
 case round=>
  obtain⟨s,t,l,hsg,hscr,hB,hts,hls,hinv⟩:=hrel;subst hsg;have hEr:=hE.below hB;obtain⟨_,v,hh,hT⟩:=id hscr;obtain⟨ad,cp,rfl⟩:=hT.len;obtain⟨⟨c0,c1,c2⟩,c5⟩:=aN hh;cases hs0:s with
  |nil=>
   subst hs0;have hfin:=Lib.hid (show l0++nZ T S=l++fE t by rw[hinv.out,CK]);have wB:=Lib.hid (rO base b [] t l (by omega) (by omega) wr hscr hEr)
   go_wp2_with(go_at_call 159;((with_reducible refine(wB.out).mono ?_);rintro e w3 ⟨rfl,fP,hb3⟩;obtain⟨_,v3,hh3,hT3⟩:=id fP;obtain⟨ad3,cp3,rfl⟩:=hT3.len;rw[List.length_append]at hT3 hh3;obtain⟨⟨y0,y1,y2⟩,y5⟩:=aN hh3))
   go_ret;exact⟨_,rfl,by rw[hfin.out];exact hT3,hB.trans hb3⟩
  |cons c0' s0=>
   have hne:(s==[])=false:=by rw[hs0];rfl
   have hpos:0<s.length:=by rw[hs0];simp
   clear hs0;have hspan:=Lib.hid (fun W=>Ut s (by omega) W);have heq:=zP t s;rw[show s.findIdx (fun c=>c==60)=gT s from rfl]at hspan;have hnl:gT s≤s.length:=List.findIdx_le_length
   have hhead:∀c r,s.drop (gT s)=c::r→c=60:=by
    intro c r h;have:=Qf h;simpa using this
   generalize gT s=n at *;have hnI:(n:Int)≤s.length:=by omega
   have hdl:(s.drop n).length=s.length - n:=by simp
   have htl:(s.take n).length=n:=by simp;omega
   have hscA:=(hscr.JI (t++s.take n)).below (Below.refl _ _).drew;have hBA:=(aH (j:=1) hB hbb (.string ⟨(t++s.take n).toArray⟩)).drew;have hhA:((wr.setCell ⟨b,1,none⟩ (.string ⟨(t++s.take n).toArray⟩)).drew).heap[b]?=_:=P9 (t':=t++s.take n) hh;have hTA:nV (wr.setCell ⟨b,1,none⟩ (.string ⟨(t++s.take n).toArray⟩)).drew base (.slice ad l.length cp) l:=(hT.other (jr wr ⟨b,1,none⟩ (.string ⟨(t++s.take n).toArray⟩)) hh (by decide) (by decide)).below (Below.refl _ _).drew;have hWA:((wr.setCell ⟨b,1,none⟩ (.string ⟨(t++s.take n).toArray⟩)).drew).heap.size=wr.heap.size:=World.size_setCell _ _ _
   go_wp2_with(go_at_call 156;((with_reducible refine(hspan.out _).mono ?_);rintro e w4 ⟨rfl,rfl⟩))
   go_region
   all_goals
    rw[str_app];generalize (wr.setCell ⟨b,1,none⟩ (.string ⟨(t++s.take n).toArray⟩)).drew=W7 at *;obtain⟨⟨d0,d1,d2⟩,d5⟩:=aN hhA;have hscB:=hscA.tK (s.drop n);have hBB:=aH (j:=0) hBA hbb (.string ⟨(s.drop n).toArray⟩);have hEB:=hE.below hBB;generalize hx:s.take n=x at *;generalize hd:s.drop n=y at *;cases y with
    |nil=>
     have Og:=Lib.hid (show l0++nZ T S=l++nZ (t++x) [] by rw[hinv.out,heq,CK]);clear heq hhead hinv;go_wp2
     go_roundg 0
     ·exact⟨[],t++x,l,rfl,hscB,hBB,by simp;omega,by simp;omega,Og⟩
     ·omega
    |cons c r=>
     obtain rfl:=hhead c r rfl;simp only[List.length_cons]at heq hdl;have hop:=Lib.hid (opens_c base b r (t++x) l (by omega) (by simp;omega) (by omega) _ hscB hEB)
     go_wp2_with(go_at_call 158;((with_reducible refine(hop.out).mono ?_);rintro e w5 ⟨rfl,hp5,hb5⟩))
     cases ho:jd r with
     |none=>
      rw[ho]at hp5 heq;have Og:=Lib.hid (show l0++nZ T S=l++nZ (t++x++[60]) r by rw[hinv.out,heq]);clear heq hhead hinv
      go_roundg r.length
      ·exact⟨r,t++x++[60],l,rfl,hp5,hBB.trans hb5,by simp;omega,by omega,Og⟩
      ·omega
     |some q=>
      obtain⟨ts,q⟩:=q;rw[ho]at hp5 heq;have hle:=CO ho;have h2:=open_two ho;have h1:=tell_one (t++x);simp only at hle heq;have Og:=Lib.hid (show l0++nZ T S=l++fE (t++x)++ts++nZ [] q by rw[hinv.out,heq];simp);clear heq hhead hinv
      go_roundg q.length
      ·exact⟨q,[],_,rfl,hp5,hBB.trans hb5,by simp;omega,by simp;omega,Og⟩
      ·omega
theorem sc_new(s:Txt)(w:World):Sc (w.alloc (.cells #[.string ⟨s.toArray⟩,.string ⟨#[]⟩,.slice none 0 0] 92)) w.heap.size w.heap.size s [] []:=⟨Nat.le_refl _,_,bP _ _ _,nV.nil _ _⟩
theorem env_new{w:World}(hS:Std w)(o:Obj):Env (w.alloc o) w.heap.size:=⟨w,hS,rfl,(Below.refl _ w).alloc (Nat.le_refl _) o⟩
theorem Oh{L:List Txt}(h:L.all (fun l=>decide (l.length≤1000000000))=true){l:Txt}(hi:inB L l=true):l.length≤1000000000:=by
 rw[List.all_eq_true]at h;have:=h l (by simpa [inB]using hi);simpa using this
theorem Qg:Ep.all (fun l=>decide (l.length≤1000000000))=true:=by decide +kernel
theorem Oi:GD.all (fun l=>decide (l.length≤1000000000))=true:=by decide +kernel
theorem in_any(s nm:Txt)(hs:s.length≤900000000)(w:World)(hS:Std w):
 Calls Tryz.prog 72 #[.string ⟨s.toArray⟩,.string ⟨nm.toArray⟩] w fun e w'=>∃v,e=.returned v∧nV w' w.heap.size v (inL s nm)∧Below w.heap.size w w':=by
 have hsc:=sc_new s w;have hE:=env_new hS (.cells #[.string ⟨s.toArray⟩,.string ⟨#[]⟩,.slice none 0 0] 92);have hB:=(Below.refl _ w).alloc (Nat.le_refl _) (.cells #[.string ⟨s.toArray⟩,.string ⟨#[]⟩,.slice none 0 0] 92);have hle:=hE.le;have hraw:=Lib.hid (fun W=>raw_c nm W);have pK:=Lib.hid (fun W=>GA nm W);have hil:(jE nm s).length≤10:=by unfold jE;split<;>simp
 have hrl:=Qh nm s;have hins0:=fun W h1 h2 (hnm:nm.length≤1000000000)=>Hz w.heap.size w.heap.size s [] nm [] (by omega) hnm (by simp) W h1 h2
 rw[List.nil_append]at hins0;have hins:=Lib.hid hins0;clear hins0;have hall1:=Lib.hid (fun W h1 h2=>MP w.heap.size w.heap.size (jD nm s) [] (jE nm s) (by simp;omega) hil W h1 h2);have hall2:=Lib.hid (fun W h1 h2=>MP w.heap.size w.heap.size s [] [] (by simpa using hs) (by simp) W h1 h2);rw[List.nil_append]at hall2;unfold inL;generalize nZ [] s=l at *;generalize nZ [] (jD nm s)=l2 at *;generalize hq1:kX nm=b1 at *;generalize hq2:kV nm=b2 at *;cases b1 with
 |true=>
  have hn1:nm.length≤1000000000:=Oh Qg hq1;clear hq1 hq2;simp only[Bool.true_or,if_true];go_enter Tryz.func72,Tryz.ntmps72
  go_wp2_with(first
   |(go_at_call 32;((with_reducible refine(hraw.out _).mono ?_);rintro e w1 ⟨rfl,hb1⟩;have hsc1:=hsc.below hb1;have hB1:=bB hB hle hb1;have hE1:=hE.below (jL hb1 hle)))
   |(go_at_call 115;((with_reducible refine(hins.out _ hsc1 hE1 hn1).mono ?_);rintro e w3 ⟨rfl,fP,hb3⟩;have hE3:=hE1.below hb3))
   |(go_at_call 116;((with_reducible refine(hall1.out _ fP hE3).mono ?_);rintro e w4 ⟨v,rfl,hT4,hb4⟩;obtain⟨ad,cp,rfl⟩:=hT4.len;rw[List.length_append]at hT4)))
  go_ret;exact⟨_,rfl,hT4,(hB1.trans hb3).trans hb4⟩
 |false=>
  clear hq1;cases b2 with
  |true=>
   have hn1:nm.length≤1000000000:=Oh Oi hq2;clear hq2;simp only[Bool.false_or,if_true];go_enter Tryz.func72,Tryz.ntmps72
   go_wp2_with(first
    |(go_at_call 32;((with_reducible refine(hraw.out _).mono ?_);rintro e w0 ⟨rfl,hb0⟩;have hsc0:=hsc.below hb0;have hB0:=bB hB hle hb0;have hE0:=hE.below (jL hb0 hle);have hle0:=hE0.le))
    |(go_at_call 33;((with_reducible refine(pK.out _).mono ?_);rintro e w1 ⟨rfl,hb1⟩;have hsc1:=hsc0.below hb1;have hB1:=bB hB0 hle0 hb1;have hE1:=hE0.below (jL hb1 hle0)))
    |(go_at_call 115;((with_reducible refine(hins.out _ hsc1 hE1 hn1).mono ?_);rintro e w3 ⟨rfl,fP,hb3⟩;have hE3:=hE1.below hb3))
    |(go_at_call 116;((with_reducible refine(hall1.out _ fP hE3).mono ?_);rintro e w4 ⟨v,rfl,hT4,hb4⟩;obtain⟨ad,cp,rfl⟩:=hT4.len;rw[List.length_append]at hT4)))
   go_ret;exact⟨_,rfl,hT4,(hB1.trans hb3).trans hb4⟩
  |false=>
   clear hq2;simp only[Bool.false_or,Bool.false_eq_true,if_false];go_enter Tryz.func72,Tryz.ntmps72
   go_wp2_with(first
    |(go_at_call 32;((with_reducible refine(hraw.out _).mono ?_);rintro e w0 ⟨rfl,hb0⟩;have hsc0:=hsc.below hb0;have hB0:=bB hB hle hb0;have hE0:=hE.below (jL hb0 hle);have hle0:=hE0.le))
    |(go_at_call 33;((with_reducible refine(pK.out _).mono ?_);rintro e w1 ⟨rfl,hb1⟩;have hsc1:=hsc0.below hb1;have hB1:=bB hB0 hle0 hb1;have hE1:=hE0.below (jL hb1 hle0)))
    |(go_at_call 116;((with_reducible refine(hall2.out _ hsc1 hE1).mono ?_);rintro e w4 ⟨v,rfl,hT4,hb4⟩;obtain⟨ad,cp,rfl⟩:=hT4.len)))
   go_ret;exact⟨_,rfl,hT4,hB1.trans hb4⟩
end Go.Proofs.YtkcmghlhpbepcaaGreatDoor
namespace Go.Proofs.aj.W7
open Go.RowKit Go.Proofs YtkcmghlhpbepcaaGreatDoor ah.aD
theorem Gr(a:Bt):(⟨a.data.toList.toArray⟩:Bt)=a:=by cases a;simp
def ru.f(a0 a1:Bt):Option (List S65):=if a0.size≤900000000 then some ((inL a0.data.toList a1.data.toList).map kZ)else none
theorem ru.calls(a0 a1:Bt)(r:List S65)(w:World)(h:ru.f a0 a1=some r)(hS_:Std w):
 Calls Tryz.prog 72 #[.string a0,.string a1] w fun e w'=>∃v0_:Value,e=.returned v0_∧Kd.R k65 65 w' w.heap.size (fun _=>True) v0_ r∧Below w.heap.size w w':=by
 unfold ru.f at h
 split at h
 ·rename_i hz
  obtain rfl:=Option.some.inj h;have:=in_any a0.data.toList a1.data.toList hz w hS_;rw[Gr,Gr]at this;exact this.mono fun e w' ⟨v,h1,h2,h3⟩=>⟨v,h1,Uj h2,h3⟩
 ·cases h
end Go.Proofs.aj.W7
namespace Go.Proofs.aj.W7
open Go.RowKit Go.Proofs YtkcmghlhpbepcaaGreatDoor YtkcmghlhpbepcaaGreatDoor.Ch
def mh.f(a0:Bt):Option Bt:=if a0.data.toList.length≤100000000 then some ⟨(j5 a0.data.toList).toArray⟩else none
theorem mh.calls(a0 r:Bt)(w:World)(h:mh.f a0=some r)(hS_:Std w):
 Calls Tryz.prog 73 #[.string a0] w fun e w'=>e=.returned (.string r)∧Below w.heap.size w w':=by
 unfold mh.f at h
 split at h
 ·rename_i hz
  obtain rfl:=Option.some.inj h;have:=ready_c a0.data.toList hz w hS_;have he:(⟨a0.data.toList.toArray⟩:Bt)=a0:=by cases a0;simp
  rw[he]at this;exact this
 ·cases h
end Go.Proofs.aj.W7
namespace Go.Proofs.aj.W7
open Go.RowKit ah.aD ah.bH ah.bU
attribute [local go_sem] dB dD dW dX bZ cu dF dG
def ko.f(a0 a1:Bt):Option ((List (S34))×Int):=if(a0.size:Int)>65536 then(some (([] :List (S34)),2))else((mh.f a0).bind fun t314=>((ru.f t314 a1).bind fun t315=>((lM.f t315).bind fun NC=>(some (NC.1,NC.2)))))
theorem ko.calls(a0 a1:Bt)(r1:List (S34))(r2:Int)(w:World)(h:ko.f a0 a1=some (r1,r2))(hS_:YtkcmghlhpbepcaaGreatDoor.Std w):
 Calls Tryz.prog 24 #[.string a0,.string a1] w fun e w'=>∃v0_:Value,e=.returned (.tuple #[v0_,.int .i64 r2])∧Kd.R k34 34 w' w.heap.size (fun _=>True) v0_ r1∧Below w.heap.size w w':=by
 have HS_:=ak.mk hS_;clear hS_;have HB:=ak.mk (Below.refl w.heap.size w);have H:(if(a0.size:Int)>65536 then(some (([] :List (S34)),2))else((mh.f a0).bind fun t314=>((ru.f t314 a1).bind fun t315=>((lM.f t315).bind fun NC=>(some (NC.1,NC.2))))))=some (r1,r2):=h;clear h
 by_cases c3:(a0.size:Int)>65536
 ·rw[if_pos c3]at H
  have oD:=decide_eq_true c3;have AL:decide (65536<a0.size)=true:=decide_eq_true (by omega);clear c3;simp only[Option.some.injEq,Prod.mk.injEq]at H;obtain⟨rfl,rfl⟩:=H;go_enter Tryz.func24,Tryz.ntmps24;go_wp2
  go_ret2
  exact⟨_,by first|rfl|(simp[aI,aJ]<;>rfl)|(simp[*,aI,aJ]<;>rfl),by first|exact Kd.oz _ _ _ _ _|exact Kd.N_nil _ _ _ _ _|exact Kd.V_nil _ _ _ _ _|exact Kd.Q_nil _ _ _ _ _|exact Kd.S_nil _ _ _ _ _,bz⟩
 ·rw[if_neg c3]at H
  have oD:=decide_eq_false c3;have AL:decide (65536<a0.size)=false:=decide_eq_false (by omega);clear c3;replace H:=Option.bind_eq_some_iff.mp H;obtain⟨t314,A40,H⟩:=H
  try dsimp only at H
  have A4:=ak.mk A40;clear A40;replace H:=Option.bind_eq_some_iff.mp H;obtain⟨t315,A50,H⟩:=H
  try dsimp only at H
  have A5:=ak.mk A50;clear A50;replace H:=Option.bind_eq_some_iff.mp H;obtain⟨⟨t318,t319⟩,A60,H⟩:=H
  try dsimp only at H
  have A6:=ak.mk A60;clear A60;simp only[Option.some.injEq,Prod.mk.injEq]at H;obtain⟨rfl,rfl⟩:=H;go_enter Tryz.func24,Tryz.ntmps24
  go_wp2_with(first|((with_reducible refine bC (f:=73) rfl ?_);refine eG (some 10) rfl rfl Tryz.func73 (by kernel_rfl) rfl #[.string a0] rfl q'a ?_;(with_reducible refine(mh.calls a0 t314 _ A4.out (YtkcmghlhpbepcaaGreatDoor.Std.below HS_.out bz)).mono ?_);rintro e w7 ⟨rfl,hb⟩;refine⟨_,rfl,?_⟩;replace HB:=ak.mk (aG bz hb);(try clear hb);(try clear hb2);(try clear hk);(try clear hi))|((with_reducible refine bC (f:=72) rfl ?_);refine eG (some 12) rfl rfl Tryz.func72 (by kernel_rfl) rfl #[.string t314,.string a1] rfl q'a ?_;(with_reducible refine(ru.calls t314 a1 t315 _ A5.out (YtkcmghlhpbepcaaGreatDoor.Std.below HS_.out bz)).mono ?_);rintro e w8 ⟨v316,rfl,ho0,hb⟩;refine⟨_,rfl,?_⟩;have JA:=ak.mk (Kd.dU ho0 (aU bz));replace HB:=ak.mk (aG bz hb);(try clear hb);(try clear hb2);(try clear hk);(try clear hi);(try clear ho0);obtain⟨Ao9,co9,eo9⟩:=Kd.cK JA.out;subst eo9)|((with_reducible refine bC (f:=21) rfl ?_);refine eG (some 13) rfl rfl Tryz.func21 (by kernel_rfl) rfl #[.slice Ao9 t315.length co9] rfl q'a ?_;(with_reducible refine(lM.calls _ _ t315 t318 t319 _ ?dI ?dJ A6.out).mono ?_);(case dI=>exact cz (Kd.bg JA.out).2.2);(case dJ=>exact(Kd.bg JA.out).2.1);rintro e w10 ⟨v320,rfl,ho0,hb⟩;refine⟨_,rfl,?_⟩;have HO321:=ak.mk (Kd.dU ho0 (aU bz));replace JA:=ak.mk (Kd.bK (rz JA.out) hb);replace HB:=ak.mk (aG bz hb);(try clear hb);(try clear hb2);(try clear hk);(try clear hi);(try clear ho0)))
  go_ret2
  exact⟨_,by first|rfl|(simp[aI,aJ]<;>rfl)|(simp[*,aI,aJ]<;>rfl),by(with_reducible repeat(first|apply Kd.eZ|apply Kd.fG|apply Kd.dR));exact HO321.out,bz⟩
def mD.f(a0:Bt):Option ((List (S34))×Int):=(ko.f a0 (⟨#[]⟩:Bt)).bind fun NG=>(some (NG.1,NG.2))
theorem mD.calls(a0:Bt)(r1:List (S34))(r2:Int)(w:World)(h:mD.f a0=some (r1,r2))(hS_:YtkcmghlhpbepcaaGreatDoor.Std w):
 Calls Tryz.prog 26 #[.string a0] w fun e w'=>∃v0_:Value,e=.returned (.tuple #[v0_,.int .i64 r2])∧Kd.R k34 34 w' w.heap.size (fun _=>True) v0_ r1∧Below w.heap.size w w':=by
 have HS_:=ak.mk hS_;clear hS_;have HB:=ak.mk (Below.refl w.heap.size w);have H:((ko.f a0 (⟨#[]⟩:Bt)).bind fun NG=>(some (NG.1,NG.2)))=some (r1,r2):=h;clear h;replace H:=Option.bind_eq_some_iff.mp H;obtain⟨⟨t322,t323⟩,A20,H⟩:=H
 try dsimp only at H
 have A2:=ak.mk A20;clear A20;simp only[Option.some.injEq,Prod.mk.injEq]at H;obtain⟨rfl,rfl⟩:=H;go_enter Tryz.func26,Tryz.ntmps26
 go_wp2_with(first|((with_reducible refine bC (f:=24) rfl ?_);refine eG (some 5) rfl rfl Tryz.func24 (by kernel_rfl) rfl #[.string a0,.string (⟨#[]⟩:Bt)] rfl q'a ?_;(with_reducible refine(ko.calls a0 (⟨#[]⟩:Bt) t322 t323 _ A2.out (YtkcmghlhpbepcaaGreatDoor.Std.below HS_.out bz)).mono ?_);rintro e w3 ⟨v324,rfl,ho0,hb⟩;refine⟨_,rfl,?_⟩;have HO325:=ak.mk (Kd.dU ho0 (aU bz));replace HB:=ak.mk (aG bz hb);(try clear hb);(try clear hb2);(try clear hk);(try clear hi);(try clear ho0)))
 go_ret2
 exact⟨_,by first|rfl|(simp[aI,aJ]<;>rfl)|(simp[*,aI,aJ]<;>rfl),by(with_reducible repeat(first|apply Kd.eZ|apply Kd.fG|apply Kd.dR));exact HO325.out,bz⟩
end Go.Proofs.aj.W7
namespace Go.Proofs.aj.W7
open Go.RowKit Go.Proofs aj YtkcmghlhpbepcaaGreatDoor ah.aD YtkcmghlhpbepcaaGreatDoor.Ch
theorem Io(a b:Bt):(a++b).data.toList=a.data.toList++b.data.toList:=by
 rw[ByteArray.data_append,Array.toList_append]
theorem at_le:∀(l:List (Txt×Txt)),l.length≤(dY l).length
 | []=>Nat.le_refl _
 |a::l=>by
  have:=at_le l;have e:dY (a::l)=(32::(a.1++61::34::(wrL true a.2++[34])))++dY l:=rfl;rw[e,List.length_append];simp only[List.length_cons];omega
theorem JV{t:Tok}(h:lZ t):t.data.length≤wt t∧t.attrs.length≤wt t:=by
 have hg:=h.ge;have hl:=h.le
 by_cases k1:t.kind=1
 ·have hd:=(h.tag (Or.inl k1)).2
  obtain⟨k,nm,at_,d,sf⟩:=t;simp only at k1 hd;subst k1;subst hd;refine⟨Nat.zero_le _,?_⟩;rw[OC];have:=at_le at_;simp only[jR,List.length_append];omega
 ·have ha:=(h.start k1).1
  rw[ha];refine⟨?_,Nat.zero_le _⟩
  by_cases k0:t.kind=0
  ·unfold wt
   rw[if_pos k0];omega
  ·by_cases k2:t.kind=2
   ·rw[(h.tag (Or.inr k2)).2]
    exact Nat.zero_le _
   ·have hn:=h.other k1 k2
    obtain⟨k,nm,at_,d,sf⟩:=t;simp only at k0 k1 k2 ha hn hg hl;obtain⟨rfl,-⟩:=h.start k1;obtain rfl:=hn;have hs:=(h.start k1).2;simp only at hs;subst hs
    rcases(show k=3∨k=4 from by omega)with rfl|rfl
    ·rw[wt_k3];simp only[List.length_append];omega
    ·rw[wt_k4];simp only[List.length_append];omega
theorem Qw{t:Tok}:∀ {L:List Tok},t∈L→wt t≤wts L
 | [],h=>by cases h
 |x::L,h=>by
  rw[CU]
  rcases List.mem_cons.1 h with rfl|h
  ·omega
  ·have:=Qw h
   omega
theorem D5(s nm:Txt):wts (inL s nm)≤12 * s.length:=by
 unfold inL
 split
 ·have h1:=Ii nm s
  have h2:wts (nZ [] (jD nm s))≤12 * (([] :Txt).length+(jD nm s).length):=CV _ _ _;rw[Me];simp only[List.length_nil]at h2;omega
 ·have h2:wts (nZ [] s)≤12 * (([] :Txt).length+s.length):=CV _ _ _
  simpa using h2
theorem Tx(s nm:Txt):wts (inL s nm)≤20 * s.length:=by have:=D5 s nm;omega
theorem Mi(s nm:Txt):∀t∈inL s nm,lZ t:=by
 unfold inL
 split
 ·intro t ht
  rcases List.mem_append.1 ht with h|h
  ·exact JR nm s t h
  ·exact FZ _ _ _ t h
 ·exact FZ _ _ _
theorem Tz:∀(L:List Tok),(∀t∈L,lZ t)→oL (L.map kZ)≤wts L
 | [],_=>Nat.zero_le _
 |t::L,h=>by
  have h1:=(JV (h t (by simp))).1;have h2:=Tz L (fun x hx=>h x (List.mem_cons_of_mem _ hx));have e:oL ((t::L).map kZ)=(kZ t).f2.size+oL (L.map kZ):=by simp[oL]
  have e2:(kZ t).f2.size=t.data.length:=by show(List.toArray t.data).size=_;simp
  rw[e,e2,CU];omega
def uY(s nm:Txt):List Tk:=(inL (j5 s) nm).map kZ
def ansF(o:Option (List Rw)):List Rw×Int:=match o with|none=>([],2)|some r=>(r,0)
theorem Bj(s nm:Txt)(hs:s.length≤1000000):oL (uY s nm)≤80 * s.length∧∀t∈uY s nm,t.f3.length≤80 * s.length:=by
 have h1:=tQ s;have h2:=Tx (j5 s) nm;have hk:=Mi (j5 s) nm;have h3:=Tz _ hk;refine⟨by unfold uY;omega,fun t ht=>?_⟩;obtain⟨x,hx,rfl⟩:=List.mem_map.1 ht;have h4:=(JV (hk x hx)).2;have h5:=Qw hx;show(x.attrs.map pairT).length≤_;rw[List.length_map];omega
theorem in_val(s nm:Bt)(hs:s.size≤10000):ko.f s nm=some (ansF (jQ (uY s.data.toList nm.data.toList) [] [])):=by
 have hz:s.data.toList.length=s.size:=Array.length_toList;have h1:=tQ s.data.toList;obtain⟨h2,h3⟩:=Bj s.data.toList nm.data.toList (by omega);unfold ko.f;rw[if_neg (by omega)];unfold mh.f;rw[if_pos (by omega),Option.bind_some];unfold ru.f;have hq:(⟨(j5 s.data.toList).toArray⟩:Bt).size=(j5 s.data.toList).length:=by show(List.toArray _).size=_;simp
 rw[if_pos (by omega),Option.bind_some];have ht:=tree_f (uY s.data.toList nm.data.toList) (by omega) (fun t ht=>by have:=h3 t ht;omega);show(lM.f (uY s.data.toList nm.data.toList)).bind _=_;rw[ht,Option.bind_some];rfl
theorem UL(s:Bt)(hs:s.size≤10000):mD.f s=some (ansF (jQ (uY s.data.toList []) [] [])):=by
 unfold mD.f;rw[in_val s ⟨#[]⟩ hs,Option.bind_some]
end Go.Proofs.aj.W7
