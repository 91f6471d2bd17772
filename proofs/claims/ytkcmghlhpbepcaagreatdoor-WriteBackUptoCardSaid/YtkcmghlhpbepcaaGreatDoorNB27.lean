/- Lemmas and walks, part 27. -/
import Derived.Test.YtkcmghlhpbepcaaGreatDoorNB26
set_option linter.unusedVariables false
set_option linter.unusedSimpArgs false
set_option maxHeartbeats 8000000
set_option maxRecDepth 100000
namespace Go.Proofs.YtkcmghlhpbepcaaGreatDoor
open Go.RowKit Go.Proofs
theorem Ck{s r:Txt}{tk:Tok}(h:gB s=some (tk,r)):tk=⟨0,tk.name,tk.attrs,[],tk.self⟩∧tk.name.length≤s.length:=by
 unfold gB at h;cases ha:kV [] (s.drop (s.findIdx eB))with
 |none=>rw[ha]at h;simp at h
 |some q=>
  rw[ha]at h;simp only[Option.map_some,Option.some.injEq,Prod.mk.injEq]at h;obtain⟨rfl,_⟩:=h;refine⟨rfl,?_⟩;simp[lY];omega
theorem tag_N1(base b:Nat)(S t:Txt)(l:List Tok)(hs:S.length≤1000000000)(hs2:1≤S.length)(ht:t.length≤1000000000)(hl:l.length≤9000000000)(ho:gB (S.drop 1)=none)(w:World)(hsc:Sc w base b S t l)(hE:Env w base):
 Calls Tryz.prog 191 #[.pointer (some ⟨b,0,none⟩),.int .i64 1,.int .i64 1] w fun e w'=>e=.returned (.tuple #[])∧Sc w' base b [] [] (l++fC t)∧Below base w w':=by
 have hbb:=hsc.1;have hc1:=Lib.hid (qp base b S t l ht (by omega) w hsc hE);have hl1:(l++fC t).length≤9000000001:=by unfold fC;split<;>simp<;>omega
 generalize l++fC t=l1 at *;have hc2:=Lib.hid (fun W hS=>tV (S.drop 1) (by simp;omega) W hS);rw[ho]at hc2;simp only[oz,D9]at hc2;rw[List.drop_one]at hc2;have h2I:(1:Int)≤S.length:=by omega
 go_enter Tryz.func191,Tryz.ntmps191
 go_wp2_with(first
  |(go_at_call 159;((with_reducible refine(hc1.out).mono ?_);rintro e w1 ⟨rfl,hsc1,hb1⟩;have hE1:=hE.below hb1;obtain⟨_,v1,hh1,hT1⟩:=id hsc1;obtain⟨ad1,cp1,rfl⟩:=hT1.len;obtain⟨⟨d0,d1,d2⟩,d5⟩:=aN hh1;have hle1:=hE1.le;have hS1:=hE1.std;have hlt1:=kC hh1))
  |(go_at_call 213;((with_reducible refine(hc2.out _ hS1).mono ?_);rintro e w2 ⟨va,rfl,hA2,hb2⟩;have hh2:=aQ hh1 hb2;obtain⟨⟨f0,f1,f2⟩,f5⟩:=aN hh2;have hT2:=hT1.below hb2;have xH:=hb2.size;have hne1:b≠w2.heap.size:=(by omega);have hne2:w2.heap.size≠b:=(by omega);have hle2:base≤w2.heap.size:=(by omega);have hh3:=dM hh2 (.cells #[.int .i64 0,.string ⟨#[]⟩,.string ⟨#[]⟩,.slice none 0 0,.bool false] 65);have hT3:=hT2.alloc (.cells #[.int .i64 0,.string ⟨#[]⟩,.string ⟨#[]⟩,.slice none 0 0,.bool false] 65);obtain⟨⟨p0,p1,p2⟩,p5⟩:=aN hh3;have hBb:=bD hb1 hle1 hb2;have hBc:=hBb.alloc hle2 (.cells #[.int .i64 0,.string ⟨#[]⟩,.string ⟨#[]⟩,.slice none 0 0,.bool false] 65))))
 have eU:Sc _ base b S [] l1:=⟨hbb,_,hh3,hT3⟩;refine bodyPost_ret (v:=.tuple #[]) (by simp[results,Tryz.results191,go_sem]) rfl ⟨rfl,(eU.q8 []).q8 [],aH (aH hBc hbb _) hbb _⟩
theorem tag_c1(base b:Nat)(S t:Txt)(l:List Tok)(hs:S.length≤1000000000)(hs2:1≤S.length)(ht:t.length≤1000000000)(hl:l.length≤9000000000)(w:World)(hsc:Sc w base b S t l)(hE:Env w base):
 Calls Tryz.prog 191 #[.pointer (some ⟨b,0,none⟩),.int .i64 1,.int .i64 1] w fun e w'=>e=.returned (.tuple #[])∧Sc w' base b (wR 1 (S.drop 1)).2 [] ((l++fC t)++(wR 1 (S.drop 1)).1)∧Below base w w':=by
 unfold wR;cases ho:gB (S.drop 1)with
 |none=>
  refine(tag_N1 base b S t l hs hs2 ht hl ho w hsc hE).mono ?_;rintro e w' ⟨h1,h2,h3⟩;exact⟨h1,by simpa using h2,h3⟩
 |some x=>
  obtain⟨tk,r⟩:=x;obtain⟨hf,hnl0⟩:=Ck ho;have hnl:tk.name.length≤1000000000:=by simp at hnl0;omega
  have hd:tk.data=[]:=by rw[hf]
  rw[hf]at ho;simp only;rw[if_neg (by decide)];cases hr:mD tk.name with
  |true=>
   refine(tag_R base b S t l hs hs2 ht hl tk.name tk.attrs tk.self r ho hr hnl w hsc hE).mono ?_;rintro e w' ⟨h1,h2,h3⟩;refine⟨h1,?_,h3⟩;rw[hd];simpa using h2
  |false=>
   cases hso:kS tk.name with
   |true=>
    refine(tag_S base b S t l hs hs2 ht hl tk.name tk.attrs tk.self r ho hr hso hnl w hsc hE).mono ?_;rintro e w' ⟨h1,h2,h3⟩;refine⟨h1,?_,h3⟩;rw[hd];simpa using h2
   |false=>
    refine(tag_P base b S t l hs hs2 ht hl tk.name tk.attrs tk.self r ho hr hso w hsc hE).mono ?_;rintro e w' ⟨h1,h2,h3⟩;refine⟨h1,?_,h3⟩;rw[hd];simpa using h2
theorem tag_N2(base b:Nat)(S t:Txt)(l:List Tok)(hs:S.length≤1000000000)(hs2:2≤S.length)(ht:t.length≤1000000000)(hl:l.length≤9000000000)(ho:gB (S.drop 2)=none)(w:World)(hsc:Sc w base b S t l)(hE:Env w base):
 Calls Tryz.prog 191 #[.pointer (some ⟨b,0,none⟩),.int .i64 2,.int .i64 2] w fun e w'=>e=.returned (.tuple #[])∧Sc w' base b [] [] (l++fC t)∧Below base w w':=by
 have hbb:=hsc.1;have hc1:=Lib.hid (qp base b S t l ht (by omega) w hsc hE);have hl1:(l++fC t).length≤9000000001:=by unfold fC;split<;>simp<;>omega
 generalize l++fC t=l1 at *;have hc2:=Lib.hid (fun W hS=>tV (S.drop 2) (by simp;omega) W hS);rw[ho]at hc2;simp only[oz,D9]at hc2;have h2I:(2:Int)≤S.length:=by omega
 go_enter Tryz.func191,Tryz.ntmps191
 go_wp2_with(first
  |(go_at_call 159;((with_reducible refine(hc1.out).mono ?_);rintro e w1 ⟨rfl,hsc1,hb1⟩;have hE1:=hE.below hb1;obtain⟨_,v1,hh1,hT1⟩:=id hsc1;obtain⟨ad1,cp1,rfl⟩:=hT1.len;obtain⟨⟨d0,d1,d2⟩,d5⟩:=aN hh1;have hle1:=hE1.le;have hS1:=hE1.std;have hlt1:=kC hh1))
  |(go_at_call 213;((with_reducible refine(hc2.out _ hS1).mono ?_);rintro e w2 ⟨va,rfl,hA2,hb2⟩;have hh2:=aQ hh1 hb2;obtain⟨⟨f0,f1,f2⟩,f5⟩:=aN hh2;have hT2:=hT1.below hb2;have xH:=hb2.size;have hne1:b≠w2.heap.size:=(by omega);have hne2:w2.heap.size≠b:=(by omega);have hle2:base≤w2.heap.size:=(by omega);have hh3:=dM hh2 (.cells #[.int .i64 0,.string ⟨#[]⟩,.string ⟨#[]⟩,.slice none 0 0,.bool false] 65);have hT3:=hT2.alloc (.cells #[.int .i64 0,.string ⟨#[]⟩,.string ⟨#[]⟩,.slice none 0 0,.bool false] 65);obtain⟨⟨p0,p1,p2⟩,p5⟩:=aN hh3;have hBb:=bD hb1 hle1 hb2;have hBc:=hBb.alloc hle2 (.cells #[.int .i64 0,.string ⟨#[]⟩,.string ⟨#[]⟩,.slice none 0 0,.bool false] 65))))
 have eU:Sc _ base b S [] l1:=⟨hbb,_,hh3,hT3⟩;refine bodyPost_ret (v:=.tuple #[]) (by simp[results,Tryz.results191,go_sem]) rfl ⟨rfl,(eU.q8 []).q8 [],aH (aH hBc hbb _) hbb _⟩
theorem tag_c2(base b:Nat)(S t:Txt)(l:List Tok)(hs:S.length≤1000000000)(hs2:2≤S.length)(ht:t.length≤1000000000)(hl:l.length≤9000000000)(w:World)(hsc:Sc w base b S t l)(hE:Env w base):
 Calls Tryz.prog 191 #[.pointer (some ⟨b,0,none⟩),.int .i64 2,.int .i64 2] w fun e w'=>e=.returned (.tuple #[])∧Sc w' base b (wR 2 (S.drop 2)).2 [] ((l++fC t)++(wR 2 (S.drop 2)).1)∧Below base w w':=by
 unfold wR;cases ho:gB (S.drop 2)with
 |none=>
  refine(tag_N2 base b S t l hs hs2 ht hl ho w hsc hE).mono ?_;rintro e w' ⟨h1,h2,h3⟩;exact⟨h1,by simpa using h2,h3⟩
 |some x=>
  obtain⟨tk,r⟩:=x;obtain⟨hf,hnl0⟩:=Ck ho;have hnl:tk.name.length≤1000000000:=by simp at hnl0;omega
  have hd:tk.data=[]:=by rw[hf]
  rw[hf]at ho;simp only;refine(tag_E base b S t l hs hs2 ht hl tk.name tk.attrs tk.self r ho w hsc hE).mono ?_;rintro e w' ⟨h1,h2,h3⟩;refine⟨h1,?_,h3⟩;simpa using h2
def OpenPost(o:Option (List Tok×Txt))(w':World)(base b:Nat)(s t:Txt)(l:List Tok):Prop:=
 match o with
 |none=>Sc w' base b s (t++[60]) l
 |some (ts,r)=>Sc w' base b r [] ((l++fC t)++ts)
theorem opens_c(base b:Nat)(s t:Txt)(l:List Tok)(hs:s.length≤900000000)(ht:t.length≤900000000)(hl:l.length≤9000000000)(w:World)(hsc:Sc w base b (60::s) t l)(hE:Env w base):
 Calls Tryz.prog 158 #[.pointer (some ⟨b,0,none⟩)] w fun e w'=>e=.returned (.tuple #[])∧OpenPost (jJ s) w' base b s t l∧Below base w w':=by
 have hbb:=hsc.1;have hle:=hE.le;obtain⟨_,v,hh,hT⟩:=id hsc;obtain⟨ad,cp,rfl⟩:=hT.len;obtain⟨⟨c0,c1,c2⟩,c5⟩:=aN hh;have hsl:(60::s).length≤1000000000:=by simp;omega
 have hsl1:(60::s).length=s.length+1:=rfl;have uE:=Lib.hid (qp base b (60::s) t l (by omega) (by omega) w hsc hE);have uF:=Lib.hid (tag_c1 base b (60::s) t l hsl (by omega) (by omega) hl w hsc hE);have uG:=Lib.hid (fun h=>tag_c2 base b (60::s) t l hsl h (by omega) hl w hsc hE);have hcom:=Lib.hid (fun h=>Qr base b (60::s) t l hsl h (by omega) (by omega) w hsc hE);have hn9:=Lib.hid (fun h W h1 h2=>note_c4 base b (60::s) t [62] l 9 9 rfl h hsl (by omega) (by omega) W h1 h2);have hn2:=Lib.hid (fun h W h1 h2=>IY base b (60::s) t [62] l 2 2 rfl h hsl (by omega) (by omega) W h1 h2);have hn1:=Lib.hid (fun h W h1 h2=>IY base b (60::s) t [62] l 1 1 rfl h hsl (by omega) (by omega) W h1 h2)
 have hof:Hid (jJ s=if jr s then some (wR 1 s)
  else if Lib.hasPrefix s [47]&&jr s.tail then some (wR 2 s.tail)
  else if Lib.hasPrefix s [47,62]then some ([],s.drop 2)
  else if Lib.hasPrefix s [33,45,45]then some (lD (s.drop 3))
  else if jY s then some (rA 4 (s.drop 8) [62])
  else if Lib.hasPrefix s [33]then some (rA 3 s.tail [62])
  else if Lib.hasPrefix s [63]then some (rA 3 s [62])
  else if decide (1<s.length)&&Lib.hasPrefix s [47]then some (rA 3 s.tail [62])
  else none):=rfl
 have p2:=@pK s [47];have p3:=@pK s [47,62];have p4:=@pK s [33,45,45]
 have p5:jY s=true→8≤s.length:=by
  intro h;unfold jY at h;simp only[Bool.and_eq_true,decide_eq_true_eq]at h;exact h.1.1
 have p6:=@pK s [33];have p7:=@pK s [63];simp only[List.length_cons,List.length_nil]at p2 p3 p4 p6 p7
 have g2:∀h:0<s.length,Lib.hasPrefix s [47]=decide ((s[0].toNat:Int)=47):=by
  intro h;cases s with
  |nil=>simp at h
  |cons c u=>
   have hc:=mo (p:=fun c=>(47==c)==decide ((c.toNat:Int)=47)) (by decide +kernel) c;simp only[Lib.hasPrefix,List.isPrefixOf,Bool.and_true,List.getElem_cons_zero];exact beq_iff_eq.1 hc
 have q1:=Lib.hid (fun W=>Ez s W);have q2:=Lib.hid (fun W=>kr s [47] W);have q2t:=Lib.hid (fun W=>Ez s.tail W);have q3:=Lib.hid (fun W=>kr s [47,62] W);have q4:=Lib.hid (fun W=>kr s [33,45,45] W);have q5:=Lib.hid (fun W=>KQ s (by omega) W);have q6:=Lib.hid (fun W=>kr s [33] W);have q7:=Lib.hid (fun W=>kr s [63] W);have i3:((3:Int)=4)=False:=by simp
 have e2:Lib.hasPrefix s [47]=true→Lib.hasPrefix s [33,45,45]=false∧jY s=false∧Lib.hasPrefix s [33]=false∧Lib.hasPrefix s [63]=false:=by
  intro h;cases s with
  |nil=>simp[Lib.hasPrefix,List.isPrefixOf]at h
  |cons c u=>
   simp only[Lib.hasPrefix,List.isPrefixOf,Bool.and_true,beq_iff_eq]at h;subst h;simp[Lib.hasPrefix,List.isPrefixOf,jY,lY,lowB]
 have e3:Lib.hasPrefix s [47]=false→Lib.hasPrefix s [47,62]=false:=by
  intro h;cases s with
  |nil=>rfl
  |cons c u=>
   simp only[Lib.hasPrefix,List.isPrefixOf,Bool.and_true]at h;simp[Lib.hasPrefix,List.isPrefixOf,h]
 simp only[rA,kZ,List.drop_succ_cons,List.drop_zero,List.drop_one,i3,if_true,if_false]at uF uG hcom hn9 hn2 hn1 hof;clear i3;generalize wR 1 s=y1 at *;generalize wR 2 s.tail=y2 at *;generalize lD (s.drop 3)=y4 at *;generalize ru (Lib.cut (s.drop 8) [62]).1=z5 at *;generalize Lib.cut (s.drop 8) [62]=y5 at *;generalize Lib.cut s.tail [62]=y6 at *;generalize Lib.cut s [62]=y7 at *;obtain⟨a1,r1⟩:=y1;obtain⟨a2,r2⟩:=y2;obtain⟨a4,r4⟩:=y4;obtain⟨a5,r5,u5⟩:=y5;obtain⟨a6,r6,u6⟩:=y6;obtain⟨a7,r7,u7⟩:=y7;simp only at uF uG hcom hn9 hn2 hn1 hof;generalize jr s=b1 at *;generalize jr s.tail=b2t at *;generalize Lib.hasPrefix s [47]=b2 at *;generalize Lib.hasPrefix s [47,62]=b3 at *;generalize Lib.hasPrefix s [33,45,45]=b4 at *;generalize jY s=b5 at *;generalize Lib.hasPrefix s [33]=b6 at *;generalize Lib.hasPrefix s [63]=b7 at *;cases b1 with
 |true=>
  have sU:=Lib.hid (show jJ s=some (a1,r1) by rw[hof.out];simp);clear hof;go_enter Tryz.func158,Tryz.ntmps158
  go_wp2_with(first
   |(go_at_call 190;first
    |((with_reducible refine(q1.out _).mono ?_);rintro e w2 ⟨rfl,rfl⟩)
    |((with_reducible refine(q2t.out _).mono ?_);rintro e w2 ⟨rfl,rfl⟩))
   |(go_at_call 94;first
    |((with_reducible refine(q2.out _).mono ?_);rintro e w2 ⟨rfl,rfl⟩)
    |((with_reducible refine(q3.out _).mono ?_);rintro e w2 ⟨rfl,rfl⟩)
    |((with_reducible refine(q4.out _).mono ?_);rintro e w2 ⟨rfl,rfl⟩)
    |((with_reducible refine(q6.out _).mono ?_);rintro e w2 ⟨rfl,rfl⟩)
    |((with_reducible refine(q7.out _).mono ?_);rintro e w2 ⟨rfl,rfl⟩))
   |(go_at_call 193;((with_reducible refine(q5.out _).mono ?_);rintro e w1 ⟨rfl,hb1⟩;have hsc1:=hsc.below hb1;have hB1:=jl hb1 hle;have hE1:=hE.below hB1;have hh1:=aQ hh hb1;obtain⟨⟨x0,x1,x2⟩,x5⟩:=aN hh1))
   |(go_at_call 159;((with_reducible refine(uE.out).mono ?_);rintro e w3 ⟨rfl,eU,hb3⟩;obtain⟨_,v3,hh3,hT3⟩:=id eU;obtain⟨⟨y0,y1,y2⟩,y5⟩:=aN hh3))
   |(go_at_call 191;first
    |((with_reducible refine(uF.out).mono ?_);rintro e w3 ⟨rfl,eU,hb3⟩)
    |((with_reducible refine(uG.out (by omega)).mono ?_);rintro e w3 ⟨rfl,eU,hb3⟩))
   |(go_at_call 192;((with_reducible refine(hcom.out (by omega)).mono ?_);rintro e w3 ⟨rfl,eU,hb3⟩))
   |(go_at_call 194;first
    |((with_reducible refine(hn9.out (by omega) _ hsc1 hE1).mono ?_);rintro e w3 ⟨rfl,eU,hb3⟩)
    |((with_reducible refine(hn2.out (by omega) _ hsc1 hE1).mono ?_);rintro e w3 ⟨rfl,eU,hb3⟩)
    |((with_reducible refine(hn1.out (by omega) _ hsc1 hE1).mono ?_);rintro e w3 ⟨rfl,eU,hb3⟩)))
  go_end0;rw[sU.out];exact⟨rfl,eU,hb3⟩
 |false=>
  cases b2 with
  |true=>
   have l1:=p2 rfl;have l1I:(1:Int)≤s.length:=by omega
   cases b2t with
   |true=>
    have sU:=Lib.hid (show jJ s=some (a2,r2) by rw[hof.out];simp);clear hof;go_enter Tryz.func158,Tryz.ntmps158
    go_wp2_with(first
     |(go_at_call 190;first
      |((with_reducible refine(q1.out _).mono ?_);rintro e w2 ⟨rfl,rfl⟩)
      |((with_reducible refine(q2t.out _).mono ?_);rintro e w2 ⟨rfl,rfl⟩))
     |(go_at_call 94;first
      |((with_reducible refine(q2.out _).mono ?_);rintro e w2 ⟨rfl,rfl⟩)
      |((with_reducible refine(q3.out _).mono ?_);rintro e w2 ⟨rfl,rfl⟩)
      |((with_reducible refine(q4.out _).mono ?_);rintro e w2 ⟨rfl,rfl⟩)
      |((with_reducible refine(q6.out _).mono ?_);rintro e w2 ⟨rfl,rfl⟩)
      |((with_reducible refine(q7.out _).mono ?_);rintro e w2 ⟨rfl,rfl⟩))
     |(go_at_call 193;((with_reducible refine(q5.out _).mono ?_);rintro e w1 ⟨rfl,hb1⟩;have hsc1:=hsc.below hb1;have hB1:=jl hb1 hle;have hE1:=hE.below hB1;have hh1:=aQ hh hb1;obtain⟨⟨x0,x1,x2⟩,x5⟩:=aN hh1))
     |(go_at_call 159;((with_reducible refine(uE.out).mono ?_);rintro e w3 ⟨rfl,eU,hb3⟩;obtain⟨_,v3,hh3,hT3⟩:=id eU;obtain⟨⟨y0,y1,y2⟩,y5⟩:=aN hh3))
     |(go_at_call 191;first
      |((with_reducible refine(uF.out).mono ?_);rintro e w3 ⟨rfl,eU,hb3⟩)
      |((with_reducible refine(uG.out (by omega)).mono ?_);rintro e w3 ⟨rfl,eU,hb3⟩))
     |(go_at_call 192;((with_reducible refine(hcom.out (by omega)).mono ?_);rintro e w3 ⟨rfl,eU,hb3⟩))
     |(go_at_call 194;first
      |((with_reducible refine(hn9.out (by omega) _ hsc1 hE1).mono ?_);rintro e w3 ⟨rfl,eU,hb3⟩)
      |((with_reducible refine(hn2.out (by omega) _ hsc1 hE1).mono ?_);rintro e w3 ⟨rfl,eU,hb3⟩)
      |((with_reducible refine(hn1.out (by omega) _ hsc1 hE1).mono ?_);rintro e w3 ⟨rfl,eU,hb3⟩)))
    go_end0;rw[sU.out];exact⟨rfl,eU,hb3⟩
   |false=>
    obtain⟨f4,f5,f6,f7⟩:=e2 rfl;subst f4 f5 f6 f7;cases b3 with
    |true=>
     have l2:=p3 rfl;have l2I:(2:Int)≤s.length:=by omega
     have sU:=Lib.hid (show jJ s=some ([],s.drop 2) by rw[hof.out];simp);clear hof;go_enter Tryz.func158,Tryz.ntmps158
     go_wp2_with(first
      |(go_at_call 190;first
       |((with_reducible refine(q1.out _).mono ?_);rintro e w2 ⟨rfl,rfl⟩)
       |((with_reducible refine(q2t.out _).mono ?_);rintro e w2 ⟨rfl,rfl⟩))
      |(go_at_call 94;first
       |((with_reducible refine(q2.out _).mono ?_);rintro e w2 ⟨rfl,rfl⟩)
       |((with_reducible refine(q3.out _).mono ?_);rintro e w2 ⟨rfl,rfl⟩)
       |((with_reducible refine(q4.out _).mono ?_);rintro e w2 ⟨rfl,rfl⟩)
       |((with_reducible refine(q6.out _).mono ?_);rintro e w2 ⟨rfl,rfl⟩)
       |((with_reducible refine(q7.out _).mono ?_);rintro e w2 ⟨rfl,rfl⟩))
      |(go_at_call 193;((with_reducible refine(q5.out _).mono ?_);rintro e w1 ⟨rfl,hb1⟩;have hsc1:=hsc.below hb1;have hB1:=jl hb1 hle;have hE1:=hE.below hB1;have hh1:=aQ hh hb1;obtain⟨⟨x0,x1,x2⟩,x5⟩:=aN hh1))
      |(go_at_call 159;((with_reducible refine(uE.out).mono ?_);rintro e w3 ⟨rfl,eU,hb3⟩;obtain⟨_,v3,hh3,hT3⟩:=id eU;obtain⟨⟨y0,y1,y2⟩,y5⟩:=aN hh3))
      |(go_at_call 191;first
       |((with_reducible refine(uF.out).mono ?_);rintro e w3 ⟨rfl,eU,hb3⟩)
       |((with_reducible refine(uG.out (by omega)).mono ?_);rintro e w3 ⟨rfl,eU,hb3⟩))
      |(go_at_call 192;((with_reducible refine(hcom.out (by omega)).mono ?_);rintro e w3 ⟨rfl,eU,hb3⟩))
      |(go_at_call 194;first
       |((with_reducible refine(hn9.out (by omega) _ hsc1 hE1).mono ?_);rintro e w3 ⟨rfl,eU,hb3⟩)
       |((with_reducible refine(hn2.out (by omega) _ hsc1 hE1).mono ?_);rintro e w3 ⟨rfl,eU,hb3⟩)
       |((with_reducible refine(hn1.out (by omega) _ hsc1 hE1).mono ?_);rintro e w3 ⟨rfl,eU,hb3⟩)))
     go_end0;rw[sU.out];exact⟨rfl,(by show Sc _ base b (s.drop 2) [] ((l++fC t)++[]);rw[List.append_nil];exact eU.q8 (s.drop 2)),aH hb3 hbb _⟩
    |false=>
     have g3:=g2 (by omega)
     by_cases hd1:1<s.length
     ·have hd1I:(1:Int)<s.length:=by omega
      obtain⟨n0,hn0⟩:∃n,s[0].toNat=n:=⟨_,rfl⟩
      rw[hn0]at g3;have g4:n0=47:=by have h:=g3.symm;simp at h;omega
      subst g4;clear g2 g3;have sU:=Lib.hid (show jJ s=(some ([⟨3,[],[],a6,false⟩],r6)) by rw[hof.out];simp[hd1]);have hd2:=hd1;clear hof;go_enter Tryz.func158,Tryz.ntmps158
      go_wp2_with(first
       |(go_at_call 190;first
        |((with_reducible refine(q1.out _).mono ?_);rintro e w2 ⟨rfl,rfl⟩)
        |((with_reducible refine(q2t.out _).mono ?_);rintro e w2 ⟨rfl,rfl⟩))
       |(go_at_call 94;first
        |((with_reducible refine(q2.out _).mono ?_);rintro e w2 ⟨rfl,rfl⟩)
        |((with_reducible refine(q3.out _).mono ?_);rintro e w2 ⟨rfl,rfl⟩)
        |((with_reducible refine(q4.out _).mono ?_);rintro e w2 ⟨rfl,rfl⟩)
        |((with_reducible refine(q6.out _).mono ?_);rintro e w2 ⟨rfl,rfl⟩)
        |((with_reducible refine(q7.out _).mono ?_);rintro e w2 ⟨rfl,rfl⟩))
       |(go_at_call 193;((with_reducible refine(q5.out _).mono ?_);rintro e w1 ⟨rfl,hb1⟩;have hsc1:=hsc.below hb1;have hB1:=jl hb1 hle;have hE1:=hE.below hB1;have hh1:=aQ hh hb1;obtain⟨⟨x0,x1,x2⟩,x5⟩:=aN hh1))
       |(go_at_call 159;((with_reducible refine(uE.out).mono ?_);rintro e w3 ⟨rfl,eU,hb3⟩;obtain⟨_,v3,hh3,hT3⟩:=id eU;obtain⟨⟨y0,y1,y2⟩,y5⟩:=aN hh3))
       |(go_at_call 191;first
        |((with_reducible refine(uF.out).mono ?_);rintro e w3 ⟨rfl,eU,hb3⟩)
        |((with_reducible refine(uG.out (by omega)).mono ?_);rintro e w3 ⟨rfl,eU,hb3⟩))
       |(go_at_call 192;((with_reducible refine(hcom.out (by omega)).mono ?_);rintro e w3 ⟨rfl,eU,hb3⟩))
       |(go_at_call 194;first
        |((with_reducible refine(hn9.out (by omega) _ hsc1 hE1).mono ?_);rintro e w3 ⟨rfl,eU,hb3⟩)
        |((with_reducible refine(hn2.out (by omega) _ hsc1 hE1).mono ?_);rintro e w3 ⟨rfl,eU,hb3⟩)
        |((with_reducible refine(hn1.out (by omega) _ hsc1 hE1).mono ?_);rintro e w3 ⟨rfl,eU,hb3⟩)))
      go_end0;rw[sU.out];exact⟨rfl,eU,hB1.trans hb3⟩
     ·have hd1I:¬(1:Int)<s.length:=by omega
      clear g2 g3;have sU:=Lib.hid (show jJ s=none by rw[hof.out];simp[hd1]);have hd2:=hd1;clear hof;go_enter Tryz.func158,Tryz.ntmps158
      go_wp2_with(first
       |(go_at_call 190;first
        |((with_reducible refine(q1.out _).mono ?_);rintro e w2 ⟨rfl,rfl⟩)
        |((with_reducible refine(q2t.out _).mono ?_);rintro e w2 ⟨rfl,rfl⟩))
       |(go_at_call 94;first
        |((with_reducible refine(q2.out _).mono ?_);rintro e w2 ⟨rfl,rfl⟩)
        |((with_reducible refine(q3.out _).mono ?_);rintro e w2 ⟨rfl,rfl⟩)
        |((with_reducible refine(q4.out _).mono ?_);rintro e w2 ⟨rfl,rfl⟩)
        |((with_reducible refine(q6.out _).mono ?_);rintro e w2 ⟨rfl,rfl⟩)
        |((with_reducible refine(q7.out _).mono ?_);rintro e w2 ⟨rfl,rfl⟩))
       |(go_at_call 193;((with_reducible refine(q5.out _).mono ?_);rintro e w1 ⟨rfl,hb1⟩;have hsc1:=hsc.below hb1;have hB1:=jl hb1 hle;have hE1:=hE.below hB1;have hh1:=aQ hh hb1;obtain⟨⟨x0,x1,x2⟩,x5⟩:=aN hh1))
       |(go_at_call 159;((with_reducible refine(uE.out).mono ?_);rintro e w3 ⟨rfl,eU,hb3⟩;obtain⟨_,v3,hh3,hT3⟩:=id eU;obtain⟨⟨y0,y1,y2⟩,y5⟩:=aN hh3))
       |(go_at_call 191;first
        |((with_reducible refine(uF.out).mono ?_);rintro e w3 ⟨rfl,eU,hb3⟩)
        |((with_reducible refine(uG.out (by omega)).mono ?_);rintro e w3 ⟨rfl,eU,hb3⟩))
       |(go_at_call 192;((with_reducible refine(hcom.out (by omega)).mono ?_);rintro e w3 ⟨rfl,eU,hb3⟩))
       |(go_at_call 194;first
        |((with_reducible refine(hn9.out (by omega) _ hsc1 hE1).mono ?_);rintro e w3 ⟨rfl,eU,hb3⟩)
        |((with_reducible refine(hn2.out (by omega) _ hsc1 hE1).mono ?_);rintro e w3 ⟨rfl,eU,hb3⟩)
        |((with_reducible refine(hn1.out (by omega) _ hsc1 hE1).mono ?_);rintro e w3 ⟨rfl,eU,hb3⟩)))
      go_end0;rw[sU.out];exact⟨rfl,(hsc1.F9 (t++[60])).q8 s,aH (aH hB1 hbb _) hbb _⟩
  |false=>
   have f3:=e3 rfl;subst f3;cases b4 with
   |true=>
    have l3:=p4 rfl;have l3I:(3:Int)≤s.length:=by omega
    have sU:=Lib.hid (show jJ s=some (a4,r4) by rw[hof.out];simp);clear hof;go_enter Tryz.func158,Tryz.ntmps158
    go_wp2_with(first
     |(go_at_call 190;first
      |((with_reducible refine(q1.out _).mono ?_);rintro e w2 ⟨rfl,rfl⟩)
      |((with_reducible refine(q2t.out _).mono ?_);rintro e w2 ⟨rfl,rfl⟩))
     |(go_at_call 94;first
      |((with_reducible refine(q2.out _).mono ?_);rintro e w2 ⟨rfl,rfl⟩)
      |((with_reducible refine(q3.out _).mono ?_);rintro e w2 ⟨rfl,rfl⟩)
      |((with_reducible refine(q4.out _).mono ?_);rintro e w2 ⟨rfl,rfl⟩)
      |((with_reducible refine(q6.out _).mono ?_);rintro e w2 ⟨rfl,rfl⟩)
      |((with_reducible refine(q7.out _).mono ?_);rintro e w2 ⟨rfl,rfl⟩))
     |(go_at_call 193;((with_reducible refine(q5.out _).mono ?_);rintro e w1 ⟨rfl,hb1⟩;have hsc1:=hsc.below hb1;have hB1:=jl hb1 hle;have hE1:=hE.below hB1;have hh1:=aQ hh hb1;obtain⟨⟨x0,x1,x2⟩,x5⟩:=aN hh1))
     |(go_at_call 159;((with_reducible refine(uE.out).mono ?_);rintro e w3 ⟨rfl,eU,hb3⟩;obtain⟨_,v3,hh3,hT3⟩:=id eU;obtain⟨⟨y0,y1,y2⟩,y5⟩:=aN hh3))
     |(go_at_call 191;first
      |((with_reducible refine(uF.out).mono ?_);rintro e w3 ⟨rfl,eU,hb3⟩)
      |((with_reducible refine(uG.out (by omega)).mono ?_);rintro e w3 ⟨rfl,eU,hb3⟩))
     |(go_at_call 192;((with_reducible refine(hcom.out (by omega)).mono ?_);rintro e w3 ⟨rfl,eU,hb3⟩))
     |(go_at_call 194;first
      |((with_reducible refine(hn9.out (by omega) _ hsc1 hE1).mono ?_);rintro e w3 ⟨rfl,eU,hb3⟩)
      |((with_reducible refine(hn2.out (by omega) _ hsc1 hE1).mono ?_);rintro e w3 ⟨rfl,eU,hb3⟩)
      |((with_reducible refine(hn1.out (by omega) _ hsc1 hE1).mono ?_);rintro e w3 ⟨rfl,eU,hb3⟩)))
    go_end0;rw[sU.out];exact⟨rfl,eU,hb3⟩
   |false=>
    cases b5 with
    |true=>
     have l8:=p5 rfl;have sU:=Lib.hid (show jJ s=(some ([⟨4,[],[],z5,false⟩],r5)) by rw[hof.out];simp);clear hof;go_enter Tryz.func158,Tryz.ntmps158
     go_wp2_with(first
      |(go_at_call 190;first
       |((with_reducible refine(q1.out _).mono ?_);rintro e w2 ⟨rfl,rfl⟩)
       |((with_reducible refine(q2t.out _).mono ?_);rintro e w2 ⟨rfl,rfl⟩))
      |(go_at_call 94;first
       |((with_reducible refine(q2.out _).mono ?_);rintro e w2 ⟨rfl,rfl⟩)
       |((with_reducible refine(q3.out _).mono ?_);rintro e w2 ⟨rfl,rfl⟩)
       |((with_reducible refine(q4.out _).mono ?_);rintro e w2 ⟨rfl,rfl⟩)
       |((with_reducible refine(q6.out _).mono ?_);rintro e w2 ⟨rfl,rfl⟩)
       |((with_reducible refine(q7.out _).mono ?_);rintro e w2 ⟨rfl,rfl⟩))
      |(go_at_call 193;((with_reducible refine(q5.out _).mono ?_);rintro e w1 ⟨rfl,hb1⟩;have hsc1:=hsc.below hb1;have hB1:=jl hb1 hle;have hE1:=hE.below hB1;have hh1:=aQ hh hb1;obtain⟨⟨x0,x1,x2⟩,x5⟩:=aN hh1))
      |(go_at_call 159;((with_reducible refine(uE.out).mono ?_);rintro e w3 ⟨rfl,eU,hb3⟩;obtain⟨_,v3,hh3,hT3⟩:=id eU;obtain⟨⟨y0,y1,y2⟩,y5⟩:=aN hh3))
      |(go_at_call 191;first
       |((with_reducible refine(uF.out).mono ?_);rintro e w3 ⟨rfl,eU,hb3⟩)
       |((with_reducible refine(uG.out (by omega)).mono ?_);rintro e w3 ⟨rfl,eU,hb3⟩))
      |(go_at_call 192;((with_reducible refine(hcom.out (by omega)).mono ?_);rintro e w3 ⟨rfl,eU,hb3⟩))
      |(go_at_call 194;first
       |((with_reducible refine(hn9.out (by omega) _ hsc1 hE1).mono ?_);rintro e w3 ⟨rfl,eU,hb3⟩)
       |((with_reducible refine(hn2.out (by omega) _ hsc1 hE1).mono ?_);rintro e w3 ⟨rfl,eU,hb3⟩)
       |((with_reducible refine(hn1.out (by omega) _ hsc1 hE1).mono ?_);rintro e w3 ⟨rfl,eU,hb3⟩)))
     go_end0;rw[sU.out];exact⟨rfl,eU,hB1.trans hb3⟩
    |false=>
     cases b6 with
     |true=>
      have l1:=p6 rfl;have sU:=Lib.hid (show jJ s=(some ([⟨3,[],[],a6,false⟩],r6)) by rw[hof.out];simp);clear hof;go_enter Tryz.func158,Tryz.ntmps158
      go_wp2_with(first
       |(go_at_call 190;first
        |((with_reducible refine(q1.out _).mono ?_);rintro e w2 ⟨rfl,rfl⟩)
        |((with_reducible refine(q2t.out _).mono ?_);rintro e w2 ⟨rfl,rfl⟩))
       |(go_at_call 94;first
        |((with_reducible refine(q2.out _).mono ?_);rintro e w2 ⟨rfl,rfl⟩)
        |((with_reducible refine(q3.out _).mono ?_);rintro e w2 ⟨rfl,rfl⟩)
        |((with_reducible refine(q4.out _).mono ?_);rintro e w2 ⟨rfl,rfl⟩)
        |((with_reducible refine(q6.out _).mono ?_);rintro e w2 ⟨rfl,rfl⟩)
        |((with_reducible refine(q7.out _).mono ?_);rintro e w2 ⟨rfl,rfl⟩))
       |(go_at_call 193;((with_reducible refine(q5.out _).mono ?_);rintro e w1 ⟨rfl,hb1⟩;have hsc1:=hsc.below hb1;have hB1:=jl hb1 hle;have hE1:=hE.below hB1;have hh1:=aQ hh hb1;obtain⟨⟨x0,x1,x2⟩,x5⟩:=aN hh1))
       |(go_at_call 159;((with_reducible refine(uE.out).mono ?_);rintro e w3 ⟨rfl,eU,hb3⟩;obtain⟨_,v3,hh3,hT3⟩:=id eU;obtain⟨⟨y0,y1,y2⟩,y5⟩:=aN hh3))
       |(go_at_call 191;first
        |((with_reducible refine(uF.out).mono ?_);rintro e w3 ⟨rfl,eU,hb3⟩)
        |((with_reducible refine(uG.out (by omega)).mono ?_);rintro e w3 ⟨rfl,eU,hb3⟩))
       |(go_at_call 192;((with_reducible refine(hcom.out (by omega)).mono ?_);rintro e w3 ⟨rfl,eU,hb3⟩))
       |(go_at_call 194;first
        |((with_reducible refine(hn9.out (by omega) _ hsc1 hE1).mono ?_);rintro e w3 ⟨rfl,eU,hb3⟩)
        |((with_reducible refine(hn2.out (by omega) _ hsc1 hE1).mono ?_);rintro e w3 ⟨rfl,eU,hb3⟩)
        |((with_reducible refine(hn1.out (by omega) _ hsc1 hE1).mono ?_);rintro e w3 ⟨rfl,eU,hb3⟩)))
      go_end0;rw[sU.out];exact⟨rfl,eU,hB1.trans hb3⟩
     |false=>
      cases b7 with
      |true=>
       have l1:=p7 rfl;have sU:=Lib.hid (show jJ s=(some ([⟨3,[],[],a7,false⟩],r7)) by rw[hof.out];simp);clear hof;go_enter Tryz.func158,Tryz.ntmps158
       go_wp2_with(first
        |(go_at_call 190;first
         |((with_reducible refine(q1.out _).mono ?_);rintro e w2 ⟨rfl,rfl⟩)
         |((with_reducible refine(q2t.out _).mono ?_);rintro e w2 ⟨rfl,rfl⟩))
        |(go_at_call 94;first
         |((with_reducible refine(q2.out _).mono ?_);rintro e w2 ⟨rfl,rfl⟩)
         |((with_reducible refine(q3.out _).mono ?_);rintro e w2 ⟨rfl,rfl⟩)
         |((with_reducible refine(q4.out _).mono ?_);rintro e w2 ⟨rfl,rfl⟩)
         |((with_reducible refine(q6.out _).mono ?_);rintro e w2 ⟨rfl,rfl⟩)
         |((with_reducible refine(q7.out _).mono ?_);rintro e w2 ⟨rfl,rfl⟩))
        |(go_at_call 193;((with_reducible refine(q5.out _).mono ?_);rintro e w1 ⟨rfl,hb1⟩;have hsc1:=hsc.below hb1;have hB1:=jl hb1 hle;have hE1:=hE.below hB1;have hh1:=aQ hh hb1;obtain⟨⟨x0,x1,x2⟩,x5⟩:=aN hh1))
        |(go_at_call 159;((with_reducible refine(uE.out).mono ?_);rintro e w3 ⟨rfl,eU,hb3⟩;obtain⟨_,v3,hh3,hT3⟩:=id eU;obtain⟨⟨y0,y1,y2⟩,y5⟩:=aN hh3))
        |(go_at_call 191;first
         |((with_reducible refine(uF.out).mono ?_);rintro e w3 ⟨rfl,eU,hb3⟩)
         |((with_reducible refine(uG.out (by omega)).mono ?_);rintro e w3 ⟨rfl,eU,hb3⟩))
        |(go_at_call 192;((with_reducible refine(hcom.out (by omega)).mono ?_);rintro e w3 ⟨rfl,eU,hb3⟩))
        |(go_at_call 194;first
         |((with_reducible refine(hn9.out (by omega) _ hsc1 hE1).mono ?_);rintro e w3 ⟨rfl,eU,hb3⟩)
         |((with_reducible refine(hn2.out (by omega) _ hsc1 hE1).mono ?_);rintro e w3 ⟨rfl,eU,hb3⟩)
         |((with_reducible refine(hn1.out (by omega) _ hsc1 hE1).mono ?_);rintro e w3 ⟨rfl,eU,hb3⟩)))
       go_end0;rw[sU.out];exact⟨rfl,eU,hB1.trans hb3⟩
      |false=>
       by_cases hd1:1<s.length
       ·have hd1I:(1:Int)<s.length:=by omega
        have g3:=g2 (by omega);obtain⟨n0,hn0⟩:∃n,s[0].toNat=n:=⟨_,rfl⟩
        rw[hn0]at g3;have g4:¬(n0:Int)=47:=by simpa using g3.symm
        clear g2 g3;have sU:=Lib.hid (show jJ s=none by rw[hof.out];simp[hd1]);have hd2:=hd1;clear hof;go_enter Tryz.func158,Tryz.ntmps158
        go_wp2_with(first
         |(go_at_call 190;first
          |((with_reducible refine(q1.out _).mono ?_);rintro e w2 ⟨rfl,rfl⟩)
          |((with_reducible refine(q2t.out _).mono ?_);rintro e w2 ⟨rfl,rfl⟩))
         |(go_at_call 94;first
          |((with_reducible refine(q2.out _).mono ?_);rintro e w2 ⟨rfl,rfl⟩)
          |((with_reducible refine(q3.out _).mono ?_);rintro e w2 ⟨rfl,rfl⟩)
          |((with_reducible refine(q4.out _).mono ?_);rintro e w2 ⟨rfl,rfl⟩)
          |((with_reducible refine(q6.out _).mono ?_);rintro e w2 ⟨rfl,rfl⟩)
          |((with_reducible refine(q7.out _).mono ?_);rintro e w2 ⟨rfl,rfl⟩))
         |(go_at_call 193;((with_reducible refine(q5.out _).mono ?_);rintro e w1 ⟨rfl,hb1⟩;have hsc1:=hsc.below hb1;have hB1:=jl hb1 hle;have hE1:=hE.below hB1;have hh1:=aQ hh hb1;obtain⟨⟨x0,x1,x2⟩,x5⟩:=aN hh1))
         |(go_at_call 159;((with_reducible refine(uE.out).mono ?_);rintro e w3 ⟨rfl,eU,hb3⟩;obtain⟨_,v3,hh3,hT3⟩:=id eU;obtain⟨⟨y0,y1,y2⟩,y5⟩:=aN hh3))
         |(go_at_call 191;first
          |((with_reducible refine(uF.out).mono ?_);rintro e w3 ⟨rfl,eU,hb3⟩)
          |((with_reducible refine(uG.out (by omega)).mono ?_);rintro e w3 ⟨rfl,eU,hb3⟩))
         |(go_at_call 192;((with_reducible refine(hcom.out (by omega)).mono ?_);rintro e w3 ⟨rfl,eU,hb3⟩))
         |(go_at_call 194;first
          |((with_reducible refine(hn9.out (by omega) _ hsc1 hE1).mono ?_);rintro e w3 ⟨rfl,eU,hb3⟩)
          |((with_reducible refine(hn2.out (by omega) _ hsc1 hE1).mono ?_);rintro e w3 ⟨rfl,eU,hb3⟩)
          |((with_reducible refine(hn1.out (by omega) _ hsc1 hE1).mono ?_);rintro e w3 ⟨rfl,eU,hb3⟩)))
        go_end0;rw[sU.out];exact⟨rfl,(hsc1.F9 (t++[60])).q8 s,aH (aH hB1 hbb _) hbb _⟩
       ·have hd1I:¬(1:Int)<s.length:=by omega
        clear g2;have sU:=Lib.hid (show jJ s=none by rw[hof.out];simp[hd1]);have hd2:=hd1;clear hof;go_enter Tryz.func158,Tryz.ntmps158
        go_wp2_with(first
         |(go_at_call 190;first
          |((with_reducible refine(q1.out _).mono ?_);rintro e w2 ⟨rfl,rfl⟩)
          |((with_reducible refine(q2t.out _).mono ?_);rintro e w2 ⟨rfl,rfl⟩))
         |(go_at_call 94;first
          |((with_reducible refine(q2.out _).mono ?_);rintro e w2 ⟨rfl,rfl⟩)
          |((with_reducible refine(q3.out _).mono ?_);rintro e w2 ⟨rfl,rfl⟩)
          |((with_reducible refine(q4.out _).mono ?_);rintro e w2 ⟨rfl,rfl⟩)
          |((with_reducible refine(q6.out _).mono ?_);rintro e w2 ⟨rfl,rfl⟩)
          |((with_reducible refine(q7.out _).mono ?_);rintro e w2 ⟨rfl,rfl⟩))
         |(go_at_call 193;((with_reducible refine(q5.out _).mono ?_);rintro e w1 ⟨rfl,hb1⟩;have hsc1:=hsc.below hb1;have hB1:=jl hb1 hle;have hE1:=hE.below hB1;have hh1:=aQ hh hb1;obtain⟨⟨x0,x1,x2⟩,x5⟩:=aN hh1))
         |(go_at_call 159;((with_reducible refine(uE.out).mono ?_);rintro e w3 ⟨rfl,eU,hb3⟩;obtain⟨_,v3,hh3,hT3⟩:=id eU;obtain⟨⟨y0,y1,y2⟩,y5⟩:=aN hh3))
         |(go_at_call 191;first
          |((with_reducible refine(uF.out).mono ?_);rintro e w3 ⟨rfl,eU,hb3⟩)
          |((with_reducible refine(uG.out (by omega)).mono ?_);rintro e w3 ⟨rfl,eU,hb3⟩))
         |(go_at_call 192;((with_reducible refine(hcom.out (by omega)).mono ?_);rintro e w3 ⟨rfl,eU,hb3⟩))
         |(go_at_call 194;first
          |((with_reducible refine(hn9.out (by omega) _ hsc1 hE1).mono ?_);rintro e w3 ⟨rfl,eU,hb3⟩)
          |((with_reducible refine(hn2.out (by omega) _ hsc1 hE1).mono ?_);rintro e w3 ⟨rfl,eU,hb3⟩)
          |((with_reducible refine(hn1.out (by omega) _ hsc1 hE1).mono ?_);rintro e w3 ⟨rfl,eU,hb3⟩)))
        go_end0;rw[sU.out];exact⟨rfl,(hsc1.F9 (t++[60])).q8 s,aH (aH hB1 hbb _) hbb _⟩
theorem open_two{s r:Txt}{ts:List Tok}(h:jJ s=some (ts,r)):ts.length≤2:=by
 have hn:∀k u e,(rA k u e).1.length≤2:=by intro k u e;simp[rA]
 have ht:∀k u,(wR k u).1.length≤2:=by
  intro k u;unfold wR
  split
  ·simp
  ·split
   ·simp
   ·split
    ·unfold kP
     split<;>simp
    ·simp
 have hc:∀u,(lD u).1.length≤2:=by
  intro u;unfold lD
  split
  ·simp
  ·split
   ·simp
   ·exact hn _ _ _
 unfold jJ at h
 repeat' split at h
 all_goals first
  |(simp only[Option.some.injEq]at h
    have e:=congrArg Prod.fst h;simp only at e;rw[←e]
    first|exact ht _ _|exact hc _|exact hn _ _ _)
  |(simp only[Option.some.injEq,Prod.mk.injEq]at h
    rw[←h.1];simp)
  |cases h
theorem str_app(a b:Txt):(⟨a.toArray⟩:ByteArray)++⟨b.toArray⟩=⟨(a++b).toArray⟩:=by
 apply ByteArray.ext;simp
theorem tell_one(t:Txt):(fC t).length≤1:=by unfold fC;split<;>simp
theorem JG(base b:Nat)(S T:Txt)(l0:List Tok)(hs:T.length+S.length≤900000000)(hl:l0.length≤10)(w:World)(hsc:Sc w base b S T l0)(hE:Env w base):
 Calls Tryz.prog 116 #[.pointer (some ⟨b,0,none⟩)] w fun e w'=>∃v,e=.returned v∧mq w' base v (l0++oK T S)∧Below base w w':=by
 have hbb:=hsc.1;go_enter Tryz.func116,Tryz.ntmps116;go_wp2
 go_loopg [3] S.length (fun g _ wr=>∃(s t:Txt) (l:List Tok),s.length=g∧Sc wr base b s t l∧Below base w wr∧t.length+s.length≤T.length+S.length∧l.length+3 * s.length≤l0.length+3 * S.length∧Hid (l0++oK T S=l++oK t s))
 case atStart=>exact⟨S,T,l0,rfl,hsc,Below.refl _ _,by omega,by omega,rfl⟩
 case round=>
  obtain⟨s,t,l,hsg,hscr,hB,hts,hls,hinv⟩:=hrel;subst hsg;have hEr:=hE.below hB;obtain⟨_,v,hh,hT⟩:=id hscr;obtain⟨ad,cp,rfl⟩:=hT.len;obtain⟨⟨c0,c1,c2⟩,c5⟩:=aN hh;cases hs0:s with
  |nil=>
   subst hs0;have hfin:=Lib.hid (show l0++oK T S=l++fC t by rw[hinv.out,IZ]);have uE:=Lib.hid (qp base b [] t l (by omega) (by omega) wr hscr hEr)
   go_wp2_with(go_at_call 159;((with_reducible refine(uE.out).mono ?_);rintro e w3 ⟨rfl,eU,hb3⟩;obtain⟨_,v3,hh3,hT3⟩:=id eU;obtain⟨ad3,cp3,rfl⟩:=hT3.len;rw[List.length_append]at hT3 hh3;obtain⟨⟨y0,y1,y2⟩,y5⟩:=aN hh3))
   go_ret;exact⟨_,rfl,by rw[hfin.out];exact hT3,hB.trans hb3⟩
  |cons c0' s0=>
   have hne:(s==[])=false:=by rw[hs0];rfl
   have hpos:0<s.length:=by rw[hs0];simp
   clear hs0;have hspan:=Lib.hid (fun W=>Qs s (by omega) W);have heq:=AJ t s;rw[show s.findIdx (fun c=>c==60)=jv s from rfl]at hspan;have hnl:jv s≤s.length:=List.findIdx_le_length
   have hhead:∀c r,s.drop (jv s)=c::r→c=60:=by
    intro c r h;have:=dr_yes h;simpa using this
   generalize jv s=n at *;have hnI:(n:Int)≤s.length:=by omega
   have hdl:(s.drop n).length=s.length - n:=by simp
   have htl:(s.take n).length=n:=by simp;omega
   have hscA:=(hscr.F9 (t++s.take n)).below (Below.refl _ _).drew;have hBA:=(aH (j:=1) hB hbb (.string ⟨(t++s.take n).toArray⟩)).drew;have hhA:((wr.setCell ⟨b,1,none⟩ (.string ⟨(t++s.take n).toArray⟩)).drew).heap[b]?=_:=Mk (t':=t++s.take n) hh;have hTA:mq (wr.setCell ⟨b,1,none⟩ (.string ⟨(t++s.take n).toArray⟩)).drew base (.slice ad l.length cp) l:=(hT.other (iV wr ⟨b,1,none⟩ (.string ⟨(t++s.take n).toArray⟩)) hh (by decide) (by decide)).below (Below.refl _ _).drew;have hWA:((wr.setCell ⟨b,1,none⟩ (.string ⟨(t++s.take n).toArray⟩)).drew).heap.size=wr.heap.size:=World.size_setCell _ _ _
   go_wp2_with(go_at_call 156;((with_reducible refine(hspan.out _).mono ?_);rintro e w4 ⟨rfl,rfl⟩))
   go_region
   all_goals
    rw[str_app];generalize (wr.setCell ⟨b,1,none⟩ (.string ⟨(t++s.take n).toArray⟩)).drew=W7 at *;obtain⟨⟨d0,d1,d2⟩,d5⟩:=aN hhA;have hscB:=hscA.q8 (s.drop n);have hBB:=aH (j:=0) hBA hbb (.string ⟨(s.drop n).toArray⟩);have hEB:=hE.below hBB;generalize hx:s.take n=x at *;generalize hd:s.drop n=y at *;cases y with
    |nil=>
     have KR:=Lib.hid (show l0++oK T S=l++oK (t++x) [] by rw[hinv.out,heq,IZ]);clear heq hhead hinv;go_wp2
     go_roundg 0
     ·exact⟨[],t++x,l,rfl,hscB,hBB,by simp;omega,by simp;omega,KR⟩
     ·omega
    |cons c r=>
     obtain rfl:=hhead c r rfl;simp only[List.length_cons]at heq hdl;have hop:=Lib.hid (opens_c base b r (t++x) l (by omega) (by simp;omega) (by omega) _ hscB hEB)
     go_wp2_with(go_at_call 158;((with_reducible refine(hop.out).mono ?_);rintro e w5 ⟨rfl,hp5,hb5⟩))
     cases ho:jJ r with
     |none=>
      rw[ho]at hp5 heq;have KR:=Lib.hid (show l0++oK T S=l++oK (t++x++[60]) r by rw[hinv.out,heq]);clear heq hhead hinv
      go_roundg r.length
      ·exact⟨r,t++x++[60],l,rfl,hp5,hBB.trans hb5,by simp;omega,by omega,KR⟩
      ·omega
     |some q=>
      obtain⟨ts,q⟩:=q;rw[ho]at hp5 heq;have hle:=ED ho;have h2:=open_two ho;have h1:=tell_one (t++x);simp only at hle heq;have KR:=Lib.hid (show l0++oK T S=l++fC (t++x)++ts++oK [] q by rw[hinv.out,heq];simp);clear heq hhead hinv
      go_roundg q.length
      ·exact⟨q,[],_,rfl,hp5,hBB.trans hb5,by simp;omega,by simp;omega,KR⟩
      ·omega
theorem sc_new(s:Txt)(w:World):Sc (w.alloc (.cells #[.string ⟨s.toArray⟩,.string ⟨#[]⟩,.slice none 0 0] 92)) w.heap.size w.heap.size s [] []:=⟨Nat.le_refl _,_,bQ _ _ _,mq.nil _ _⟩
theorem env_new{w:World}(hS:Std w)(o:Obj):Env (w.alloc o) w.heap.size:=⟨w,hS,rfl,(Below.refl _ w).alloc (Nat.le_refl _) o⟩
theorem KS{L:List Txt}(h:L.all (fun l=>decide (l.length≤1000000000))=true){l:Txt}(hi:inB L l=true):l.length≤1000000000:=by
 rw[List.all_eq_true]at h;have:=h l (by simpa [inB]using hi);simpa using this
theorem Mv:JY.all (fun l=>decide (l.length≤1000000000))=true:=by decide +kernel
theorem KT:Mf.all (fun l=>decide (l.length≤1000000000))=true:=by decide +kernel
theorem in_any(s nm:Txt)(hs:s.length≤900000000)(w:World)(hS:Std w):
 Calls Tryz.prog 72 #[.string ⟨s.toArray⟩,.string ⟨nm.toArray⟩] w fun e w'=>∃v,e=.returned v∧mq w' w.heap.size v (inL s nm)∧Below w.heap.size w w':=by
 have hsc:=sc_new s w;have hE:=env_new hS (.cells #[.string ⟨s.toArray⟩,.string ⟨#[]⟩,.slice none 0 0] 92);have hB:=(Below.refl _ w).alloc (Nat.le_refl _) (.cells #[.string ⟨s.toArray⟩,.string ⟨#[]⟩,.slice none 0 0] 92);have hle:=hE.le;have hraw:=Lib.hid (fun W=>raw_c nm W);have nY:=Lib.hid (fun W=>D8 nm W);have hil:(kP nm s).length≤10:=by unfold kP;split<;>simp
 have hrl:=Mw nm s;have hins0:=fun W h1 h2 (hnm:nm.length≤1000000000)=>EB w.heap.size w.heap.size s [] nm [] (by omega) hnm (by simp) W h1 h2
 rw[List.nil_append]at hins0;have hins:=Lib.hid hins0;clear hins0;have hall1:=Lib.hid (fun W h1 h2=>JG w.heap.size w.heap.size (kF nm s) [] (kP nm s) (by simp;omega) hil W h1 h2);have hall2:=Lib.hid (fun W h1 h2=>JG w.heap.size w.heap.size s [] [] (by simpa using hs) (by simp) W h1 h2);rw[List.nil_append]at hall2;unfold inL;generalize oK [] s=l at *;generalize oK [] (kF nm s)=l2 at *;generalize hq1:mD nm=b1 at *;generalize hq2:kS nm=b2 at *;cases b1 with
 |true=>
  have hn1:nm.length≤1000000000:=KS Mv hq1;clear hq1 hq2;simp only[Bool.true_or,if_true];go_enter Tryz.func72,Tryz.ntmps72
  go_wp2_with(first
   |(go_at_call 32;((with_reducible refine(hraw.out _).mono ?_);rintro e w1 ⟨rfl,hb1⟩;have hsc1:=hsc.below hb1;have hB1:=bD hB hle hb1;have hE1:=hE.below (jl hb1 hle)))
   |(go_at_call 115;((with_reducible refine(hins.out _ hsc1 hE1 hn1).mono ?_);rintro e w3 ⟨rfl,eU,hb3⟩;have hE3:=hE1.below hb3))
   |(go_at_call 116;((with_reducible refine(hall1.out _ eU hE3).mono ?_);rintro e w4 ⟨v,rfl,hT4,hb4⟩;obtain⟨ad,cp,rfl⟩:=hT4.len;rw[List.length_append]at hT4)))
  go_ret;exact⟨_,rfl,hT4,(hB1.trans hb3).trans hb4⟩
 |false=>
  clear hq1;cases b2 with
  |true=>
   have hn1:nm.length≤1000000000:=KS KT hq2;clear hq2;simp only[Bool.false_or,if_true];go_enter Tryz.func72,Tryz.ntmps72
   go_wp2_with(first
    |(go_at_call 32;((with_reducible refine(hraw.out _).mono ?_);rintro e w0 ⟨rfl,hb0⟩;have hsc0:=hsc.below hb0;have hB0:=bD hB hle hb0;have hE0:=hE.below (jl hb0 hle);have hle0:=hE0.le))
    |(go_at_call 33;((with_reducible refine(nY.out _).mono ?_);rintro e w1 ⟨rfl,hb1⟩;have hsc1:=hsc0.below hb1;have hB1:=bD hB0 hle0 hb1;have hE1:=hE0.below (jl hb1 hle0)))
    |(go_at_call 115;((with_reducible refine(hins.out _ hsc1 hE1 hn1).mono ?_);rintro e w3 ⟨rfl,eU,hb3⟩;have hE3:=hE1.below hb3))
    |(go_at_call 116;((with_reducible refine(hall1.out _ eU hE3).mono ?_);rintro e w4 ⟨v,rfl,hT4,hb4⟩;obtain⟨ad,cp,rfl⟩:=hT4.len;rw[List.length_append]at hT4)))
   go_ret;exact⟨_,rfl,hT4,(hB1.trans hb3).trans hb4⟩
  |false=>
   clear hq2;simp only[Bool.false_or,Bool.false_eq_true,if_false];go_enter Tryz.func72,Tryz.ntmps72
   go_wp2_with(first
    |(go_at_call 32;((with_reducible refine(hraw.out _).mono ?_);rintro e w0 ⟨rfl,hb0⟩;have hsc0:=hsc.below hb0;have hB0:=bD hB hle hb0;have hE0:=hE.below (jl hb0 hle);have hle0:=hE0.le))
    |(go_at_call 33;((with_reducible refine(nY.out _).mono ?_);rintro e w1 ⟨rfl,hb1⟩;have hsc1:=hsc0.below hb1;have hB1:=bD hB0 hle0 hb1;have hE1:=hE0.below (jl hb1 hle0)))
    |(go_at_call 116;((with_reducible refine(hall2.out _ hsc1 hE1).mono ?_);rintro e w4 ⟨v,rfl,hT4,hb4⟩;obtain⟨ad,cp,rfl⟩:=hT4.len)))
   go_ret;exact⟨_,rfl,hT4,hB1.trans hb4⟩
end Go.Proofs.YtkcmghlhpbepcaaGreatDoor
namespace Go.Proofs.aj.W7
open Go.RowKit Go.Proofs Go.Proofs.YtkcmghlhpbepcaaGreatDoor Go.Proofs.ah.aD
theorem DV(a:ByteArray):(⟨a.data.toList.toArray⟩:ByteArray)=a:=by cases a;simp
def pX.f(a0 a1:ByteArray):Option (List S65):=if a0.size≤900000000 then some ((inL a0.data.toList a1.data.toList).map CG)else none
theorem pX.calls(a0 a1:ByteArray)(r:List S65)(w:World)(h:pX.f a0 a1=some r)(hS_:Std w):
 Calls Tryz.prog 72 #[.string a0,.string a1] w fun e w'=>∃v0_:Value,e=.returned v0_∧Kd.R k65 65 w' w.heap.size (fun _=>True) v0_ r∧Below w.heap.size w w':=by
 unfold pX.f at h
 split at h
 ·rename_i hz
  obtain rfl:=Option.some.inj h;have:=in_any a0.data.toList a1.data.toList hz w hS_;rw[DV,DV]at this;exact this.mono fun e w' ⟨v,h1,h2,h3⟩=>⟨v,h1,Qh h2,h3⟩
 ·cases h
end Go.Proofs.aj.W7
