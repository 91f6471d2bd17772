/- Lemmas and walks, part 9. -/
import Derived.Test.YtkcmghlhpbepcaaGreatDoorNB8
set_option linter.unusedVariables false
set_option linter.unusedSimpArgs false
set_option maxHeartbeats 8000000
set_option maxRecDepth 100000
namespace Go.Proofs.YtkcmghlhpbepcaaGreatDoor
open Go.RowKit Go.Proofs
def oH(q:Bool)(c:UInt8):List UInt8:=
 if c=38 then [38,97,109,112,59]else if c=60 then [38,108,116,59]else if c=62 then [38,103,116,59]else if c=34∧q=true then [38,113,117,111,116,59]else [c]
def wrL(q:Bool):List UInt8→List UInt8
 | []=>[]
 | [c]=>oH q c
 |c::d::l=>if c=194∧d=160 then [38,110,98,115,112,59]++wrL q l else oH q c++wrL q (d::l)
def vw(l:List UInt8):Bool:=Lib.hasPrefix l [194,160]
theorem FQ{q:Bool}{l:List UInt8}(h:vw l=true):wrL q l=[38,110,98,115,112,59]++wrL q (l.drop 2):=by
 obtain⟨r,rfl⟩:=List.isPrefixOf_iff_prefix.1 h;simp[wrL]
theorem Bv{q:Bool}{c:UInt8}{l:List UInt8}(h:vw (c::l)=false):wrL q (c::l)=oH q c++wrL q l:=by
 cases l with
 |nil=>simp[wrL]
 |cons d l=>
  rw[wrL,if_neg];rintro⟨rfl,rfl⟩;simp[vw,Lib.hasPrefix]at h
theorem Ad{c:UInt8}{n:Nat}(h:c.toNat=n)(hn:n<256):c=UInt8.ofNat n:=by
 apply UInt8.toNat_inj.1;rw[h];simp[Nat.mod_eq_of_lt hn]
theorem esc38{q:Bool}{c:UInt8}(h:c.toNat=38):oH q c=[38,97,109,112,59]:=by rw[Ad h (by omega)];rfl
theorem esc60{q:Bool}{c:UInt8}(h:c.toNat=60):oH q c=[38,108,116,59]:=by rw[Ad h (by omega)];rfl
theorem esc62{q:Bool}{c:UInt8}(h:c.toNat=62):oH q c=[38,103,116,59]:=by rw[Ad h (by omega)];rfl
theorem esc34{c:UInt8}(h:c.toNat=34):oH true c=[38,113,117,111,116,59]:=by rw[Ad h (by omega)];rfl
theorem escNo{q:Bool}{c:UInt8}(h1:c.toNat≠38)(h2:c.toNat≠60)(h3:c.toNat≠62)(h4:¬(c.toNat=34∧q=true)):oH q c=[c]:=by
 unfold oH;rw[if_neg (fun e=>h1 (by rw[e];rfl)),if_neg (fun e=>h2 (by rw[e];rfl)),if_neg (fun e=>h3 (by rw[e];rfl)),if_neg (fun e=>h4 ⟨by rw[e.1];rfl,e.2⟩)]
theorem xg{q:Bool}{l acc:List UInt8}{k:Nat}{c:UInt8}(hk:k<l.length)(hc:l[k]=c)(hdec:wrL q l=acc++wrL q (l.drop k))(h:vw (l.drop k)=false){e:List UInt8}(he:oH q c=e):wrL q l=(acc++e)++wrL q (l.drop (k+1)):=by
 have hd:l.drop k=c::l.drop (k+1):=by rw[←hc];exact List.drop_eq_getElem_cons hk
 rw[hd]at h hdec;rw[hdec,Bv h,he,List.append_assoc]
theorem qg{l:List UInt8}{k:Nat}{c:UInt8}(hk:k<l.length)(hc:l[k]=c)(h:c.toNat≠194):vw (l.drop k)=false:=by
 have hd:l.drop k=c::l.drop (k+1):=by rw[←hc];exact List.drop_eq_getElem_cons hk
 rw[hd];have:(194:UInt8)≠c:=fun e=>h (by rw[←e];rfl)
 simp[vw,Lib.hasPrefix,List.isPrefixOf,this]
theorem QN{q:Bool}{l acc:List UInt8}{k:Nat}(hdec:wrL q l=acc++wrL q (l.drop k))(h:vw (l.drop k)=true):wrL q l=(acc++[38,110,98,115,112,59])++wrL q (l.drop (k+1+1)):=by
 rw[hdec,FQ h,List.drop_drop,List.append_assoc]
theorem MJ{l:List UInt8}{k:Nat}(h:vw (l.drop k)=true):k+2≤l.length:=by
 have:=p9 h;simp at this;omega
theorem NS(B b:Nat)(acc:List UInt8)(c:UInt8)(w:World)(h:Lib.IsBuilderF 106 5 B b (Lib.byteCells acc) w)(hlen:acc.length+1≤140737488355328)(hBw:B≤w.heap.size):
 Calls Tryz.prog 202 #[.pointer (some ⟨b,0,none⟩),.int .u8 c.toNat] w fun e w'=>e=.returned .nilIface∧(Lib.IsBuilderF 106 5 B b (Lib.byteCells (acc++[c])) w'∧Below B w w'∧Lib.OthersKept 5 (some b) w w'):=by
 refine(Km B b _ c.toNat w h (by rw[Lib.byteCells_length];exact hlen) hBw).mono ?_;rintro e w' ⟨rfl,h1,h2,h3⟩;exact⟨rfl,by rw[Lib.byteCells_append];exact h1,h2,h3⟩
theorem esc34f{c:UInt8}(h:c.toNat=34):oH false c=[34]:=by rw[Ad h (by omega)];rfl
theorem QO(B b:Nat)(acc:List UInt8)(w:World)(h:Lib.IsBuilderF 106 5 B b (Lib.byteCells acc) w)(hlen:acc.length+1≤140737488355328)(hBw:B≤w.heap.size):
 Calls Tryz.prog 202 #[.pointer (some ⟨b,0,none⟩),.int .u8 34] w fun e w'=>e=.returned .nilIface∧(Lib.IsBuilderF 106 5 B b (Lib.byteCells (acc++[34])) w'∧Below B w w'∧Lib.OthersKept 5 (some b) w w'):=NS B b acc 34 w h hlen hBw
theorem Gh(l:List UInt8)(hl:l.length≤1000000000)(w:World):
 Calls Tryz.prog 175 #[.string ⟨l.toArray⟩,.bool false] w fun e w'=>e=.returned (.string ⟨(wrL false l).toArray⟩)∧Below w.heap.size w w':=by
 go_enter Tryz.func175,Tryz.ntmps175;go_wp2
 go_loopw [6] (fun v wr=>∃(k:Nat) (acc:List UInt8),v=.int .i64 k∧k≤l.length∧Lib.IsBuilderF 106 5 w.heap.size w.heap.size (Lib.byteCells acc) wr∧Below w.heap.size w wr∧w.heap.size<wr.heap.size∧Hid (wrL false l=acc++wrL false (l.drop k))∧acc.length≤6 * k) (fun v _=>l.length - (intOf v).toNat)
 case atStart=>
  exact⟨0,[],rfl,by omega,Dr _ _ (Nat.le_refl _),(Below.refl _ w).alloc (Nat.le_refl _) _,by simp,rfl,by simp⟩
 case round=>
  obtain⟨k,acc,rfl,hk,hI,hbw,hsz,hdec,hal⟩:=hrel
  by_cases hlt:k<l.length
  ·obtain⟨c,hc⟩:∃c,l[k]=c:=⟨_,rfl⟩
   have hc':=Lib.hid hc;have hhl:=Lib.hid (@MJ l k)
   go_wp2_with(first
    |(go_at_call 94;((with_reducible refine(kG _ _ _).mono ?_);rintro e w1 ⟨rfl,rfl⟩))
    |(go_at_call 135;((with_reducible refine(vD _ _ acc _ _ hI (by simp;omega) (by omega)).mono ?_);rintro e w5 ⟨rfl,hI5,hb5,_⟩))
    |(go_at_call 202;((with_reducible refine(NS _ _ acc c _ hI (by omega) (by omega)).mono ?_);rintro e w5 ⟨rfl,hI5,hb5,_⟩))
    |(go_at_call 202;((with_reducible refine(QO _ _ acc _ hI (by omega) (by omega)).mono ?_);rintro e w5 ⟨rfl,hI5,hb5,_⟩)))
   all_goals(simp only[beq_iff_eq,beq_eq_false_iff_ne,ne_eq]at *)
   all_goals first
    |(refine⟨⟨k+1,acc++_,rfl,by omega,hI5,hbw.trans hb5,by have:=hb5.size;omega,xg hlt hc'.out hdec.out (qg hlt hc'.out (by omega)) (esc38 (by omega)),by simp;omega⟩,by simp[intOf];omega⟩)
    |(refine⟨⟨k+1,acc++_,rfl,by omega,hI5,hbw.trans hb5,by have:=hb5.size;omega,xg hlt hc'.out hdec.out (qg hlt hc'.out (by omega)) (esc60 (by omega)),by simp;omega⟩,by simp[intOf];omega⟩)
    |(refine⟨⟨k+1,acc++_,rfl,by omega,hI5,hbw.trans hb5,by have:=hb5.size;omega,xg hlt hc'.out hdec.out (qg hlt hc'.out (by omega)) (esc62 (by omega)),by simp;omega⟩,by simp[intOf];omega⟩)
    |(refine⟨⟨k+1,acc++_,rfl,by omega,hI5,hbw.trans hb5,by have:=hb5.size;omega,xg hlt hc'.out hdec.out (qg hlt hc'.out (by omega)) (esc34 (by omega)),by simp;omega⟩,by simp[intOf];omega⟩)
    |(refine⟨⟨k+1,acc++_,rfl,by omega,hI5,hbw.trans hb5,by have:=hb5.size;omega,xg hlt hc'.out hdec.out (qg hlt hc'.out (by omega)) (esc34f (by omega)),by simp;omega⟩,by simp[intOf];omega⟩)
    |(refine⟨⟨k+1,acc++_,rfl,by omega,hI5,hbw.trans hb5,by have:=hb5.size;omega,xg hlt hc'.out hdec.out (by assumption) (escNo (by omega) (by omega) (by omega) (by simp;try omega)),by simp;omega⟩,by simp[intOf];omega⟩)
    |(have h2:=hhl.out (by assumption);refine⟨⟨k+1+1,acc++_,by first|rfl|(congr 1;omega),by omega,hI5,hbw.trans hb5,by have:=hb5.size;omega,QN hdec.out (by assumption),by simp;omega⟩,by simp[intOf];omega⟩)
    |skip
  ·have hd:wrL false l=acc:=by
    rw[hdec.out,List.drop_eq_nil_of_le (by omega)];simp[wrL]
   have hd:=Lib.hid hd;rename_i hd0;clear hd0
   go_wp2_with(go_at_call 138;((with_reducible refine(Tryz.Builder_String_any_k _ _ _ _ hI (by omega)).mono ?_);rintro e w3 ⟨rfl,_,hb3,_⟩))
   go_ret;rw[hd.out];exact⟨rfl,hbw.trans hb3⟩
theorem text_c(l:List UInt8)(hl:l.length≤1000000000)(w:World):
 Calls Tryz.prog 136 #[.string ⟨l.toArray⟩] w fun e w'=>e=.returned (.string ⟨(wrL false l).toArray⟩)∧Below w.heap.size w w':=by
 go_enter Tryz.func136,Tryz.ntmps136
 go_wp2_with(go_at_call 175;((with_reducible refine(Gh l hl _).mono ?_);rintro e w3 ⟨rfl,hb3⟩))
 go_ret;exact⟨rfl,hb3⟩
theorem Ka(l:List UInt8)(hl:l.length≤1000000000)(w:World):
 Calls Tryz.prog 175 #[.string ⟨l.toArray⟩,.bool true] w fun e w'=>e=.returned (.string ⟨(wrL true l).toArray⟩)∧Below w.heap.size w w':=by
 go_enter Tryz.func175,Tryz.ntmps175;go_wp2
 go_loopw [6] (fun v wr=>∃(k:Nat) (acc:List UInt8),v=.int .i64 k∧k≤l.length∧Lib.IsBuilderF 106 5 w.heap.size w.heap.size (Lib.byteCells acc) wr∧Below w.heap.size w wr∧w.heap.size<wr.heap.size∧Hid (wrL true l=acc++wrL true (l.drop k))∧acc.length≤6 * k) (fun v _=>l.length - (intOf v).toNat)
 case atStart=>
  exact⟨0,[],rfl,by omega,Dr _ _ (Nat.le_refl _),(Below.refl _ w).alloc (Nat.le_refl _) _,by simp,rfl,by simp⟩
 case round=>
  obtain⟨k,acc,rfl,hk,hI,hbw,hsz,hdec,hal⟩:=hrel
  by_cases hlt:k<l.length
  ·obtain⟨c,hc⟩:∃c,l[k]=c:=⟨_,rfl⟩
   have hc':=Lib.hid hc;have hhl:=Lib.hid (@MJ l k)
   go_wp2_with(first
    |(go_at_call 94;((with_reducible refine(kG _ _ _).mono ?_);rintro e w1 ⟨rfl,rfl⟩))
    |(go_at_call 135;((with_reducible refine(vD _ _ acc _ _ hI (by simp;omega) (by omega)).mono ?_);rintro e w5 ⟨rfl,hI5,hb5,_⟩))
    |(go_at_call 202;((with_reducible refine(NS _ _ acc c _ hI (by omega) (by omega)).mono ?_);rintro e w5 ⟨rfl,hI5,hb5,_⟩))
    |(go_at_call 202;((with_reducible refine(QO _ _ acc _ hI (by omega) (by omega)).mono ?_);rintro e w5 ⟨rfl,hI5,hb5,_⟩)))
   all_goals(simp only[beq_iff_eq,beq_eq_false_iff_ne,ne_eq]at *)
   all_goals first
    |(refine⟨⟨k+1,acc++_,rfl,by omega,hI5,hbw.trans hb5,by have:=hb5.size;omega,xg hlt hc'.out hdec.out (qg hlt hc'.out (by omega)) (esc38 (by omega)),by simp;omega⟩,by simp[intOf];omega⟩)
    |(refine⟨⟨k+1,acc++_,rfl,by omega,hI5,hbw.trans hb5,by have:=hb5.size;omega,xg hlt hc'.out hdec.out (qg hlt hc'.out (by omega)) (esc60 (by omega)),by simp;omega⟩,by simp[intOf];omega⟩)
    |(refine⟨⟨k+1,acc++_,rfl,by omega,hI5,hbw.trans hb5,by have:=hb5.size;omega,xg hlt hc'.out hdec.out (qg hlt hc'.out (by omega)) (esc62 (by omega)),by simp;omega⟩,by simp[intOf];omega⟩)
    |(refine⟨⟨k+1,acc++_,rfl,by omega,hI5,hbw.trans hb5,by have:=hb5.size;omega,xg hlt hc'.out hdec.out (qg hlt hc'.out (by omega)) (esc34 (by omega)),by simp;omega⟩,by simp[intOf];omega⟩)
    |(refine⟨⟨k+1,acc++_,rfl,by omega,hI5,hbw.trans hb5,by have:=hb5.size;omega,xg hlt hc'.out hdec.out (qg hlt hc'.out (by omega)) (esc34f (by omega)),by simp;omega⟩,by simp[intOf];omega⟩)
    |(refine⟨⟨k+1,acc++_,rfl,by omega,hI5,hbw.trans hb5,by have:=hb5.size;omega,xg hlt hc'.out hdec.out (by assumption) (escNo (by omega) (by omega) (by omega) (by simp;try omega)),by simp;omega⟩,by simp[intOf];omega⟩)
    |(have h2:=hhl.out (by assumption);refine⟨⟨k+1+1,acc++_,by first|rfl|(congr 1;omega),by omega,hI5,hbw.trans hb5,by have:=hb5.size;omega,QN hdec.out (by assumption),by simp;omega⟩,by simp[intOf];omega⟩)
    |skip
  ·have hd:wrL true l=acc:=by
    rw[hdec.out,List.drop_eq_nil_of_le (by omega)];simp[wrL]
   have hd:=Lib.hid hd;rename_i hd0;clear hd0
   go_wp2_with(go_at_call 138;((with_reducible refine(Tryz.Builder_String_any_k _ _ _ _ hI (by omega)).mono ?_);rintro e w3 ⟨rfl,_,hb3,_⟩))
   go_ret;rw[hd.out];exact⟨rfl,hbw.trans hb3⟩
theorem value_c(l:List UInt8)(hl:l.length≤1000000000)(w:World):
 Calls Tryz.prog 176 #[.string ⟨l.toArray⟩] w fun e w'=>e=.returned (.string ⟨(wrL true l).toArray⟩)∧Below w.heap.size w w':=by
 go_enter Tryz.func176,Tryz.ntmps176
 go_wp2_with(go_at_call 175;((with_reducible refine(Ka l hl _).mono ?_);rintro e w3 ⟨rfl,hb3⟩))
 go_ret;exact⟨rfl,hb3⟩
theorem bR(w:World)(cs:Array Value)(t:TypeId):(w.alloc (.cells cs t)).heap[w.heap.size]?=some (.cells cs t (0,0)):=by
 show(w.heap.push _)[w.heap.size]?=_;simp
def sj(b n:Nat)(L:List (List UInt8))(w:World):Prop:=∀k,k<n→w.cell? ⟨b,k,none⟩=some (.string ⟨(L.getD k []).toArray⟩)
def E9(b n:Nat)(L:List Int)(w:World):Prop:=∀k,k<n→w.cell? ⟨b,k,none⟩=some (.int .i64 (L.getD k 0))
theorem sj.below{b n:Nat}{L:List (List UInt8)}{w w':World}(h:sj b n L w)(hb:Below w.heap.size w w'):sj b n L w':=fun k hk=>aV (h k hk) hb
theorem E9.below{b n:Nat}{L:List Int}{w w':World}(h:E9 b n L w)(hb:Below w.heap.size w w'):E9 b n L w':=fun k hk=>aV (h k hk) hb
theorem sj.of{b n:Nat}{L:List (List UInt8)}{w:World}{cs:Array Value}{t:TypeId}{fr:Nat×Nat}(h:w.heap[b]?=some (.cells cs t fr))(hc:cs.toList=L.map fun l=>Value.string ⟨l.toArray⟩)(hn:n≤L.length):sj b n L w:=by
 intro k hk;rw[Lib.cell_of_heap h,←Array.getElem?_toList,hc,List.getElem?_map,List.getElem?_eq_getElem (show k<L.length by omega)];simp[List.getD,List.getElem?_eq_getElem (show k<L.length by omega)]
theorem E9.of{b n:Nat}{L:List Int}{w:World}{cs:Array Value}{t:TypeId}{fr:Nat×Nat}(h:w.heap[b]?=some (.cells cs t fr))(hc:cs.toList=L.map fun l=>Value.int .i64 l)(hn:n≤L.length):E9 b n L w:=by
 intro k hk;rw[Lib.cell_of_heap h,←Array.getElem?_toList,hc,List.getElem?_map,List.getElem?_eq_getElem (show k<L.length by omega)];simp[List.getD,List.getElem?_eq_getElem (show k<L.length by omega)]
def Bts(w:World)(base:Nat)(v:Value)(l:List UInt8):Prop:=w.ownsRow base 5 1 v l.length (Lib.byteCells l)
theorem Bts.below{w w1:World}{base:Nat}{v:Value}{l:List UInt8}(h:Bts w base v l)(hb:Below w.heap.size w w1):Bts w1 base v l:=
 World.ownsRow.kept h (mJ hb none) (by cases hv:v.ownBlock<;>simp)
theorem Bts.nil(w:World)(base:Nat):Bts w base (.slice none 0 0) []:=World.ownsRow_nil _ _ _ _
theorem Bts.new(w:World)(base:Nat)(hB:base≤w.heap.size):Bts (w.alloc (.cells #[] 5)) base (.slice (some ⟨w.heap.size,0,none⟩) 0 0) []:=
 ⟨rfl,.inr ⟨w.heap.size,0,#[],rfl,hB,bR _ _ _,Nat.le_refl _,by unfold maxLen;omega,rfl,rfl⟩⟩
theorem oN{w:World}{base:Nat}{e:TypeId}{size n:Nat}{v:Value}{xs:List Value}(h:w.ownsRow base e size v n xs){k:Nat}(hk:v.ownBlock=some k):base≤k:=by
 rcases h.2 with⟨rfl,_⟩|⟨g,cap,cur,rfl,hb,_⟩
 ·simp[Value.ownBlock]at hk
 ·have:g=k:=by simpa [Value.ownBlock]using hk
  omega
def nM(n:Int):Bool:=n==32||n==9||n==10||n==12||n==13
def Au(n:Int):Bool:=(decide (97≤n)&&decide (n≤122))||(decide (65≤n)&&decide (n≤90))
theorem BO(c:UInt8):nM c.toNat=dM c:=by
 have:=kZ (p:=fun c=>nM c.toNat==dM c) (by decide +kernel) c;simpa using this
theorem M4(c:UInt8):Au c.toNat=mh c:=by
 have:=kZ (p:=fun c=>Au c.toNat==mh c) (by decide +kernel) c;simpa using this
theorem oL(n:Int)(w:World):
 Calls Tryz.prog 128 #[.int .u8 n] w fun e w'=>e=.returned (.bool (nM n))∧w=w':=by
 go_enter Tryz.func128,Tryz.ntmps128;go_wp2
 all_goals go_ret
 all_goals(refine⟨xG ?_,rfl⟩;simp_all[nM])
theorem KD(n:Int)(w:World):
 Calls Tryz.prog 80 #[.int .u8 n] w fun e w'=>e=.returned (.bool (Au n))∧w=w':=by
 go_enter Tryz.func80,Tryz.ntmps80;go_wp2
 all_goals go_ret
 all_goals(refine⟨xG ?_,rfl⟩;simp_all[Au];try omega)
def mV(n:Int):Bool:=nM n||n==47||n==62
def op1I(n:Int):Bool:=!nM n&&n !=47
def at1I(n:Int):Bool:=mV n||n==61
def at2I(n:Int):Bool:=!nM n
def at4I(n:Int):Bool:=nM n||n==62
def all1I(n:Int):Bool:=n==60
theorem CO(c:UInt8):mV c.toNat=dZ c:=by
 have:=kZ (p:=fun c=>mV c.toNat==dZ c) (by decide +kernel) c;simpa using this
theorem op1I_u8(c:UInt8):op1I c.toNat=(!dM c&&c !=47):=by
 have:=kZ (p:=fun c=>op1I c.toNat==(!dM c&&c !=47)) (by decide +kernel) c;simpa using this
theorem at1I_u8(c:UInt8):at1I c.toNat=(dZ c||c==61):=by
 have:=kZ (p:=fun c=>at1I c.toNat==(dZ c||c==61)) (by decide +kernel) c;simpa using this
theorem Qk(c:UInt8):at2I c.toNat=(!dM c):=by
 have:=kZ (p:=fun c=>at2I c.toNat==(!dM c)) (by decide +kernel) c;simpa using this
theorem at4I_u8(c:UInt8):at4I c.toNat=(dM c||c==62):=by
 have:=kZ (p:=fun c=>at4I c.toNat==(dM c||c==62)) (by decide +kernel) c;simpa using this
theorem all1I_u8(c:UInt8):all1I c.toNat=(c==60):=by
 have:=kZ (p:=fun c=>all1I c.toNat==(c==60)) (by decide +kernel) c;simpa using this
theorem oC(n:Int)(w:World):
 Calls Tryz.prog 154 #[.int .u8 n] w fun e w'=>e=.returned (.bool (mV n))∧w=w':=by
 have hs:=Lib.hid (fun W=>oL n W);go_enter Tryz.func154,Tryz.ntmps154;cases hb:nM n<;>rw[hb]at hs
 all_goals
  go_wp2_with(go_at_call 128;((with_reducible refine(hs.out _).mono ?_);rintro e w1 ⟨rfl,rfl⟩))
  all_goals go_ret
  all_goals(refine⟨xG ?_,rfl⟩;simp_all[mV])
theorem op1_i(n:Int)(w:World):
 Calls Tryz.prog 229 #[.int .u8 n] w fun e w'=>e=.returned (.bool (op1I n))∧w=w':=by
 have hs:=Lib.hid (fun W=>oL n W);go_enter Tryz.func229,Tryz.ntmps229;cases hb:nM n<;>rw[hb]at hs
 all_goals
  go_wp2_with(go_at_call 128;((with_reducible refine(hs.out _).mono ?_);rintro e w1 ⟨rfl,rfl⟩))
  all_goals go_ret
  all_goals(refine⟨xG ?_,rfl⟩;simp_all[op1I])
theorem at1_i(n:Int)(w:World):
 Calls Tryz.prog 241 #[.int .u8 n] w fun e w'=>e=.returned (.bool (at1I n))∧w=w':=by
 have hs:=Lib.hid (fun W=>oC n W);go_enter Tryz.func241,Tryz.ntmps241;cases hb:mV n<;>rw[hb]at hs
 all_goals
  go_wp2_with(go_at_call 154;((with_reducible refine(hs.out _).mono ?_);rintro e w1 ⟨rfl,rfl⟩))
  all_goals go_ret
  all_goals(refine⟨xG ?_,rfl⟩;simp_all[at1I])
theorem at2_i(n:Int)(w:World):
 Calls Tryz.prog 242 #[.int .u8 n] w fun e w'=>e=.returned (.bool (at2I n))∧w=w':=by
 have hs:=Lib.hid (fun W=>oL n W);go_enter Tryz.func242,Tryz.ntmps242;cases hb:nM n<;>rw[hb]at hs
 all_goals
  go_wp2_with(go_at_call 128;((with_reducible refine(hs.out _).mono ?_);rintro e w1 ⟨rfl,rfl⟩))
  all_goals go_ret
  all_goals(refine⟨xG ?_,rfl⟩;simp_all[at2I])
theorem at3_i(n:Int)(w:World):
 Calls Tryz.prog 243 #[.int .u8 n] w fun e w'=>e=.returned (.bool (at2I n))∧w=w':=by
 have hs:=Lib.hid (fun W=>oL n W);go_enter Tryz.func243,Tryz.ntmps243;cases hb:nM n<;>rw[hb]at hs
 all_goals
  go_wp2_with(go_at_call 128;((with_reducible refine(hs.out _).mono ?_);rintro e w1 ⟨rfl,rfl⟩))
  all_goals go_ret
  all_goals(refine⟨xG ?_,rfl⟩;simp_all[at2I])
theorem at4_i(n:Int)(w:World):
 Calls Tryz.prog 244 #[.int .u8 n] w fun e w'=>e=.returned (.bool (at4I n))∧w=w':=by
 have hs:=Lib.hid (fun W=>oL n W);go_enter Tryz.func244,Tryz.ntmps244;cases hb:nM n<;>rw[hb]at hs
 all_goals
  go_wp2_with(go_at_call 128;((with_reducible refine(hs.out _).mono ?_);rintro e w1 ⟨rfl,rfl⟩))
  all_goals go_ret
  all_goals(refine⟨xG ?_,rfl⟩;simp_all[at4I])
theorem all1_i(n:Int)(w:World):
 Calls Tryz.prog 157 #[.int .u8 n] w fun e w'=>e=.returned (.bool (all1I n))∧w=w':=by
 go_enter Tryz.func157,Tryz.ntmps157;go_wp2;go_ret;exact⟨rfl,rfl⟩
theorem E8{p:UInt8→Bool}{l:Txt}{k:Nat}(hk:k<l.length)(hno:∀j (hj:j<l.length),j<k→p l[j]=false)(hp:p l[k]=true):l.findIdx p=k:=by
 rw[List.findIdx_eq hk];exact⟨hp,fun j hj=>hno j (by omega) hj⟩
theorem zQ{p:UInt8→Bool}{l:Txt}(hno:∀j (hj:j<l.length),p l[j]=false):l.findIdx p=l.length:=by
 rw[List.findIdx_eq_length];intro x hx;obtain⟨j,hj,rfl⟩:=List.getElem_of_mem hx;exact hno j hj
theorem H8(l:Txt)(hl:l.length≤1000000000)(w:World):
 Calls Tryz.prog 156 #[.string ⟨l.toArray⟩,.func (.func 154) #[] #[]] w fun e w'=>e=.returned (.int .i64 (l.findIdx dZ:Nat))∧w=w':=by
 go_enter Tryz.func156,Tryz.ntmps156;go_wp2
 go_loop [5,8] (fun _ v=>∃(k:Nat),v=.int .i64 k∧k≤l.length∧Hid (∀j (hj:j<l.length),j<k→dZ l[j]=false)) (fun _ v=>l.length - (intOf v).toNat)
 case atStart=>exact⟨0,rfl,by omega,fun j _ h=>by omega⟩
 case round=>
  obtain⟨k,rfl,hk,hno⟩:=hrel
  by_cases hlt:k<l.length
  ·obtain⟨n,hn⟩:∃n,(l[k].toNat:Int)=n:=⟨_,rfl⟩
   have hu:=CO l[k];rw[hn]at hu;have hc:=Lib.hid (fun W=>oC n W);cases hb:mV n with
   |true=>
    have hf:=Lib.hid (E8 (p:=dZ) hlt hno.out (hu.symm.trans hb));rw[hb]at hc;clear hu hb
    go_wp2_with(go_at_call 154;((with_reducible refine(hc.out _).mono ?_);rintro e w1 ⟨rfl,rfl⟩))
    go_ret;rw[hf.out];exact⟨rfl,rfl⟩
   |false=>
    have oh:=Lib.hid (show∀j (hj:j<l.length),j<k+1→dZ l[j]=false by
     intro j hj hjk
     by_cases e:j=k
     ·subst e;exact hu.symm.trans hb
     ·exact hno.out j hj (by omega))
    rw[hb]at hc;clear hu hb hno
    go_wp2_with(go_at_call 154;((with_reducible refine(hc.out _).mono ?_);rintro e w1 ⟨rfl,rfl⟩))
    refine⟨⟨k+1,rfl,by omega,oh⟩,by simp[intOf];omega⟩
  ·have hf:=Lib.hid (zQ (p:=dZ) (l:=l) fun j hj=>hno.out j hj (by omega))
   go_wp2;go_ret;rw[hf.out];exact⟨rfl,rfl⟩
theorem span_op1(l:Txt)(hl:l.length≤1000000000)(w:World):
 Calls Tryz.prog 156 #[.string ⟨l.toArray⟩,.func (.func 229) #[] #[]] w fun e w'=>e=.returned (.int .i64 (l.findIdx (fun c=>!dM c&&c !=47):Nat))∧w=w':=by
 go_enter Tryz.func156,Tryz.ntmps156;go_wp2
 go_loop [5,8] (fun _ v=>∃(k:Nat),v=.int .i64 k∧k≤l.length∧Hid (∀j (hj:j<l.length),j<k→(fun c=>!dM c&&c !=47) l[j]=false)) (fun _ v=>l.length - (intOf v).toNat)
 case atStart=>exact⟨0,rfl,by omega,fun j _ h=>by omega⟩
 case round=>
  obtain⟨k,rfl,hk,hno⟩:=hrel
  by_cases hlt:k<l.length
  ·obtain⟨n,hn⟩:∃n,(l[k].toNat:Int)=n:=⟨_,rfl⟩
   have hu:=op1I_u8 l[k];rw[hn]at hu;have hc:=Lib.hid (fun W=>op1_i n W);cases hb:op1I n with
   |true=>
    have hf:=Lib.hid (E8 (p:=(fun c=>!dM c&&c !=47)) hlt hno.out (hu.symm.trans hb));rw[hb]at hc;clear hu hb
    go_wp2_with(go_at_call 229;((with_reducible refine(hc.out _).mono ?_);rintro e w1 ⟨rfl,rfl⟩))
    go_ret;rw[hf.out];exact⟨rfl,rfl⟩
   |false=>
    have oh:=Lib.hid (show∀j (hj:j<l.length),j<k+1→(fun c=>!dM c&&c !=47) l[j]=false by
     intro j hj hjk
     by_cases e:j=k
     ·subst e;exact hu.symm.trans hb
     ·exact hno.out j hj (by omega))
    rw[hb]at hc;clear hu hb hno
    go_wp2_with(go_at_call 229;((with_reducible refine(hc.out _).mono ?_);rintro e w1 ⟨rfl,rfl⟩))
    refine⟨⟨k+1,rfl,by omega,oh⟩,by simp[intOf];omega⟩
  ·have hf:=Lib.hid (zQ (p:=(fun c=>!dM c&&c !=47)) (l:=l) fun j hj=>hno.out j hj (by omega))
   go_wp2;go_ret;rw[hf.out];exact⟨rfl,rfl⟩
theorem qY(l:Txt)(hl:l.length≤1000000000)(w:World):
 Calls Tryz.prog 156 #[.string ⟨l.toArray⟩,.func (.func 241) #[] #[]] w fun e w'=>e=.returned (.int .i64 (l.findIdx (fun c=>dZ c||c==61):Nat))∧w=w':=by
 go_enter Tryz.func156,Tryz.ntmps156;go_wp2
 go_loop [5,8] (fun _ v=>∃(k:Nat),v=.int .i64 k∧k≤l.length∧Hid (∀j (hj:j<l.length),j<k→(fun c=>dZ c||c==61) l[j]=false)) (fun _ v=>l.length - (intOf v).toNat)
 case atStart=>exact⟨0,rfl,by omega,fun j _ h=>by omega⟩
 case round=>
  obtain⟨k,rfl,hk,hno⟩:=hrel
  by_cases hlt:k<l.length
  ·obtain⟨n,hn⟩:∃n,(l[k].toNat:Int)=n:=⟨_,rfl⟩
   have hu:=at1I_u8 l[k];rw[hn]at hu;have hc:=Lib.hid (fun W=>at1_i n W);cases hb:at1I n with
   |true=>
    have hf:=Lib.hid (E8 (p:=(fun c=>dZ c||c==61)) hlt hno.out (hu.symm.trans hb));rw[hb]at hc;clear hu hb
    go_wp2_with(go_at_call 241;((with_reducible refine(hc.out _).mono ?_);rintro e w1 ⟨rfl,rfl⟩))
    go_ret;rw[hf.out];exact⟨rfl,rfl⟩
   |false=>
    have oh:=Lib.hid (show∀j (hj:j<l.length),j<k+1→(fun c=>dZ c||c==61) l[j]=false by
     intro j hj hjk
     by_cases e:j=k
     ·subst e;exact hu.symm.trans hb
     ·exact hno.out j hj (by omega))
    rw[hb]at hc;clear hu hb hno
    go_wp2_with(go_at_call 241;((with_reducible refine(hc.out _).mono ?_);rintro e w1 ⟨rfl,rfl⟩))
    refine⟨⟨k+1,rfl,by omega,oh⟩,by simp[intOf];omega⟩
  ·have hf:=Lib.hid (zQ (p:=(fun c=>dZ c||c==61)) (l:=l) fun j hj=>hno.out j hj (by omega))
   go_wp2;go_ret;rw[hf.out];exact⟨rfl,rfl⟩
theorem qZ(l:Txt)(hl:l.length≤1000000000)(w:World):
 Calls Tryz.prog 156 #[.string ⟨l.toArray⟩,.func (.func 242) #[] #[]] w fun e w'=>e=.returned (.int .i64 (l.findIdx (fun c=>!dM c):Nat))∧w=w':=by
 go_enter Tryz.func156,Tryz.ntmps156;go_wp2
 go_loop [5,8] (fun _ v=>∃(k:Nat),v=.int .i64 k∧k≤l.length∧Hid (∀j (hj:j<l.length),j<k→(fun c=>!dM c) l[j]=false)) (fun _ v=>l.length - (intOf v).toNat)
 case atStart=>exact⟨0,rfl,by omega,fun j _ h=>by omega⟩
 case round=>
  obtain⟨k,rfl,hk,hno⟩:=hrel
  by_cases hlt:k<l.length
  ·obtain⟨n,hn⟩:∃n,(l[k].toNat:Int)=n:=⟨_,rfl⟩
   have hu:=Qk l[k];rw[hn]at hu;have hc:=Lib.hid (fun W=>at2_i n W);cases hb:at2I n with
   |true=>
    have hf:=Lib.hid (E8 (p:=(fun c=>!dM c)) hlt hno.out (hu.symm.trans hb));rw[hb]at hc;clear hu hb
    go_wp2_with(go_at_call 242;((with_reducible refine(hc.out _).mono ?_);rintro e w1 ⟨rfl,rfl⟩))
    go_ret;rw[hf.out];exact⟨rfl,rfl⟩
   |false=>
    have oh:=Lib.hid (show∀j (hj:j<l.length),j<k+1→(fun c=>!dM c) l[j]=false by
     intro j hj hjk
     by_cases e:j=k
     ·subst e;exact hu.symm.trans hb
     ·exact hno.out j hj (by omega))
    rw[hb]at hc;clear hu hb hno
    go_wp2_with(go_at_call 242;((with_reducible refine(hc.out _).mono ?_);rintro e w1 ⟨rfl,rfl⟩))
    refine⟨⟨k+1,rfl,by omega,oh⟩,by simp[intOf];omega⟩
  ·have hf:=Lib.hid (zQ (p:=(fun c=>!dM c)) (l:=l) fun j hj=>hno.out j hj (by omega))
   go_wp2;go_ret;rw[hf.out];exact⟨rfl,rfl⟩
theorem xF(l:Txt)(hl:l.length≤1000000000)(w:World):
 Calls Tryz.prog 156 #[.string ⟨l.toArray⟩,.func (.func 243) #[] #[]] w fun e w'=>e=.returned (.int .i64 (l.findIdx (fun c=>!dM c):Nat))∧w=w':=by
 go_enter Tryz.func156,Tryz.ntmps156;go_wp2
 go_loop [5,8] (fun _ v=>∃(k:Nat),v=.int .i64 k∧k≤l.length∧Hid (∀j (hj:j<l.length),j<k→(fun c=>!dM c) l[j]=false)) (fun _ v=>l.length - (intOf v).toNat)
 case atStart=>exact⟨0,rfl,by omega,fun j _ h=>by omega⟩
 case round=>
  obtain⟨k,rfl,hk,hno⟩:=hrel
  by_cases hlt:k<l.length
  ·obtain⟨n,hn⟩:∃n,(l[k].toNat:Int)=n:=⟨_,rfl⟩
   have hu:=Qk l[k];rw[hn]at hu;have hc:=Lib.hid (fun W=>at3_i n W);cases hb:at2I n with
   |true=>
    have hf:=Lib.hid (E8 (p:=(fun c=>!dM c)) hlt hno.out (hu.symm.trans hb));rw[hb]at hc;clear hu hb
    go_wp2_with(go_at_call 243;((with_reducible refine(hc.out _).mono ?_);rintro e w1 ⟨rfl,rfl⟩))
    go_ret;rw[hf.out];exact⟨rfl,rfl⟩
   |false=>
    have oh:=Lib.hid (show∀j (hj:j<l.length),j<k+1→(fun c=>!dM c) l[j]=false by
     intro j hj hjk
     by_cases e:j=k
     ·subst e;exact hu.symm.trans hb
     ·exact hno.out j hj (by omega))
    rw[hb]at hc;clear hu hb hno
    go_wp2_with(go_at_call 243;((with_reducible refine(hc.out _).mono ?_);rintro e w1 ⟨rfl,rfl⟩))
    refine⟨⟨k+1,rfl,by omega,oh⟩,by simp[intOf];omega⟩
  ·have hf:=Lib.hid (zQ (p:=(fun c=>!dM c)) (l:=l) fun j hj=>hno.out j hj (by omega))
   go_wp2;go_ret;rw[hf.out];exact⟨rfl,rfl⟩
theorem Ki(l:Txt)(hl:l.length≤1000000000)(w:World):
 Calls Tryz.prog 156 #[.string ⟨l.toArray⟩,.func (.func 244) #[] #[]] w fun e w'=>e=.returned (.int .i64 (l.findIdx (fun c=>dM c||c==62):Nat))∧w=w':=by
 go_enter Tryz.func156,Tryz.ntmps156;go_wp2
 go_loop [5,8] (fun _ v=>∃(k:Nat),v=.int .i64 k∧k≤l.length∧Hid (∀j (hj:j<l.length),j<k→(fun c=>dM c||c==62) l[j]=false)) (fun _ v=>l.length - (intOf v).toNat)
 case atStart=>exact⟨0,rfl,by omega,fun j _ h=>by omega⟩
 case round=>
  obtain⟨k,rfl,hk,hno⟩:=hrel
  by_cases hlt:k<l.length
  ·obtain⟨n,hn⟩:∃n,(l[k].toNat:Int)=n:=⟨_,rfl⟩
   have hu:=at4I_u8 l[k];rw[hn]at hu;have hc:=Lib.hid (fun W=>at4_i n W);cases hb:at4I n with
   |true=>
    have hf:=Lib.hid (E8 (p:=(fun c=>dM c||c==62)) hlt hno.out (hu.symm.trans hb));rw[hb]at hc;clear hu hb
    go_wp2_with(go_at_call 244;((with_reducible refine(hc.out _).mono ?_);rintro e w1 ⟨rfl,rfl⟩))
    go_ret;rw[hf.out];exact⟨rfl,rfl⟩
   |false=>
    have oh:=Lib.hid (show∀j (hj:j<l.length),j<k+1→(fun c=>dM c||c==62) l[j]=false by
     intro j hj hjk
     by_cases e:j=k
     ·subst e;exact hu.symm.trans hb
     ·exact hno.out j hj (by omega))
    rw[hb]at hc;clear hu hb hno
    go_wp2_with(go_at_call 244;((with_reducible refine(hc.out _).mono ?_);rintro e w1 ⟨rfl,rfl⟩))
    refine⟨⟨k+1,rfl,by omega,oh⟩,by simp[intOf];omega⟩
  ·have hf:=Lib.hid (zQ (p:=(fun c=>dM c||c==62)) (l:=l) fun j hj=>hno.out j hj (by omega))
   go_wp2;go_ret;rw[hf.out];exact⟨rfl,rfl⟩
theorem Rj(l:Txt)(hl:l.length≤1000000000)(w:World):
 Calls Tryz.prog 156 #[.string ⟨l.toArray⟩,.func (.func 157) #[] #[]] w fun e w'=>e=.returned (.int .i64 (l.findIdx (fun c=>c==60):Nat))∧w=w':=by
 go_enter Tryz.func156,Tryz.ntmps156;go_wp2
 go_loop [5,8] (fun _ v=>∃(k:Nat),v=.int .i64 k∧k≤l.length∧Hid (∀j (hj:j<l.length),j<k→(fun c=>c==60) l[j]=false)) (fun _ v=>l.length - (intOf v).toNat)
 case atStart=>exact⟨0,rfl,by omega,fun j _ h=>by omega⟩
 case round=>
  obtain⟨k,rfl,hk,hno⟩:=hrel
  by_cases hlt:k<l.length
  ·obtain⟨n,hn⟩:∃n,(l[k].toNat:Int)=n:=⟨_,rfl⟩
   have hu:=all1I_u8 l[k];rw[hn]at hu;have hc:=Lib.hid (fun W=>all1_i n W);cases hb:all1I n with
   |true=>
    have hf:=Lib.hid (E8 (p:=(fun c=>c==60)) hlt hno.out (hu.symm.trans hb));rw[hb]at hc;clear hu hb
    go_wp2_with(go_at_call 157;((with_reducible refine(hc.out _).mono ?_);rintro e w1 ⟨rfl,rfl⟩))
    go_ret;rw[hf.out];exact⟨rfl,rfl⟩
   |false=>
    have oh:=Lib.hid (show∀j (hj:j<l.length),j<k+1→(fun c=>c==60) l[j]=false by
     intro j hj hjk
     by_cases e:j=k
     ·subst e;exact hu.symm.trans hb
     ·exact hno.out j hj (by omega))
    rw[hb]at hc;clear hu hb hno
    go_wp2_with(go_at_call 157;((with_reducible refine(hc.out _).mono ?_);rintro e w1 ⟨rfl,rfl⟩))
    refine⟨⟨k+1,rfl,by omega,oh⟩,by simp[intOf];omega⟩
  ·have hf:=Lib.hid (zQ (p:=(fun c=>c==60)) (l:=l) fun j hj=>hno.out j hj (by omega))
   go_wp2;go_ret;rw[hf.out];exact⟨rfl,rfl⟩
end Go.Proofs.YtkcmghlhpbepcaaGreatDoor
