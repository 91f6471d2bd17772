/- Lemmas and walks, part 9. -/
import Derived.Test.YtkcmghlhpbepcaaGreatDoorWS8
set_option linter.unusedVariables false
set_option linter.unusedSimpArgs false
set_option maxHeartbeats 8000000
set_option maxRecDepth 100000
namespace Go.Proofs.YtkcmghlhpbepcaaGreatDoor
open Go.RowKit Go.Proofs
def oI(q:Bool)(c:UInt8):List UInt8:=
 if c=38 then [38,97,109,112,59]else if c=60 then [38,108,116,59]else if c=62 then [38,103,116,59]else if c=34∧q=true then [38,113,117,111,116,59]else [c]
def wrL(q:Bool):List UInt8→List UInt8
 | []=>[]
 | [c]=>oI q c
 |c::d::l=>if c=194∧d=160 then [38,110,98,115,112,59]++wrL q l else oI q c++wrL q (d::l)
def uM(l:List UInt8):Bool:=Lib.hasPrefix l [194,160]
theorem FZ{q:Bool}{l:List UInt8}(h:uM l=true):wrL q l=[38,110,98,115,112,59]++wrL q (l.drop 2):=by
 obtain⟨r,rfl⟩:=List.isPrefixOf_iff_prefix.1 h;simp[wrL]
theorem BK{q:Bool}{c:UInt8}{l:List UInt8}(h:uM (c::l)=false):wrL q (c::l)=oI q c++wrL q l:=by
 cases l with
 |nil=>simp[wrL]
 |cons d l=>
  rw[wrL,if_neg];rintro⟨rfl,rfl⟩;simp[uM,Lib.hasPrefix]at h
theorem Ac{c:UInt8}{n:Nat}(h:c.toNat=n)(hn:n<256):c=UInt8.ofNat n:=by
 apply UInt8.toNat_inj.1;rw[h];simp[Nat.mod_eq_of_lt hn]
theorem esc38{q:Bool}{c:UInt8}(h:c.toNat=38):oI q c=[38,97,109,112,59]:=by rw[Ac h (by omega)];rfl
theorem esc60{q:Bool}{c:UInt8}(h:c.toNat=60):oI q c=[38,108,116,59]:=by rw[Ac h (by omega)];rfl
theorem esc62{q:Bool}{c:UInt8}(h:c.toNat=62):oI q c=[38,103,116,59]:=by rw[Ac h (by omega)];rfl
theorem esc34{c:UInt8}(h:c.toNat=34):oI true c=[38,113,117,111,116,59]:=by rw[Ac h (by omega)];rfl
theorem escNo{q:Bool}{c:UInt8}(h1:c.toNat≠38)(h2:c.toNat≠60)(h3:c.toNat≠62)(h4:¬(c.toNat=34∧q=true)):oI q c=[c]:=by
 unfold oI;rw[if_neg (fun e=>h1 (by rw[e];rfl)),if_neg (fun e=>h2 (by rw[e];rfl)),if_neg (fun e=>h3 (by rw[e];rfl)),if_neg (fun e=>h4 ⟨by rw[e.1];rfl,e.2⟩)]
theorem xu{q:Bool}{l acc:List UInt8}{k:Nat}{c:UInt8}(hk:k<l.length)(hc:l[k]=c)(hdec:wrL q l=acc++wrL q (l.drop k))(h:uM (l.drop k)=false){e:List UInt8}(he:oI q c=e):wrL q l=(acc++e)++wrL q (l.drop (k+1)):=by
 have hd:l.drop k=c::l.drop (k+1):=by rw[←hc];exact List.drop_eq_getElem_cons hk
 rw[hd]at h hdec;rw[hdec,BK h,he,List.append_assoc]
theorem qj{l:List UInt8}{k:Nat}{c:UInt8}(hk:k<l.length)(hc:l[k]=c)(h:c.toNat≠194):uM (l.drop k)=false:=by
 have hd:l.drop k=c::l.drop (k+1):=by rw[←hc];exact List.drop_eq_getElem_cons hk
 rw[hd];have:(194:UInt8)≠c:=fun e=>h (by rw[←e];rfl)
 simp[uM,Lib.hasPrefix,List.isPrefixOf,this]
theorem Rh{q:Bool}{l acc:List UInt8}{k:Nat}(hdec:wrL q l=acc++wrL q (l.drop k))(h:uM (l.drop k)=true):wrL q l=(acc++[38,110,98,115,112,59])++wrL q (l.drop (k+1+1)):=by
 rw[hdec,FZ h,List.drop_drop,List.append_assoc]
theorem Nk{l:List UInt8}{k:Nat}(h:uM (l.drop k)=true):k+2≤l.length:=by
 have:=qb h;simp at this;omega
theorem OH(B b:Nat)(acc:List UInt8)(c:UInt8)(w:World)(h:Lib.IsBuilderF 106 5 B b (Lib.byteCells acc) w)(hlen:acc.length+1≤140737488355328)(hBw:B≤w.heap.size):
 Calls Tryz.prog 202 #[.pointer (some ⟨b,0,none⟩),.int .u8 c.toNat] w fun e w'=>e=.returned .nilIface∧(Lib.IsBuilderF 106 5 B b (Lib.byteCells (acc++[c])) w'∧Below B w w'∧Lib.OthersKept 5 (some b) w w'):=by
 refine(KP B b _ c.toNat w h (by rw[Lib.byteCells_length];exact hlen) hBw).mono ?_;rintro e w' ⟨rfl,h1,h2,h3⟩;exact⟨rfl,by rw[Lib.byteCells_append];exact h1,h2,h3⟩
theorem esc34f{c:UInt8}(h:c.toNat=34):oI false c=[34]:=by rw[Ac h (by omega)];rfl
theorem Ri(B b:Nat)(acc:List UInt8)(w:World)(h:Lib.IsBuilderF 106 5 B b (Lib.byteCells acc) w)(hlen:acc.length+1≤140737488355328)(hBw:B≤w.heap.size):
 Calls Tryz.prog 202 #[.pointer (some ⟨b,0,none⟩),.int .u8 34] w fun e w'=>e=.returned .nilIface∧(Lib.IsBuilderF 106 5 B b (Lib.byteCells (acc++[34])) w'∧Below B w w'∧Lib.OthersKept 5 (some b) w w'):=OH B b acc 34 w h hlen hBw
theorem GA(l:List UInt8)(hl:l.length≤1000000000)(w:World):
 Calls Tryz.prog 175 #[.string ⟨l.toArray⟩,.bool false] w fun e w'=>e=.returned (.string ⟨(wrL false l).toArray⟩)∧Below w.heap.size w w':=by
 go_enter Tryz.func175,Tryz.ntmps175;go_wp2
 go_loopw [6] (fun v wr=>∃(k:Nat) (acc:List UInt8),v=.int .i64 k∧k≤l.length∧Lib.IsBuilderF 106 5 w.heap.size w.heap.size (Lib.byteCells acc) wr∧Below w.heap.size w wr∧w.heap.size<wr.heap.size∧Hid (wrL false l=acc++wrL false (l.drop k))∧acc.length≤6 * k) (fun v _=>l.length - (intOf v).toNat)
 case atStart=>
  exact⟨0,[],rfl,by omega,DN _ _ (Nat.le_refl _),(Below.refl _ w).alloc (Nat.le_refl _) _,by simp,rfl,by simp⟩
 case round=>
  obtain⟨k,acc,rfl,hk,hI,hbw,hsz,hdec,hal⟩:=hrel
  by_cases hlt:k<l.length
  ·obtain⟨c,hc⟩:∃c,l[k]=c:=⟨_,rfl⟩
   have hc':=Lib.hid hc;have hhl:=Lib.hid (@Nk l k)
   go_wp2_with(first
    |(go_at_call 94;((with_reducible refine(kI _ _ _).mono ?_);rintro e w1 ⟨rfl,rfl⟩))
    |(go_at_call 135;((with_reducible refine(uS _ _ acc _ _ hI (by simp;omega) (by omega)).mono ?_);rintro e w5 ⟨rfl,hI5,hb5,_⟩))
    |(go_at_call 202;((with_reducible refine(OH _ _ acc c _ hI (by omega) (by omega)).mono ?_);rintro e w5 ⟨rfl,hI5,hb5,_⟩))
    |(go_at_call 202;((with_reducible refine(Ri _ _ acc _ hI (by omega) (by omega)).mono ?_);rintro e w5 ⟨rfl,hI5,hb5,_⟩)))
   all_goals(simp only[beq_iff_eq,beq_eq_false_iff_ne,ne_eq]at *)
   all_goals first
    |(refine⟨⟨k+1,acc++_,rfl,by omega,hI5,hbw.trans hb5,by have:=hb5.size;omega,xu hlt hc'.out hdec.out (qj hlt hc'.out (by omega)) (esc38 (by omega)),by simp;omega⟩,by simp[intOf];omega⟩)
    |(refine⟨⟨k+1,acc++_,rfl,by omega,hI5,hbw.trans hb5,by have:=hb5.size;omega,xu hlt hc'.out hdec.out (qj hlt hc'.out (by omega)) (esc60 (by omega)),by simp;omega⟩,by simp[intOf];omega⟩)
    |(refine⟨⟨k+1,acc++_,rfl,by omega,hI5,hbw.trans hb5,by have:=hb5.size;omega,xu hlt hc'.out hdec.out (qj hlt hc'.out (by omega)) (esc62 (by omega)),by simp;omega⟩,by simp[intOf];omega⟩)
    |(refine⟨⟨k+1,acc++_,rfl,by omega,hI5,hbw.trans hb5,by have:=hb5.size;omega,xu hlt hc'.out hdec.out (qj hlt hc'.out (by omega)) (esc34 (by omega)),by simp;omega⟩,by simp[intOf];omega⟩)
    |(refine⟨⟨k+1,acc++_,rfl,by omega,hI5,hbw.trans hb5,by have:=hb5.size;omega,xu hlt hc'.out hdec.out (qj hlt hc'.out (by omega)) (esc34f (by omega)),by simp;omega⟩,by simp[intOf];omega⟩)
    |(refine⟨⟨k+1,acc++_,rfl,by omega,hI5,hbw.trans hb5,by have:=hb5.size;omega,xu hlt hc'.out hdec.out (by assumption) (escNo (by omega) (by omega) (by omega) (by simp;try omega)),by simp;omega⟩,by simp[intOf];omega⟩)
    |(have h2:=hhl.out (by assumption);refine⟨⟨k+1+1,acc++_,by first|rfl|(congr 1;omega),by omega,hI5,hbw.trans hb5,by have:=hb5.size;omega,Rh hdec.out (by assumption),by simp;omega⟩,by simp[intOf];omega⟩)
    |skip
  ·have hd:wrL false l=acc:=by
    rw[hdec.out,List.drop_eq_nil_of_le (by omega)];simp[wrL]
   have hd:=Lib.hid hd;rename_i hd0;clear hd0
   go_wp2_with(go_at_call 138;((with_reducible refine(Tryz.Builder_String_any_k _ _ _ _ hI (by omega)).mono ?_);rintro e w3 ⟨rfl,_,hb3,_⟩))
   go_ret;rw[hd.out];exact⟨rfl,hbw.trans hb3⟩
theorem text_c(l:List UInt8)(hl:l.length≤1000000000)(w:World):
 Calls Tryz.prog 136 #[.string ⟨l.toArray⟩] w fun e w'=>e=.returned (.string ⟨(wrL false l).toArray⟩)∧Below w.heap.size w w':=by
 go_enter Tryz.func136,Tryz.ntmps136
 go_wp2_with(go_at_call 175;((with_reducible refine(GA l hl _).mono ?_);rintro e w3 ⟨rfl,hb3⟩))
 go_ret;exact⟨rfl,hb3⟩
theorem KI(l:List UInt8)(hl:l.length≤1000000000)(w:World):
 Calls Tryz.prog 175 #[.string ⟨l.toArray⟩,.bool true] w fun e w'=>e=.returned (.string ⟨(wrL true l).toArray⟩)∧Below w.heap.size w w':=by
 go_enter Tryz.func175,Tryz.ntmps175;go_wp2
 go_loopw [6] (fun v wr=>∃(k:Nat) (acc:List UInt8),v=.int .i64 k∧k≤l.length∧Lib.IsBuilderF 106 5 w.heap.size w.heap.size (Lib.byteCells acc) wr∧Below w.heap.size w wr∧w.heap.size<wr.heap.size∧Hid (wrL true l=acc++wrL true (l.drop k))∧acc.length≤6 * k) (fun v _=>l.length - (intOf v).toNat)
 case atStart=>
  exact⟨0,[],rfl,by omega,DN _ _ (Nat.le_refl _),(Below.refl _ w).alloc (Nat.le_refl _) _,by simp,rfl,by simp⟩
 case round=>
  obtain⟨k,acc,rfl,hk,hI,hbw,hsz,hdec,hal⟩:=hrel
  by_cases hlt:k<l.length
  ·obtain⟨c,hc⟩:∃c,l[k]=c:=⟨_,rfl⟩
   have hc':=Lib.hid hc;have hhl:=Lib.hid (@Nk l k)
   go_wp2_with(first
    |(go_at_call 94;((with_reducible refine(kI _ _ _).mono ?_);rintro e w1 ⟨rfl,rfl⟩))
    |(go_at_call 135;((with_reducible refine(uS _ _ acc _ _ hI (by simp;omega) (by omega)).mono ?_);rintro e w5 ⟨rfl,hI5,hb5,_⟩))
    |(go_at_call 202;((with_reducible refine(OH _ _ acc c _ hI (by omega) (by omega)).mono ?_);rintro e w5 ⟨rfl,hI5,hb5,_⟩))
    |(go_at_call 202;((with_reducible refine(Ri _ _ acc _ hI (by omega) (by omega)).mono ?_);rintro e w5 ⟨rfl,hI5,hb5,_⟩)))
   all_goals(simp only[beq_iff_eq,beq_eq_false_iff_ne,ne_eq]at *)
   all_goals first
    |(refine⟨⟨k+1,acc++_,rfl,by omega,hI5,hbw.trans hb5,by have:=hb5.size;omega,xu hlt hc'.out hdec.out (qj hlt hc'.out (by omega)) (esc38 (by omega)),by simp;omega⟩,by simp[intOf];omega⟩)
    |(refine⟨⟨k+1,acc++_,rfl,by omega,hI5,hbw.trans hb5,by have:=hb5.size;omega,xu hlt hc'.out hdec.out (qj hlt hc'.out (by omega)) (esc60 (by omega)),by simp;omega⟩,by simp[intOf];omega⟩)
    |(refine⟨⟨k+1,acc++_,rfl,by omega,hI5,hbw.trans hb5,by have:=hb5.size;omega,xu hlt hc'.out hdec.out (qj hlt hc'.out (by omega)) (esc62 (by omega)),by simp;omega⟩,by simp[intOf];omega⟩)
    |(refine⟨⟨k+1,acc++_,rfl,by omega,hI5,hbw.trans hb5,by have:=hb5.size;omega,xu hlt hc'.out hdec.out (qj hlt hc'.out (by omega)) (esc34 (by omega)),by simp;omega⟩,by simp[intOf];omega⟩)
    |(refine⟨⟨k+1,acc++_,rfl,by omega,hI5,hbw.trans hb5,by have:=hb5.size;omega,xu hlt hc'.out hdec.out (qj hlt hc'.out (by omega)) (esc34f (by omega)),by simp;omega⟩,by simp[intOf];omega⟩)
    |(refine⟨⟨k+1,acc++_,rfl,by omega,hI5,hbw.trans hb5,by have:=hb5.size;omega,xu hlt hc'.out hdec.out (by assumption) (escNo (by omega) (by omega) (by omega) (by simp;try omega)),by simp;omega⟩,by simp[intOf];omega⟩)
    |(have h2:=hhl.out (by assumption);refine⟨⟨k+1+1,acc++_,by first|rfl|(congr 1;omega),by omega,hI5,hbw.trans hb5,by have:=hb5.size;omega,Rh hdec.out (by assumption),by simp;omega⟩,by simp[intOf];omega⟩)
    |skip
  ·have hd:wrL true l=acc:=by
    rw[hdec.out,List.drop_eq_nil_of_le (by omega)];simp[wrL]
   have hd:=Lib.hid hd;rename_i hd0;clear hd0
   go_wp2_with(go_at_call 138;((with_reducible refine(Tryz.Builder_String_any_k _ _ _ _ hI (by omega)).mono ?_);rintro e w3 ⟨rfl,_,hb3,_⟩))
   go_ret;rw[hd.out];exact⟨rfl,hbw.trans hb3⟩
theorem value_c(l:List UInt8)(hl:l.length≤1000000000)(w:World):
 Calls Tryz.prog 176 #[.string ⟨l.toArray⟩] w fun e w'=>e=.returned (.string ⟨(wrL true l).toArray⟩)∧Below w.heap.size w w':=by
 go_enter Tryz.func176,Tryz.ntmps176
 go_wp2_with(go_at_call 175;((with_reducible refine(KI l hl _).mono ?_);rintro e w3 ⟨rfl,hb3⟩))
 go_ret;exact⟨rfl,hb3⟩
theorem bM(w:World)(cs:Array Value)(t:TypeId):(w.alloc (.cells cs t)).heap[w.heap.size]?=some (.cells cs t (0,0)):=by
 show(w.heap.push _)[w.heap.size]?=_;simp
def r9(b n:Nat)(L:List (List UInt8))(w:World):Prop:=∀k,k<n→w.cell? ⟨b,k,none⟩=some (.string ⟨(L.getD k []).toArray⟩)
def Fj(b n:Nat)(L:List Int)(w:World):Prop:=∀k,k<n→w.cell? ⟨b,k,none⟩=some (.int .i64 (L.getD k 0))
theorem r9.below{b n:Nat}{L:List (List UInt8)}{w w':World}(h:r9 b n L w)(hb:Below w.heap.size w w'):r9 b n L w':=fun k hk=>aR (h k hk) hb
theorem Fj.below{b n:Nat}{L:List Int}{w w':World}(h:Fj b n L w)(hb:Below w.heap.size w w'):Fj b n L w':=fun k hk=>aR (h k hk) hb
theorem r9.of{b n:Nat}{L:List (List UInt8)}{w:World}{cs:Array Value}{t:TypeId}{fr:Nat×Nat}(h:w.heap[b]?=some (.cells cs t fr))(hc:cs.toList=L.map fun l=>Value.string ⟨l.toArray⟩)(hn:n≤L.length):r9 b n L w:=by
 intro k hk;rw[Lib.cell_of_heap h,←Array.getElem?_toList,hc,List.getElem?_map,List.getElem?_eq_getElem (show k<L.length by omega)];simp[List.getD,List.getElem?_eq_getElem (show k<L.length by omega)]
theorem Fj.of{b n:Nat}{L:List Int}{w:World}{cs:Array Value}{t:TypeId}{fr:Nat×Nat}(h:w.heap[b]?=some (.cells cs t fr))(hc:cs.toList=L.map fun l=>Value.int .i64 l)(hn:n≤L.length):Fj b n L w:=by
 intro k hk;rw[Lib.cell_of_heap h,←Array.getElem?_toList,hc,List.getElem?_map,List.getElem?_eq_getElem (show k<L.length by omega)];simp[List.getD,List.getElem?_eq_getElem (show k<L.length by omega)]
def Bts(w:World)(base:Nat)(v:Value)(l:List UInt8):Prop:=w.ownsRow base 5 1 v l.length (Lib.byteCells l)
theorem Bts.below{w w1:World}{base:Nat}{v:Value}{l:List UInt8}(h:Bts w base v l)(hb:Below w.heap.size w w1):Bts w1 base v l:=
 World.ownsRow.kept h (mO hb none) (by cases hv:v.ownBlock<;>simp)
theorem Bts.nil(w:World)(base:Nat):Bts w base (.slice none 0 0) []:=World.ownsRow_nil _ _ _ _
theorem Bts.new(w:World)(base:Nat)(hB:base≤w.heap.size):Bts (w.alloc (.cells #[] 5)) base (.slice (some ⟨w.heap.size,0,none⟩) 0 0) []:=
 ⟨rfl,.inr ⟨w.heap.size,0,#[],rfl,hB,bM _ _ _,Nat.le_refl _,by unfold maxLen;omega,rfl,rfl⟩⟩
theorem oN{w:World}{base:Nat}{e:TypeId}{size n:Nat}{v:Value}{xs:List Value}(h:w.ownsRow base e size v n xs){k:Nat}(hk:v.ownBlock=some k):base≤k:=by
 rcases h.2 with⟨rfl,_⟩|⟨g,cap,cur,rfl,hb,_⟩
 ·simp[Value.ownBlock]at hk
 ·have:g=k:=by simpa [Value.ownBlock]using hk
  omega
def nM(n:Int):Bool:=n==32||n==9||n==10||n==12||n==13
def Aw(n:Int):Bool:=(decide (97≤n)&&decide (n≤122))||(decide (65≤n)&&decide (n≤90))
theorem Cg(c:UInt8):nM c.toNat=cO c:=by
 have:=jh (p:=fun c=>nM c.toNat==cO c) (by decide +kernel) c;simpa using this
theorem NH(c:UInt8):Aw c.toNat=lI c:=by
 have:=jh (p:=fun c=>Aw c.toNat==lI c) (by decide +kernel) c;simpa using this
theorem oL(n:Int)(w:World):
 Calls Tryz.prog 128 #[.int .u8 n] w fun e w'=>e=.returned (.bool (nM n))∧w=w':=by
 go_enter Tryz.func128,Tryz.ntmps128;go_wp2
 all_goals go_ret
 all_goals(refine⟨xI ?_,rfl⟩;simp_all[nM])
theorem K8(n:Int)(w:World):
 Calls Tryz.prog 80 #[.int .u8 n] w fun e w'=>e=.returned (.bool (Aw n))∧w=w':=by
 go_enter Tryz.func80,Tryz.ntmps80;go_wp2
 all_goals go_ret
 all_goals(refine⟨xI ?_,rfl⟩;simp_all[Aw];try omega)
def ni(n:Int):Bool:=nM n||n==47||n==62
def op1I(n:Int):Bool:=!nM n&&n !=47
def at1I(n:Int):Bool:=ni n||n==61
def at2I(n:Int):Bool:=!nM n
def at4I(n:Int):Bool:=nM n||n==62
def all1I(n:Int):Bool:=n==60
theorem Dg(c:UInt8):ni c.toNat=bS c:=by
 have:=jh (p:=fun c=>ni c.toNat==bS c) (by decide +kernel) c;simpa using this
theorem op1I_u8(c:UInt8):op1I c.toNat=(!cO c&&c !=47):=by
 have:=jh (p:=fun c=>op1I c.toNat==(!cO c&&c !=47)) (by decide +kernel) c;simpa using this
theorem at1I_u8(c:UInt8):at1I c.toNat=(bS c||c==61):=by
 have:=jh (p:=fun c=>at1I c.toNat==(bS c||c==61)) (by decide +kernel) c;simpa using this
theorem Qu(c:UInt8):at2I c.toNat=(!cO c):=by
 have:=jh (p:=fun c=>at2I c.toNat==(!cO c)) (by decide +kernel) c;simpa using this
theorem at4I_u8(c:UInt8):at4I c.toNat=(cO c||c==62):=by
 have:=jh (p:=fun c=>at4I c.toNat==(cO c||c==62)) (by decide +kernel) c;simpa using this
theorem all1I_u8(c:UInt8):all1I c.toNat=(c==60):=by
 have:=jh (p:=fun c=>all1I c.toNat==(c==60)) (by decide +kernel) c;simpa using this
theorem oD(n:Int)(w:World):
 Calls Tryz.prog 154 #[.int .u8 n] w fun e w'=>e=.returned (.bool (ni n))∧w=w':=by
 have hs:=Lib.hid (fun W=>oL n W);go_enter Tryz.func154,Tryz.ntmps154;cases hb:nM n<;>rw[hb]at hs
 all_goals
  go_wp2_with(go_at_call 128;((with_reducible refine(hs.out _).mono ?_);rintro e w1 ⟨rfl,rfl⟩))
  all_goals go_ret
  all_goals(refine⟨xI ?_,rfl⟩;simp_all[ni])
theorem op1_i(n:Int)(w:World):
 Calls Tryz.prog 229 #[.int .u8 n] w fun e w'=>e=.returned (.bool (op1I n))∧w=w':=by
 have hs:=Lib.hid (fun W=>oL n W);go_enter Tryz.func229,Tryz.ntmps229;cases hb:nM n<;>rw[hb]at hs
 all_goals
  go_wp2_with(go_at_call 128;((with_reducible refine(hs.out _).mono ?_);rintro e w1 ⟨rfl,rfl⟩))
  all_goals go_ret
  all_goals(refine⟨xI ?_,rfl⟩;simp_all[op1I])
theorem at1_i(n:Int)(w:World):
 Calls Tryz.prog 241 #[.int .u8 n] w fun e w'=>e=.returned (.bool (at1I n))∧w=w':=by
 have hs:=Lib.hid (fun W=>oD n W);go_enter Tryz.func241,Tryz.ntmps241;cases hb:ni n<;>rw[hb]at hs
 all_goals
  go_wp2_with(go_at_call 154;((with_reducible refine(hs.out _).mono ?_);rintro e w1 ⟨rfl,rfl⟩))
  all_goals go_ret
  all_goals(refine⟨xI ?_,rfl⟩;simp_all[at1I])
theorem at2_i(n:Int)(w:World):
 Calls Tryz.prog 242 #[.int .u8 n] w fun e w'=>e=.returned (.bool (at2I n))∧w=w':=by
 have hs:=Lib.hid (fun W=>oL n W);go_enter Tryz.func242,Tryz.ntmps242;cases hb:nM n<;>rw[hb]at hs
 all_goals
  go_wp2_with(go_at_call 128;((with_reducible refine(hs.out _).mono ?_);rintro e w1 ⟨rfl,rfl⟩))
  all_goals go_ret
  all_goals(refine⟨xI ?_,rfl⟩;simp_all[at2I])
theorem at3_i(n:Int)(w:World):
 Calls Tryz.prog 243 #[.int .u8 n] w fun e w'=>e=.returned (.bool (at2I n))∧w=w':=by
 have hs:=Lib.hid (fun W=>oL n W);go_enter Tryz.func243,Tryz.ntmps243;cases hb:nM n<;>rw[hb]at hs
 all_goals
  go_wp2_with(go_at_call 128;((with_reducible refine(hs.out _).mono ?_);rintro e w1 ⟨rfl,rfl⟩))
  all_goals go_ret
  all_goals(refine⟨xI ?_,rfl⟩;simp_all[at2I])
theorem at4_i(n:Int)(w:World):
 Calls Tryz.prog 244 #[.int .u8 n] w fun e w'=>e=.returned (.bool (at4I n))∧w=w':=by
 have hs:=Lib.hid (fun W=>oL n W);go_enter Tryz.func244,Tryz.ntmps244;cases hb:nM n<;>rw[hb]at hs
 all_goals
  go_wp2_with(go_at_call 128;((with_reducible refine(hs.out _).mono ?_);rintro e w1 ⟨rfl,rfl⟩))
  all_goals go_ret
  all_goals(refine⟨xI ?_,rfl⟩;simp_all[at4I])
theorem all1_i(n:Int)(w:World):
 Calls Tryz.prog 157 #[.int .u8 n] w fun e w'=>e=.returned (.bool (all1I n))∧w=w':=by
 go_enter Tryz.func157,Tryz.ntmps157;go_wp2;go_ret;exact⟨rfl,rfl⟩
theorem Fh{p:UInt8→Bool}{l:Txt}{k:Nat}(hk:k<l.length)(hno:∀j (hj:j<l.length),j<k→p l[j]=false)(hp:p l[k]=true):l.findIdx p=k:=by
 rw[List.findIdx_eq hk];exact⟨hp,fun j hj=>hno j (by omega) hj⟩
theorem zN{p:UInt8→Bool}{l:Txt}(hno:∀j (hj:j<l.length),p l[j]=false):l.findIdx p=l.length:=by
 rw[List.findIdx_eq_length];intro x hx;obtain⟨j,hj,rfl⟩:=List.getElem_of_mem hx;exact hno j hj
theorem IL(l:Txt)(hl:l.length≤1000000000)(w:World):
 Calls Tryz.prog 156 #[.string ⟨l.toArray⟩,.func (.func 154) #[] #[]] w fun e w'=>e=.returned (.int .i64 (l.findIdx bS:Nat))∧w=w':=by
 go_enter Tryz.func156,Tryz.ntmps156;go_wp2
 go_loop [5,8] (fun _ v=>∃(k:Nat),v=.int .i64 k∧k≤l.length∧Hid (∀j (hj:j<l.length),j<k→bS l[j]=false)) (fun _ v=>l.length - (intOf v).toNat)
 case atStart=>exact⟨0,rfl,by omega,fun j _ h=>by omega⟩
 case round=>
  obtain⟨k,rfl,hk,hno⟩:=hrel
  by_cases hlt:k<l.length
  ·obtain⟨n,hn⟩:∃n,(l[k].toNat:Int)=n:=⟨_,rfl⟩
   have hu:=Dg l[k];rw[hn]at hu;have hc:=Lib.hid (fun W=>oD n W);cases hb:ni n with
   |true=>
    have hf:=Lib.hid (Fh (p:=bS) hlt hno.out (hu.symm.trans hb));rw[hb]at hc;clear hu hb
    go_wp2_with(go_at_call 154;((with_reducible refine(hc.out _).mono ?_);rintro e w1 ⟨rfl,rfl⟩))
    go_ret;rw[hf.out];exact⟨rfl,rfl⟩
   |false=>
    have oh:=Lib.hid (show∀j (hj:j<l.length),j<k+1→bS l[j]=false by
     intro j hj hjk
     by_cases e:j=k
     ·subst e;exact hu.symm.trans hb
     ·exact hno.out j hj (by omega))
    rw[hb]at hc;clear hu hb hno
    go_wp2_with(go_at_call 154;((with_reducible refine(hc.out _).mono ?_);rintro e w1 ⟨rfl,rfl⟩))
    refine⟨⟨k+1,rfl,by omega,oh⟩,by simp[intOf];omega⟩
  ·have hf:=Lib.hid (zN (p:=bS) (l:=l) fun j hj=>hno.out j hj (by omega))
   go_wp2;go_ret;rw[hf.out];exact⟨rfl,rfl⟩
theorem span_op1(l:Txt)(hl:l.length≤1000000000)(w:World):
 Calls Tryz.prog 156 #[.string ⟨l.toArray⟩,.func (.func 229) #[] #[]] w fun e w'=>e=.returned (.int .i64 (l.findIdx (fun c=>!cO c&&c !=47):Nat))∧w=w':=by
 go_enter Tryz.func156,Tryz.ntmps156;go_wp2
 go_loop [5,8] (fun _ v=>∃(k:Nat),v=.int .i64 k∧k≤l.length∧Hid (∀j (hj:j<l.length),j<k→(fun c=>!cO c&&c !=47) l[j]=false)) (fun _ v=>l.length - (intOf v).toNat)
 case atStart=>exact⟨0,rfl,by omega,fun j _ h=>by omega⟩
 case round=>
  obtain⟨k,rfl,hk,hno⟩:=hrel
  by_cases hlt:k<l.length
  ·obtain⟨n,hn⟩:∃n,(l[k].toNat:Int)=n:=⟨_,rfl⟩
   have hu:=op1I_u8 l[k];rw[hn]at hu;have hc:=Lib.hid (fun W=>op1_i n W);cases hb:op1I n with
   |true=>
    have hf:=Lib.hid (Fh (p:=(fun c=>!cO c&&c !=47)) hlt hno.out (hu.symm.trans hb));rw[hb]at hc;clear hu hb
    go_wp2_with(go_at_call 229;((with_reducible refine(hc.out _).mono ?_);rintro e w1 ⟨rfl,rfl⟩))
    go_ret;rw[hf.out];exact⟨rfl,rfl⟩
   |false=>
    have oh:=Lib.hid (show∀j (hj:j<l.length),j<k+1→(fun c=>!cO c&&c !=47) l[j]=false by
     intro j hj hjk
     by_cases e:j=k
     ·subst e;exact hu.symm.trans hb
     ·exact hno.out j hj (by omega))
    rw[hb]at hc;clear hu hb hno
    go_wp2_with(go_at_call 229;((with_reducible refine(hc.out _).mono ?_);rintro e w1 ⟨rfl,rfl⟩))
    refine⟨⟨k+1,rfl,by omega,oh⟩,by simp[intOf];omega⟩
  ·have hf:=Lib.hid (zN (p:=(fun c=>!cO c&&c !=47)) (l:=l) fun j hj=>hno.out j hj (by omega))
   go_wp2;go_ret;rw[hf.out];exact⟨rfl,rfl⟩
theorem qX(l:Txt)(hl:l.length≤1000000000)(w:World):
 Calls Tryz.prog 156 #[.string ⟨l.toArray⟩,.func (.func 241) #[] #[]] w fun e w'=>e=.returned (.int .i64 (l.findIdx (fun c=>bS c||c==61):Nat))∧w=w':=by
 go_enter Tryz.func156,Tryz.ntmps156;go_wp2
 go_loop [5,8] (fun _ v=>∃(k:Nat),v=.int .i64 k∧k≤l.length∧Hid (∀j (hj:j<l.length),j<k→(fun c=>bS c||c==61) l[j]=false)) (fun _ v=>l.length - (intOf v).toNat)
 case atStart=>exact⟨0,rfl,by omega,fun j _ h=>by omega⟩
 case round=>
  obtain⟨k,rfl,hk,hno⟩:=hrel
  by_cases hlt:k<l.length
  ·obtain⟨n,hn⟩:∃n,(l[k].toNat:Int)=n:=⟨_,rfl⟩
   have hu:=at1I_u8 l[k];rw[hn]at hu;have hc:=Lib.hid (fun W=>at1_i n W);cases hb:at1I n with
   |true=>
    have hf:=Lib.hid (Fh (p:=(fun c=>bS c||c==61)) hlt hno.out (hu.symm.trans hb));rw[hb]at hc;clear hu hb
    go_wp2_with(go_at_call 241;((with_reducible refine(hc.out _).mono ?_);rintro e w1 ⟨rfl,rfl⟩))
    go_ret;rw[hf.out];exact⟨rfl,rfl⟩
   |false=>
    have oh:=Lib.hid (show∀j (hj:j<l.length),j<k+1→(fun c=>bS c||c==61) l[j]=false by
     intro j hj hjk
     by_cases e:j=k
     ·subst e;exact hu.symm.trans hb
     ·exact hno.out j hj (by omega))
    rw[hb]at hc;clear hu hb hno
    go_wp2_with(go_at_call 241;((with_reducible refine(hc.out _).mono ?_);rintro e w1 ⟨rfl,rfl⟩))
    refine⟨⟨k+1,rfl,by omega,oh⟩,by simp[intOf];omega⟩
  ·have hf:=Lib.hid (zN (p:=(fun c=>bS c||c==61)) (l:=l) fun j hj=>hno.out j hj (by omega))
   go_wp2;go_ret;rw[hf.out];exact⟨rfl,rfl⟩
theorem qY(l:Txt)(hl:l.length≤1000000000)(w:World):
 Calls Tryz.prog 156 #[.string ⟨l.toArray⟩,.func (.func 242) #[] #[]] w fun e w'=>e=.returned (.int .i64 (l.findIdx (fun c=>!cO c):Nat))∧w=w':=by
 go_enter Tryz.func156,Tryz.ntmps156;go_wp2
 go_loop [5,8] (fun _ v=>∃(k:Nat),v=.int .i64 k∧k≤l.length∧Hid (∀j (hj:j<l.length),j<k→(fun c=>!cO c) l[j]=false)) (fun _ v=>l.length - (intOf v).toNat)
 case atStart=>exact⟨0,rfl,by omega,fun j _ h=>by omega⟩
 case round=>
  obtain⟨k,rfl,hk,hno⟩:=hrel
  by_cases hlt:k<l.length
  ·obtain⟨n,hn⟩:∃n,(l[k].toNat:Int)=n:=⟨_,rfl⟩
   have hu:=Qu l[k];rw[hn]at hu;have hc:=Lib.hid (fun W=>at2_i n W);cases hb:at2I n with
   |true=>
    have hf:=Lib.hid (Fh (p:=(fun c=>!cO c)) hlt hno.out (hu.symm.trans hb));rw[hb]at hc;clear hu hb
    go_wp2_with(go_at_call 242;((with_reducible refine(hc.out _).mono ?_);rintro e w1 ⟨rfl,rfl⟩))
    go_ret;rw[hf.out];exact⟨rfl,rfl⟩
   |false=>
    have oh:=Lib.hid (show∀j (hj:j<l.length),j<k+1→(fun c=>!cO c) l[j]=false by
     intro j hj hjk
     by_cases e:j=k
     ·subst e;exact hu.symm.trans hb
     ·exact hno.out j hj (by omega))
    rw[hb]at hc;clear hu hb hno
    go_wp2_with(go_at_call 242;((with_reducible refine(hc.out _).mono ?_);rintro e w1 ⟨rfl,rfl⟩))
    refine⟨⟨k+1,rfl,by omega,oh⟩,by simp[intOf];omega⟩
  ·have hf:=Lib.hid (zN (p:=(fun c=>!cO c)) (l:=l) fun j hj=>hno.out j hj (by omega))
   go_wp2;go_ret;rw[hf.out];exact⟨rfl,rfl⟩
theorem xH(l:Txt)(hl:l.length≤1000000000)(w:World):
 Calls Tryz.prog 156 #[.string ⟨l.toArray⟩,.func (.func 243) #[] #[]] w fun e w'=>e=.returned (.int .i64 (l.findIdx (fun c=>!cO c):Nat))∧w=w':=by
 go_enter Tryz.func156,Tryz.ntmps156;go_wp2
 go_loop [5,8] (fun _ v=>∃(k:Nat),v=.int .i64 k∧k≤l.length∧Hid (∀j (hj:j<l.length),j<k→(fun c=>!cO c) l[j]=false)) (fun _ v=>l.length - (intOf v).toNat)
 case atStart=>exact⟨0,rfl,by omega,fun j _ h=>by omega⟩
 case round=>
  obtain⟨k,rfl,hk,hno⟩:=hrel
  by_cases hlt:k<l.length
  ·obtain⟨n,hn⟩:∃n,(l[k].toNat:Int)=n:=⟨_,rfl⟩
   have hu:=Qu l[k];rw[hn]at hu;have hc:=Lib.hid (fun W=>at3_i n W);cases hb:at2I n with
   |true=>
    have hf:=Lib.hid (Fh (p:=(fun c=>!cO c)) hlt hno.out (hu.symm.trans hb));rw[hb]at hc;clear hu hb
    go_wp2_with(go_at_call 243;((with_reducible refine(hc.out _).mono ?_);rintro e w1 ⟨rfl,rfl⟩))
    go_ret;rw[hf.out];exact⟨rfl,rfl⟩
   |false=>
    have oh:=Lib.hid (show∀j (hj:j<l.length),j<k+1→(fun c=>!cO c) l[j]=false by
     intro j hj hjk
     by_cases e:j=k
     ·subst e;exact hu.symm.trans hb
     ·exact hno.out j hj (by omega))
    rw[hb]at hc;clear hu hb hno
    go_wp2_with(go_at_call 243;((with_reducible refine(hc.out _).mono ?_);rintro e w1 ⟨rfl,rfl⟩))
    refine⟨⟨k+1,rfl,by omega,oh⟩,by simp[intOf];omega⟩
  ·have hf:=Lib.hid (zN (p:=(fun c=>!cO c)) (l:=l) fun j hj=>hno.out j hj (by omega))
   go_wp2;go_ret;rw[hf.out];exact⟨rfl,rfl⟩
theorem KN(l:Txt)(hl:l.length≤1000000000)(w:World):
 Calls Tryz.prog 156 #[.string ⟨l.toArray⟩,.func (.func 244) #[] #[]] w fun e w'=>e=.returned (.int .i64 (l.findIdx (fun c=>cO c||c==62):Nat))∧w=w':=by
 go_enter Tryz.func156,Tryz.ntmps156;go_wp2
 go_loop [5,8] (fun _ v=>∃(k:Nat),v=.int .i64 k∧k≤l.length∧Hid (∀j (hj:j<l.length),j<k→(fun c=>cO c||c==62) l[j]=false)) (fun _ v=>l.length - (intOf v).toNat)
 case atStart=>exact⟨0,rfl,by omega,fun j _ h=>by omega⟩
 case round=>
  obtain⟨k,rfl,hk,hno⟩:=hrel
  by_cases hlt:k<l.length
  ·obtain⟨n,hn⟩:∃n,(l[k].toNat:Int)=n:=⟨_,rfl⟩
   have hu:=at4I_u8 l[k];rw[hn]at hu;have hc:=Lib.hid (fun W=>at4_i n W);cases hb:at4I n with
   |true=>
    have hf:=Lib.hid (Fh (p:=(fun c=>cO c||c==62)) hlt hno.out (hu.symm.trans hb));rw[hb]at hc;clear hu hb
    go_wp2_with(go_at_call 244;((with_reducible refine(hc.out _).mono ?_);rintro e w1 ⟨rfl,rfl⟩))
    go_ret;rw[hf.out];exact⟨rfl,rfl⟩
   |false=>
    have oh:=Lib.hid (show∀j (hj:j<l.length),j<k+1→(fun c=>cO c||c==62) l[j]=false by
     intro j hj hjk
     by_cases e:j=k
     ·subst e;exact hu.symm.trans hb
     ·exact hno.out j hj (by omega))
    rw[hb]at hc;clear hu hb hno
    go_wp2_with(go_at_call 244;((with_reducible refine(hc.out _).mono ?_);rintro e w1 ⟨rfl,rfl⟩))
    refine⟨⟨k+1,rfl,by omega,oh⟩,by simp[intOf];omega⟩
  ·have hf:=Lib.hid (zN (p:=(fun c=>cO c||c==62)) (l:=l) fun j hj=>hno.out j hj (by omega))
   go_wp2;go_ret;rw[hf.out];exact⟨rfl,rfl⟩
theorem RD(l:Txt)(hl:l.length≤1000000000)(w:World):
 Calls Tryz.prog 156 #[.string ⟨l.toArray⟩,.func (.func 157) #[] #[]] w fun e w'=>e=.returned (.int .i64 (l.findIdx (fun c=>c==60):Nat))∧w=w':=by
 go_enter Tryz.func156,Tryz.ntmps156;go_wp2
 go_loop [5,8] (fun _ v=>∃(k:Nat),v=.int .i64 k∧k≤l.length∧Hid (∀j (hj:j<l.length),j<k→(fun c=>c==60) l[j]=false)) (fun _ v=>l.length - (intOf v).toNat)
 case atStart=>exact⟨0,rfl,by omega,fun j _ h=>by omega⟩
 case round=>
  obtain⟨k,rfl,hk,hno⟩:=hrel
  by_cases hlt:k<l.length
  ·obtain⟨n,hn⟩:∃n,(l[k].toNat:Int)=n:=⟨_,rfl⟩
   have hu:=all1I_u8 l[k];rw[hn]at hu;have hc:=Lib.hid (fun W=>all1_i n W);cases hb:all1I n with
   |true=>
    have hf:=Lib.hid (Fh (p:=(fun c=>c==60)) hlt hno.out (hu.symm.trans hb));rw[hb]at hc;clear hu hb
    go_wp2_with(go_at_call 157;((with_reducible refine(hc.out _).mono ?_);rintro e w1 ⟨rfl,rfl⟩))
    go_ret;rw[hf.out];exact⟨rfl,rfl⟩
   |false=>
    have oh:=Lib.hid (show∀j (hj:j<l.length),j<k+1→(fun c=>c==60) l[j]=false by
     intro j hj hjk
     by_cases e:j=k
     ·subst e;exact hu.symm.trans hb
     ·exact hno.out j hj (by omega))
    rw[hb]at hc;clear hu hb hno
    go_wp2_with(go_at_call 157;((with_reducible refine(hc.out _).mono ?_);rintro e w1 ⟨rfl,rfl⟩))
    refine⟨⟨k+1,rfl,by omega,oh⟩,by simp[intOf];omega⟩
  ·have hf:=Lib.hid (zN (p:=(fun c=>c==60)) (l:=l) fun j hj=>hno.out j hj (by omega))
   go_wp2;go_ret;rw[hf.out];exact⟨rfl,rfl⟩
end Go.Proofs.YtkcmghlhpbepcaaGreatDoor
