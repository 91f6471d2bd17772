/- Lemmas and walks, part 6. -/
import Derived.Test.YtkcmghlhpbepcaaGreatDoorWI5
set_option linter.unusedVariables false
set_option linter.unusedSimpArgs false
set_option maxHeartbeats 8000000
set_option maxRecDepth 100000
namespace Go.Proofs.YtkcmghlhpbepcaaGreatDoor
open Go.RowKit Go.Proofs
def pV(q:Bool)(c:UInt8):List UInt8:=
 if c=38 then [38,97,109,112,59]else if c=60 then [38,108,116,59]else if c=62 then [38,103,116,59]else if c=34∧q=true then [38,113,117,111,116,59]else [c]
def wrL(q:Bool):List UInt8→List UInt8
 | []=>[]
 | [c]=>pV q c
 |c::d::l=>if c=194∧d=160 then [38,110,98,115,112,59]++wrL q l else pV q c++wrL q (d::l)
def wG(l:List UInt8):Bool:=Lib.hasPrefix l [194,160]
theorem II{q:Bool}{l:List UInt8}(h:wG l=true):wrL q l=[38,110,98,115,112,59]++wrL q (l.drop 2):=by
 obtain⟨r,rfl⟩:=List.isPrefixOf_iff_prefix.1 h;simp[wrL]
theorem Da{q:Bool}{c:UInt8}{l:List UInt8}(h:wG (c::l)=false):wrL q (c::l)=pV q c++wrL q l:=by
 cases l with
 |nil=>simp[wrL]
 |cons d l=>
  rw[wrL,if_neg];rintro⟨rfl,rfl⟩;simp[wG,Lib.hasPrefix]at h
theorem Bz{c:UInt8}{n:Nat}(h:c.toNat=n)(hn:n<256):c=UInt8.ofNat n:=by
 apply UInt8.toNat_inj.1;rw[h];simp[Nat.mod_eq_of_lt hn]
theorem esc38{q:Bool}{c:UInt8}(h:c.toNat=38):pV q c=[38,97,109,112,59]:=by rw[Bz h (by omega)];rfl
theorem esc60{q:Bool}{c:UInt8}(h:c.toNat=60):pV q c=[38,108,116,59]:=by rw[Bz h (by omega)];rfl
theorem esc62{q:Bool}{c:UInt8}(h:c.toNat=62):pV q c=[38,103,116,59]:=by rw[Bz h (by omega)];rfl
theorem esc34{c:UInt8}(h:c.toNat=34):pV true c=[38,113,117,111,116,59]:=by rw[Bz h (by omega)];rfl
theorem escNo{q:Bool}{c:UInt8}(h1:c.toNat≠38)(h2:c.toNat≠60)(h3:c.toNat≠62)(h4:¬(c.toNat=34∧q=true)):pV q c=[c]:=by
 unfold pV;rw[if_neg (fun e=>h1 (by rw[e];rfl)),if_neg (fun e=>h2 (by rw[e];rfl)),if_neg (fun e=>h3 (by rw[e];rfl)),if_neg (fun e=>h4 ⟨by rw[e.1];rfl,e.2⟩)]
theorem yM{q:Bool}{l acc:List UInt8}{k:Nat}{c:UInt8}(hk:k<l.length)(hc:l[k]=c)(hdec:wrL q l=acc++wrL q (l.drop k))(h:wG (l.drop k)=false){e:List UInt8}(he:pV q c=e):wrL q l=(acc++e)++wrL q (l.drop (k+1)):=by
 have hd:l.drop k=c::l.drop (k+1):=by rw[←hc];exact List.drop_eq_getElem_cons hk
 rw[hd]at h hdec;rw[hdec,Da h,he,List.append_assoc]
theorem q8{l:List UInt8}{k:Nat}{c:UInt8}(hk:k<l.length)(hc:l[k]=c)(h:c.toNat≠194):wG (l.drop k)=false:=by
 have hd:l.drop k=c::l.drop (k+1):=by rw[←hc];exact List.drop_eq_getElem_cons hk
 rw[hd];have:(194:UInt8)≠c:=fun e=>h (by rw[←e];rfl)
 simp[wG,Lib.hasPrefix,List.isPrefixOf,this]
theorem Ua{q:Bool}{l acc:List UInt8}{k:Nat}(hdec:wrL q l=acc++wrL q (l.drop k))(h:wG (l.drop k)=true):wrL q l=(acc++[38,110,98,115,112,59])++wrL q (l.drop (k+1+1)):=by
 rw[hdec,II h,List.drop_drop,List.append_assoc]
theorem Pv{l:List UInt8}{k:Nat}(h:wG (l.drop k)=true):k+2≤l.length:=by
 have:=qV h;simp at this;omega
theorem QN(B b:Nat)(acc:List UInt8)(c:UInt8)(w:World)(h:Lib.IsBuilderF 106 5 B b (Lib.byteCells acc) w)(hlen:acc.length+1≤140737488355328)(hBw:B≤w.heap.size):
 Calls Tryz.prog 202 #[.pointer (some ⟨b,0,none⟩),.int .u8 c.toNat] w fun e w'=>e=.returned .nilIface∧(Lib.IsBuilderF 106 5 B b (Lib.byteCells (acc++[c])) w'∧Below B w w'∧Lib.OthersKept 5 (some b) w w'):=by
 refine(MN B b _ c.toNat w h (by rw[Lib.byteCells_length];exact hlen) hBw).mono ?_;rintro e w' ⟨rfl,h1,h2,h3⟩;exact⟨rfl,by rw[Lib.byteCells_append];exact h1,h2,h3⟩
theorem esc34f{c:UInt8}(h:c.toNat=34):pV false c=[34]:=by rw[Bz h (by omega)];rfl
theorem Ub(B b:Nat)(acc:List UInt8)(w:World)(h:Lib.IsBuilderF 106 5 B b (Lib.byteCells acc) w)(hlen:acc.length+1≤140737488355328)(hBw:B≤w.heap.size):
 Calls Tryz.prog 202 #[.pointer (some ⟨b,0,none⟩),.int .u8 34] w fun e w'=>e=.returned .nilIface∧(Lib.IsBuilderF 106 5 B b (Lib.byteCells (acc++[34])) w'∧Below B w w'∧Lib.OthersKept 5 (some b) w w'):=QN B b acc 34 w h hlen hBw
theorem Jr(l:List UInt8)(hl:l.length≤1000000000)(w:World):
 Calls Tryz.prog 175 #[.string ⟨l.toArray⟩,.bool false] w fun e w'=>e=.returned (.string ⟨(wrL false l).toArray⟩)∧Below w.heap.size w w':=by
 go_enter Tryz.func175,Tryz.ntmps175;go_wp2
 go_loopw [6] (fun v wr=>∃(k:Nat) (acc:List UInt8),v=.int .i64 k∧k≤l.length∧Lib.IsBuilderF 106 5 w.heap.size w.heap.size (Lib.byteCells acc) wr∧Below w.heap.size w wr∧w.heap.size<wr.heap.size∧Hid (wrL false l=acc++wrL false (l.drop k))∧acc.length≤6 * k) (fun v _=>l.length - (intOf v).toNat)
 case atStart=>
  exact⟨0,[],rfl,by omega,E8 _ _ (Nat.le_refl _),(Below.refl _ w).alloc (Nat.le_refl _) _,by simp,rfl,by simp⟩
 case round=>
  obtain⟨k,acc,rfl,hk,hI,hbw,hsz,hdec,hal⟩:=hrel
  by_cases hlt:k<l.length
  ·obtain⟨c,hc⟩:∃c,l[k]=c:=⟨_,rfl⟩
   have hc':=Lib.hid hc;have hhl:=Lib.hid (@Pv l k)
   go_wp2_with(first
    |(go_at_call 94;((with_reducible refine(kY _ _ _).mono ?_);rintro e w1 ⟨rfl,rfl⟩))
    |(go_at_call 135;((with_reducible refine(wL _ _ acc _ _ hI (by simp;omega) (by omega)).mono ?_);rintro e w5 ⟨rfl,hI5,hb5,_⟩))
    |(go_at_call 202;((with_reducible refine(QN _ _ acc c _ hI (by omega) (by omega)).mono ?_);rintro e w5 ⟨rfl,hI5,hb5,_⟩))
    |(go_at_call 202;((with_reducible refine(Ub _ _ acc _ hI (by omega) (by omega)).mono ?_);rintro e w5 ⟨rfl,hI5,hb5,_⟩)))
   all_goals(simp only[beq_iff_eq,beq_eq_false_iff_ne,ne_eq]at *)
   all_goals first
    |(refine⟨⟨k+1,acc++_,rfl,by omega,hI5,hbw.trans hb5,by have:=hb5.size;omega,yM hlt hc'.out hdec.out (q8 hlt hc'.out (by omega)) (esc38 (by omega)),by simp;omega⟩,by simp[intOf];omega⟩)
    |(refine⟨⟨k+1,acc++_,rfl,by omega,hI5,hbw.trans hb5,by have:=hb5.size;omega,yM hlt hc'.out hdec.out (q8 hlt hc'.out (by omega)) (esc60 (by omega)),by simp;omega⟩,by simp[intOf];omega⟩)
    |(refine⟨⟨k+1,acc++_,rfl,by omega,hI5,hbw.trans hb5,by have:=hb5.size;omega,yM hlt hc'.out hdec.out (q8 hlt hc'.out (by omega)) (esc62 (by omega)),by simp;omega⟩,by simp[intOf];omega⟩)
    |(refine⟨⟨k+1,acc++_,rfl,by omega,hI5,hbw.trans hb5,by have:=hb5.size;omega,yM hlt hc'.out hdec.out (q8 hlt hc'.out (by omega)) (esc34 (by omega)),by simp;omega⟩,by simp[intOf];omega⟩)
    |(refine⟨⟨k+1,acc++_,rfl,by omega,hI5,hbw.trans hb5,by have:=hb5.size;omega,yM hlt hc'.out hdec.out (q8 hlt hc'.out (by omega)) (esc34f (by omega)),by simp;omega⟩,by simp[intOf];omega⟩)
    |(refine⟨⟨k+1,acc++_,rfl,by omega,hI5,hbw.trans hb5,by have:=hb5.size;omega,yM hlt hc'.out hdec.out (by assumption) (escNo (by omega) (by omega) (by omega) (by simp;try omega)),by simp;omega⟩,by simp[intOf];omega⟩)
    |(have h2:=hhl.out (by assumption);refine⟨⟨k+1+1,acc++_,by first|rfl|(congr 1;omega),by omega,hI5,hbw.trans hb5,by have:=hb5.size;omega,Ua hdec.out (by assumption),by simp;omega⟩,by simp[intOf];omega⟩)
    |skip
  ·have hd:wrL false l=acc:=by
    rw[hdec.out,List.drop_eq_nil_of_le (by omega)];simp[wrL]
   have hd:=Lib.hid hd;rename_i hd0;clear hd0
   go_wp2_with(go_at_call 138;((with_reducible refine(Tryz.Builder_String_any_k _ _ _ _ hI (by omega)).mono ?_);rintro e w3 ⟨rfl,_,hb3,_⟩))
   go_ret;rw[hd.out];exact⟨rfl,hbw.trans hb3⟩
theorem text_c(l:List UInt8)(hl:l.length≤1000000000)(w:World):
 Calls Tryz.prog 136 #[.string ⟨l.toArray⟩] w fun e w'=>e=.returned (.string ⟨(wrL false l).toArray⟩)∧Below w.heap.size w w':=by
 go_enter Tryz.func136,Tryz.ntmps136
 go_wp2_with(go_at_call 175;((with_reducible refine(Jr l hl _).mono ?_);rintro e w3 ⟨rfl,hb3⟩))
 go_ret;exact⟨rfl,hb3⟩
theorem MG(l:List UInt8)(hl:l.length≤1000000000)(w:World):
 Calls Tryz.prog 175 #[.string ⟨l.toArray⟩,.bool true] w fun e w'=>e=.returned (.string ⟨(wrL true l).toArray⟩)∧Below w.heap.size w w':=by
 go_enter Tryz.func175,Tryz.ntmps175;go_wp2
 go_loopw [6] (fun v wr=>∃(k:Nat) (acc:List UInt8),v=.int .i64 k∧k≤l.length∧Lib.IsBuilderF 106 5 w.heap.size w.heap.size (Lib.byteCells acc) wr∧Below w.heap.size w wr∧w.heap.size<wr.heap.size∧Hid (wrL true l=acc++wrL true (l.drop k))∧acc.length≤6 * k) (fun v _=>l.length - (intOf v).toNat)
 case atStart=>
  exact⟨0,[],rfl,by omega,E8 _ _ (Nat.le_refl _),(Below.refl _ w).alloc (Nat.le_refl _) _,by simp,rfl,by simp⟩
 case round=>
  obtain⟨k,acc,rfl,hk,hI,hbw,hsz,hdec,hal⟩:=hrel
  by_cases hlt:k<l.length
  ·obtain⟨c,hc⟩:∃c,l[k]=c:=⟨_,rfl⟩
   have hc':=Lib.hid hc;have hhl:=Lib.hid (@Pv l k)
   go_wp2_with(first
    |(go_at_call 94;((with_reducible refine(kY _ _ _).mono ?_);rintro e w1 ⟨rfl,rfl⟩))
    |(go_at_call 135;((with_reducible refine(wL _ _ acc _ _ hI (by simp;omega) (by omega)).mono ?_);rintro e w5 ⟨rfl,hI5,hb5,_⟩))
    |(go_at_call 202;((with_reducible refine(QN _ _ acc c _ hI (by omega) (by omega)).mono ?_);rintro e w5 ⟨rfl,hI5,hb5,_⟩))
    |(go_at_call 202;((with_reducible refine(Ub _ _ acc _ hI (by omega) (by omega)).mono ?_);rintro e w5 ⟨rfl,hI5,hb5,_⟩)))
   all_goals(simp only[beq_iff_eq,beq_eq_false_iff_ne,ne_eq]at *)
   all_goals first
    |(refine⟨⟨k+1,acc++_,rfl,by omega,hI5,hbw.trans hb5,by have:=hb5.size;omega,yM hlt hc'.out hdec.out (q8 hlt hc'.out (by omega)) (esc38 (by omega)),by simp;omega⟩,by simp[intOf];omega⟩)
    |(refine⟨⟨k+1,acc++_,rfl,by omega,hI5,hbw.trans hb5,by have:=hb5.size;omega,yM hlt hc'.out hdec.out (q8 hlt hc'.out (by omega)) (esc60 (by omega)),by simp;omega⟩,by simp[intOf];omega⟩)
    |(refine⟨⟨k+1,acc++_,rfl,by omega,hI5,hbw.trans hb5,by have:=hb5.size;omega,yM hlt hc'.out hdec.out (q8 hlt hc'.out (by omega)) (esc62 (by omega)),by simp;omega⟩,by simp[intOf];omega⟩)
    |(refine⟨⟨k+1,acc++_,rfl,by omega,hI5,hbw.trans hb5,by have:=hb5.size;omega,yM hlt hc'.out hdec.out (q8 hlt hc'.out (by omega)) (esc34 (by omega)),by simp;omega⟩,by simp[intOf];omega⟩)
    |(refine⟨⟨k+1,acc++_,rfl,by omega,hI5,hbw.trans hb5,by have:=hb5.size;omega,yM hlt hc'.out hdec.out (q8 hlt hc'.out (by omega)) (esc34f (by omega)),by simp;omega⟩,by simp[intOf];omega⟩)
    |(refine⟨⟨k+1,acc++_,rfl,by omega,hI5,hbw.trans hb5,by have:=hb5.size;omega,yM hlt hc'.out hdec.out (by assumption) (escNo (by omega) (by omega) (by omega) (by simp;try omega)),by simp;omega⟩,by simp[intOf];omega⟩)
    |(have h2:=hhl.out (by assumption);refine⟨⟨k+1+1,acc++_,by first|rfl|(congr 1;omega),by omega,hI5,hbw.trans hb5,by have:=hb5.size;omega,Ua hdec.out (by assumption),by simp;omega⟩,by simp[intOf];omega⟩)
    |skip
  ·have hd:wrL true l=acc:=by
    rw[hdec.out,List.drop_eq_nil_of_le (by omega)];simp[wrL]
   have hd:=Lib.hid hd;rename_i hd0;clear hd0
   go_wp2_with(go_at_call 138;((with_reducible refine(Tryz.Builder_String_any_k _ _ _ _ hI (by omega)).mono ?_);rintro e w3 ⟨rfl,_,hb3,_⟩))
   go_ret;rw[hd.out];exact⟨rfl,hbw.trans hb3⟩
theorem value_c(l:List UInt8)(hl:l.length≤1000000000)(w:World):
 Calls Tryz.prog 176 #[.string ⟨l.toArray⟩] w fun e w'=>e=.returned (.string ⟨(wrL true l).toArray⟩)∧Below w.heap.size w w':=by
 go_enter Tryz.func176,Tryz.ntmps176
 go_wp2_with(go_at_call 175;((with_reducible refine(MG l hl _).mono ?_);rintro e w3 ⟨rfl,hb3⟩))
 go_ret;exact⟨rfl,hb3⟩
theorem bP(w:World)(cs:Array Value)(t:TypeId):(w.alloc (.cells cs t)).heap[w.heap.size]?=some (.cells cs t (0,0)):=by
 show(w.heap.push _)[w.heap.size]?=_;simp
def uf(b n:Nat)(L:List (List UInt8))(w:World):Prop:=∀k,k<n→w.cell? ⟨b,k,none⟩=some (.string ⟨(L.getD k []).toArray⟩)
def HZ(b n:Nat)(L:List Int)(w:World):Prop:=∀k,k<n→w.cell? ⟨b,k,none⟩=some (.int .i64 (L.getD k 0))
theorem uf.below{b n:Nat}{L:List (List UInt8)}{w w':World}(h:uf b n L w)(hb:Below w.heap.size w w'):uf b n L w':=fun k hk=>aV (h k hk) hb
theorem HZ.below{b n:Nat}{L:List Int}{w w':World}(h:HZ b n L w)(hb:Below w.heap.size w w'):HZ b n L w':=fun k hk=>aV (h k hk) hb
theorem uf.of{b n:Nat}{L:List (List UInt8)}{w:World}{cs:Array Value}{t:TypeId}{fr:Nat×Nat}(h:w.heap[b]?=some (.cells cs t fr))(hc:cs.toList=L.map fun l=>Value.string ⟨l.toArray⟩)(hn:n≤L.length):uf b n L w:=by
 intro k hk;rw[Lib.cell_of_heap h,←Array.getElem?_toList,hc,List.getElem?_map,List.getElem?_eq_getElem (show k<L.length by omega)];simp[List.getD,List.getElem?_eq_getElem (show k<L.length by omega)]
theorem HZ.of{b n:Nat}{L:List Int}{w:World}{cs:Array Value}{t:TypeId}{fr:Nat×Nat}(h:w.heap[b]?=some (.cells cs t fr))(hc:cs.toList=L.map fun l=>Value.int .i64 l)(hn:n≤L.length):HZ b n L w:=by
 intro k hk;rw[Lib.cell_of_heap h,←Array.getElem?_toList,hc,List.getElem?_map,List.getElem?_eq_getElem (show k<L.length by omega)];simp[List.getD,List.getElem?_eq_getElem (show k<L.length by omega)]
def Bts(w:World)(base:Nat)(v:Value)(l:List UInt8):Prop:=w.ownsRow base 5 1 v l.length (Lib.byteCells l)
theorem Bts.below{w w1:World}{base:Nat}{v:Value}{l:List UInt8}(h:Bts w base v l)(hb:Below w.heap.size w w1):Bts w1 base v l:=
 World.ownsRow.kept h (nQ hb none) (by cases hv:v.ownBlock<;>simp)
theorem Bts.nil(w:World)(base:Nat):Bts w base (.slice none 0 0) []:=World.ownsRow_nil _ _ _ _
theorem Bts.new(w:World)(base:Nat)(hB:base≤w.heap.size):Bts (w.alloc (.cells #[] 5)) base (.slice (some ⟨w.heap.size,0,none⟩) 0 0) []:=
 ⟨rfl,.inr ⟨w.heap.size,0,#[],rfl,hB,bP _ _ _,Nat.le_refl _,by unfold maxLen;omega,rfl,rfl⟩⟩
theorem qd{w:World}{base:Nat}{e:TypeId}{size n:Nat}{v:Value}{xs:List Value}(h:w.ownsRow base e size v n xs){k:Nat}(hk:v.ownBlock=some k):base≤k:=by
 rcases h.2 with⟨rfl,_⟩|⟨g,cap,cur,rfl,hb,_⟩
 ·simp[Value.ownBlock]at hk
 ·have:g=k:=by simpa [Value.ownBlock]using hk
  omega
def oC(n:Int):Bool:=n==32||n==9||n==10||n==12||n==13
def BP(n:Int):Bool:=(decide (97≤n)&&decide (n≤122))||(decide (65≤n)&&decide (n≤90))
theorem Dv(c:UInt8):oC c.toNat=dz c:=by
 have:=jw (p:=fun c=>oC c.toNat==dz c) (by decide +kernel) c;simpa using this
theorem PU(c:UInt8):BP c.toNat=mH c:=by
 have:=jw (p:=fun c=>BP c.toNat==mH c) (by decide +kernel) c;simpa using this
theorem qb(n:Int)(w:World):
 Calls Tryz.prog 128 #[.int .u8 n] w fun e w'=>e=.returned (.bool (oC n))∧w=w':=by
 go_enter Tryz.func128,Tryz.ntmps128;go_wp2
 all_goals go_ret
 all_goals(refine⟨yQ ?_,rfl⟩;simp_all[oC])
theorem M8(n:Int)(w:World):
 Calls Tryz.prog 80 #[.int .u8 n] w fun e w'=>e=.returned (.bool (BP n))∧w=w':=by
 go_enter Tryz.func80,Tryz.ntmps80;go_wp2
 all_goals go_ret
 all_goals(refine⟨yQ ?_,rfl⟩;simp_all[BP];try omega)
def nY(n:Int):Bool:=oC n||n==47||n==62
def op1I(n:Int):Bool:=!oC n&&n !=47
def at1I(n:Int):Bool:=nY n||n==61
def at2I(n:Int):Bool:=!oC n
def at4I(n:Int):Bool:=oC n||n==62
def all1I(n:Int):Bool:=n==60
theorem Ez(c:UInt8):nY c.toNat=bY c:=by
 have:=jw (p:=fun c=>nY c.toNat==bY c) (by decide +kernel) c;simpa using this
theorem op1I_u8(c:UInt8):op1I c.toNat=(!dz c&&c !=47):=by
 have:=jw (p:=fun c=>op1I c.toNat==(!dz c&&c !=47)) (by decide +kernel) c;simpa using this
theorem at1I_u8(c:UInt8):at1I c.toNat=(bY c||c==61):=by
 have:=jw (p:=fun c=>at1I c.toNat==(bY c||c==61)) (by decide +kernel) c;simpa using this
theorem S9(c:UInt8):at2I c.toNat=(!dz c):=by
 have:=jw (p:=fun c=>at2I c.toNat==(!dz c)) (by decide +kernel) c;simpa using this
theorem at4I_u8(c:UInt8):at4I c.toNat=(dz c||c==62):=by
 have:=jw (p:=fun c=>at4I c.toNat==(dz c||c==62)) (by decide +kernel) c;simpa using this
theorem all1I_u8(c:UInt8):all1I c.toNat=(c==60):=by
 have:=jw (p:=fun c=>all1I c.toNat==(c==60)) (by decide +kernel) c;simpa using this
theorem pJ(n:Int)(w:World):
 Calls Tryz.prog 154 #[.int .u8 n] w fun e w'=>e=.returned (.bool (nY n))∧w=w':=by
 have hs:=Lib.hid (fun W=>qb n W);go_enter Tryz.func154,Tryz.ntmps154;cases hb:oC n<;>rw[hb]at hs
 all_goals
  go_wp2_with(go_at_call 128;((with_reducible refine(hs.out _).mono ?_);rintro e w1 ⟨rfl,rfl⟩))
  all_goals go_ret
  all_goals(refine⟨yQ ?_,rfl⟩;simp_all[nY])
theorem op1_i(n:Int)(w:World):
 Calls Tryz.prog 229 #[.int .u8 n] w fun e w'=>e=.returned (.bool (op1I n))∧w=w':=by
 have hs:=Lib.hid (fun W=>qb n W);go_enter Tryz.func229,Tryz.ntmps229;cases hb:oC n<;>rw[hb]at hs
 all_goals
  go_wp2_with(go_at_call 128;((with_reducible refine(hs.out _).mono ?_);rintro e w1 ⟨rfl,rfl⟩))
  all_goals go_ret
  all_goals(refine⟨yQ ?_,rfl⟩;simp_all[op1I])
theorem at1_i(n:Int)(w:World):
 Calls Tryz.prog 241 #[.int .u8 n] w fun e w'=>e=.returned (.bool (at1I n))∧w=w':=by
 have hs:=Lib.hid (fun W=>pJ n W);go_enter Tryz.func241,Tryz.ntmps241;cases hb:nY n<;>rw[hb]at hs
 all_goals
  go_wp2_with(go_at_call 154;((with_reducible refine(hs.out _).mono ?_);rintro e w1 ⟨rfl,rfl⟩))
  all_goals go_ret
  all_goals(refine⟨yQ ?_,rfl⟩;simp_all[at1I])
theorem at2_i(n:Int)(w:World):
 Calls Tryz.prog 242 #[.int .u8 n] w fun e w'=>e=.returned (.bool (at2I n))∧w=w':=by
 have hs:=Lib.hid (fun W=>qb n W);go_enter Tryz.func242,Tryz.ntmps242;cases hb:oC n<;>rw[hb]at hs
 all_goals
  go_wp2_with(go_at_call 128;((with_reducible refine(hs.out _).mono ?_);rintro e w1 ⟨rfl,rfl⟩))
  all_goals go_ret
  all_goals(refine⟨yQ ?_,rfl⟩;simp_all[at2I])
theorem at3_i(n:Int)(w:World):
 Calls Tryz.prog 243 #[.int .u8 n] w fun e w'=>e=.returned (.bool (at2I n))∧w=w':=by
 have hs:=Lib.hid (fun W=>qb n W);go_enter Tryz.func243,Tryz.ntmps243;cases hb:oC n<;>rw[hb]at hs
 all_goals
  go_wp2_with(go_at_call 128;((with_reducible refine(hs.out _).mono ?_);rintro e w1 ⟨rfl,rfl⟩))
  all_goals go_ret
  all_goals(refine⟨yQ ?_,rfl⟩;simp_all[at2I])
theorem at4_i(n:Int)(w:World):
 Calls Tryz.prog 244 #[.int .u8 n] w fun e w'=>e=.returned (.bool (at4I n))∧w=w':=by
 have hs:=Lib.hid (fun W=>qb n W);go_enter Tryz.func244,Tryz.ntmps244;cases hb:oC n<;>rw[hb]at hs
 all_goals
  go_wp2_with(go_at_call 128;((with_reducible refine(hs.out _).mono ?_);rintro e w1 ⟨rfl,rfl⟩))
  all_goals go_ret
  all_goals(refine⟨yQ ?_,rfl⟩;simp_all[at4I])
theorem all1_i(n:Int)(w:World):
 Calls Tryz.prog 157 #[.int .u8 n] w fun e w'=>e=.returned (.bool (all1I n))∧w=w':=by
 go_enter Tryz.func157,Tryz.ntmps157;go_wp2;go_ret;exact⟨rfl,rfl⟩
theorem HY{p:UInt8→Bool}{l:Txt}{k:Nat}(hk:k<l.length)(hno:∀j (hj:j<l.length),j<k→p l[j]=false)(hp:p l[k]=true):l.findIdx p=k:=by
 rw[List.findIdx_eq hk];exact⟨hp,fun j hj=>hno j (by omega) hj⟩
theorem Ba{p:UInt8→Bool}{l:Txt}(hno:∀j (hj:j<l.length),p l[j]=false):l.findIdx p=l.length:=by
 rw[List.findIdx_eq_length];intro x hx;obtain⟨j,hj,rfl⟩:=List.getElem_of_mem hx;exact hno j hj
theorem KA(l:Txt)(hl:l.length≤1000000000)(w:World):
 Calls Tryz.prog 156 #[.string ⟨l.toArray⟩,.func (.func 154) #[] #[]] w fun e w'=>e=.returned (.int .i64 (l.findIdx bY:Nat))∧w=w':=by
 go_enter Tryz.func156,Tryz.ntmps156;go_wp2
 go_loop [5,8] (fun _ v=>∃(k:Nat),v=.int .i64 k∧k≤l.length∧Hid (∀j (hj:j<l.length),j<k→bY l[j]=false)) (fun _ v=>l.length - (intOf v).toNat)
 case atStart=>exact⟨0,rfl,by omega,fun j _ h=>by omega⟩
 case round=>
  obtain⟨k,rfl,hk,hno⟩:=hrel
  by_cases hlt:k<l.length
  ·obtain⟨n,hn⟩:∃n,(l[k].toNat:Int)=n:=⟨_,rfl⟩
   have hu:=Ez l[k];rw[hn]at hu;have hc:=Lib.hid (fun W=>pJ n W);cases hb:nY n with
   |true=>
    have hf:=Lib.hid (HY (p:=bY) hlt hno.out (hu.symm.trans hb));rw[hb]at hc;clear hu hb
    go_wp2_with(go_at_call 154;((with_reducible refine(hc.out _).mono ?_);rintro e w1 ⟨rfl,rfl⟩))
    go_ret;rw[hf.out];exact⟨rfl,rfl⟩
   |false=>
    have oZ:=Lib.hid (show∀j (hj:j<l.length),j<k+1→bY l[j]=false by
     intro j hj hjk
     by_cases e:j=k
     ·subst e;exact hu.symm.trans hb
     ·exact hno.out j hj (by omega))
    rw[hb]at hc;clear hu hb hno
    go_wp2_with(go_at_call 154;((with_reducible refine(hc.out _).mono ?_);rintro e w1 ⟨rfl,rfl⟩))
    refine⟨⟨k+1,rfl,by omega,oZ⟩,by simp[intOf];omega⟩
  ·have hf:=Lib.hid (Ba (p:=bY) (l:=l) fun j hj=>hno.out j hj (by omega))
   go_wp2;go_ret;rw[hf.out];exact⟨rfl,rfl⟩
theorem span_op1(l:Txt)(hl:l.length≤1000000000)(w:World):
 Calls Tryz.prog 156 #[.string ⟨l.toArray⟩,.func (.func 229) #[] #[]] w fun e w'=>e=.returned (.int .i64 (l.findIdx (fun c=>!dz c&&c !=47):Nat))∧w=w':=by
 go_enter Tryz.func156,Tryz.ntmps156;go_wp2
 go_loop [5,8] (fun _ v=>∃(k:Nat),v=.int .i64 k∧k≤l.length∧Hid (∀j (hj:j<l.length),j<k→(fun c=>!dz c&&c !=47) l[j]=false)) (fun _ v=>l.length - (intOf v).toNat)
 case atStart=>exact⟨0,rfl,by omega,fun j _ h=>by omega⟩
 case round=>
  obtain⟨k,rfl,hk,hno⟩:=hrel
  by_cases hlt:k<l.length
  ·obtain⟨n,hn⟩:∃n,(l[k].toNat:Int)=n:=⟨_,rfl⟩
   have hu:=op1I_u8 l[k];rw[hn]at hu;have hc:=Lib.hid (fun W=>op1_i n W);cases hb:op1I n with
   |true=>
    have hf:=Lib.hid (HY (p:=(fun c=>!dz c&&c !=47)) hlt hno.out (hu.symm.trans hb));rw[hb]at hc;clear hu hb
    go_wp2_with(go_at_call 229;((with_reducible refine(hc.out _).mono ?_);rintro e w1 ⟨rfl,rfl⟩))
    go_ret;rw[hf.out];exact⟨rfl,rfl⟩
   |false=>
    have oZ:=Lib.hid (show∀j (hj:j<l.length),j<k+1→(fun c=>!dz c&&c !=47) l[j]=false by
     intro j hj hjk
     by_cases e:j=k
     ·subst e;exact hu.symm.trans hb
     ·exact hno.out j hj (by omega))
    rw[hb]at hc;clear hu hb hno
    go_wp2_with(go_at_call 229;((with_reducible refine(hc.out _).mono ?_);rintro e w1 ⟨rfl,rfl⟩))
    refine⟨⟨k+1,rfl,by omega,oZ⟩,by simp[intOf];omega⟩
  ·have hf:=Lib.hid (Ba (p:=(fun c=>!dz c&&c !=47)) (l:=l) fun j hj=>hno.out j hj (by omega))
   go_wp2;go_ret;rw[hf.out];exact⟨rfl,rfl⟩
theorem sP(l:Txt)(hl:l.length≤1000000000)(w:World):
 Calls Tryz.prog 156 #[.string ⟨l.toArray⟩,.func (.func 241) #[] #[]] w fun e w'=>e=.returned (.int .i64 (l.findIdx (fun c=>bY c||c==61):Nat))∧w=w':=by
 go_enter Tryz.func156,Tryz.ntmps156;go_wp2
 go_loop [5,8] (fun _ v=>∃(k:Nat),v=.int .i64 k∧k≤l.length∧Hid (∀j (hj:j<l.length),j<k→(fun c=>bY c||c==61) l[j]=false)) (fun _ v=>l.length - (intOf v).toNat)
 case atStart=>exact⟨0,rfl,by omega,fun j _ h=>by omega⟩
 case round=>
  obtain⟨k,rfl,hk,hno⟩:=hrel
  by_cases hlt:k<l.length
  ·obtain⟨n,hn⟩:∃n,(l[k].toNat:Int)=n:=⟨_,rfl⟩
   have hu:=at1I_u8 l[k];rw[hn]at hu;have hc:=Lib.hid (fun W=>at1_i n W);cases hb:at1I n with
   |true=>
    have hf:=Lib.hid (HY (p:=(fun c=>bY c||c==61)) hlt hno.out (hu.symm.trans hb));rw[hb]at hc;clear hu hb
    go_wp2_with(go_at_call 241;((with_reducible refine(hc.out _).mono ?_);rintro e w1 ⟨rfl,rfl⟩))
    go_ret;rw[hf.out];exact⟨rfl,rfl⟩
   |false=>
    have oZ:=Lib.hid (show∀j (hj:j<l.length),j<k+1→(fun c=>bY c||c==61) l[j]=false by
     intro j hj hjk
     by_cases e:j=k
     ·subst e;exact hu.symm.trans hb
     ·exact hno.out j hj (by omega))
    rw[hb]at hc;clear hu hb hno
    go_wp2_with(go_at_call 241;((with_reducible refine(hc.out _).mono ?_);rintro e w1 ⟨rfl,rfl⟩))
    refine⟨⟨k+1,rfl,by omega,oZ⟩,by simp[intOf];omega⟩
  ·have hf:=Lib.hid (Ba (p:=(fun c=>bY c||c==61)) (l:=l) fun j hj=>hno.out j hj (by omega))
   go_wp2;go_ret;rw[hf.out];exact⟨rfl,rfl⟩
theorem sQ(l:Txt)(hl:l.length≤1000000000)(w:World):
 Calls Tryz.prog 156 #[.string ⟨l.toArray⟩,.func (.func 242) #[] #[]] w fun e w'=>e=.returned (.int .i64 (l.findIdx (fun c=>!dz c):Nat))∧w=w':=by
 go_enter Tryz.func156,Tryz.ntmps156;go_wp2
 go_loop [5,8] (fun _ v=>∃(k:Nat),v=.int .i64 k∧k≤l.length∧Hid (∀j (hj:j<l.length),j<k→(fun c=>!dz c) l[j]=false)) (fun _ v=>l.length - (intOf v).toNat)
 case atStart=>exact⟨0,rfl,by omega,fun j _ h=>by omega⟩
 case round=>
  obtain⟨k,rfl,hk,hno⟩:=hrel
  by_cases hlt:k<l.length
  ·obtain⟨n,hn⟩:∃n,(l[k].toNat:Int)=n:=⟨_,rfl⟩
   have hu:=S9 l[k];rw[hn]at hu;have hc:=Lib.hid (fun W=>at2_i n W);cases hb:at2I n with
   |true=>
    have hf:=Lib.hid (HY (p:=(fun c=>!dz c)) hlt hno.out (hu.symm.trans hb));rw[hb]at hc;clear hu hb
    go_wp2_with(go_at_call 242;((with_reducible refine(hc.out _).mono ?_);rintro e w1 ⟨rfl,rfl⟩))
    go_ret;rw[hf.out];exact⟨rfl,rfl⟩
   |false=>
    have oZ:=Lib.hid (show∀j (hj:j<l.length),j<k+1→(fun c=>!dz c) l[j]=false by
     intro j hj hjk
     by_cases e:j=k
     ·subst e;exact hu.symm.trans hb
     ·exact hno.out j hj (by omega))
    rw[hb]at hc;clear hu hb hno
    go_wp2_with(go_at_call 242;((with_reducible refine(hc.out _).mono ?_);rintro e w1 ⟨rfl,rfl⟩))
    refine⟨⟨k+1,rfl,by omega,oZ⟩,by simp[intOf];omega⟩
  ·have hf:=Lib.hid (Ba (p:=(fun c=>!dz c)) (l:=l) fun j hj=>hno.out j hj (by omega))
   go_wp2;go_ret;rw[hf.out];exact⟨rfl,rfl⟩
theorem yP(l:Txt)(hl:l.length≤1000000000)(w:World):
 Calls Tryz.prog 156 #[.string ⟨l.toArray⟩,.func (.func 243) #[] #[]] w fun e w'=>e=.returned (.int .i64 (l.findIdx (fun c=>!dz c):Nat))∧w=w':=by
 go_enter Tryz.func156,Tryz.ntmps156;go_wp2
 go_loop [5,8] (fun _ v=>∃(k:Nat),v=.int .i64 k∧k≤l.length∧Hid (∀j (hj:j<l.length),j<k→(fun c=>!dz c) l[j]=false)) (fun _ v=>l.length - (intOf v).toNat)
 case atStart=>exact⟨0,rfl,by omega,fun j _ h=>by omega⟩
 case round=>
  obtain⟨k,rfl,hk,hno⟩:=hrel
  by_cases hlt:k<l.length
  ·obtain⟨n,hn⟩:∃n,(l[k].toNat:Int)=n:=⟨_,rfl⟩
   have hu:=S9 l[k];rw[hn]at hu;have hc:=Lib.hid (fun W=>at3_i n W);cases hb:at2I n with
   |true=>
    have hf:=Lib.hid (HY (p:=(fun c=>!dz c)) hlt hno.out (hu.symm.trans hb));rw[hb]at hc;clear hu hb
    go_wp2_with(go_at_call 243;((with_reducible refine(hc.out _).mono ?_);rintro e w1 ⟨rfl,rfl⟩))
    go_ret;rw[hf.out];exact⟨rfl,rfl⟩
   |false=>
    have oZ:=Lib.hid (show∀j (hj:j<l.length),j<k+1→(fun c=>!dz c) l[j]=false by
     intro j hj hjk
     by_cases e:j=k
     ·subst e;exact hu.symm.trans hb
     ·exact hno.out j hj (by omega))
    rw[hb]at hc;clear hu hb hno
    go_wp2_with(go_at_call 243;((with_reducible refine(hc.out _).mono ?_);rintro e w1 ⟨rfl,rfl⟩))
    refine⟨⟨k+1,rfl,by omega,oZ⟩,by simp[intOf];omega⟩
  ·have hf:=Lib.hid (Ba (p:=(fun c=>!dz c)) (l:=l) fun j hj=>hno.out j hj (by omega))
   go_wp2;go_ret;rw[hf.out];exact⟨rfl,rfl⟩
theorem MK(l:Txt)(hl:l.length≤1000000000)(w:World):
 Calls Tryz.prog 156 #[.string ⟨l.toArray⟩,.func (.func 244) #[] #[]] w fun e w'=>e=.returned (.int .i64 (l.findIdx (fun c=>dz c||c==62):Nat))∧w=w':=by
 go_enter Tryz.func156,Tryz.ntmps156;go_wp2
 go_loop [5,8] (fun _ v=>∃(k:Nat),v=.int .i64 k∧k≤l.length∧Hid (∀j (hj:j<l.length),j<k→(fun c=>dz c||c==62) l[j]=false)) (fun _ v=>l.length - (intOf v).toNat)
 case atStart=>exact⟨0,rfl,by omega,fun j _ h=>by omega⟩
 case round=>
  obtain⟨k,rfl,hk,hno⟩:=hrel
  by_cases hlt:k<l.length
  ·obtain⟨n,hn⟩:∃n,(l[k].toNat:Int)=n:=⟨_,rfl⟩
   have hu:=at4I_u8 l[k];rw[hn]at hu;have hc:=Lib.hid (fun W=>at4_i n W);cases hb:at4I n with
   |true=>
    have hf:=Lib.hid (HY (p:=(fun c=>dz c||c==62)) hlt hno.out (hu.symm.trans hb));rw[hb]at hc;clear hu hb
    go_wp2_with(go_at_call 244;((with_reducible refine(hc.out _).mono ?_);rintro e w1 ⟨rfl,rfl⟩))
    go_ret;rw[hf.out];exact⟨rfl,rfl⟩
   |false=>
    have oZ:=Lib.hid (show∀j (hj:j<l.length),j<k+1→(fun c=>dz c||c==62) l[j]=false by
     intro j hj hjk
     by_cases e:j=k
     ·subst e;exact hu.symm.trans hb
     ·exact hno.out j hj (by omega))
    rw[hb]at hc;clear hu hb hno
    go_wp2_with(go_at_call 244;((with_reducible refine(hc.out _).mono ?_);rintro e w1 ⟨rfl,rfl⟩))
    refine⟨⟨k+1,rfl,by omega,oZ⟩,by simp[intOf];omega⟩
  ·have hf:=Lib.hid (Ba (p:=(fun c=>dz c||c==62)) (l:=l) fun j hj=>hno.out j hj (by omega))
   go_wp2;go_ret;rw[hf.out];exact⟨rfl,rfl⟩
theorem Ut(l:Txt)(hl:l.length≤1000000000)(w:World):
 Calls Tryz.prog 156 #[.string ⟨l.toArray⟩,.func (.func 157) #[] #[]] w fun e w'=>e=.returned (.int .i64 (l.findIdx (fun c=>c==60):Nat))∧w=w':=by
 go_enter Tryz.func156,Tryz.ntmps156;go_wp2
 go_loop [5,8] (fun _ v=>∃(k:Nat),v=.int .i64 k∧k≤l.length∧Hid (∀j (hj:j<l.length),j<k→(fun c=>c==60) l[j]=false)) (fun _ v=>l.length - (intOf v).toNat)
 case atStart=>exact⟨0,rfl,by omega,fun j _ h=>by omega⟩
 case round=>
  obtain⟨k,rfl,hk,hno⟩:=hrel
  by_cases hlt:k<l.length
  ·obtain⟨n,hn⟩:∃n,(l[k].toNat:Int)=n:=⟨_,rfl⟩
   have hu:=all1I_u8 l[k];rw[hn]at hu;have hc:=Lib.hid (fun W=>all1_i n W);cases hb:all1I n with
   |true=>
    have hf:=Lib.hid (HY (p:=(fun c=>c==60)) hlt hno.out (hu.symm.trans hb));rw[hb]at hc;clear hu hb
    go_wp2_with(go_at_call 157;((with_reducible refine(hc.out _).mono ?_);rintro e w1 ⟨rfl,rfl⟩))
    go_ret;rw[hf.out];exact⟨rfl,rfl⟩
   |false=>
    have oZ:=Lib.hid (show∀j (hj:j<l.length),j<k+1→(fun c=>c==60) l[j]=false by
     intro j hj hjk
     by_cases e:j=k
     ·subst e;exact hu.symm.trans hb
     ·exact hno.out j hj (by omega))
    rw[hb]at hc;clear hu hb hno
    go_wp2_with(go_at_call 157;((with_reducible refine(hc.out _).mono ?_);rintro e w1 ⟨rfl,rfl⟩))
    refine⟨⟨k+1,rfl,by omega,oZ⟩,by simp[intOf];omega⟩
  ·have hf:=Lib.hid (Ba (p:=(fun c=>c==60)) (l:=l) fun j hj=>hno.out j hj (by omega))
   go_wp2;go_ret;rw[hf.out];exact⟨rfl,rfl⟩
def lowI(n:Int):Int:=if 65≤n∧n≤90 then n+32 else n
theorem lowI_u8(c:UInt8):lowI c.toNat=(mI c).toNat:=by
 have:=jw (p:=fun c=>decide (lowI c.toNat=(mI c).toNat)) (by decide +kernel) c;simpa using this
def Gy(w:World)(g n:Nat)(f:Nat→Int):Prop:=∀j,j<n→w.cell? ⟨g,j,none⟩=some (.int .u8 (f j))∧w.frozen? ⟨g,j,none⟩=false
def Dw(l:Txt)(k j:Nat):Int:=if j<k then lowI (l.getD j 0).toNat else(l.getD j 0).toNat
theorem Gy.conv(w:World)(l:Txt):Gy (Lib.bytesWorld w 5 ⟨l.toArray⟩) w.heap.size l.length (Dw l 0):=by
 intro j hj;refine⟨?_,?_⟩
 ·rw[Lib.bytesWorld_cell _ _ _ _ (by rw[rU];exact hj),iF]
  rfl
 ·unfold World.frozen?
  rw[Lib.bytesWorld_at_new];have:l.length≤(Lib.bytesCells w 5 ⟨l.toArray⟩).size:=by simp[Lib.bytesCells]
  simp;omega
theorem M9(w:World)(l:Txt):Below w.heap.size w (Lib.bytesWorld w 5 ⟨l.toArray⟩):=
 ⟨rfl,rfl,rfl,by rw[Lib.bytesWorld_size];omega,fun i hi=>Lib.bytesWorld_at_old w _ _ i hi⟩
theorem Gy.set{w:World}{g n:Nat}{f f':Nat→Int}(h:Gy w g n f)(k:Nat)(v:Int)(hk:f' k=v)(ho:∀j,j≠k→f' j=f j):Gy (w.setCell ⟨g,k,none⟩ (.int .u8 v)) g n f':=by
 intro j hj;obtain⟨h1,h2⟩:=h j hj;refine⟨?_,by rw[World.frozen?_setCell];exact h2⟩
 by_cases e:j=k
 ·subst e
  rw[World.cell?_setCell_same _ _ _ h1,hk]
 ·rw[World.cell?_setCell_other _ _ _ _ (by intro e';injection e' with _ e'';omega),ho j e]
  exact h1
theorem Gy.same{w:World}{g n:Nat}{f f':Nat→Int}(h:Gy w g n f)(ho:∀j,f' j=f j):Gy w g n f':=fun j hj=>by rw[ho j];exact h j hj
theorem PV(l:Txt)(k j:Nat)(h:j≠k):Dw l (k+1) j=Dw l k j:=by
 unfold Dw
 by_cases e:j<k
 ·rw[if_pos e,if_pos (by omega)]
 ·rw[if_neg e,if_neg (by omega)]
theorem lowF_at(l:Txt)(k:Nat):Dw l (k+1) k=lowI (l.getD k 0).toNat:=by
 unfold Dw;rw[if_pos (by omega)]
theorem Jv(l:Txt)(k:Nat):Dw l k k=(l.getD k 0).toNat:=by
 unfold Dw;rw[if_neg (by omega)]
theorem low_conv{w:World}{g cap k:Nat}{l:Txt}(hk:l.length≤k)(h:Gy w g l.length (Dw l k)):(convert 43 9 (.slice (some ⟨g,0,none⟩) l.length cap)).run Tryz.prog w=.ok (.string ⟨(iZ l).toArray⟩) w:=by
 have hl:(iZ l).length=l.length:=by simp[iZ]
 rw[←hl];refine run_convert_bytes_back (P:=Tryz.prog) w 43 9 5 ⟨g,0,none⟩ cap (iZ l) Tryz.underlying43 Tryz.underlying5 Tryz.underlying9 (fun j hj=>?_);have ha:(⟨g,0,none⟩:Addr).add j=⟨g,j,none⟩:=by unfold Addr.add;split<;>simp_all
 have hj':j<l.length:=by rw[←hl];exact hj
 rw[ha,(h j hj').1];simp[Dw,iZ,show j<k by omega,List.getD,hj',lowI_u8]
theorem oH(l:Txt)(hl:l.length≤1000000000)(w:World):
 Calls Tryz.prog 187 #[.string ⟨l.toArray⟩] w fun e w'=>e=.returned (.string ⟨(iZ l).toArray⟩)∧Below w.heap.size w w':=by
 have hcv:=Lib.run_convert_string_bytes (P:=Tryz.prog) w 9 43 5 ⟨l.toArray⟩ Tryz.underlying9 Tryz.underlying43 Tryz.underlying5;have hrow:=Gy.conv w l;have hbel:=M9 w l;rw[rU]at hcv;generalize Lib.bytesWorld w 5 ⟨l.toArray⟩=w1 at *;generalize grownCap w l.length 0 5=cap at *;go_enter Tryz.func187,Tryz.ntmps187;go_wp2;clear hcv
 go_loopw [4,5,10] (fun _ _ vk wr=>∃(k:Nat),vk=.int .i64 k∧k≤l.length∧Gy wr w.heap.size l.length (Dw l k)∧Below w.heap.size w wr) (fun _ _ vk _=>l.length - (intOf vk).toNat)
 case atStart=>exact⟨0,rfl,by omega,hrow,hbel⟩
 case round=>
  obtain⟨k,rfl,hk,hI,hbw⟩:=hrel
  by_cases hlt:k<l.length
  ·obtain⟨c1,c2⟩:=hI k hlt
   have hat:=lowF_at l k;have hother:=PV l k;rw[Jv]at c1;obtain⟨n,hn⟩:∃n,((l.getD k 0).toNat:Int)=n:=⟨_,rfl⟩
   rw[hn]at hat c1;have hn0:0≤n:=by omega
   have hn1:n≤255:=by have:=(l.getD k 0).toNat_lt;omega
   have hh:=Jv l k;rw[hn]at hh;clear hn;have hst:=Lib.hid (fun(v:Int) (hv:lowI n=v)=>hI.set (f':=Dw l (k+1)) k v (by rw[hat];exact hv) hother)
   have hsame:=Lib.hid (fun(hv:lowI n=n)=>hI.same (f':=Dw l (k+1)) (fun j=>by
    by_cases e:j=k
    ·subst e;rw[hat,hh,hv]
    ·exact hother j e))
   clear hat hother hh;go_wp2
   all_goals(try simp only[decide_eq_true_eq,decide_eq_false_iff_not]at *)
   all_goals first
    |(refine⟨⟨k+1,rfl,by omega,hst.out _ (by unfold lowI;rw[if_pos ⟨by omega,by omega⟩];omega),hbw.setCell (p:=⟨w.heap.size,k,none⟩) (Nat.le_refl _) _⟩,by simp[intOf];omega⟩)
    |(refine⟨⟨k+1,rfl,by omega,hsame.out (by unfold lowI;rw[if_neg (by omega)]),hbw⟩,by simp[intOf];omega⟩)
  ·have hcv:=low_conv (cap:=cap) (by omega) hI
   go_wp2;go_ret;exact⟨rfl,hbw⟩
def Ap(a b:Txt):Bool:=iZ a==iZ b
theorem yx(a b:Txt)(ha:a.length≤1000000000)(hb:b.length≤1000000000)(w:World):
 Calls Tryz.prog 153 #[.string ⟨a.toArray⟩,.string ⟨b.toArray⟩] w fun e w'=>e=.returned (.bool (Ap a b))∧Below w.heap.size w w':=by
 have h1:=Lib.hid (fun W=>oH a ha W);have h2:=Lib.hid (fun W=>oH b hb W);have hs:(iZ a==iZ b)=Ap a b:=rfl;generalize Ap a b=r at *;generalize iZ a=la at *;generalize iZ b=lb at *;have hB:=Below.refl w.heap.size w;go_enter Tryz.func153,Tryz.ntmps153
 go_wp2_with(go_at_call 187;first
  |((with_reducible refine(h1.out _).mono ?_);rintro e w1 ⟨rfl,hb⟩;replace hB:=qG hB hb;clear hb)
  |((with_reducible refine(h2.out _).mono ?_);rintro e w1 ⟨rfl,hb⟩;replace hB:=qG hB hb;clear hb))
 go_ret;exact⟨rfl,hB⟩
theorem Hw(l:Txt)(w:World):
 Calls Tryz.prog 190 #[.string ⟨l.toArray⟩] w fun e w'=>e=.returned (.bool (gP l))∧w=w':=by
 cases l with
 |nil=>
  go_enter Tryz.func190,Tryz.ntmps190;go_wp2;go_ret;exact⟨rfl,rfl⟩
 |cons c t=>
  have h1:=Lib.hid (fun n (hn:(c.toNat:Int)=n) W=>M8 n W);have hu:BP c.toNat=gP (c::t):=PU c;obtain⟨n,hn⟩:∃n,(c.toNat:Int)=n:=⟨_,rfl⟩
  rw[hn]at hu;generalize gP (c::t)=r at *;go_enter Tryz.func190,Tryz.ntmps190
  go_wp2_with(go_at_call 80;((with_reducible refine(M8 _ _).mono ?_);rintro e w1 ⟨rfl,rfl⟩))
  go_ret;exact⟨rfl,rfl⟩
theorem Mf{c:UInt8}{t:Txt}(h:dz c=false):(c::t).dropWhile dz=c::t:=by rw[List.dropWhile_cons,if_neg (by rw[h];simp)]
theorem Mg{c:UInt8}{t:Txt}(h:dz c=true):(c::t).dropWhile dz=t.dropWhile dz:=by rw[List.dropWhile_cons,if_pos h]
theorem Ij{s l:Txt}(h:s=l.dropWhile dz):((s.reverse).dropWhile dz).reverse=jS l:=by rw[h];rfl
theorem yO{c:UInt8}{t:Txt}:(⟨(c::t).toArray⟩:Bt).extract 1 (t.length+1)=⟨t.toArray⟩:=by
 have:=ext_end (c::t) 1;simpa using this
theorem ftrim_c(l:Txt)(hl:l.length≤1000000000)(w:World):
 Calls Tryz.prog 215 #[.string ⟨l.toArray⟩] w fun e w'=>e=.returned (.string ⟨(jS l).toArray⟩)∧w=w':=by
 go_enter Tryz.func215,Tryz.ntmps215;go_wp2
 go_loop [0] (fun v=>∃(s:Txt),v=.string ⟨s.toArray⟩∧s.length≤l.length∧Hid (s.dropWhile dz=l.dropWhile dz)) (fun v=>Gm v)
 case atStart=>exact⟨l,rfl,by omega,rfl⟩
 case round=>
  obtain⟨s,rfl,hk,hdec⟩:=hrel;cases s with
  |nil=>
   have hdec:=Lib.hid (show([] :Txt)=l.dropWhile dz from hdec.out);rename_i hdec0;clear hdec0
   go_wp2_with fail
   go_loop [0] (fun v=>∃(r:Txt),v=.string ⟨r.reverse.toArray⟩∧r.length≤l.length∧Hid ((r.dropWhile dz).reverse=jS l)) (fun v=>Gm v)
   case atStart=>exact⟨[].reverse,by simp,by simp,Ij hdec.out⟩
   case round=>
    obtain⟨r,rfl,hk,zC⟩:=hrel;cases r with
    |nil=>
     have he:=Lib.hid (show jS l=[]from zC.out.symm);go_wp2;go_ret;rw[he.out];exact⟨rfl,rfl⟩
    |cons c t=>
     obtain⟨n,hn⟩:∃n,(c.toNat:Int)=n:=⟨_,rfl⟩
     have hu:=Dv c;rw[hn]at hu;obtain⟨q,hq⟩:∃q,(c::t).reverse=q:=⟨_,rfl⟩
     have hql:q.length=t.length+1:=by rw[←hq];simp
     have hx1:(⟨q.toArray⟩:Bt).extract 0 t.length=⟨t.reverse.toArray⟩:=by
      rw[Lib.extract_eq,iF,←hq];simp
     have hget:∀(h:t.length<q.length),q[t.length]=c:=by
      intro h;subst hq;simp
     rw[hq];have ht1:t.length≤1000000000:=by simp only[List.length_cons]at hk;omega
     have hql0:(0:Int)<q.length:=by omega
     have hsub:(q.length:Int) - 1=t.length:=by omega
     have hne:q≠[]:=by rw[←hq];simp
     have hbe:(q==[])=false:=by simpa using hne
     cases hb:oC n with
     |true=>
      rw[hb]at hu;have hd:=Lib.hid (show(t.dropWhile dz).reverse=jS l by rw[←Mg hu.symm];exact zC.out);have hc:=Lib.hid (fun W=>qb n W);rw[hb]at hc;clear hu hb zC hq
      go_wp2_with(go_at_call 128;((with_reducible refine(hc.out _).mono ?_);rintro e w1 ⟨rfl,rfl⟩))
      exact⟨⟨t,rfl,by simp only[List.length_cons]at hk;omega,hd⟩,by rw[mZ,mZ,List.length_reverse];omega⟩
     |false=>
      rw[hb]at hu;have hd:=Lib.hid (show q=jS l by rw[←hq,←zC.out,Mf hu.symm]);have hc:=Lib.hid (fun W=>qb n W);rw[hb]at hc;clear hu hb zC hq
      go_wp2_with(go_at_call 128;((with_reducible refine(hc.out _).mono ?_);rintro e w1 ⟨rfl,rfl⟩))
      go_ret;rw[←hd.out];exact⟨rfl,rfl⟩
  |cons c t=>
   obtain⟨n,hn⟩:∃n,(c.toNat:Int)=n:=⟨_,rfl⟩
   have hu:=Dv c;rw[hn]at hu;cases hb:oC n with
   |true=>
    rw[hb]at hu;have hd:=Lib.hid (show t.dropWhile dz=l.dropWhile dz by rw[←Mg hu.symm];exact hdec.out);have hc:=Lib.hid (fun W=>qb n W);rw[hb]at hc;clear hu hb hdec
    go_wp2_with(go_at_call 128;((with_reducible refine(hc.out _).mono ?_);rintro e w1 ⟨rfl,rfl⟩))
    refine⟨⟨t,by rw[yO],by simp only[List.length_cons]at hk;omega,hd⟩,by rw[yO,mZ,mZ];simp⟩
   |false=>
    rw[hb]at hu;have hdec:=Lib.hid (show c::t=l.dropWhile dz by rw[←Mf hu.symm];exact hdec.out);rename_i hdec0;have hc:=Lib.hid (fun W=>qb n W);rw[hb]at hc;clear hu hb hdec0
    go_wp2_with(go_at_call 128;((with_reducible refine(hc.out _).mono ?_);rintro e w1 ⟨rfl,rfl⟩))
    go_loop [0] (fun v=>∃(r:Txt),v=.string ⟨r.reverse.toArray⟩∧r.length≤l.length∧Hid ((r.dropWhile dz).reverse=jS l)) (fun v=>Gm v)
    case atStart=>exact⟨(c::t).reverse,by simp,by simpa using hk,Ij hdec.out⟩
    case round=>
     obtain⟨r,rfl,hk,zC⟩:=hrel;cases r with
     |nil=>
      have he:=Lib.hid (show jS l=[]from zC.out.symm);go_wp2;go_ret;rw[he.out];exact⟨rfl,rfl⟩
     |cons c t=>
      obtain⟨n,hn⟩:∃n,(c.toNat:Int)=n:=⟨_,rfl⟩
      have hu:=Dv c;rw[hn]at hu;obtain⟨q,hq⟩:∃q,(c::t).reverse=q:=⟨_,rfl⟩
      have hql:q.length=t.length+1:=by rw[←hq];simp
      have hx1:(⟨q.toArray⟩:Bt).extract 0 t.length=⟨t.reverse.toArray⟩:=by
       rw[Lib.extract_eq,iF,←hq];simp
      have hget:∀(h:t.length<q.length),q[t.length]=c:=by
       intro h;subst hq;simp
      rw[hq];have ht1:t.length≤1000000000:=by simp only[List.length_cons]at hk;omega
      have hql0:(0:Int)<q.length:=by omega
      have hsub:(q.length:Int) - 1=t.length:=by omega
      have hne:q≠[]:=by rw[←hq];simp
      have hbe:(q==[])=false:=by simpa using hne
      cases hb:oC n with
      |true=>
       rw[hb]at hu;have hd:=Lib.hid (show(t.dropWhile dz).reverse=jS l by rw[←Mg hu.symm];exact zC.out);have hc:=Lib.hid (fun W=>qb n W);rw[hb]at hc;clear hu hb zC hq
       go_wp2_with(go_at_call 128;((with_reducible refine(hc.out _).mono ?_);rintro e w1 ⟨rfl,rfl⟩))
       exact⟨⟨t,rfl,by simp only[List.length_cons]at hk;omega,hd⟩,by rw[mZ,mZ,List.length_reverse];omega⟩
      |false=>
       rw[hb]at hu;have hd:=Lib.hid (show q=jS l by rw[←hq,←zC.out,Mf hu.symm]);have hc:=Lib.hid (fun W=>qb n W);rw[hb]at hc;clear hu hb zC hq
       go_wp2_with(go_at_call 128;((with_reducible refine(hc.out _).mono ?_);rintro e w1 ⟨rfl,rfl⟩))
       go_ret;rw[←hd.out];exact⟨rfl,rfl⟩
theorem own_ne{w:World}{base:Nat}{e e':TypeId}{size n b:Nat}{v:Value}{xs:List Value}{cur:Array Value}{fz:Nat×Nat}(h:w.ownsRow base e size v n xs)(hb:w.heap[b]?=some (.cells cur e' fz))(hne:e'≠e):v.ownBlock≠some b:=by
 rcases h.2 with⟨rfl,_⟩|⟨g,cap,cr,rfl,hg,hh,_⟩
 ·simp[Value.ownBlock]
 ·intro e0
  have:g=b:=by simpa [Value.ownBlock]using e0
  subst this;rw[hb]at hh;simp at hh;exact hne hh.2.1
theorem pF{w w':World}{base:Nat}{e e':TypeId}{size n b:Nat}{v:Value}{xs:List Value}{cur:Array Value}{fz:Nat×Nat}(h:w.ownsRow base e size v n xs)(hg:w.grownBy w' (some b))(hb:w.heap[b]?=some (.cells cur e' fz))(hne:e'≠e):w'.ownsRow base e size v n xs:=
 World.ownsRow.kept h hg (.inr (own_ne h hb hne))
theorem zL{w:World}{base:Nat}{e:TypeId}{size n b:Nat}{v:Value}{xs:List Value}(h:w.ownsRow base e size v n xs)(hv:v.ownBlock=some b):∃cur,w.heap[b]?=some (.cells cur e (0,0)):=by
 rcases h.2 with⟨rfl,_⟩|⟨g,cap,cr,rfl,hg,hh,_⟩
 ·simp[Value.ownBlock]at hv
 ·have:g=b:=by simpa [Value.ownBlock]using hv
  subst this;exact⟨cr,hh⟩
theorem wu{w w':World}{base base':Nat}{e e':TypeId}{size n size' n':Nat}{v v':Value}{xs xs':List Value}(h:w.ownsRow base e size v n xs)(h':w.ownsRow base' e' size' v' n' xs')(hg:w.grownBy w' v'.ownBlock)(hne:e'≠e):w'.ownsRow base e size v n xs:=by
 cases hv:v'.ownBlock with
 |none=>rw[hv]at hg;exact World.ownsRow.kept h hg (by cases hx:v.ownBlock<;>simp)
 |some b=>
  rw[hv]at hg;obtain⟨cur,hc⟩:=zL h' hv;exact pF h hg hc hne
theorem own_below{w w1:World}{base:Nat}{e:TypeId}{size n:Nat}{v:Value}{xs:List Value}(h:w.ownsRow base e size v n xs)(hb:Below w.heap.size w w1):w1.ownsRow base e size v n xs:=
 World.ownsRow.kept h (nQ hb none) (by cases hv:v.ownBlock<;>simp)
def rA(l:List (Txt×Txt)):List Value:=l.flatMap fun a=>[.string ⟨a.1.toArray⟩,.string ⟨a.2.toArray⟩]
def jy(w:World)(base:Nat)(v:Value)(l:List (Txt×Txt)):Prop:=w.ownsRow base 36 2 v l.length (rA l)
def yX(t:Tok)(va:Value):List Value:=[.int .i64 t.kind,.string ⟨t.name.toArray⟩,.string ⟨t.data.toArray⟩,va,.bool t.self]
def nV(w:World)(base:Nat)(v:Value)(l:List Tok):Prop:=
 ∃ps:List (Tok×Value),ps.map Prod.fst=l∧w.ownsRow base 65 5 v l.length (ps.flatMap fun p=>yX p.1 p.2)∧∀p∈ps,jy w base p.2 p.1.attrs
theorem jy.nil(w:World)(base:Nat):jy w base (.slice none 0 0) []:=World.ownsRow_nil _ _ _ _
theorem nV.nil(w:World)(base:Nat):nV w base (.slice none 0 0) []:=⟨[],rfl,World.ownsRow_nil _ _ _ _,by simp⟩
theorem jy.below{w w1:World}{base:Nat}{v:Value}{l:List (Txt×Txt)}(h:jy w base v l)(hb:Below w.heap.size w w1):jy w1 base v l:=own_below h hb
theorem nV.below{w w1:World}{base:Nat}{v:Value}{l:List Tok}(h:nV w base v l)(hb:Below w.heap.size w w1):nV w1 base v l:=by
 obtain⟨ps,h1,h2,h3⟩:=h;exact⟨ps,h1,own_below h2 hb,fun p hp=>(h3 p hp).below hb⟩
theorem nV.other{w w':World}{base b:Nat}{v:Value}{l:List Tok}{cur:Array Value}{e':TypeId}{fz:Nat×Nat}(h:nV w base v l)(hg:w.grownBy w' (some b))(hb:w.heap[b]?=some (.cells cur e' fz))(h1:e'≠65)(h2:e'≠36):nV w' base v l:=by
 obtain⟨ps,k1,k2,k3⟩:=h;exact⟨ps,k1,pF k2 hg hb h1,fun p hp=>pF (k3 p hp) hg hb h2⟩
theorem SV:∃i z,Tryz.prog.info? 65=some i∧i.zero=some z∧i.size=5∧i.bytes=72∧z.cells.size=5:=by
 have h:(Tryz.prog.info? 65).map (fun i=>(i.zero.map fun z=>z.cells.size,i.size,i.bytes))=some (some 5,5,72):=by kernel_rfl
 cases hi:Tryz.prog.info? 65 with
 |none=>rw[hi]at h;simp at h
 |some i=>
  rw[hi]at h;simp at h;obtain⟨⟨z,hz,hs⟩,h2,h3⟩:=h;exact⟨i,z,rfl,hz,h2,h3,hs⟩
theorem attrInfo:∃i z,Tryz.prog.info? 36=some i∧i.zero=some z∧i.size=2∧i.bytes=32∧z.cells.size=2:=by
 have h:(Tryz.prog.info? 36).map (fun i=>(i.zero.map fun z=>z.cells.size,i.size,i.bytes))=some (some 2,2,32):=by kernel_rfl
 cases hi:Tryz.prog.info? 36 with
 |none=>rw[hi]at h;simp at h
 |some i=>
  rw[hi]at h;simp at h;obtain⟨⟨z,hz,hs⟩,h2,h3⟩:=h;exact⟨i,z,rfl,hz,h2,h3,hs⟩
theorem addr_add(g j:Nat):(⟨g,0,none⟩:Addr).add j=⟨g,j,none⟩:=by unfold Addr.add;split<;>simp_all
theorem Uy(a b:List (Txt×Txt)):rA (a++b)=rA a++rA b:=by simp[rA]
theorem SX{w:World}{base:Nat}{e:TypeId}{size n:Nat}{v:Value}{xs:List Value}(h:w.ownsRow base e size v n xs):v.oneCell'=true:=by
 rcases h.2 with⟨rfl,_⟩|⟨g,cap,cr,rfl,_⟩<;>rfl
theorem Nc{w:World}{ops:Array Oper}{rest:List Oper}{o:Oper}{a:Act}{Q:Exit→Act→World→Prop}(hgd:o.guard=none)(sl x:Operand)
 (ho:o.op=.call {callee:=.builtin .append,args:=#[sl,x],argTypes:=#[32,32] })
 (base g:Nat) (v:Value) (l:List (Txt×Txt)) (t:Txt×Txt) (hs:a.eval sl=v) (hown:jy w base v l) (hx:a.eval x=.slice (some ⟨g,0,none⟩) 1 1)
 (hc0:w.cell? ⟨g,0,none⟩=some (.string ⟨t.1.toArray⟩)) (hc1:w.cell? ⟨g,1,none⟩=some (.string ⟨t.2.toArray⟩))
 (hlen:l.length+1≤1000000000000) (hbase:base≤w.heap.size)
 (h:∀v' w',jy w' base v' (l++[t])→w.grownBy w' v.ownBlock→Below base w w'→wpList Tryz.prog ops Q rest (a.put o.dst v') w'):wpList Tryz.prog ops Q (o::rest) a w:=by
 obtain⟨i,z,hi,hz,h2,h3,hzs⟩:=attrInfo;refine wpList_append_own _ hgd sl x 32 ho base 36 i z 2 32 Tryz.underlying32 hi hz h2 h3 hzs (by decide) v l.length (rA l) hs hown ⟨g,0,none⟩ 1 1 (rA [t]) hx rfl ?_ ?_ (by unfold maxLen;omega) (by omega) hbase ?_
 ·intro j u hj
  rw[addr_add]
  match j,hj with
  |0,hj=>simp[rA]at hj;subst hj;exact hc0
  |1,hj=>simp[rA]at hj;subst hj;exact hc1
 ·intro u hu
  simp[rA]at hu
  rcases hu with rfl|rfl<;>rfl
 ·intro v' w' hown' hgrow _
  refine h v' w' ?_ hgrow ((Below.refl base w).grown hgrow hbase (fun k hk=>qd hown hk));unfold jy;rw[Uy];simpa using hown'
theorem uV{w:World}{ops:Array Oper}{rest:List Oper}{o:Oper}{a:Act}{Q:Exit→Act→World→Prop}(hgd:o.guard=none)(sl x:Operand)
 (ho:o.op=.call {callee:=.builtin .append,args:=#[sl,x],argTypes:=#[26,26] })
 (base g:Nat) (v va:Value) (l:List Tok) (t:Tok) (hs:a.eval sl=v) (hown:nV w base v l) (hx:a.eval x=.slice (some ⟨g,0,none⟩) 1 1)
 (hc0:w.cell? ⟨g,0,none⟩=some (.int .i64 t.kind)) (hc1:w.cell? ⟨g,1,none⟩=some (.string ⟨t.name.toArray⟩)) (hc2:w.cell? ⟨g,2,none⟩=some (.string ⟨t.data.toArray⟩)) (hc3:w.cell? ⟨g,3,none⟩=some va) (hc4:w.cell? ⟨g,4,none⟩=some (.bool t.self))
 (hat:jy w base va t.attrs) (hlen:l.length+1≤1000000000000) (hbase:base≤w.heap.size)
 (h:∀v' w',nV w' base v' (l++[t])→w.grownBy w' v.ownBlock→Below base w w'→(∀(b:Nat) (cur:Array Value) (e:TypeId) (fz:Nat×Nat),w.heap[b]?=some (.cells cur e fz)→e≠65→w'.heap[b]?=some (.cells cur e fz))→wpList Tryz.prog ops Q rest (a.put o.dst v') w'):wpList Tryz.prog ops Q (o::rest) a w:=by
 obtain⟨i,z,hi,hz,h2,h3,hzs⟩:=SV;obtain⟨ps,k1,k2,k3⟩:=hown;refine wpList_append_own _ hgd sl x 26 ho base 65 i z 5 72 Tryz.underlying26 hi hz h2 h3 hzs (by decide) v l.length _ hs k2 ⟨g,0,none⟩ 1 1 (yX t va) hx rfl ?_ ?_ (by unfold maxLen;omega) (by omega) hbase ?_
 ·intro j u hj
  rw[addr_add]
  match j,hj with
  |0,hj=>simp[yX]at hj;subst hj;exact hc0
  |1,hj=>simp[yX]at hj;subst hj;exact hc1
  |2,hj=>simp[yX]at hj;subst hj;exact hc2
  |3,hj=>simp[yX]at hj;subst hj;exact hc3
  |4,hj=>simp[yX]at hj;subst hj;exact hc4
 ·intro u hu
  simp[yX]at hu
  rcases hu with rfl|rfl|rfl|rfl|rfl
  ·rfl
  ·rfl
  ·rfl
  ·exact SX hat
  ·rfl
 ·intro v' w' hown' hgrow _
  refine h v' w' ⟨ps++[(t,va)],by simp[k1],by simpa using hown',?_⟩ hgrow ((Below.refl base w).grown hgrow hbase (fun k hk=>qd k2 hk)) ?_
  ·intro p hp
   rw[List.mem_append]at hp
   rcases hp with hp|hp
   ·exact wu (k3 p hp) k2 hgrow (by decide)
   ·simp at hp
    subst hp;exact wu hat k2 hgrow (by decide)
  ·intro b cur e fz hb hne
   rw[hgrow.block b (Array.getElem?_eq_some_iff.1 hb).1 (fun e0=>own_ne k2 hb hne e0.symm)];exact hb
def Sc(w:World)(base b:Nat)(s t:Txt)(l:List Tok):Prop:=
 base≤b∧∃v,w.heap[b]?=some (.cells #[.string ⟨s.toArray⟩,.string ⟨t.toArray⟩,v] 92 (0,0))∧nV w base v l
theorem Sc.below{w w1:World}{base b:Nat}{s t:Txt}{l:List Tok}(h:Sc w base b s t l)(hb:Below w.heap.size w w1):Sc w1 base b s t l:=by
 obtain⟨h1,v,h2,h3⟩:=h;exact⟨h1,v,(hb.block b (Array.getElem?_eq_some_iff.1 h2).1).trans h2,h3.below hb⟩
theorem jr(w:World)(a:Addr)(v:Value):w.grownBy (w.setCell a v) (some a.block):=
 ⟨rfl,rfl,rfl,by simp,fun k _ hk=>heap_setCell_other w a k v (fun e=>hk (by simp[e]))⟩
theorem aH{B b j:Nat}{w W:World}(h:Below B w W)(hb:B≤b)(v:Value):Below B w (W.setCell ⟨b,j,none⟩ v):=h.setCell (p:=⟨b,j,none⟩) hb v
theorem Sc.tK{w:World}{base b:Nat}{s t:Txt}{l:List Tok}(h:Sc w base b s t l)(s':Txt):Sc (w.setCell ⟨b,0,none⟩ (.string ⟨s'.toArray⟩)) base b s' t l:=by
 obtain⟨h1,v,h2,h3⟩:=h;exact⟨h1,v,heap_setCell_same w b 0 _ _ _ h2,h3.other (jr w ⟨b,0,none⟩ _) h2 (by decide) (by decide)⟩
theorem Sc.JI{w:World}{base b:Nat}{s t:Txt}{l:List Tok}(h:Sc w base b s t l)(t':Txt):Sc (w.setCell ⟨b,1,none⟩ (.string ⟨t'.toArray⟩)) base b s t' l:=by
 obtain⟨h1,v,h2,h3⟩:=h;exact⟨h1,v,heap_setCell_same w b 1 _ _ _ h2,h3.other (jr w ⟨b,1,none⟩ _) h2 (by decide) (by decide)⟩
theorem Sc.wz{w:World}{base b:Nat}{s t:Txt}{l l':List Tok}{v v':Value}(h1:base≤b)(h2:w.heap[b]?=some (.cells #[.string ⟨s.toArray⟩,.string ⟨t.toArray⟩,v] 92 (0,0)))(h3:nV w base v' l'):Sc (w.setCell ⟨b,2,none⟩ v') base b s t l':=
 ⟨h1,v',heap_setCell_same w b 2 _ _ _ h2,h3.other (jr w ⟨b,2,none⟩ _) h2 (by decide) (by decide)⟩
end Go.Proofs.YtkcmghlhpbepcaaGreatDoor
namespace Go.Proofs.YtkcmghlhpbepcaaGreatDoor
open Go.Proofs
theorem cut1_le(c:UInt8)(l:Txt):(gW c l).2.1.length≤l.length:=by
 have:=nO c l;omega
theorem CS(s:Txt):(mg s).length≤s.length:=by
 unfold mg;simp
theorem valF_le(nm s:Txt):(Aw nm s).2.1.length≤s.length:=by
 unfold Aw
 split
 ·simp
 ·rename_i q t
  split
  ·have:=cut1_le q t
   simp only[List.length_cons];omega
  ·simp only[List.length_drop]
   omega
theorem attrR_le(nm s:Txt):(sS nm s).2.1.length≤s.length:=by
 have h1:=CS s;unfold sS
 split
 ·simp
 ·rename_i c t h
  rw[h]at h1;simp only[List.length_cons]at h1
  split
  ·have h2:=valF_le nm (mg t)
   have h3:=CS t;omega
  ·simp
theorem yY(c:UInt8)(s:Txt):(lU (c::s)).2.1.length≤s.length:=by
 have h:=attrR_le (iZ ((c::s).take (qB (c::s)))) ((c::s).drop (qB (c::s)));have:1≤qB (c::s):=by unfold qB;omega
 unfold lU;simp only[List.length_drop,List.length_cons]at h;omega
theorem EF:∀(n m:Nat) (acc:List (Txt×Txt)) (s:Txt),s.length<n→s.length<m→lS n acc s=lS m acc s
 |0,_,_,_,h,_=>absurd h (Nat.not_lt_zero _)
 |_,0,_,_,_,h=>absurd h (Nat.not_lt_zero _)
 |n+1,m+1,acc,s,hn,hm=>by
  unfold lS;cases h:s.drop (rC s)with
  |nil=>rfl
  |cons c s1=>
   have h1:s1.length<s.length:=by
    have:=congrArg List.length h;simp at this;omega
   have h2:=yY c s1;simp only
   split
   ·rfl
   ·split
    ·exact EF n m _ _ (by omega) (by omega)
    ·rfl
theorem zN(acc:List (Txt×Txt))(s:Txt):kR acc s=match s.drop (rC s)with
 | []=>none
 |c::s1=>if c=62 then some (acc,wU s,s1)else if(lU (c::s1)).2.2 then kR (z8 acc (lU (c::s1)).1) (lU (c::s1)).2.1 else none:=by
 unfold kR;rw[lS];cases h:s.drop (rC s)with
 |nil=>rfl
 |cons c s1=>
  have h1:s1.length<s.length:=by
   have:=congrArg List.length h;simp at this;omega
  have h2:=yY c s1;simp only
  split
  ·rfl
  ·split
   ·exact EF _ _ _ _ (by omega) (by omega)
   ·rfl
theorem JO:∀(n:Nat) (acc:List (Txt×Txt)) (s:Txt) r,lS n acc s=some r→r.2.2.length≤s.length
 |0,_,_,_,h=>by simp[lS]at h
 |n+1,acc,s,r,h=>by
  unfold lS at h;cases hd:s.drop (rC s)with
  |nil=>rw[hd]at h;simp at h
  |cons c s1=>
   rw[hd]at h
   have h1:s1.length<s.length:=by
    have:=congrArg List.length hd;simp at this;omega
   have h2:=yY c s1;simp only at h
   split at h
   ·simp at h
    subst h;simp only;omega
   ·split at h
    ·have:=JO n _ _ r h
     omega
    ·simp at h
theorem yB{s:Txt}{r:Tok×Txt}(h:fC s=some r):r.2.length≤s.length:=by
 unfold fC at h;cases ha:kR [] (s.drop (s.findIdx bY))with
 |none=>rw[ha]at h;simp at h
 |some q=>
  rw[ha]at h;simp at h;have:=JO _ _ _ _ ha;subst h;simp only[List.length_drop]at *;omega
theorem Tg(k:Int)(s:Txt):(pq k s).2.length≤s.length:=by
 unfold pq;cases ho:fC s with
 |none=>simp
 |some r=>
  have:=yB ho;simp only
  split
  ·simpa using this
  ·split
   ·simp only[jD,List.length_drop]
    omega
   ·simpa using this
theorem cut_le(s e:Txt):(Lib.cut s e).2.1.length≤s.length:=by
 unfold Lib.cut
 split
 ·simp
 ·simp
theorem zy(k:Int)(s e:Txt):(mF k s e).2.length≤s.length:=cut_le s e
theorem Oz(s:Txt):(jk s).2.length≤s.length:=by
 unfold jk
 split
 ·simp
 ·split
  ·simp
  ·exact zy _ _ _
theorem CO{s:Txt}{r:List Tok×Txt}(h:jd s=some r):r.2.length≤s.length:=by
 unfold jd at h;have hd:∀n,(s.drop n).length≤s.length:=by simp
 have ht:s.tail.length≤s.length:=by simp
 split at h
 ·simp at h;subst h;exact Tg _ _
 ·split at h
  ·simp at h;subst h;exact Nat.le_trans (Tg _ _) ht
  ·split at h
   ·simp at h;subst h;exact hd 2
   ·split at h
    ·simp at h;subst h;exact Nat.le_trans (Oz _) (hd 3)
    ·split at h
     ·simp at h;subst h;exact Nat.le_trans (zy _ _ _) (hd 8)
     ·split at h
      ·simp at h;subst h;exact Nat.le_trans (zy _ _ _) ht
      ·split at h
       ·simp at h;subst h;exact zy _ _ _
       ·split at h
        ·simp at h;subst h;exact Nat.le_trans (zy _ _ _) ht
        ·simp at h
theorem zQ:∀(n m:Nat) (t s:Txt),s.length<n→s.length<m→runN n t s=runN m t s
 |0,_,_,_,h,_=>absurd h (Nat.not_lt_zero _)
 |_,0,_,_,_,h=>absurd h (Nat.not_lt_zero _)
 |n+1,m+1,t,s,hn,hm=>by
  unfold runN;cases h:s.drop (gT s)with
  |nil=>rfl
  |cons c s1=>
   have h1:s1.length<s.length:=by
    have:=congrArg List.length h;simp at this;omega
   simp only;cases ho:jd s1 with
   |none=>exact zQ n m _ _ (by omega) (by omega)
   |some r=>
    have:=CO ho;obtain⟨ts,r⟩:=r;simp only at *;rw[zQ n m _ _ (by omega) (by omega)]
theorem zP(t s:Txt):nZ t s=match s.drop (gT s)with
 | []=>fE (t++s.take (gT s))
 |_::s1=>
  match jd s1 with
  |none=>nZ (t++s.take (gT s)++[60]) s1
  |some (ts,r)=>fE (t++s.take (gT s))++ts++nZ [] r:=by
 unfold nZ;rw[runN];cases h:s.drop (gT s)with
 |nil=>rfl
 |cons c s1=>
  have h1:s1.length<s.length:=by
   have:=congrArg List.length h;simp at this;omega
  simp only;cases ho:jd s1 with
  |none=>exact zQ _ _ _ _ (by omega) (by omega)
  |some r=>
   have:=CO ho;obtain⟨ts,r⟩:=r;simp only at *;rw[zQ s.length (r.length+1) [] r (by omega) (by omega)]
end Go.Proofs.YtkcmghlhpbepcaaGreatDoor
