/- Lemmas and walks, part 6. -/
import Derived.Test.YtkcmghlhpbepcaaGreatDoorNB5
set_option linter.unusedVariables false
set_option linter.unusedSimpArgs false
set_option maxHeartbeats 8000000
set_option maxRecDepth 100000
namespace Go.Proofs.YtkcmghlhpbepcaaGreatDoor
open Go.RowKit Go.Proofs
theorem cut_c(l:List UInt8)(c:UInt8)(hl:l.length≤1000000000)(w:World)(hS:Std w):
 Calls Tryz.prog 188 #[.string ⟨l.toArray⟩,.string ⟨#[c]⟩] w fun e w'=>e=.returned (.tuple #[.string ⟨(gW c l).1.toArray⟩,.string ⟨(gW c l).2.1.toArray⟩,.bool (gW c l).2.2])∧Below w.heap.size w w':=by
 obtain⟨m,hm⟩:=hS.maxLen;refine(Tryz.strings_Cut ⟨l.toArray⟩ ⟨#[c]⟩ m w (by rw[Lib.size_eq];simp;omega) hm).mono ?_;rintro e w' ⟨rfl,n,rfl⟩;refine⟨?_,below_drewN (Below.refl _ _) n⟩;rw[show(⟨l.toArray⟩:ByteArray).data.toList=l from by simp,show(⟨#[c]⟩:ByteArray).data.toList=[c]from rfl,cut_eq]
theorem kr(l p:List UInt8)(w:World):
 Calls Tryz.prog 94 #[.string ⟨l.toArray⟩,.string ⟨p.toArray⟩] w fun e w'=>e=.returned (.bool (Lib.hasPrefix l p))∧w=w':=by
 refine(Tryz.strings_HasPrefix ⟨l.toArray⟩ ⟨p.toArray⟩ w).mono ?_;rintro e w' ⟨rfl,rfl⟩;exact⟨rfl,rfl⟩
theorem LQ(l:List UInt8)(w:World):
 Calls Tryz.prog 210 #[.string ⟨l.toArray⟩] w fun e w'=>e=.returned (.int .i64 (yP l))∧Below w.heap.size w w':=by
 go_enter Tryz.func210,Tryz.ntmps210
 go_wp2_with(go_at_call 94;refine(kr _ _ _).mono ?_;rintro e w' ⟨rfl,rfl⟩)
 all_goals go_ret
 all_goals(refine⟨ret_i64 ?_,Below.refl _ _⟩;simp_all[yP])
theorem drop_le(l:List UInt8)(n:Nat):(l.drop n).length≤l.length:=by simp
theorem pK{l p:List UInt8}(h:Lib.hasPrefix l p=true):p.length≤l.length:=(List.isPrefixOf_iff_prefix.1 h).length_le
theorem M5(base:Nat)(hb:base=10∨base=16)(l:List UInt8)(hl:l.length≤1000000000)(w:World)(hS:Std w):
 Calls Tryz.prog 211 #[.string ⟨l.toArray⟩,.int .i64 base] w fun e w'=>e=.returned (.tuple #[.string ⟨(l5 base l).1.toArray⟩,.bool (l5 base l).2])∧Below w.heap.size w w':=by
 have h:=coded_c base hb ⟨l.toArray⟩ (by rw[Lib.size_eq];simpa using hl) w hS
 rwa [Lib.toList_data,show(⟨l.toArray⟩:ByteArray).data.toList=l from by simp]at h
theorem named_l(l:List UInt8)(w:World):
 Calls Tryz.prog 212 #[.string ⟨l.toArray⟩] w fun e w'=>e=.returned (.tuple #[.string ⟨(wW l).1.toArray⟩,.bool (wW l).2])∧w=w':=by
 have h:=named_c ⟨l.toArray⟩ w
 rwa [Lib.toList_data,show(⟨l.toArray⟩:ByteArray).data.toList=l from by simp]at h
theorem coded_10(l:List UInt8)(hl:l.length≤1000000000)(w:World)(hS:Std w):
 Calls Tryz.prog 211 #[.string ⟨l.toArray⟩,.int .i64 10] w fun e w'=>e=.returned (.tuple #[.string ⟨(l5 10 l).1.toArray⟩,.bool (l5 10 l).2])∧Below w.heap.size w w':=M5 10 (.inl rfl) l hl w hS
theorem coded_16(l:List UInt8)(hl:l.length≤1000000000)(w:World)(hS:Std w):
 Calls Tryz.prog 211 #[.string ⟨l.toArray⟩,.int .i64 16] w fun e w'=>e=.returned (.tuple #[.string ⟨(l5 16 l).1.toArray⟩,.bool (l5 16 l).2])∧Below w.heap.size w w':=M5 16 (.inr rfl) l hl w hS
theorem meant_c(l:List UInt8)(hl:l.length≤1000000000)(w:World)(hS:Std w):
 Calls Tryz.prog 189 #[.string ⟨l.toArray⟩] w fun e w'=>e=.returned (.tuple #[.string ⟨(jG l).1.toArray⟩,.bool (jG l).2])∧Below w.heap.size w w':=by
 by_cases h2:yP l=2
 ·have e1:=Lib.hid (show jG l=l5 16 (l.drop 2) by unfold jG;rw[if_pos h2])
  have hk:=Lib.hid (LQ l w);rw[h2]at hk
  have hlen:2≤l.length:=by
   unfold yP at h2
   split at h2
   ·rename_i h
    rw[Bool.or_eq_true]at h
    rcases h with h|h<;>exact pK h
   ·split at h2<;>cases h2
  clear h2;have hc:=Lib.hid (fun W hS=>coded_16 (l.drop 2) (Nat.le_trans (drop_le l 2) hl) W hS);go_enter Tryz.func189,Tryz.ntmps189
  go_wp2_with(first
   |(go_at_call 210;((with_reducible refine hk.out.mono ?_);rintro e w1 ⟨rfl,hb1⟩))
   |(go_at_call 211;((with_reducible refine(hc.out _ (hS.below hb1)).mono ?_);rintro e w2 ⟨rfl,hb2⟩)))
  go_ret2
  exact⟨by rw[e1.out];rfl,oP hb1 hb2⟩
 ·by_cases h1:yP l=1
  ·have e1:=Lib.hid (show jG l=l5 10 l.tail by unfold jG;rw[if_neg h2,if_pos h1])
   have hk:=Lib.hid (LQ l w);rw[h1]at hk
   have hlen:1≤l.length:=by
    unfold yP at h1
    split at h1
    ·cases h1
    ·split at h1
     ·rename_i h
      exact pK h
     ·cases h1
   clear h2 h1;have hc:=Lib.hid (fun W hS=>coded_10 l.tail (by have:=List.length_tail (l:=l);omega) W hS);go_enter Tryz.func189,Tryz.ntmps189
   go_wp2_with(first
    |(go_at_call 210;((with_reducible refine hk.out.mono ?_);rintro e w1 ⟨rfl,hb1⟩))
    |(go_at_call 211;((with_reducible refine(hc.out _ (hS.below hb1)).mono ?_);rintro e w2 ⟨rfl,hb2⟩)))
   go_ret2
   exact⟨by rw[e1.out];rfl,oP hb1 hb2⟩
  ·have e1:=Lib.hid (show jG l=wW l by unfold jG;rw[if_neg h2,if_neg h1])
   have hk:=Lib.hid (LQ l w)
   have h0:yP l=0:=by
    unfold yP at h2 h1⊢
    repeat' split
    all_goals simp_all
   rw[h0]at hk;clear h2 h1 h0;go_enter Tryz.func189,Tryz.ntmps189
   go_wp2_with(first
    |(go_at_call 210;((with_reducible refine hk.out.mono ?_);rintro e w1 ⟨rfl,hb1⟩))
    |(go_at_call 212;((with_reducible refine(named_l _ _).mono ?_);rintro e w2 ⟨rfl,rfl⟩)))
   go_ret2
   exact⟨by rw[e1.out];rfl,hb1⟩
theorem Qd(l:List UInt8):Lib.strCells ⟨l.toArray⟩=Lib.byteCells l:=by
 unfold Lib.strCells Lib.byteCells;simp
theorem uN(B b:Nat)(acc l:List UInt8)(w:World)(h:Lib.IsBuilderF 106 5 B b (Lib.byteCells acc) w)(hlen:acc.length+l.length≤140737488355328)(hBw:B≤w.heap.size):
 Calls Tryz.prog 135 #[.pointer (some ⟨b,0,none⟩),.string ⟨l.toArray⟩] w fun e w'=>e=.returned (.tuple #[.int .i64 l.length,.nilIface])∧(Lib.IsBuilderF 106 5 B b (Lib.byteCells (acc++l)) w'∧Below B w w'∧Lib.OthersKept 5 (some b) w w'):=by
 refine(Fy B b _ ⟨l.toArray⟩ w h (by rw[Lib.byteCells_length,qy];exact hlen) hBw).mono ?_;rintro e w' ⟨rfl,h1,h2,h3⟩;rw[qy];rw[Qd,←Lib.byteCells_append]at h1;exact⟨rfl,h1,h2,h3⟩
theorem l6{w w1:World}(h:Below w.heap.size w w1)(row:Option Nat):w.grownBy w1 row:=⟨h.os,h.tape,h.output,h.size,fun i hi _=>h.block i hi⟩
theorem tJ{T e:TypeId}{B b:Nat}{bs:List Value}{w w1:World}(h:Lib.IsBuilderF T e B b bs w)(hb:Below w.heap.size w w1):Lib.IsBuilderF T e B b bs w1:=by
 have key:∀p,Lib.BuilderAtF T e B b p bs w→Lib.BuilderAtF T e B b p bs w1:=by
  intro p hp;have hlt:=hp.lt;obtain⟨hB,v,hv,hown,hne⟩:=hp;exact⟨hB,v,(hb.block b hlt).trans hv,hown.kept (l6 hb none) (by cases hv:v.ownBlock<;>simp),hne⟩
 exact h.elim (fun x=>.inl (key _ x)) (fun x=>.inr (key _ x))
def DJ:Value→Nat| .string s=>s.size|_=>0
theorem lG(l:List UInt8):DJ (.string ⟨l.toArray⟩)=l.length:=qy l
theorem CW(B:Nat)(w:World)(h:B≤w.heap.size):Lib.IsBuilderF 106 5 B w.heap.size (Lib.byteCells []) (w.alloc (.cells #[.pointer none,.slice none 0 0] 106)):=by
 refine .inl ⟨h,.slice none 0 0,?_,World.ownsRowF_nil _ _ _ _,by simp[Value.ownBlock]⟩;show(w.heap.push _)[w.heap.size]?=_;simp
def DecRel(l:List UInt8)(w:World)(v:Value)(wr:World):Prop:=
 ∃(rest acc:List UInt8),v=.string ⟨rest.toArray⟩∧Lib.IsBuilderF 106 5 w.heap.size w.heap.size (Lib.byteCells acc) wr∧Below w.heap.size w wr∧w.heap.size<wr.heap.size∧iQ l=acc++iQ rest∧rest.length≤l.length∧acc.length+5 * rest.length≤5 * l.length
theorem tC(l:List UInt8)(hl:l.length≤1000000000)(w:World)(hS:Std w):
 Calls Tryz.prog 155 #[.string ⟨l.toArray⟩] w fun e w'=>e=.returned (.string ⟨(iQ l).toArray⟩)∧Below w.heap.size w w':=by
 go_enter Tryz.func155,Tryz.ntmps155;go_wp2
 go_loopw [0] (fun v wr=>DecRel l w v wr) (fun v wr=>DJ v)
 case atStart=>
  exact⟨l,[],rfl,CW _ _ (Nat.le_refl _),(Below.refl _ w).alloc (Nat.le_refl _) _,by simp,rfl,Nat.le_refl _,by simp⟩
 case round=>
  obtain⟨rest,acc,rfl,hI,hbw,hsz,hdec,hr1,hr2⟩:=hrel;have hSr:=hS.below hbw;have hcl:=qP 38 rest;have hcut:=Lib.hid (cut_c rest 38 (by omega) wr hSr);cases hf:(gW 38 rest).2.2 with
  |false=>
   rw[hf]at hcut;have hd:=Lib.hid (hdec.trans (by rw[Qf hf]));clear hdec hf;have hcl1:(gW 38 rest).1.length≤rest.length:=by omega
   clear hcl;generalize (gW 38 rest).1=before at *;generalize (gW 38 rest).2.1=after at *
   go_wp2_with(go_at_call 188;((with_reducible refine hcut.out.mono ?_);rintro e w1 ⟨rfl,hb1⟩))
   have hI1:=tJ hI hb1;have hz1:=hb1.size
   go_wp2_with(go_at_call 135;((with_reducible refine(uN _ _ acc before _ hI1 (by omega) (by omega)).mono ?_);rintro e w2 ⟨rfl,hI2,hb2,_⟩))
   have hz2:=hb2.size
   go_wp2_with(go_at_call 138;((with_reducible refine(Tryz.Builder_String_any_k _ _ _ _ hI2 (by omega)).mono ?_);rintro e w3 ⟨rfl,_,hb3,_⟩))
   go_wp2;go_ret;rw[hd.out];exact⟨rfl,((bD hbw (by omega) hb1).trans hb2).trans hb3⟩
  |true=>
   rw[hf]at hcut;have hd:=hdec.trans (by rw[decL_hit hf]);clear hdec;rw[if_pos hf]at hcl;clear hf;generalize (gW 38 rest).1=before at *;generalize (gW 38 rest).2.1=r2 at *;have hml:=LU (gW 59 r2).1;have hcut2:=Lib.hid (fun W hS=>cut_c r2 59 (by omega) W hS);have hm:=Lib.hid (fun W hS=>meant_c (gW 59 r2).1 (by have:=qP 59 r2;omega) W hS);have hlen2:=qP 59 r2;have hd1:=Lib.hid (fun h1 h2=>hd.trans (by rw[JC h1 h2]));have hd2:=Lib.hid (fun h=>hd.trans (by rw[decL_amp h]));clear hd;generalize (gW 59 r2).2.2=ends at *;generalize (gW 59 r2).1=name at *;generalize (gW 59 r2).2.1=after at *;generalize (jG name).2=is at *;generalize (jG name).1=t at *;cases ends<;>cases is
   all_goals
    go_wp2_with(go_at_call 188;((with_reducible refine hcut.out.mono ?_);rintro e w1 ⟨rfl,hb1⟩))
    have hI1:=tJ hI hb1;have hz1:=hb1.size
    go_wp2_with(go_at_call 135;((with_reducible refine(uN _ _ acc before _ hI1 (by omega) (by omega)).mono ?_);rintro e w2 ⟨rfl,hI2,hb2,_⟩))
    have hz2:=hb2.size;have hbw2:=(bD hbw (by omega) hb1).trans hb2;have hS2:=hS.below hbw2
    go_wp2_with(go_at_call 188;((with_reducible refine(hcut2.out _ hS2).mono ?_);rintro e w3 ⟨rfl,hb3⟩))
    have hS3:=hS2.below hb3;have hI3:=tJ hI2 hb3;have hz3:=hb3.size
    go_wp2_with(go_at_call 189;((with_reducible refine(hm.out _ hS3).mono ?_);rintro e w4 ⟨rfl,hb4⟩))
    have hI4:=tJ hI3 hb4;have hz4:=hb4.size;have hbw4:=bD (bD hbw2 (by omega) hb3) (by omega) hb4
    first
     |(have hd:Hid (iQ l=acc++(before++38::iQ r2)):=by first|exact hd2.out rfl|exact hd2.out trivial|exact hd2.out
       go_wp2_with(go_at_call 135;((with_reducible refine(uN _ _ _ [38] _ hI4 (by simp;omega) (by omega)).mono ?_);rintro e w5 ⟨rfl,hI5,hb5,_⟩))
       go_wp2
       go_roundw
       case rel=>exact⟨r2,acc++before++[38],rfl,hI5,hbw4.trans hb5,by have:=hb5.size;omega,by rw[hd.out];simp,by omega,by simp;omega⟩
       case measure=>rw[lG,lG];omega)
     |(have hd:Hid (iQ l=acc++(before++(t++iQ after))):=by first|exact hd1.out rfl rfl|exact hd1.out trivial trivial|exact hd1.out
       go_wp2_with(go_at_call 135;((with_reducible refine(uN _ _ _ t _ hI4 (by simp;omega) (by omega)).mono ?_);rintro e w5 ⟨rfl,hI5,hb5,_⟩))
       go_wp2
       go_roundw
       case rel=>exact⟨after,acc++before++t,rfl,hI5,hbw4.trans hb5,by have:=hb5.size;omega,by rw[hd.out];simp,by simp at hlen2;omega,by simp at hlen2⊢;omega⟩
       case measure=>rw[lG,lG];simp at hlen2;omega)
def om(q:Bool)(c:UInt8):List UInt8:=
 if c=38 then [38,97,109,112,59]else if c=60 then [38,108,116,59]else if c=62 then [38,103,116,59]else if c=34∧q=true then [38,113,117,111,116,59]else [c]
def wrL(q:Bool):List UInt8→List UInt8
 | []=>[]
 | [c]=>om q c
 |c::d::l=>if c=194∧d=160 then [38,110,98,115,112,59]++wrL q l else om q c++wrL q (d::l)
def uL(l:List UInt8):Bool:=Lib.hasPrefix l [194,160]
theorem E5{q:Bool}{l:List UInt8}(h:uL l=true):wrL q l=[38,110,98,115,112,59]++wrL q (l.drop 2):=by
 obtain⟨r,rfl⟩:=List.isPrefixOf_iff_prefix.1 h;simp[wrL]
theorem AV{q:Bool}{c:UInt8}{l:List UInt8}(h:uL (c::l)=false):wrL q (c::l)=om q c++wrL q l:=by
 cases l with
 |nil=>simp[wrL]
 |cons d l=>
  rw[wrL,if_neg];rintro⟨rfl,rfl⟩;simp[uL,Lib.hasPrefix]at h
theorem zK{c:UInt8}{n:Nat}(h:c.toNat=n)(hn:n<256):c=UInt8.ofNat n:=by
 apply UInt8.toNat_inj.1;rw[h];simp[Nat.mod_eq_of_lt hn]
theorem esc38{q:Bool}{c:UInt8}(h:c.toNat=38):om q c=[38,97,109,112,59]:=by rw[zK h (by omega)];rfl
theorem esc60{q:Bool}{c:UInt8}(h:c.toNat=60):om q c=[38,108,116,59]:=by rw[zK h (by omega)];rfl
theorem esc62{q:Bool}{c:UInt8}(h:c.toNat=62):om q c=[38,103,116,59]:=by rw[zK h (by omega)];rfl
theorem esc34{c:UInt8}(h:c.toNat=34):om true c=[38,113,117,111,116,59]:=by rw[zK h (by omega)];rfl
theorem escNo{q:Bool}{c:UInt8}(h1:c.toNat≠38)(h2:c.toNat≠60)(h3:c.toNat≠62)(h4:¬(c.toNat=34∧q=true)):om q c=[c]:=by
 unfold om;rw[if_neg (fun e=>h1 (by rw[e];rfl)),if_neg (fun e=>h2 (by rw[e];rfl)),if_neg (fun e=>h3 (by rw[e];rfl)),if_neg (fun e=>h4 ⟨by rw[e.1];rfl,e.2⟩)]
theorem wI{q:Bool}{l acc:List UInt8}{k:Nat}{c:UInt8}(hk:k<l.length)(hc:l[k]=c)(hdec:wrL q l=acc++wrL q (l.drop k))(h:uL (l.drop k)=false){e:List UInt8}(he:om q c=e):wrL q l=(acc++e)++wrL q (l.drop (k+1)):=by
 have hd:l.drop k=c::l.drop (k+1):=by rw[←hc];exact List.drop_eq_getElem_cons hk
 rw[hd]at h hdec;rw[hdec,AV h,he,List.append_assoc]
theorem pV{l:List UInt8}{k:Nat}{c:UInt8}(hk:k<l.length)(hc:l[k]=c)(h:c.toNat≠194):uL (l.drop k)=false:=by
 have hd:l.drop k=c::l.drop (k+1):=by rw[←hc];exact List.drop_eq_getElem_cons hk
 rw[hd];have:(194:UInt8)≠c:=fun e=>h (by rw[←e];rfl)
 simp[uL,Lib.hasPrefix,List.isPrefixOf,this]
theorem P7{q:Bool}{l acc:List UInt8}{k:Nat}(hdec:wrL q l=acc++wrL q (l.drop k))(h:uL (l.drop k)=true):wrL q l=(acc++[38,110,98,115,112,59])++wrL q (l.drop (k+1+1)):=by
 rw[hdec,E5 h,List.drop_drop,List.append_assoc]
theorem LH{l:List UInt8}{k:Nat}(h:uL (l.drop k)=true):k+2≤l.length:=by
 have:=pK h;simp at this;omega
theorem MX(B b:Nat)(acc:List UInt8)(c:UInt8)(w:World)(h:Lib.IsBuilderF 106 5 B b (Lib.byteCells acc) w)(hlen:acc.length+1≤140737488355328)(hBw:B≤w.heap.size):
 Calls Tryz.prog 202 #[.pointer (some ⟨b,0,none⟩),.int .u8 c.toNat] w fun e w'=>e=.returned .nilIface∧(Lib.IsBuilderF 106 5 B b (Lib.byteCells (acc++[c])) w'∧Below B w w'∧Lib.OthersKept 5 (some b) w w'):=by
 refine(JE B b _ c.toNat w h (by rw[Lib.byteCells_length];exact hlen) hBw).mono ?_;rintro e w' ⟨rfl,h1,h2,h3⟩;exact⟨rfl,by rw[Lib.byteCells_append];exact h1,h2,h3⟩
theorem esc34f{c:UInt8}(h:c.toNat=34):om false c=[34]:=by rw[zK h (by omega)];rfl
theorem P8(B b:Nat)(acc:List UInt8)(w:World)(h:Lib.IsBuilderF 106 5 B b (Lib.byteCells acc) w)(hlen:acc.length+1≤140737488355328)(hBw:B≤w.heap.size):
 Calls Tryz.prog 202 #[.pointer (some ⟨b,0,none⟩),.int .u8 34] w fun e w'=>e=.returned .nilIface∧(Lib.IsBuilderF 106 5 B b (Lib.byteCells (acc++[34])) w'∧Below B w w'∧Lib.OthersKept 5 (some b) w w'):=MX B b acc 34 w h hlen hBw
theorem FI(l:List UInt8)(hl:l.length≤1000000000)(w:World):
 Calls Tryz.prog 175 #[.string ⟨l.toArray⟩,.bool false] w fun e w'=>e=.returned (.string ⟨(wrL false l).toArray⟩)∧Below w.heap.size w w':=by
 go_enter Tryz.func175,Tryz.ntmps175;go_wp2
 go_loopw [6] (fun v wr=>∃(k:Nat) (acc:List UInt8),v=.int .i64 k∧k≤l.length∧Lib.IsBuilderF 106 5 w.heap.size w.heap.size (Lib.byteCells acc) wr∧Below w.heap.size w wr∧w.heap.size<wr.heap.size∧Hid (wrL false l=acc++wrL false (l.drop k))∧acc.length≤6 * k) (fun v _=>l.length - (intOf v).toNat)
 case atStart=>
  exact⟨0,[],rfl,by omega,CW _ _ (Nat.le_refl _),(Below.refl _ w).alloc (Nat.le_refl _) _,by simp,rfl,by simp⟩
 case round=>
  obtain⟨k,acc,rfl,hk,hI,hbw,hsz,hdec,hal⟩:=hrel
  by_cases hlt:k<l.length
  ·obtain⟨c,hc⟩:∃c,l[k]=c:=⟨_,rfl⟩
   have hc':=Lib.hid hc;have hhl:=Lib.hid (@LH l k)
   go_wp2_with(first
    |(go_at_call 94;((with_reducible refine(kr _ _ _).mono ?_);rintro e w1 ⟨rfl,rfl⟩))
    |(go_at_call 135;((with_reducible refine(uN _ _ acc _ _ hI (by simp;omega) (by omega)).mono ?_);rintro e w5 ⟨rfl,hI5,hb5,_⟩))
    |(go_at_call 202;((with_reducible refine(MX _ _ acc c _ hI (by omega) (by omega)).mono ?_);rintro e w5 ⟨rfl,hI5,hb5,_⟩))
    |(go_at_call 202;((with_reducible refine(P8 _ _ acc _ hI (by omega) (by omega)).mono ?_);rintro e w5 ⟨rfl,hI5,hb5,_⟩)))
   all_goals(simp only[beq_iff_eq,beq_eq_false_iff_ne,ne_eq]at *)
   all_goals first
    |(refine⟨⟨k+1,acc++_,rfl,by omega,hI5,hbw.trans hb5,by have:=hb5.size;omega,wI hlt hc'.out hdec.out (pV hlt hc'.out (by omega)) (esc38 (by omega)),by simp;omega⟩,by simp[intOf];omega⟩)
    |(refine⟨⟨k+1,acc++_,rfl,by omega,hI5,hbw.trans hb5,by have:=hb5.size;omega,wI hlt hc'.out hdec.out (pV hlt hc'.out (by omega)) (esc60 (by omega)),by simp;omega⟩,by simp[intOf];omega⟩)
    |(refine⟨⟨k+1,acc++_,rfl,by omega,hI5,hbw.trans hb5,by have:=hb5.size;omega,wI hlt hc'.out hdec.out (pV hlt hc'.out (by omega)) (esc62 (by omega)),by simp;omega⟩,by simp[intOf];omega⟩)
    |(refine⟨⟨k+1,acc++_,rfl,by omega,hI5,hbw.trans hb5,by have:=hb5.size;omega,wI hlt hc'.out hdec.out (pV hlt hc'.out (by omega)) (esc34 (by omega)),by simp;omega⟩,by simp[intOf];omega⟩)
    |(refine⟨⟨k+1,acc++_,rfl,by omega,hI5,hbw.trans hb5,by have:=hb5.size;omega,wI hlt hc'.out hdec.out (pV hlt hc'.out (by omega)) (esc34f (by omega)),by simp;omega⟩,by simp[intOf];omega⟩)
    |(refine⟨⟨k+1,acc++_,rfl,by omega,hI5,hbw.trans hb5,by have:=hb5.size;omega,wI hlt hc'.out hdec.out (by assumption) (escNo (by omega) (by omega) (by omega) (by simp;try omega)),by simp;omega⟩,by simp[intOf];omega⟩)
    |(have h2:=hhl.out (by assumption);refine⟨⟨k+1+1,acc++_,by first|rfl|(congr 1;omega),by omega,hI5,hbw.trans hb5,by have:=hb5.size;omega,P7 hdec.out (by assumption),by simp;omega⟩,by simp[intOf];omega⟩)
    |skip
  ·have hd:wrL false l=acc:=by
    rw[hdec.out,List.drop_eq_nil_of_le (by omega)];simp[wrL]
   have hd:=Lib.hid hd;rename_i hd0;clear hd0
   go_wp2_with(go_at_call 138;((with_reducible refine(Tryz.Builder_String_any_k _ _ _ _ hI (by omega)).mono ?_);rintro e w3 ⟨rfl,_,hb3,_⟩))
   go_ret;rw[hd.out];exact⟨rfl,hbw.trans hb3⟩
theorem LV(l:List UInt8)(hl:l.length≤1000000000)(w:World):
 Calls Tryz.prog 136 #[.string ⟨l.toArray⟩] w fun e w'=>e=.returned (.string ⟨(wrL false l).toArray⟩)∧Below w.heap.size w w':=by
 go_enter Tryz.func136,Tryz.ntmps136
 go_wp2_with(go_at_call 175;((with_reducible refine(FI l hl _).mono ?_);rintro e w3 ⟨rfl,hb3⟩))
 go_ret;exact⟨rfl,hb3⟩
theorem Jv(l:List UInt8)(hl:l.length≤1000000000)(w:World):
 Calls Tryz.prog 175 #[.string ⟨l.toArray⟩,.bool true] w fun e w'=>e=.returned (.string ⟨(wrL true l).toArray⟩)∧Below w.heap.size w w':=by
 go_enter Tryz.func175,Tryz.ntmps175;go_wp2
 go_loopw [6] (fun v wr=>∃(k:Nat) (acc:List UInt8),v=.int .i64 k∧k≤l.length∧Lib.IsBuilderF 106 5 w.heap.size w.heap.size (Lib.byteCells acc) wr∧Below w.heap.size w wr∧w.heap.size<wr.heap.size∧Hid (wrL true l=acc++wrL true (l.drop k))∧acc.length≤6 * k) (fun v _=>l.length - (intOf v).toNat)
 case atStart=>
  exact⟨0,[],rfl,by omega,CW _ _ (Nat.le_refl _),(Below.refl _ w).alloc (Nat.le_refl _) _,by simp,rfl,by simp⟩
 case round=>
  obtain⟨k,acc,rfl,hk,hI,hbw,hsz,hdec,hal⟩:=hrel
  by_cases hlt:k<l.length
  ·obtain⟨c,hc⟩:∃c,l[k]=c:=⟨_,rfl⟩
   have hc':=Lib.hid hc;have hhl:=Lib.hid (@LH l k)
   go_wp2_with(first
    |(go_at_call 94;((with_reducible refine(kr _ _ _).mono ?_);rintro e w1 ⟨rfl,rfl⟩))
    |(go_at_call 135;((with_reducible refine(uN _ _ acc _ _ hI (by simp;omega) (by omega)).mono ?_);rintro e w5 ⟨rfl,hI5,hb5,_⟩))
    |(go_at_call 202;((with_reducible refine(MX _ _ acc c _ hI (by omega) (by omega)).mono ?_);rintro e w5 ⟨rfl,hI5,hb5,_⟩))
    |(go_at_call 202;((with_reducible refine(P8 _ _ acc _ hI (by omega) (by omega)).mono ?_);rintro e w5 ⟨rfl,hI5,hb5,_⟩)))
   all_goals(simp only[beq_iff_eq,beq_eq_false_iff_ne,ne_eq]at *)
   all_goals first
    |(refine⟨⟨k+1,acc++_,rfl,by omega,hI5,hbw.trans hb5,by have:=hb5.size;omega,wI hlt hc'.out hdec.out (pV hlt hc'.out (by omega)) (esc38 (by omega)),by simp;omega⟩,by simp[intOf];omega⟩)
    |(refine⟨⟨k+1,acc++_,rfl,by omega,hI5,hbw.trans hb5,by have:=hb5.size;omega,wI hlt hc'.out hdec.out (pV hlt hc'.out (by omega)) (esc60 (by omega)),by simp;omega⟩,by simp[intOf];omega⟩)
    |(refine⟨⟨k+1,acc++_,rfl,by omega,hI5,hbw.trans hb5,by have:=hb5.size;omega,wI hlt hc'.out hdec.out (pV hlt hc'.out (by omega)) (esc62 (by omega)),by simp;omega⟩,by simp[intOf];omega⟩)
    |(refine⟨⟨k+1,acc++_,rfl,by omega,hI5,hbw.trans hb5,by have:=hb5.size;omega,wI hlt hc'.out hdec.out (pV hlt hc'.out (by omega)) (esc34 (by omega)),by simp;omega⟩,by simp[intOf];omega⟩)
    |(refine⟨⟨k+1,acc++_,rfl,by omega,hI5,hbw.trans hb5,by have:=hb5.size;omega,wI hlt hc'.out hdec.out (pV hlt hc'.out (by omega)) (esc34f (by omega)),by simp;omega⟩,by simp[intOf];omega⟩)
    |(refine⟨⟨k+1,acc++_,rfl,by omega,hI5,hbw.trans hb5,by have:=hb5.size;omega,wI hlt hc'.out hdec.out (by assumption) (escNo (by omega) (by omega) (by omega) (by simp;try omega)),by simp;omega⟩,by simp[intOf];omega⟩)
    |(have h2:=hhl.out (by assumption);refine⟨⟨k+1+1,acc++_,by first|rfl|(congr 1;omega),by omega,hI5,hbw.trans hb5,by have:=hb5.size;omega,P7 hdec.out (by assumption),by simp;omega⟩,by simp[intOf];omega⟩)
    |skip
  ·have hd:wrL true l=acc:=by
    rw[hdec.out,List.drop_eq_nil_of_le (by omega)];simp[wrL]
   have hd:=Lib.hid hd;rename_i hd0;clear hd0
   go_wp2_with(go_at_call 138;((with_reducible refine(Tryz.Builder_String_any_k _ _ _ _ hI (by omega)).mono ?_);rintro e w3 ⟨rfl,_,hb3,_⟩))
   go_ret;rw[hd.out];exact⟨rfl,hbw.trans hb3⟩
theorem value_c(l:List UInt8)(hl:l.length≤1000000000)(w:World):
 Calls Tryz.prog 176 #[.string ⟨l.toArray⟩] w fun e w'=>e=.returned (.string ⟨(wrL true l).toArray⟩)∧Below w.heap.size w w':=by
 go_enter Tryz.func176,Tryz.ntmps176
 go_wp2_with(go_at_call 175;((with_reducible refine(Jv l hl _).mono ?_);rintro e w3 ⟨rfl,hb3⟩))
 go_ret;exact⟨rfl,hb3⟩
theorem bQ(w:World)(cs:Array Value)(t:TypeId):(w.alloc (.cells cs t)).heap[w.heap.size]?=some (.cells cs t (0,0)):=by
 show(w.heap.push _)[w.heap.size]?=_;simp
def rM(b n:Nat)(L:List (List UInt8))(w:World):Prop:=∀k,k<n→w.cell? ⟨b,k,none⟩=some (.string ⟨(L.getD k []).toArray⟩)
def EG(b n:Nat)(L:List Int)(w:World):Prop:=∀k,k<n→w.cell? ⟨b,k,none⟩=some (.int .i64 (L.getD k 0))
theorem rM.below{b n:Nat}{L:List (List UInt8)}{w w':World}(h:rM b n L w)(hb:Below w.heap.size w w'):rM b n L w':=fun k hk=>aV (h k hk) hb
theorem EG.below{b n:Nat}{L:List Int}{w w':World}(h:EG b n L w)(hb:Below w.heap.size w w'):EG b n L w':=fun k hk=>aV (h k hk) hb
theorem rM.of{b n:Nat}{L:List (List UInt8)}{w:World}{cs:Array Value}{t:TypeId}{fr:Nat×Nat}(h:w.heap[b]?=some (.cells cs t fr))(hc:cs.toList=L.map fun l=>Value.string ⟨l.toArray⟩)(hn:n≤L.length):rM b n L w:=by
 intro k hk;rw[Lib.cell_of_heap h,←Array.getElem?_toList,hc,List.getElem?_map,List.getElem?_eq_getElem (show k<L.length by omega)];simp[List.getD,List.getElem?_eq_getElem (show k<L.length by omega)]
theorem EG.of{b n:Nat}{L:List Int}{w:World}{cs:Array Value}{t:TypeId}{fr:Nat×Nat}(h:w.heap[b]?=some (.cells cs t fr))(hc:cs.toList=L.map fun l=>Value.int .i64 l)(hn:n≤L.length):EG b n L w:=by
 intro k hk;rw[Lib.cell_of_heap h,←Array.getElem?_toList,hc,List.getElem?_map,List.getElem?_eq_getElem (show k<L.length by omega)];simp[List.getD,List.getElem?_eq_getElem (show k<L.length by omega)]
def Bts(w:World)(base:Nat)(v:Value)(l:List UInt8):Prop:=w.ownsRow base 5 1 v l.length (Lib.byteCells l)
theorem Bts.below{w w1:World}{base:Nat}{v:Value}{l:List UInt8}(h:Bts w base v l)(hb:Below w.heap.size w w1):Bts w1 base v l:=
 World.ownsRow.kept h (l6 hb none) (by cases hv:v.ownBlock<;>simp)
theorem Bts.nil(w:World)(base:Nat):Bts w base (.slice none 0 0) []:=World.ownsRow_nil _ _ _ _
theorem Bts.new(w:World)(base:Nat)(hB:base≤w.heap.size):Bts (w.alloc (.cells #[] 5)) base (.slice (some ⟨w.heap.size,0,none⟩) 0 0) []:=
 ⟨rfl,.inr ⟨w.heap.size,0,#[],rfl,hB,bQ _ _ _,Nat.le_refl _,by unfold maxLen;omega,rfl,rfl⟩⟩
theorem oC{w:World}{base:Nat}{e:TypeId}{size n:Nat}{v:Value}{xs:List Value}(h:w.ownsRow base e size v n xs){k:Nat}(hk:v.ownBlock=some k):base≤k:=by
 rcases h.2 with⟨rfl,_⟩|⟨g,cap,cur,rfl,hb,_⟩
 ·simp[Value.ownBlock]at hk
 ·have:g=k:=by simpa [Value.ownBlock]using hk
  omega
def nA(n:Int):Bool:=n==32||n==9||n==10||n==12||n==13
def zW(n:Int):Bool:=(decide (97≤n)&&decide (n≤122))||(decide (65≤n)&&decide (n≤90))
theorem Bp(c:UInt8):nA c.toNat=dO c:=by
 have:=mo (p:=fun c=>nA c.toNat==dO c) (by decide +kernel) c;simpa using this
theorem Mc(c:UInt8):zW c.toNat=uU c:=by
 have:=mo (p:=fun c=>zW c.toNat==uU c) (by decide +kernel) c;simpa using this
theorem ow(n:Int)(w:World):
 Calls Tryz.prog 128 #[.int .u8 n] w fun e w'=>e=.returned (.bool (nA n))∧w=w':=by
 go_enter Tryz.func128,Tryz.ntmps128;go_wp2
 all_goals go_ret
 all_goals(refine⟨wU ?_,rfl⟩;simp_all[nA])
theorem JR(n:Int)(w:World):
 Calls Tryz.prog 80 #[.int .u8 n] w fun e w'=>e=.returned (.bool (zW n))∧w=w':=by
 go_enter Tryz.func80,Tryz.ntmps80;go_wp2
 all_goals go_ret
 all_goals(refine⟨wU ?_,rfl⟩;simp_all[zW];try omega)
def mH(n:Int):Bool:=nA n||n==47||n==62
def op1I(n:Int):Bool:=!nA n&&n !=47
def at1I(n:Int):Bool:=mH n||n==61
def at2I(n:Int):Bool:=!nA n
def at4I(n:Int):Bool:=nA n||n==62
def all1I(n:Int):Bool:=n==60
theorem Cj(c:UInt8):mH c.toNat=eB c:=by
 have:=mo (p:=fun c=>mH c.toNat==eB c) (by decide +kernel) c;simpa using this
theorem op1I_u8(c:UInt8):op1I c.toNat=(!dO c&&c !=47):=by
 have:=mo (p:=fun c=>op1I c.toNat==(!dO c&&c !=47)) (by decide +kernel) c;simpa using this
theorem at1I_u8(c:UInt8):at1I c.toNat=(eB c||c==61):=by
 have:=mo (p:=fun c=>at1I c.toNat==(eB c||c==61)) (by decide +kernel) c;simpa using this
theorem Pk(c:UInt8):at2I c.toNat=(!dO c):=by
 have:=mo (p:=fun c=>at2I c.toNat==(!dO c)) (by decide +kernel) c;simpa using this
theorem at4I_u8(c:UInt8):at4I c.toNat=(dO c||c==62):=by
 have:=mo (p:=fun c=>at4I c.toNat==(dO c||c==62)) (by decide +kernel) c;simpa using this
theorem all1I_u8(c:UInt8):all1I c.toNat=(c==60):=by
 have:=mo (p:=fun c=>all1I c.toNat==(c==60)) (by decide +kernel) c;simpa using this
theorem nX(n:Int)(w:World):
 Calls Tryz.prog 154 #[.int .u8 n] w fun e w'=>e=.returned (.bool (mH n))∧w=w':=by
 have hs:=Lib.hid (fun W=>ow n W);go_enter Tryz.func154,Tryz.ntmps154;cases hb:nA n<;>rw[hb]at hs
 all_goals
  go_wp2_with(go_at_call 128;((with_reducible refine(hs.out _).mono ?_);rintro e w1 ⟨rfl,rfl⟩))
  all_goals go_ret
  all_goals(refine⟨wU ?_,rfl⟩;simp_all[mH])
theorem op1_i(n:Int)(w:World):
 Calls Tryz.prog 229 #[.int .u8 n] w fun e w'=>e=.returned (.bool (op1I n))∧w=w':=by
 have hs:=Lib.hid (fun W=>ow n W);go_enter Tryz.func229,Tryz.ntmps229;cases hb:nA n<;>rw[hb]at hs
 all_goals
  go_wp2_with(go_at_call 128;((with_reducible refine(hs.out _).mono ?_);rintro e w1 ⟨rfl,rfl⟩))
  all_goals go_ret
  all_goals(refine⟨wU ?_,rfl⟩;simp_all[op1I])
theorem at1_i(n:Int)(w:World):
 Calls Tryz.prog 241 #[.int .u8 n] w fun e w'=>e=.returned (.bool (at1I n))∧w=w':=by
 have hs:=Lib.hid (fun W=>nX n W);go_enter Tryz.func241,Tryz.ntmps241;cases hb:mH n<;>rw[hb]at hs
 all_goals
  go_wp2_with(go_at_call 154;((with_reducible refine(hs.out _).mono ?_);rintro e w1 ⟨rfl,rfl⟩))
  all_goals go_ret
  all_goals(refine⟨wU ?_,rfl⟩;simp_all[at1I])
theorem at2_i(n:Int)(w:World):
 Calls Tryz.prog 242 #[.int .u8 n] w fun e w'=>e=.returned (.bool (at2I n))∧w=w':=by
 have hs:=Lib.hid (fun W=>ow n W);go_enter Tryz.func242,Tryz.ntmps242;cases hb:nA n<;>rw[hb]at hs
 all_goals
  go_wp2_with(go_at_call 128;((with_reducible refine(hs.out _).mono ?_);rintro e w1 ⟨rfl,rfl⟩))
  all_goals go_ret
  all_goals(refine⟨wU ?_,rfl⟩;simp_all[at2I])
theorem at3_i(n:Int)(w:World):
 Calls Tryz.prog 243 #[.int .u8 n] w fun e w'=>e=.returned (.bool (at2I n))∧w=w':=by
 have hs:=Lib.hid (fun W=>ow n W);go_enter Tryz.func243,Tryz.ntmps243;cases hb:nA n<;>rw[hb]at hs
 all_goals
  go_wp2_with(go_at_call 128;((with_reducible refine(hs.out _).mono ?_);rintro e w1 ⟨rfl,rfl⟩))
  all_goals go_ret
  all_goals(refine⟨wU ?_,rfl⟩;simp_all[at2I])
theorem at4_i(n:Int)(w:World):
 Calls Tryz.prog 244 #[.int .u8 n] w fun e w'=>e=.returned (.bool (at4I n))∧w=w':=by
 have hs:=Lib.hid (fun W=>ow n W);go_enter Tryz.func244,Tryz.ntmps244;cases hb:nA n<;>rw[hb]at hs
 all_goals
  go_wp2_with(go_at_call 128;((with_reducible refine(hs.out _).mono ?_);rintro e w1 ⟨rfl,rfl⟩))
  all_goals go_ret
  all_goals(refine⟨wU ?_,rfl⟩;simp_all[at4I])
theorem all1_i(n:Int)(w:World):
 Calls Tryz.prog 157 #[.int .u8 n] w fun e w'=>e=.returned (.bool (all1I n))∧w=w':=by
 go_enter Tryz.func157,Tryz.ntmps157;go_wp2;go_ret;exact⟨rfl,rfl⟩
theorem EF{p:UInt8→Bool}{l:Txt}{k:Nat}(hk:k<l.length)(hno:∀j (hj:j<l.length),j<k→p l[j]=false)(hp:p l[k]=true):l.findIdx p=k:=by
 rw[List.findIdx_eq hk];exact⟨hp,fun j hj=>hno j (by omega) hj⟩
theorem zw{p:UInt8→Bool}{l:Txt}(hno:∀j (hj:j<l.length),p l[j]=false):l.findIdx p=l.length:=by
 rw[List.findIdx_eq_length];intro x hx;obtain⟨j,hj,rfl⟩:=List.getElem_of_mem hx;exact hno j hj
theorem GJ(l:Txt)(hl:l.length≤1000000000)(w:World):
 Calls Tryz.prog 156 #[.string ⟨l.toArray⟩,.func (.func 154) #[] #[]] w fun e w'=>e=.returned (.int .i64 (l.findIdx eB:Nat))∧w=w':=by
 go_enter Tryz.func156,Tryz.ntmps156;go_wp2
 go_loop [5,8] (fun _ v=>∃(k:Nat),v=.int .i64 k∧k≤l.length∧Hid (∀j (hj:j<l.length),j<k→eB l[j]=false)) (fun _ v=>l.length - (intOf v).toNat)
 case atStart=>exact⟨0,rfl,by omega,fun j _ h=>by omega⟩
 case round=>
  obtain⟨k,rfl,hk,hno⟩:=hrel
  by_cases hlt:k<l.length
  ·obtain⟨n,hn⟩:∃n,(l[k].toNat:Int)=n:=⟨_,rfl⟩
   have hu:=Cj l[k];rw[hn]at hu;have hc:=Lib.hid (fun W=>nX n W);cases hb:mH n with
   |true=>
    have hf:=Lib.hid (EF (p:=eB) hlt hno.out (hu.symm.trans hb));rw[hb]at hc;clear hu hb
    go_wp2_with(go_at_call 154;((with_reducible refine(hc.out _).mono ?_);rintro e w1 ⟨rfl,rfl⟩))
    go_ret;rw[hf.out];exact⟨rfl,rfl⟩
   |false=>
    have nQ:=Lib.hid (show∀j (hj:j<l.length),j<k+1→eB l[j]=false by
     intro j hj hjk
     by_cases e:j=k
     ·subst e;exact hu.symm.trans hb
     ·exact hno.out j hj (by omega))
    rw[hb]at hc;clear hu hb hno
    go_wp2_with(go_at_call 154;((with_reducible refine(hc.out _).mono ?_);rintro e w1 ⟨rfl,rfl⟩))
    refine⟨⟨k+1,rfl,by omega,nQ⟩,by simp[intOf];omega⟩
  ·have hf:=Lib.hid (zw (p:=eB) (l:=l) fun j hj=>hno.out j hj (by omega))
   go_wp2;go_ret;rw[hf.out];exact⟨rfl,rfl⟩
theorem span_op1(l:Txt)(hl:l.length≤1000000000)(w:World):
 Calls Tryz.prog 156 #[.string ⟨l.toArray⟩,.func (.func 229) #[] #[]] w fun e w'=>e=.returned (.int .i64 (l.findIdx (fun c=>!dO c&&c !=47):Nat))∧w=w':=by
 go_enter Tryz.func156,Tryz.ntmps156;go_wp2
 go_loop [5,8] (fun _ v=>∃(k:Nat),v=.int .i64 k∧k≤l.length∧Hid (∀j (hj:j<l.length),j<k→(fun c=>!dO c&&c !=47) l[j]=false)) (fun _ v=>l.length - (intOf v).toNat)
 case atStart=>exact⟨0,rfl,by omega,fun j _ h=>by omega⟩
 case round=>
  obtain⟨k,rfl,hk,hno⟩:=hrel
  by_cases hlt:k<l.length
  ·obtain⟨n,hn⟩:∃n,(l[k].toNat:Int)=n:=⟨_,rfl⟩
   have hu:=op1I_u8 l[k];rw[hn]at hu;have hc:=Lib.hid (fun W=>op1_i n W);cases hb:op1I n with
   |true=>
    have hf:=Lib.hid (EF (p:=(fun c=>!dO c&&c !=47)) hlt hno.out (hu.symm.trans hb));rw[hb]at hc;clear hu hb
    go_wp2_with(go_at_call 229;((with_reducible refine(hc.out _).mono ?_);rintro e w1 ⟨rfl,rfl⟩))
    go_ret;rw[hf.out];exact⟨rfl,rfl⟩
   |false=>
    have nQ:=Lib.hid (show∀j (hj:j<l.length),j<k+1→(fun c=>!dO c&&c !=47) l[j]=false by
     intro j hj hjk
     by_cases e:j=k
     ·subst e;exact hu.symm.trans hb
     ·exact hno.out j hj (by omega))
    rw[hb]at hc;clear hu hb hno
    go_wp2_with(go_at_call 229;((with_reducible refine(hc.out _).mono ?_);rintro e w1 ⟨rfl,rfl⟩))
    refine⟨⟨k+1,rfl,by omega,nQ⟩,by simp[intOf];omega⟩
  ·have hf:=Lib.hid (zw (p:=(fun c=>!dO c&&c !=47)) (l:=l) fun j hj=>hno.out j hj (by omega))
   go_wp2;go_ret;rw[hf.out];exact⟨rfl,rfl⟩
theorem qN(l:Txt)(hl:l.length≤1000000000)(w:World):
 Calls Tryz.prog 156 #[.string ⟨l.toArray⟩,.func (.func 241) #[] #[]] w fun e w'=>e=.returned (.int .i64 (l.findIdx (fun c=>eB c||c==61):Nat))∧w=w':=by
 go_enter Tryz.func156,Tryz.ntmps156;go_wp2
 go_loop [5,8] (fun _ v=>∃(k:Nat),v=.int .i64 k∧k≤l.length∧Hid (∀j (hj:j<l.length),j<k→(fun c=>eB c||c==61) l[j]=false)) (fun _ v=>l.length - (intOf v).toNat)
 case atStart=>exact⟨0,rfl,by omega,fun j _ h=>by omega⟩
 case round=>
  obtain⟨k,rfl,hk,hno⟩:=hrel
  by_cases hlt:k<l.length
  ·obtain⟨n,hn⟩:∃n,(l[k].toNat:Int)=n:=⟨_,rfl⟩
   have hu:=at1I_u8 l[k];rw[hn]at hu;have hc:=Lib.hid (fun W=>at1_i n W);cases hb:at1I n with
   |true=>
    have hf:=Lib.hid (EF (p:=(fun c=>eB c||c==61)) hlt hno.out (hu.symm.trans hb));rw[hb]at hc;clear hu hb
    go_wp2_with(go_at_call 241;((with_reducible refine(hc.out _).mono ?_);rintro e w1 ⟨rfl,rfl⟩))
    go_ret;rw[hf.out];exact⟨rfl,rfl⟩
   |false=>
    have nQ:=Lib.hid (show∀j (hj:j<l.length),j<k+1→(fun c=>eB c||c==61) l[j]=false by
     intro j hj hjk
     by_cases e:j=k
     ·subst e;exact hu.symm.trans hb
     ·exact hno.out j hj (by omega))
    rw[hb]at hc;clear hu hb hno
    go_wp2_with(go_at_call 241;((with_reducible refine(hc.out _).mono ?_);rintro e w1 ⟨rfl,rfl⟩))
    refine⟨⟨k+1,rfl,by omega,nQ⟩,by simp[intOf];omega⟩
  ·have hf:=Lib.hid (zw (p:=(fun c=>eB c||c==61)) (l:=l) fun j hj=>hno.out j hj (by omega))
   go_wp2;go_ret;rw[hf.out];exact⟨rfl,rfl⟩
theorem qO(l:Txt)(hl:l.length≤1000000000)(w:World):
 Calls Tryz.prog 156 #[.string ⟨l.toArray⟩,.func (.func 242) #[] #[]] w fun e w'=>e=.returned (.int .i64 (l.findIdx (fun c=>!dO c):Nat))∧w=w':=by
 go_enter Tryz.func156,Tryz.ntmps156;go_wp2
 go_loop [5,8] (fun _ v=>∃(k:Nat),v=.int .i64 k∧k≤l.length∧Hid (∀j (hj:j<l.length),j<k→(fun c=>!dO c) l[j]=false)) (fun _ v=>l.length - (intOf v).toNat)
 case atStart=>exact⟨0,rfl,by omega,fun j _ h=>by omega⟩
 case round=>
  obtain⟨k,rfl,hk,hno⟩:=hrel
  by_cases hlt:k<l.length
  ·obtain⟨n,hn⟩:∃n,(l[k].toNat:Int)=n:=⟨_,rfl⟩
   have hu:=Pk l[k];rw[hn]at hu;have hc:=Lib.hid (fun W=>at2_i n W);cases hb:at2I n with
   |true=>
    have hf:=Lib.hid (EF (p:=(fun c=>!dO c)) hlt hno.out (hu.symm.trans hb));rw[hb]at hc;clear hu hb
    go_wp2_with(go_at_call 242;((with_reducible refine(hc.out _).mono ?_);rintro e w1 ⟨rfl,rfl⟩))
    go_ret;rw[hf.out];exact⟨rfl,rfl⟩
   |false=>
    have nQ:=Lib.hid (show∀j (hj:j<l.length),j<k+1→(fun c=>!dO c) l[j]=false by
     intro j hj hjk
     by_cases e:j=k
     ·subst e;exact hu.symm.trans hb
     ·exact hno.out j hj (by omega))
    rw[hb]at hc;clear hu hb hno
    go_wp2_with(go_at_call 242;((with_reducible refine(hc.out _).mono ?_);rintro e w1 ⟨rfl,rfl⟩))
    refine⟨⟨k+1,rfl,by omega,nQ⟩,by simp[intOf];omega⟩
  ·have hf:=Lib.hid (zw (p:=(fun c=>!dO c)) (l:=l) fun j hj=>hno.out j hj (by omega))
   go_wp2;go_ret;rw[hf.out];exact⟨rfl,rfl⟩
theorem wT(l:Txt)(hl:l.length≤1000000000)(w:World):
 Calls Tryz.prog 156 #[.string ⟨l.toArray⟩,.func (.func 243) #[] #[]] w fun e w'=>e=.returned (.int .i64 (l.findIdx (fun c=>!dO c):Nat))∧w=w':=by
 go_enter Tryz.func156,Tryz.ntmps156;go_wp2
 go_loop [5,8] (fun _ v=>∃(k:Nat),v=.int .i64 k∧k≤l.length∧Hid (∀j (hj:j<l.length),j<k→(fun c=>!dO c) l[j]=false)) (fun _ v=>l.length - (intOf v).toNat)
 case atStart=>exact⟨0,rfl,by omega,fun j _ h=>by omega⟩
 case round=>
  obtain⟨k,rfl,hk,hno⟩:=hrel
  by_cases hlt:k<l.length
  ·obtain⟨n,hn⟩:∃n,(l[k].toNat:Int)=n:=⟨_,rfl⟩
   have hu:=Pk l[k];rw[hn]at hu;have hc:=Lib.hid (fun W=>at3_i n W);cases hb:at2I n with
   |true=>
    have hf:=Lib.hid (EF (p:=(fun c=>!dO c)) hlt hno.out (hu.symm.trans hb));rw[hb]at hc;clear hu hb
    go_wp2_with(go_at_call 243;((with_reducible refine(hc.out _).mono ?_);rintro e w1 ⟨rfl,rfl⟩))
    go_ret;rw[hf.out];exact⟨rfl,rfl⟩
   |false=>
    have nQ:=Lib.hid (show∀j (hj:j<l.length),j<k+1→(fun c=>!dO c) l[j]=false by
     intro j hj hjk
     by_cases e:j=k
     ·subst e;exact hu.symm.trans hb
     ·exact hno.out j hj (by omega))
    rw[hb]at hc;clear hu hb hno
    go_wp2_with(go_at_call 243;((with_reducible refine(hc.out _).mono ?_);rintro e w1 ⟨rfl,rfl⟩))
    refine⟨⟨k+1,rfl,by omega,nQ⟩,by simp[intOf];omega⟩
  ·have hf:=Lib.hid (zw (p:=(fun c=>!dO c)) (l:=l) fun j hj=>hno.out j hj (by omega))
   go_wp2;go_ret;rw[hf.out];exact⟨rfl,rfl⟩
theorem JA(l:Txt)(hl:l.length≤1000000000)(w:World):
 Calls Tryz.prog 156 #[.string ⟨l.toArray⟩,.func (.func 244) #[] #[]] w fun e w'=>e=.returned (.int .i64 (l.findIdx (fun c=>dO c||c==62):Nat))∧w=w':=by
 go_enter Tryz.func156,Tryz.ntmps156;go_wp2
 go_loop [5,8] (fun _ v=>∃(k:Nat),v=.int .i64 k∧k≤l.length∧Hid (∀j (hj:j<l.length),j<k→(fun c=>dO c||c==62) l[j]=false)) (fun _ v=>l.length - (intOf v).toNat)
 case atStart=>exact⟨0,rfl,by omega,fun j _ h=>by omega⟩
 case round=>
  obtain⟨k,rfl,hk,hno⟩:=hrel
  by_cases hlt:k<l.length
  ·obtain⟨n,hn⟩:∃n,(l[k].toNat:Int)=n:=⟨_,rfl⟩
   have hu:=at4I_u8 l[k];rw[hn]at hu;have hc:=Lib.hid (fun W=>at4_i n W);cases hb:at4I n with
   |true=>
    have hf:=Lib.hid (EF (p:=(fun c=>dO c||c==62)) hlt hno.out (hu.symm.trans hb));rw[hb]at hc;clear hu hb
    go_wp2_with(go_at_call 244;((with_reducible refine(hc.out _).mono ?_);rintro e w1 ⟨rfl,rfl⟩))
    go_ret;rw[hf.out];exact⟨rfl,rfl⟩
   |false=>
    have nQ:=Lib.hid (show∀j (hj:j<l.length),j<k+1→(fun c=>dO c||c==62) l[j]=false by
     intro j hj hjk
     by_cases e:j=k
     ·subst e;exact hu.symm.trans hb
     ·exact hno.out j hj (by omega))
    rw[hb]at hc;clear hu hb hno
    go_wp2_with(go_at_call 244;((with_reducible refine(hc.out _).mono ?_);rintro e w1 ⟨rfl,rfl⟩))
    refine⟨⟨k+1,rfl,by omega,nQ⟩,by simp[intOf];omega⟩
  ·have hf:=Lib.hid (zw (p:=(fun c=>dO c||c==62)) (l:=l) fun j hj=>hno.out j hj (by omega))
   go_wp2;go_ret;rw[hf.out];exact⟨rfl,rfl⟩
theorem Qs(l:Txt)(hl:l.length≤1000000000)(w:World):
 Calls Tryz.prog 156 #[.string ⟨l.toArray⟩,.func (.func 157) #[] #[]] w fun e w'=>e=.returned (.int .i64 (l.findIdx (fun c=>c==60):Nat))∧w=w':=by
 go_enter Tryz.func156,Tryz.ntmps156;go_wp2
 go_loop [5,8] (fun _ v=>∃(k:Nat),v=.int .i64 k∧k≤l.length∧Hid (∀j (hj:j<l.length),j<k→(fun c=>c==60) l[j]=false)) (fun _ v=>l.length - (intOf v).toNat)
 case atStart=>exact⟨0,rfl,by omega,fun j _ h=>by omega⟩
 case round=>
  obtain⟨k,rfl,hk,hno⟩:=hrel
  by_cases hlt:k<l.length
  ·obtain⟨n,hn⟩:∃n,(l[k].toNat:Int)=n:=⟨_,rfl⟩
   have hu:=all1I_u8 l[k];rw[hn]at hu;have hc:=Lib.hid (fun W=>all1_i n W);cases hb:all1I n with
   |true=>
    have hf:=Lib.hid (EF (p:=(fun c=>c==60)) hlt hno.out (hu.symm.trans hb));rw[hb]at hc;clear hu hb
    go_wp2_with(go_at_call 157;((with_reducible refine(hc.out _).mono ?_);rintro e w1 ⟨rfl,rfl⟩))
    go_ret;rw[hf.out];exact⟨rfl,rfl⟩
   |false=>
    have nQ:=Lib.hid (show∀j (hj:j<l.length),j<k+1→(fun c=>c==60) l[j]=false by
     intro j hj hjk
     by_cases e:j=k
     ·subst e;exact hu.symm.trans hb
     ·exact hno.out j hj (by omega))
    rw[hb]at hc;clear hu hb hno
    go_wp2_with(go_at_call 157;((with_reducible refine(hc.out _).mono ?_);rintro e w1 ⟨rfl,rfl⟩))
    refine⟨⟨k+1,rfl,by omega,nQ⟩,by simp[intOf];omega⟩
  ·have hf:=Lib.hid (zw (p:=(fun c=>c==60)) (l:=l) fun j hj=>hno.out j hj (by omega))
   go_wp2;go_ret;rw[hf.out];exact⟨rfl,rfl⟩
end Go.Proofs.YtkcmghlhpbepcaaGreatDoor
