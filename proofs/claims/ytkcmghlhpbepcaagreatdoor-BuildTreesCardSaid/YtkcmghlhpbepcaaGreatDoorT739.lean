/- Lemmas and walks, part 39. -/
import Derived.Test.YtkcmghlhpbepcaaGreatDoorT738
import Derived.Shelf.Unicode.ValidAny
import Derived.Deep.DeepWitnessRowRef
import Derived.Stop.LaidErr
import Derived.Lib.LaidIn
import Derived.Lib.LaidU8T
set_option linter.unusedVariables false
set_option linter.unusedSimpArgs false
set_option maxHeartbeats 8000000
set_option maxRecDepth 100000
namespace Go.Proofs.YtkcmghlhpbepcaaGreatDoor
open Go.RowKit Go.Proofs Go.Proofs.aj Go.Proofs.aj.W7 Go.Proofs.ah.aG
theorem ED(l:List Tk):∀(d i k:Nat) (acc:List Tk),60 - i≤d→i≤60→d<k→acc.length=i→(∀t∈acc,t.f3.length≤6∧∃s∈l,t.f2=s.f2)→
 ∃r,cZ.l0 k l acc i=some r∧r.length≤60∧∀t∈r,t.f3.length≤6∧∃s∈l,t.f2=s.f2
 |0,i,k,acc,hd,hi,hk,hl,ha=>by
  obtain⟨k,rfl⟩:∃q,k=q+1:=⟨k - 1,by omega⟩
  simp only[cZ.l0]
  have e:(if(i:Int)<(l.length:Int)then(if(i:Int)<60 then(if 0≤(i:Int)then(if 0≤(mn (((au l i).f3).length:Int) 6)then(if(mn (((au l i).f3).length:Int) 6)≤(((au l i).f3).length:Int)then(if acc.length<1954687338268 then(cZ.l0 k l (acc++[(⟨(au l i).f0,(au l i).f1,(au l i).f2,(((au l i).f3).take ((mn (((au l i).f3).length:Int) 6):Int).toNat),(au l i).f4⟩:Tk)]) (wrap64 ((i:Int)+1)))else(none))else(none))else(none))else(none))else(some acc))else(some acc))=some acc:=by
   split
   ·rw[if_neg (by omega)]
   ·rfl
  exact⟨acc,e,by omega,ha⟩
 |d+1,i,k,acc,hd,hi,hk,hl,ha=>by
  obtain⟨k,rfl⟩:∃q,k=q+1:=⟨k - 1,by omega⟩
  simp only[cZ.l0]
  by_cases h1:(i:Int)<(l.length:Int)
  ·rw[if_pos h1]
   by_cases h2:(i:Int)<60
   ·rw[if_pos h2]
    have hil:i<l.length:=by omega
    rw[Il l i hil];have hm:=List.getElem_mem hil;generalize l[i]=t at *
    have h6:0≤mn (t.f3.length:Int) 6∧mn (t.f3.length:Int) 6≤(t.f3.length:Int)∧mn (t.f3.length:Int) 6≤6:=by
     unfold mn
     split<;>omega
    rw[if_pos (by omega),if_pos h6.1,if_pos h6.2.1,if_pos (by omega),wN (by omega)];refine ED l d (i+1) k _ (by omega) (by omega) (by omega) (by simp[hl]) (fun x hx=>?_)
    rcases List.mem_append.1 hx with hx|hx
    ·exact ha x hx
    ·obtain rfl:=List.mem_singleton.1 hx
     refine⟨?_,t,hm,rfl⟩;show(t.f3.take _).length≤6;rw[List.length_take];omega
   ·rw[if_neg h2]
    exact⟨acc,rfl,by omega,ha⟩
  ·rw[if_neg h1]
   exact⟨acc,rfl,by omega,ha⟩
theorem JX(l:List Tk):∃r,cZ.f 100 l=some r∧r.length≤60∧∀t∈r,t.f3.length≤6∧∃s∈l,t.f2=s.f2:=by
 unfold cZ.f;exact ED l 60 0 100 [] (by omega) (by omega) (by omega) rfl (fun t h=>by cases h)
theorem sum_le(M:Nat):∀(r:List Tk),(∀t∈r,t.f2.size≤M)→tq r≤r.length * M
 | [],_=>Nat.zero_le _
 |t::r,h=>by
  have h1:=h t (by simp);have h2:=sum_le M r (fun x hx=>h x (List.mem_cons_of_mem _ hx));have e:tq (t::r)=t.f2.size+tq r:=by unfold tq;rw[List.map_cons,List.sum_cons]
  rw[e,List.length_cons,Nat.succ_mul];omega
structure ru (w w':World):Prop where
 cell:∀a v,w.cell? a=some v→(∃s s',v=.string s∧w'.cell? a=some (.string s'))∨w'.cell? a=some v
 frozen:∀a,w'.frozen? a=w.frozen? a
theorem ru.refl(w:World):ru w w:=⟨fun a v h=>.inr h,fun _=>rfl⟩
theorem ru.at{w w':World}(h:ru w w'){p:Addr}{s:Bt}(hp:w.cell? p=some (.string s)):∃s',w'.cell? p=some (.string s'):=by
 rcases h.cell p _ hp with⟨_,s',_,e⟩|e
 ·exact⟨s',e⟩
 ·exact⟨s,e⟩
theorem ru.set{w w':World}(h:ru w w'){p:Addr}{s:Bt}(hp:w.cell? p=some (.string s))(x:Bt):ru w (w'.setCell p (.string x)):=by
 obtain⟨s',e⟩:=h.at hp;refine⟨fun a v ha=>?_,fun a=>by rw[World.frozen?_setCell,h.frozen]⟩
 by_cases hc:p=a
 ·subst hc
  rw[hp]at ha;exact .inl ⟨s,x,(Option.some.inj ha).symm,World.cell?_setCell_same _ _ _ e⟩
 ·rw[World.cell?_setCell_other _ _ _ _ hc]
  exact h.cell a v ha
theorem ru.keep{w w':World}(h:ru w w'){a:Addr}{v:Value}(ha:w.cell? a=some v)(hv:∀s,v≠.string s):w'.cell? a=some v:=by
 rcases h.cell a v ha with⟨s,_,e,_⟩|e
 ·exact absurd e (hv s)
 ·exact e
theorem Cy(A:Option Addr)(c:Nat)(l:List Tk){W:World}(hr:k65.C W A l.length l)(hc:l.length≤c)(wf:∀x∈l,wm65 140737488351232 x)(hS:Std W):
 Calls Tryz.prog 4 #[.slice A l.length c] W fun e w'=>e=.returned (.bool true)∧Below W.heap.size W w':=by
 obtain⟨r,hbv,hrl,hra⟩:=JX l
 have hsum:tq r≤9223372036854775807:=by
  have h1:=sum_le 140737488351232 r (fun t ht=>by
   obtain⟨s,hs,e⟩:=(hra t ht).2;rw[e];exact(wf s hs).2.1)
  have h2:r.length * 140737488351232≤60 * 140737488351232:=Nat.mul_le_mul_right _ hrl;omega
 have BF:=tree_f r hsum (fun t ht=>by have:=(hra t ht).1;omega)
 have href:=ref_tree r (by omega) 50000 (Nat.le_refl _) (fun t ht=>by
  have h6:=(hra t ht).1;have h7:t.f3.length * (t.f3.length+2)≤6 * 8:=Nat.mul_le_mul h6 (by omega);omega) hsum 60000 (by omega)
 obtain⟨o,e0,hoe⟩:∃o e0,ansF (rT r [] [])=(o,e0):=⟨_,_,rfl⟩
 replace BF:gZ.f r=some (ansF (rT r [] [])):=BF;rw[hoe]at BF;rw[BF]at href;clear hoe hsum hra;have hV:Kd.V k65 65 W W.heap.size (fun _=>True) (.slice A l.length c) l:=Kd.V_mk hc (fun W' hW=>k65_heap.C (fun k hk=>hW k trivial hk) hr);have c1:=Lib.hid (cZ.calls 100 (fun _=>True) A c l r W hV hbv);have c2:=Lib.hid (fun(X:World) (A1:Option Addr) (c1:Nat) (h1:k65.C X A1 r.length r) (h2:r.length≤c1)=>ay.calls 60000 A1 c1 r o e0 X h1 h2 href);have c3:=Lib.hid (fun(X:World) (A1:Option Addr) (c1:Nat) (h1:k65.C X A1 r.length r) (h2:r.length≤c1)=>gZ.calls A1 c1 r o e0 X h1 h2 BF);clear hV BF href hbv;go_enter Tryz.func4,Tryz.ntmps4
 go_wp2_with(first
  |(go_at_call 19;((with_reducible refine c1.out.mono ?_);rintro e w1 ⟨v1,rfl,hN,hb1⟩;obtain⟨A1,k1,rfl⟩:=Kd.N_slice hN;have hk1:=(Kd.EF hN).2.1;have hC1:=(Kd.EF hN).2.2;clear hN))
  |(go_at_call 20;((with_reducible refine(c2.out _ A1 k1 hC1 hk1).mono ?_);rintro e w2 ⟨v2,rfl,hR2,hb2⟩;obtain⟨A2,k2,rfl⟩:=Kd.bF hR2;have hk2:=(Kd.aI hR2).2.1;have hC2:=(Kd.aI hR2).2.2;have hC1b:=Kd.bS hC1 hb2;clear hR2)))
 have HB2:Below W.heap.size W w2:=hb1.trans (hb2.mono hb1.size);clear c1 c2 hC1
 go_loopw [5] (fun vi wr=>∃(turn:Nat),vi=.int .i64 turn∧turn≤2∧Below w2.heap.size w2 wr) (fun vi _=>2 - (intOf vi).toNat)
 case atStart=>exact⟨0,rfl,by omega,Below.refl _ _⟩
 case round=>
  obtain⟨turn,rfl,ht,hbr⟩:=hrel;have HBr:Below W.heap.size W wr:=HB2.trans (hbr.mono HB2.size)
  by_cases hlt:turn<2
  ·have q7:((turn:Int)<2)=True:=eq_true (by omega)
   have hT:=Lib.hid (c3.out wr A1 k1 (Kd.bS hC1b hbr) hk1)
   go_wp2_with(first
    |(go_at_call 21;((with_reducible refine hT.out.mono ?_);rintro e w3 ⟨v3,rfl,hR3,hb3⟩;obtain⟨A3,k3,rfl⟩:=Kd.bF hR3;have hk3:=(Kd.aI hR3).2.1;have hC3:=(Kd.aI hR3).2.2;have hC2b:=Kd.bS (Kd.bS hC2 hbr) hb3))
    |(go_at_call 22;((with_reducible refine(fE.calls A3 k3 o A2 k2 o true _ hC3 hk3 hC2b hk2 (nD o)).mono ?_);rintro e w4 ⟨rfl,hb4⟩)))
   have HB3:Below w2.heap.size w2 w3:=hbr.trans (hb3.mono hbr.size);have HB4:Below w2.heap.size w2 w4:=HB3.trans (hb4.mono HB3.size);have hR4:=Kd.dR hR3 hb4;have hol:=(Kd.aI hR4).2.2.2.1;clear hT hR3 hC3 hC2b hb4 hk3
   go_loopw [8] (fun vi wq=>∃(i:Nat),vi=.int .i64 i∧i≤o.length∧ru w4 wq∧Below w2.heap.size w2 wq) (fun vi _=>o.length - (intOf vi).toNat)
   case atStart=>exact⟨0,rfl,Nat.zero_le _,ru.refl _,HB4⟩
   case round=>
    obtain⟨i,rfl,hi,hTx,hbq⟩:=hrel
    by_cases hlt2:i<o.length
    ·have q8:((i:Int)<(o.length:Int))=True:=eq_true (by omega)
     obtain⟨g,capo,hv,hgB,hgo,GQ,hcO⟩:=Kd.wI hR4 (by omega);simp only[Value.slice.injEq,true_and]at hv;obtain⟨rfl,rfl⟩:=hv;have hg:w2.heap.size≤g:=Nat.le_trans hbr.size hgB;obtain⟨cs,hcl,hM,hcell,hfz⟩:=Kd.ug hR4 (⟨0,0,⟨#[]⟩,⟨#[]⟩,[]⟩:Rw) (i:Int) (by omega) (by omega);generalize o.getD (i:Int).toNat (⟨0,0,⟨#[]⟩,⟨#[]⟩,[]⟩:Rw)=y at hM;obtain⟨v4,rfl,hv4⟩:=jA hM;obtain⟨A4,k4,rfl⟩:=Kd.bF hv4;have y3:=hcell 3 _ rfl;have y4:=hcell 4 _ rfl;have f3:=hfz 3;change World.cell? _ ⟨g,i * 5+3,none⟩=_ at y3;change World.cell? _ ⟨g,i * 5+4,none⟩=_ at y4;change World.frozen? _ ⟨g,i * 5+3,none⟩=_ at f3;obtain⟨yd,yk,yn,yt,ya⟩:=y;simp only at y3 y4 hv4;obtain⟨s3,z3⟩:=hTx.at y3;have f3':wr.frozen? ⟨g,i * 5+3,none⟩=false:=(hTx.frozen _).trans f3;have hTx2:=hTx.set y3 ⟨#[120]⟩;have hbq2:Below w2.heap.size w2 (wr.setCell ⟨g,i * 5+3,none⟩ (.string ⟨#[120]⟩)):=hbq.setCell (p:=⟨g,i * 5+3,none⟩) hg _;clear hcell hfz hM hcl;have hal:=(Kd.aI hv4).2.2.2.1;go_wp2
     go_loopw [9] (fun vk wk=>∃(k:Nat),vk=.int .i64 k∧k≤ya.length∧ru w4 wk∧Below w2.heap.size w2 wk) (fun vk _=>ya.length - (intOf vk).toNat)
     case atStart=>exact⟨0,rfl,Nat.zero_le _,hTx2,hbq2⟩
     case round=>
      obtain⟨k,rfl,hk,hTk,hbk⟩:=hrel;have z4:=hTk.keep y4 (by simp);clear z3 f3' hTx2 hbq2 hTx hbq
      by_cases hlt3:k<ya.length
      ·have q9:((k:Int)<(ya.length:Int))=True:=eq_true (by omega)
       obtain⟨g4,cap4,hv,hg4B,hg4o,cells4,hc4⟩:=Kd.wI hv4 (by omega);simp only[Value.slice.injEq,true_and]at hv;obtain⟨rfl,rfl⟩:=hv;have hg4:w2.heap.size≤g4:=Nat.le_trans hbr.size hg4B;obtain⟨cs4,hcl4,-,-,hfz4⟩:=Kd.ug hv4 (⟨⟨#[]⟩,⟨#[]⟩⟩:At) (k:Int) (by omega) (by omega);obtain⟨ad,e4,a0,a1⟩:=o8 (Kd.aI hv4).2.2 (k:Int) (by omega) (by omega);obtain rfl:=Option.some.inj e4;have f0:=hfz4 0;rw[Int.toNat_natCast,yD,Nat.zero_add]at a0;change World.frozen? _ ⟨g4,k * 2,none⟩=_ at f0;obtain⟨s0,b0⟩:=hTk.at a0;have f0':wr.frozen? ⟨g4,k * 2,none⟩=false:=(hTk.frozen _).trans f0;have hTk2:=hTk.set a0 ⟨#[]⟩;have hbk2:Below w2.heap.size w2 (wr.setCell ⟨g4,k * 2,none⟩ (.string ⟨#[]⟩)):=hbk.setCell (p:=⟨g4,k * 2,none⟩) hg4 _;clear hfz4 a1 f0 a0;go_wp2;exact⟨⟨k+1,rfl,by omega,hTk2,hbk2⟩,by simp[intOf];omega⟩
      ·have q9:((k:Int)<(ya.length:Int))=False:=eq_false (by omega)
       go_wp2;exact⟨⟨i+1,rfl,by omega,hTk,hbk⟩,by simp[intOf];omega⟩
    ·have q8:((i:Int)<(o.length:Int))=False:=eq_false (by omega)
     go_wp2;exact⟨⟨turn+1,rfl,by omega,hbq⟩,by simp[intOf];omega⟩
  ·have q7:((turn:Int)<2)=False:=eq_false (by omega)
   have hfx:=Lib.hid (fixed7_c wr (hS.below HBr));clear c3
   go_wp2_with(go_at_call 23;((with_reducible refine hfx.out.mono ?_);rintro e w9 ⟨rfl,hb9⟩))
   go_ret;exact⟨rfl,HBr.trans (hb9.mono HBr.size)⟩
end Go.Proofs.YtkcmghlhpbepcaaGreatDoor
namespace Go.Proofs.YtkcmghlhpbepcaaGreatDoor
open Go.RowKit Go.Proofs
def J8:Go.Shelf.Ren:=⟨fun|196=>139|259=>177|n=>n,fun|0=>0|3=>3|4=>4|5=>5|9=>9|12=>12|46=>140|53=>160|119=>136|138=>138|139=>139|n=>n,fun|3=>0|4=>1|n=>n⟩
theorem H7:Go.Proofs.Lays.n196 Tryz.prog J8:={
 mixed:=by kernel_rfl
 f196:=Tryz.func139.trans (congrArg some (by kernel_rfl))
 f259:=Tryz.func177.trans (congrArg some (by kernel_rfl))
 t0:=Tryz.underlying0
 a0:=Tryz.isAgg0
 z0:=Tryz.sizeOf0
 v0:=Tryz.zeroValue0
 t3:=Tryz.underlying3
 a3:=Tryz.isAgg3
 z3:=Tryz.sizeOf3
 v3:=Tryz.zeroValue3
 t4:=Tryz.underlying4
 a4:=Tryz.isAgg4
 z4:=Tryz.sizeOf4
 v4:=Tryz.zeroValue4
 t5:=Tryz.underlying5
 a5:=Tryz.isAgg5
 z5:=Tryz.sizeOf5
 v5:=Tryz.zeroValue5
 t9:=Tryz.underlying9
 a9:=Tryz.isAgg9
 z9:=Tryz.sizeOf9
 v9:=Tryz.zeroValue9
 t12:=Tryz.underlying12
 a12:=Tryz.isAgg12
 z12:=Tryz.sizeOf12
 v12:=Tryz.zeroValue12
 t46:=Tryz.underlying140
 a46:=Tryz.isAgg140
 z46:=Tryz.sizeOf140
 v46:=Tryz.zeroValue140
 t53:=Tryz.underlying160
 a53:=Tryz.isAgg160
 z53:=Tryz.sizeOf160
 v53:=Tryz.zeroValue160
 t119:=Tryz.underlying136
 a119:=Tryz.isAgg136
 z119:=Tryz.sizeOf136
 t138:=Tryz.underlying138
 a138:=Tryz.isAgg138
 z138:=Tryz.sizeOf138
 v138:=Tryz.zeroValue138
 t139:=Tryz.underlying139
 a139:=Tryz.isAgg139
 z139:=Tryz.sizeOf139
 v139:=Tryz.zeroValue139
 g3:=by kernel_rfl
 g4:=by kernel_rfl }
end Go.Proofs.YtkcmghlhpbepcaaGreatDoor
namespace Go.Proofs.YtkcmghlhpbepcaaGreatDoor
open Go.ChangeShapes Go.WideShapes Go.ChangeAt Go.RowKit
theorem own:ownKnob Tryz.prog.godebug=none:=by kernel_rfl
theorem gER:Tryz.prog.globalNamed "strconv.ErrRange" =some 4:=by kernel_rfl
theorem gERType:(Tryz.prog.globals[4]?).map (·.type)=some 109:=by kernel_rfl
theorem cellsES:Tryz.prog.cellsOf 199=1:=by kernel_rfl
theorem cellsStr:Tryz.prog.cellsOf 9=1:=by kernel_rfl
theorem starES: "*" ++ "errors.errorString" = "*errors.errorString" :=by decide
theorem rowES(u:TypeId)(h:Tryz.prog.typeName? 3 u=some "*errors.errorString"):u=197:=
 typeName_ptr_named (nm:= "errors.errorString") (by rw[starES];kernel_rfl) (by kernel_rfl) (by decide) u (by rw[starES];exact h)
def JI:DataW Unit→Value
 | .lit (.int k n)=>.int k n
 |_=>.bool false
def litCells:DataW Unit→List Value
 | .agg l=>l.map JI
 |d=>[JI d]
def qA:DataW Unit→Array Value
 | .agg l=>(l.flatMap litCells).toArray
 |_=>#[]
abbrev synS:Bt:={data:=#[105,110,118,97,108,105,100,32,115,121,110,116,97,120] }
abbrev rngS:Bt:={data:=#[118,97,108,117,101,32,111,117,116,32,111,102,32,114,97,110,103,101] }
noncomputable def low:Nat:=(World.holding Tryz.prog default ⟨#[],#[],[]⟩).heap.size
noncomputable def wZ(os:Os):World:=
 let w0:=World.holding Tryz.prog os ⟨#[.cells #[.string synS] 199,.cells #[.string rngS] 199],#[],[]⟩
 let put (h:Array Obj) (g:Nat) (cs:Array Value):Array Obj:=h.modify g fun
  | .cells _ t frozen=>.cells cs t frozen
  |o=>o
 let h1:=put w0.heap 6 (qA Rows.laid_math_bits_deBruijn32tab)
 let h2:=put h1 7 (qA Rows.laid_math_bits_deBruijn64tab)
 let h3:=put h2 5 (qA Rows.laid_internal_strconv_uint64pow10)
 let h4:=put h3 1 (qA Rows.laid_unicode_utf8_acceptRanges)
 let h5:=put h4 3 #[.iface 197 (.pointer (some ⟨low,0,none⟩))]
 let h6:=put h5 4 #[.iface 197 (.pointer (some ⟨low+1,0,none⟩))]
 let h7:=put h6 0 (qA Rows.laid_unicode_utf8_first)
 {w0 with heap:=h7 }
def listed:List (String×DataW Unit):=[("math/bits.deBruijn32tab",Rows.laid_math_bits_deBruijn32tab),("math/bits.deBruijn64tab",Rows.laid_math_bits_deBruijn64tab),("internal/strconv.uint64pow10",Rows.laid_internal_strconv_uint64pow10),("unicode/utf8.acceptRanges",Rows.laid_unicode_utf8_acceptRanges),("strconv.ErrRange",Rows.laid_strconv_ErrRange),("strconv.ErrSyntax",Rows.laid_strconv_ErrSyntax),("unicode/utf8.first",Rows.laid_unicode_utf8_first)]
theorem acc_eq:(Rows.laid_unicode_utf8_acceptRanges:DataW Unit)=Lib.acceptData:=by kernel_rfl
theorem fst_eq:(Rows.laid_unicode_utf8_first:DataW Unit)=Lib.firstData:=by kernel_rfl
theorem laid_met(os:Os)(args:Array Value):laidMet Tryz.prog listed ((wZ os).forCall (fun _ _=>0) ⟨#[],args,[]⟩).memory:=
 (LaidIn.of_run [6,7,5,1,4,3,low,low+1,0] 8 (by kernel_rfl) (by kernel_rfl) (by kernel_rfl) (by kernel_rfl)).met
theorem std_of{W:World}(hL:laidMetH Tryz.prog listed W)(hsh:W.ShapedOpen Tryz.prog):Std W:=by
 have h0:laidMet Tryz.prog listed W:=hL;have h3:=h0.tail.tail.tail.tail;obtain⟨a1,s1,hv1,-,-,-⟩:=laid_sentinel h3 gER gERType Tryz.underlying109 rowES Tryz.underlying197 Tryz.underlying199 rfl rfl Tryz.underlying9 cellsES cellsStr;refine⟨Go.Proofs.cell_of_shapedOpen_int (zero:=#[.int .i64 0]) (t:=3) hsh (of_decide_eq_true (by kernel_rfl)) (by kernel_rfl) rfl (by kernel_rfl) (by kernel_rfl) Tryz.underlying3,⟨_,_,by have h0:=World.var?_cell gER hv1 0;simpa using h0⟩,?_⟩;have h4:laidMet Tryz.prog listed W:=hL;unfold listed at h4;rw[acc_eq,fst_eq]at h4;exact utf8Tabs_of_readsT (U8Types.of196 H7) ⟨by kernel_rfl,by kernel_rfl,by kernel_rfl,by kernel_rfl,by kernel_rfl,by kernel_rfl,by kernel_rfl⟩ (Lib.laidMet.reads h4 (.tail _ (.tail _ (.tail _ (.tail _ (.tail _ (.tail _ (.head _)))))))) (Lib.laidMet.reads h4 (.tail _ (.tail _ (.tail _ (.head _)))))
end Go.Proofs.YtkcmghlhpbepcaaGreatDoor
