/- Lemmas and walks, part 20. -/
import Derived.Test.YtkcmghlhpbepcaaGreatDoorNB19
import Derived.Shelf.Unicode.ValidAny
set_option linter.unusedVariables false
set_option linter.unusedSimpArgs false
set_option maxHeartbeats 8000000
set_option maxRecDepth 100000
namespace Go.Proofs.aj.W7
open Go.RowKit Go.Shelf Go.Proofs Go.Proofs.YtkcmghlhpbepcaaGreatDoor
attribute [local go_sem] Oper.semAt_some
theorem M8(n:Nat)(A:Option Addr)(len c:Nat)(i:Int)(w:World):
 CallsIn Fence.wide n Tryz.prog 144 #[.slice A len c,.int .i64 i] w fun e w'=>e=.returned (.func (.func 183) #[] #[.pointer (some ⟨w.heap.size,0,none⟩),.pointer (some ⟨w.heap.size+1,0,none⟩)])∧w'=(w.alloc (.cells #[.slice A len c] 22)).alloc (.cells #[.int .i64 i] 3):=by
 refine callsIn_of_wp Tryz.func144 rfl trivial ?_ rfl;simp only[Tryz.ntmps144,List.size_toArray,List.length_cons,List.length_nil,Nat.reduceAdd,Nat.reduceSub,Array.replicate_succ,Array.replicate_zero,List.push_toArray,List.append_toArray,List.nil_append,List.cons_append]
 gi_wp2
 go_ret;exact⟨rfl,rfl⟩
theorem DY(n:Nat)(hn:1≤n)(B1 B2:Nat)(A:Option Addr)(c:Nat)(xs:List Rw)(i:Int)(hi:i= -1∨0≤i∧i<xs.length)(hcap:xs.length≤c)(w0 w:World)(hr:k34.C w0 A xs.length xs)(hB:Below w0.heap.size w0 w)
 (b1:Boxed w B1 22 (.slice A xs.length c)) (b2:Boxed w B2 3 (.int .i64 i)):
 SeqStopsK Fence.wide n Tryz.prog 183 #[.pointer (some ⟨B1,0,none⟩),.pointer (some ⟨B2,0,none⟩)] (fun x:Nat=>#[Value.int .i64 x]) (KpK w0.heap.size B1 (.slice A xs.length c)) (fun ys=>ys=jf xs i) (fun pre=>pre<+:jf xs i) xs.length w:=fun l J Jx W hW hJ _ hY h0=>
 kids1_in n hn l B1 B2 A c xs i hi hcap w0 hr J Jx hY W hJ (hB.trans (hW.mono hB.size)) ((hW.block B1 b1.lt).trans b1) (show W.cell? ⟨B2,0,none⟩=_ from(hW.cell (p:=⟨B2,0,none⟩) b2.lt).trans b2.cell) h0
theorem int_info:(Tryz.prog.info? 3).map (fun i=>(i.zero,i.size,i.bytes))=some (some (.int .i64 0),1,8):=by kernel_rfl
def mK.f(l0:List Rw)(a1:Int):Option (List Int):=if l0.length * 8≤140737488355328 then some ((jf l0 a1).map (fun x:Nat=>(x:Int)))else none
theorem kids_len(xs:List Rw)(i:Int)(hi:i= -1∨0≤i∧i<xs.length):(jf xs i).length≤xs.length:=by
 have h:∀(d t j:Nat),xs.length - j≤d→(j6 xs t j).length≤xs.length - j:=by
  intro d
  induction d with
  |zero=>
   intro t j hd
   by_cases e:j<t∧j<xs.length
   ·omega
   ·rw[j6,dif_neg e]
    exact Nat.zero_le _
  |succ d ih=>
   intro t j hd
   by_cases e:j<t∧j<xs.length
   ·rw[j6,dif_pos e,List.length_cons]
    have:=ih t (fV xs j) (by have:=kN xs j;omega);have:=kN xs j;omega
   ·rw[j6,dif_neg e]
    exact Nat.zero_le _
 rw[qU hi];exact Nat.le_trans (h _ _ _ (Nat.le_refl _)) (by omega)
theorem kidsM_in(n:Nat)(hn:3≤n)(A:Option Addr)(c:Nat)(xs:List Rw)(i:Int)(hi:i= -1∨0≤i∧i<xs.length)(hcap:xs.length≤c)(hsz:xs.length * 8≤140737488355328)(w:World)(hr:k34.C w A xs.length xs):
 CallsIn Fence.wide n Tryz.prog 96 #[.slice A xs.length c,.int .i64 i] w fun e w'=>∃v,e=.returned v∧w'.ownsRow w.heap.size 3 1 v (jf xs i).length ((jf xs i).map (fun x:Nat=>Value.int .i64 x))∧Below w.heap.size w w':=by
 have hxl:=hr.2.1;have h1:1≤n:=by omega
 obtain⟨i0,hi0,hz0,hz1,hz2⟩:=info_parts int_info;have hfn:Fence.wide.fn 143:=trivial;have hfn2:Fence.wide.fn 144:=trivial;refine callsIn_of_wp_marks Tryz.func96 rfl trivial ?_ rfl;simp only[Tryz.ntmps96,List.size_toArray,List.length_cons,List.length_nil,Nat.reduceAdd,Nat.reduceSub,Array.replicate_succ,Array.replicate_zero,List.push_toArray,List.append_toArray,List.nil_append,List.cons_append]
 rcases hi with rfl|hi
 ·gi_wp2_with (gi_at_call 144;refine(M8 _ _ _ _ _ _).mono ?_;rintro e w' ⟨rfl,rfl⟩)
  have bO:Boxed (w.alloc (.cells #[.slice none 0 0] 85)) w.heap.size 85 (.slice none 0 0):=Boxed.new w 85 (.slice none 0 0);have hBa:Below w.heap.size w (w.alloc (.cells #[.slice none 0 0] 85)):=(Below.refl _ w).alloc (Nat.le_refl _) _;have bL:Boxed ((w.alloc (.cells #[.slice none 0 0] 85)).alloc (.cells #[.slice A xs.length c] 22)) (w.heap.size+1) 22 (.slice A xs.length c):=by have h:=Boxed.new (w.alloc (.cells #[.slice none 0 0] 85)) 22 (.slice A xs.length c);rw[World.size_alloc]at h;exact h
  have bI:Boxed (((w.alloc (.cells #[.slice none 0 0] 85)).alloc (.cells #[.slice A xs.length c] 22)).alloc (.cells #[.int .i64 (-1)] 3)) (w.heap.size+1+1) 3 (.int .i64 (-1)):=by have h:=Boxed.new ((w.alloc (.cells #[.slice none 0 0] 85)).alloc (.cells #[.slice A xs.length c] 22)) 3 (.int .i64 (-1));rw[World.size_alloc,World.size_alloc]at h;exact h
  have hB0:Below w.heap.size w (((w.alloc (.cells #[.slice none 0 0] 85)).alloc (.cells #[.slice A xs.length c] 22)).alloc (.cells #[.int .i64 (-1)] 3)):=(hBa.alloc hBa.size _).alloc (hBa.alloc hBa.size _).size _;have bL3:=(bL.alloc (.cells #[.int .i64 (-1)] 3)).lt
  refine wpIn_rangeFunc_ownG rfl h1 (gf:=183) (lb:=#[.pointer (some ⟨w.heap.size+1,0,none⟩),.pointer (some ⟨w.heap.size+1+1,0,none⟩)]) rfl trivial (enters_of Tryz.func183 (by kernel_rfl) rfl)
   (DY (n - 1) (by omega) (w.heap.size+1) (w.heap.size+1+1) A c xs (-1) (.inl rfl) hcap w _ hr hB0 (bL.alloc _) bI) (fun h k=>kpK_t h k) (kpK_b hB0.size bL3) (Below.refl _ _) (fun _=>rfl)
   (fun pre W=>(∃v,Boxed W w.heap.size 85 v∧W.ownsRow w.heap.size 3 1 v pre.length (pre.map (fun x:Nat=>Value.int .i64 x))∧True)∧Below w.heap.size w W)
   (fun _ _ _=>False)
   (OwnFrom.and (Own.from (holdsRow_own w.heap.size w.heap.size 85 3 1 (fun pre:List Nat=>pre.length) (fun pre=>pre.map (fun x:Nat=>Value.int .i64 x)) (fun _ _=>True)) _) (ownFrom_below (Nat.le_refl _) hB0.size))
   (fun _ _ _ _ _ hs _ _=>hs.elim)
   ⟨⟨_,(bO.alloc _).alloc _,World.ownsRow_nil _ _ _ _,trivial⟩,hB0⟩
   ?a1 ?assign ?body ?done ?stop
  case assign=>
   intro l x W K hK
   gi_wp2
   exact hK
  case body=>
   rintro l pre x W ⟨⟨v,hv,hrow,_⟩,hB⟩ hlt;have hc:=hv.cell
   gi_wp2_with (gi_at_builtin;refine wpListIn_append_own _ rfl _ _ 85 rfl w.heap.size 3 i0 (.int .i64 0) 1 8 Tryz.underlying85 hi0 hz0 hz1 hz2 rfl (by decide) _ _ _ rfl (hrow.alloc _) ⟨W.heap.size,0,none⟩ 1 1 [.int .i64 x] rfl rfl (cell_one_new _ _ _) (by simp[Value.oneCell']) (by unfold maxLen;omega) (by omega) (by have:=hB.size;simp;omega) ?_;intro v' w1 hown' hgrow _;obtain⟨g',cap',rfl⟩:=ownsRow_succ hown';obtain⟨hv1,hv2,hr2,hk2,hb2⟩:=hv.appended (by decide) hrow hB.size (Nat.le_refl _) hown' hgrow;have hc1:=hv1.cell;have hf1:=hv1.frozen)
   exact⟨hk2.from _,⟨hb2,fun e=>((e.alloc _).kept hgrow (e.not_row (by decide) hrow)).kept (grownBy_setCell' _ _ _) (by simp)⟩,⟨⟨_,hv2,by simpa using hr2,trivial⟩,hB.trans hb2⟩⟩
  case done=>
   rintro D ys W hD rfl ⟨⟨v,hv,hrow,_⟩,hB⟩ hK;have hc:=hv.cell
   gi_wp2
   refine⟨by simp,.inl ⟨_,_,rfl,run_takeDeferred hK,?_⟩⟩;exact⟨_,results_tmp rfl _ _ _,v,rfl,ownsRow_putObj hrow _ hK rfl,hB.trans (belowK_b (w:=w) (Nat.le_refl _) W D _ _ (Nat.le_trans hB0.size hD) hK rfl rfl)⟩
  case stop=>
   rintro D c pre W _ _ h _;exact h.elim
 ·have hne:(i != -1)=true:=by rw[bne_iff_ne];omega
  have his:=Lib.hid ((kU.calls A c xs i true w hr hcap (by unfold kU.f;rw[if_pos (by omega),decide_eq_true (by omega)])).mono (R':=fun e w'=>e=.returned (.bool true)∧∃m,w'=w.drewN m) (fun e w' h=>⟨h.1,h.2.out⟩));have hid:=Lib.hid hi;clear hi
  gi_wp2_with (first|(gi_at_call 143;refine(callsIn_wide.2 his.out).mono ?_;rintro e w' ⟨rfl,m1,rfl⟩)|(gi_at_call 144;refine(M8 _ _ _ _ _ _).mono ?_;rintro e w' ⟨rfl,rfl⟩))
  have bO:Boxed ((w.drewN m1).alloc (.cells #[.slice none 0 0] 85)) w.heap.size 85 (.slice none 0 0):=Boxed.new (w.drewN m1) 85 (.slice none 0 0);have hBa:Below w.heap.size w ((w.drewN m1).alloc (.cells #[.slice none 0 0] 85)):=(Go.Proofs.ah.aD.bE (Below.refl _ w) m1).alloc (Nat.le_refl _) _;have bL:Boxed (((w.drewN m1).alloc (.cells #[.slice none 0 0] 85)).alloc (.cells #[.slice A xs.length c] 22)) (w.heap.size+1) 22 (.slice A xs.length c):=by have h:=Boxed.new ((w.drewN m1).alloc (.cells #[.slice none 0 0] 85)) 22 (.slice A xs.length c);rw[World.size_alloc]at h;exact h
  have bI:Boxed ((((w.drewN m1).alloc (.cells #[.slice none 0 0] 85)).alloc (.cells #[.slice A xs.length c] 22)).alloc (.cells #[.int .i64 i] 3)) (w.heap.size+1+1) 3 (.int .i64 i):=by have h:=Boxed.new (((w.drewN m1).alloc (.cells #[.slice none 0 0] 85)).alloc (.cells #[.slice A xs.length c] 22)) 3 (.int .i64 i);rw[World.size_alloc,World.size_alloc]at h;exact h
  have hB0:Below w.heap.size w ((((w.drewN m1).alloc (.cells #[.slice none 0 0] 85)).alloc (.cells #[.slice A xs.length c] 22)).alloc (.cells #[.int .i64 i] 3)):=(hBa.alloc hBa.size _).alloc (hBa.alloc hBa.size _).size _;have bL3:=(bL.alloc (.cells #[.int .i64 i] 3)).lt
  refine wpIn_rangeFunc_ownG rfl h1 (gf:=183) (lb:=#[.pointer (some ⟨w.heap.size+1,0,none⟩),.pointer (some ⟨w.heap.size+1+1,0,none⟩)]) rfl trivial (enters_of Tryz.func183 (by kernel_rfl) rfl)
   (DY (n - 1) (by omega) (w.heap.size+1) (w.heap.size+1+1) A c xs i (.inr hid.out) hcap w _ hr hB0 (bL.alloc _) bI) (fun h k=>kpK_t h k) (kpK_b hB0.size bL3) (Below.refl _ _) (fun _=>rfl)
   (fun pre W=>(∃v,Boxed W w.heap.size 85 v∧W.ownsRow w.heap.size 3 1 v pre.length (pre.map (fun x:Nat=>Value.int .i64 x))∧True)∧Below w.heap.size w W)
   (fun _ _ _=>False)
   (OwnFrom.and (Own.from (holdsRow_own w.heap.size w.heap.size 85 3 1 (fun pre:List Nat=>pre.length) (fun pre=>pre.map (fun x:Nat=>Value.int .i64 x)) (fun _ _=>True)) _) (ownFrom_below (Nat.le_refl _) hB0.size))
   (fun _ _ _ _ _ hs _ _=>hs.elim)
   ⟨⟨_,(bO.alloc _).alloc _,World.ownsRow_nil _ _ _ _,trivial⟩,hB0⟩
   ?a2 ?assign ?body ?done ?stop
  case assign=>
   intro l x W K hK
   gi_wp2
   exact hK
  case body=>
   rintro l pre x W ⟨⟨v,hv,hrow,_⟩,hB⟩ hlt;have hc:=hv.cell
   gi_wp2_with (gi_at_builtin;refine wpListIn_append_own _ rfl _ _ 85 rfl w.heap.size 3 i0 (.int .i64 0) 1 8 Tryz.underlying85 hi0 hz0 hz1 hz2 rfl (by decide) _ _ _ rfl (hrow.alloc _) ⟨W.heap.size,0,none⟩ 1 1 [.int .i64 x] rfl rfl (cell_one_new _ _ _) (by simp[Value.oneCell']) (by unfold maxLen;omega) (by omega) (by have:=hB.size;simp;omega) ?_;intro v' w1 hown' hgrow _;obtain⟨g',cap',rfl⟩:=ownsRow_succ hown';obtain⟨hv1,hv2,hr2,hk2,hb2⟩:=hv.appended (by decide) hrow hB.size (Nat.le_refl _) hown' hgrow;have hc1:=hv1.cell;have hf1:=hv1.frozen)
   exact⟨hk2.from _,⟨hb2,fun e=>((e.alloc _).kept hgrow (e.not_row (by decide) hrow)).kept (grownBy_setCell' _ _ _) (by simp)⟩,⟨⟨_,hv2,by simpa using hr2,trivial⟩,hB.trans hb2⟩⟩
  case done=>
   rintro D ys W hD rfl ⟨⟨v,hv,hrow,_⟩,hB⟩ hK;have hc:=hv.cell
   gi_wp2
   refine⟨by simp,.inl ⟨_,_,rfl,run_takeDeferred hK,?_⟩⟩;exact⟨_,results_tmp rfl _ _ _,v,rfl,ownsRow_putObj hrow _ hK rfl,hB.trans (belowK_b (w:=w) (Nat.le_refl _) W D _ _ (Nat.le_trans hB0.size hD) hK rfl rfl)⟩
  case stop=>
   rintro D c pre W _ _ h _;exact h.elim
theorem kidsO_in(n:Nat)(hn:1≤n)(A:Option Addr)(c:Nat)(xs:List Rw)(i:Int)(hi:¬(i= -1∨0≤i∧i<xs.length))(hcap:xs.length≤c)(w:World)(hr:k34.C w A xs.length xs):
 CallsIn Fence.wide n Tryz.prog 96 #[.slice A xs.length c,.int .i64 i] w fun e w'=>e=.returned (.slice none 0 0)∧Below w.heap.size w w':=by
 have hfn:Fence.wide.fn 143:=trivial;have hne:(i != -1)=true:=by rw[bne_iff_ne];omega
 have his:=Lib.hid ((kU.calls A c xs i false w hr hcap (by unfold kU.f;split;rw[decide_eq_false (by omega)];rfl)).mono (R':=fun e w'=>e=.returned (.bool false)∧∃m,w'=w.drewN m) (fun e w' h=>⟨h.1,h.2.out⟩));clear hi;refine callsIn_of_wp_marks Tryz.func96 rfl trivial ?_ rfl;simp only[Tryz.ntmps96,List.size_toArray,List.length_cons,List.length_nil,Nat.reduceAdd,Nat.reduceSub,Array.replicate_succ,Array.replicate_zero,List.push_toArray,List.append_toArray,List.nil_append,List.cons_append];have his2:=Lib.hid ((callsIn_wide (n:=n - 1)).2 his.out)
 gi_wp2_with (gi_at_call 143;refine his2.out.mono ?_;rintro e w' ⟨rfl,m1,rfl⟩)
 exact⟨_,results_tmp rfl _ _ _,rfl,Go.Proofs.ah.aD.bE (Below.refl _ w) m1⟩
theorem mK.calls(A0:Option Addr)(c0:Nat)(l0:List Rw)(a1:Int)(r:List Int)(w:World)(hr0:k34.C w A0 l0.length l0)(hc0:l0.length≤c0)(h:mK.f l0 a1=some r):
 Calls Tryz.prog 96 #[.slice A0 l0.length c0,.int .i64 a1] w fun e w'=>∃v0_:Value,e=.returned (v0_)∧(Go.Proofs.ah.aD.Kd.int .i64).R 3 w' w.heap.size (fun _=>True) v0_ r∧Below w.heap.size w w':=by
 unfold mK.f at h
 by_cases hs:l0.length * 8≤140737488355328
 ·rw[if_pos hs]at h
  obtain rfl:=Option.some.inj h
  by_cases hi:a1= -1∨0≤a1∧a1<l0.length
  ·refine((callsIn_wide (n:=3)).1 (kidsM_in 3 (Nat.le_refl _) A0 c0 l0 a1 hi hc0 hs w hr0)).mono ?_
   rintro e w' ⟨v,rfl,ho,hb⟩;refine⟨v,rfl,Go.Proofs.ah.aD.Kd.R_of_own ?_ (fun _ _=>trivial),hb⟩;unfold Go.Proofs.ah.aD.encs;rw[List.length_map,List.map_map];exact ho
  ·refine((callsIn_wide (n:=3)).1 (kidsO_in 3 (by omega) A0 c0 l0 a1 hi hc0 w hr0)).mono ?_
   rintro e w' ⟨rfl,hb⟩
   have hn:jf l0 a1=[]:=by
    unfold jf;rw[if_neg (fun e=>hi (.inl e)),if_neg (fun e=>hi (.inr e))]
   rw[hn];exact⟨_,rfl,Go.Proofs.ah.aD.Kd.ni _ _ _ _ _,hb⟩
 ·rw[if_neg hs]at h
  cases h
end Go.Proofs.aj.W7
namespace Go.Proofs.aj.W7
open Go.RowKit Go.Proofs Go.Proofs.YtkcmghlhpbepcaaGreatDoor
def wrB(b:Bool)(a:ByteArray):Option ByteArray:=if a.data.toList.length≤1000000000 then some ⟨(wrL b a.data.toList).toArray⟩else none
theorem JN{b:Bool}{a r:ByteArray}(h:wrB b a=some r):∃l:List UInt8,a=⟨l.toArray⟩∧l.length≤1000000000∧r=⟨(wrL b l).toArray⟩:=by
 unfold wrB at h
 split at h
 ·rename_i hl
  exact⟨a.data.toList,by simp,hl,(Option.some.inj h).symm⟩
 ·cases h
def qV.f(a0:ByteArray):Option ByteArray:=wrB true a0
theorem qV.calls(a0 r:ByteArray)(w:World)(h:qV.f a0=some r):
 Calls Tryz.prog 176 #[.string a0] w fun e w'=>e=.returned (.string r)∧Below w.heap.size w w':=by
 obtain⟨l,rfl,hl,rfl⟩:=JN h;exact value_c l hl w
def tQ.f(a0:ByteArray):Option ByteArray:=wrB false a0
theorem tQ.calls(a0 r:ByteArray)(w:World)(h:tQ.f a0=some r):
 Calls Tryz.prog 136 #[.string a0] w fun e w'=>e=.returned (.string r)∧Below w.heap.size w w':=by
 obtain⟨l,rfl,hl,rfl⟩:=JN h;exact LV l hl w
end Go.Proofs.aj.W7
namespace Go.Proofs.YtkcmghlhpbepcaaGreatDoor
open Go.RowKit Go.Proofs
def Qy:Go.Shelf.Ren:=⟨fun|196=>139|259=>177|n=>n,fun|0=>0|3=>3|4=>4|5=>5|9=>9|12=>12|46=>140|53=>160|119=>136|138=>138|139=>139|n=>n,fun|3=>0|4=>1|n=>n⟩
theorem EM:Go.Proofs.Lays.n196 Tryz.prog Qy:={
 mixed:=by kernel_rfl
 f196:=Tryz.func139.trans (congrArg some (by kernel_rfl))
 f259:=Tryz.func177.trans (congrArg some (by kernel_rfl))
 t0:=Tryz.underlying0
 a0:=Tryz.isAgg0
 z0:=Tryz.sizeOf0
 v0:=Tryz.zeroValue0
 t3:=Tryz.underlying3
 a3:=Tryz.isAgg3
 z3:=Tryz.sizeOf3
 v3:=Tryz.zeroValue3
 t4:=Tryz.underlying4
 a4:=Tryz.isAgg4
 z4:=Tryz.sizeOf4
 v4:=Tryz.zeroValue4
 t5:=Tryz.underlying5
 a5:=Tryz.isAgg5
 z5:=Tryz.sizeOf5
 v5:=Tryz.zeroValue5
 t9:=Tryz.underlying9
 a9:=Tryz.isAgg9
 z9:=Tryz.sizeOf9
 v9:=Tryz.zeroValue9
 t12:=Tryz.underlying12
 a12:=Tryz.isAgg12
 z12:=Tryz.sizeOf12
 v12:=Tryz.zeroValue12
 t46:=Tryz.underlying140
 a46:=Tryz.isAgg140
 z46:=Tryz.sizeOf140
 v46:=Tryz.zeroValue140
 t53:=Tryz.underlying160
 a53:=Tryz.isAgg160
 z53:=Tryz.sizeOf160
 v53:=Tryz.zeroValue160
 t119:=Tryz.underlying136
 a119:=Tryz.isAgg136
 z119:=Tryz.sizeOf136
 t138:=Tryz.underlying138
 a138:=Tryz.isAgg138
 z138:=Tryz.sizeOf138
 v138:=Tryz.zeroValue138
 t139:=Tryz.underlying139
 a139:=Tryz.isAgg139
 z139:=Tryz.sizeOf139
 v139:=Tryz.zeroValue139
 g3:=by kernel_rfl
 g4:=by kernel_rfl }
theorem valid_c(s:ByteArray)(w:World)(hs:s.size≤9223372036854775807)(hT:Lib.Utf8Tabs 0 1 w):
 Calls Tryz.prog 139 #[.string s] w fun e w'=>e=.returned (.bool (Lib.validD s.data.toList))∧Below w.heap.size w w':=Any.utf8_ValidString EM s w hs hT
end Go.Proofs.YtkcmghlhpbepcaaGreatDoor
namespace Go.Proofs.YtkcmghlhpbepcaaGreatDoor
abbrev DZ:=Std
theorem DZ.below{w w':Go.World}(h:DZ w)(hb:Go.RowKit.Below w.heap.size w w'):DZ w':=Std.below h hb
end Go.Proofs.YtkcmghlhpbepcaaGreatDoor
namespace Go.Proofs.aj.W7
open Go.RowKit Go.Proofs.ah.aD Go.Proofs.ah.bH Go.Proofs.ah.bV
attribute [local go_sem] dA dB dP dQ bY bZ dD dF
def dW.l0:Nat→ByteArray→List (S36)→Int→Int→Option (ByteArray)
 |0,_,_,_,_=>none
 |k+1,x3,x10,x11,x12=>if x12<x11 then(if 0≤x12 then(if x12<(x10.length:Int)then(if 1+((bg x10 x12).f0).size≤9223372036854775807 then(if((⟨#[32]⟩:ByteArray)++((bg x10 x12).f0)).size+2≤9223372036854775807 then((qV.f ((bg x10 x12).f1)).bind fun uo=>(if(((⟨#[32]⟩:ByteArray)++((bg x10 x12).f0))++(⟨#[61,34]⟩:ByteArray)).size+uo.size≤9223372036854775807 then(if((((⟨#[32]⟩:ByteArray)++((bg x10 x12).f0))++(⟨#[61,34]⟩:ByteArray))++uo).size+1≤9223372036854775807 then(if x3.size+(((((⟨#[32]⟩:ByteArray)++((bg x10 x12).f0))++(⟨#[61,34]⟩:ByteArray))++uo)++(⟨#[34]⟩:ByteArray)).size≤9223372036854775807 then(dW.l0 k (x3++(((((⟨#[32]⟩:ByteArray)++((bg x10 x12).f0))++(⟨#[61,34]⟩:ByteArray))++uo)++(⟨#[34]⟩:ByteArray))) x10 x11 (wrap64 (x12+1)))else(none))else(none))else(none)))else(none))else(none))else(none))else(none))else(if x3.size+1≤9223372036854775807 then(some (x3++(⟨#[62]⟩:ByteArray)))else(none))
def dW.f(k:Nat)(dN dz:Int)(bU dL:ByteArray)(bq:List (S36)):Option (ByteArray):=if 1+bU.size≤9223372036854775807 then(dW.l0 k ((⟨#[60]⟩:ByteArray)++bU) bq (bq.length:Int) 0)else(none)
def dW.T5:Bool×List (List Nat×List Nat):=(true,[([],[]),([],[]),([1],[1]),([2],[2]),([3],[3]),([],[]),([5],[5]),([6],[6]),([4,7],[4,7]),([8],[8]),([0,9],[0,9]),([10,7,0,1,2,3,4,5,6,7,8,9,10],[0,10])])
def dW.B5:List Nat:=[0,0,2,6,14,0,32,96,254,510,1023,2047]
theorem dW.tab5:sS .any (opsOf Tryz.f137 5)=dW.T5:=by kernel_rfl
theorem dW.bits5:Af dW.T5.2 dW.B5=true:=by kernel_rfl
theorem dW.calls(k:Nat)(dN dz:Int)(bU dL:ByteArray)(iy:Option Addr)(eP:Nat)(bq:List (S36))(r:ByteArray)(w:World)(xD:Kd.C k36 w iy bq.length bq)(xE:bq.length≤eP)(h:dW.f k dN dz bU dL bq=some r):
 Calls Tryz.prog 137 #[.agg #[.int .i64 dN,.int .i64 dz,.string bU,.string dL,.slice iy bq.length eP]] w fun e w'=>e=.returned (.string r)∧Below w.heap.size w w':=by
 have hu34:=Tryz.underlying34;have hu36:=Tryz.underlying36;have xF:=ak.mk xD;have Kt:=ak.mk xE;clear xD xE;have HB:=ak.mk (Below.refl w.heap.size w);have H:(if 1+bU.size≤9223372036854775807 then(dW.l0 k ((⟨#[60]⟩:ByteArray)++bU) bq (bq.length:Int) 0)else(none))=some r:=h;clear h
 by_cases c2:1+bU.size≤9223372036854775807
 ·rw[if_pos c2]at H
  have CJ:=eq_true c2;have c2b1:decide (1+bU.size≤9223372036854775807)=true:=decide_eq_true c2
  try have c2b2:(9223372036854775807<1+bU.size)=False:=eq_false (Nat.not_lt.2 c2)
  have H':=ak.mk H;clear H;go_enter Tryz.func137,Tryz.ntmps137
  go_wp2_with(first|((with_reducible refine cB (N:=1) rfl ?_);refine eG ?hg (N:=1) ?hd (cs:=#[.int .i64 dN,.int .i64 dz,.string bU,.string dL,.slice iy bq.length eP]) (t:=34) ?hr ?_;(case hd=>rfl);(case hg=>rfl);(case hr=>first|(go_simp;done)|(go_simp;rfl));intro qZ hg w3 fK hb;have n0_:=ak.mk (aG bz hb);have n1_:=ak.mk (fK);have n2_:=ak.mk ((by rw[hg];exact(aR bz):w.heap.size≤qZ));have n3_:=ak.mk ((by rw[hg];exact(aR bz):w.heap.size≤qZ));clear HB;have HB:=n0_;have kL:=n1_;have GW586:=n2_;have Cg:=n3_;clear n0_ n1_ n2_ n3_;clear hb fK hg;have hcz4_0:w3.cell? ⟨qZ,0,none⟩=some (.int .i64 dN):=(aC kL.out 0).trans rfl;have hcz4_1:w3.cell? ⟨qZ,1,none⟩=some (.int .i64 dz):=(aC kL.out 1).trans rfl;have hcz4_2:w3.cell? ⟨qZ,2,none⟩=some (.string bU):=(aC kL.out 2).trans rfl;have hcz4_3:w3.cell? ⟨qZ,3,none⟩=some (.string dL):=(aC kL.out 3).trans rfl;have hcz4_4:w3.cell? ⟨qZ,4,none⟩=some (.slice iy bq.length eP):=(aC kL.out 4).trans rfl;have hfz4_0:=ay kL.out 0;have hfz4_1:=ay kL.out 1;have hfz4_2:=ay kL.out 2;have hfz4_3:=ay kL.out 3;have hfz4_4:=ay kL.out 4))
  go_loopg [3,12] k (fun kq v3 v12 w'=>∃(nI:ByteArray) (gI:Int),v3=.string nI∧v12=.int .i64 gI∧ak (dW.l0 kq nI bq (bq.length:Int) gI=some r)∧ak (kq≤k)∧ak (w'.heap[qZ]?=some (.cells #[.int .i64 dN,.int .i64 dz,.string bU,.string dL,(.slice iy bq.length eP)] 34 (0,0)))∧ak (Below w.heap.size w w'))
  case atStart=>exact⟨((⟨#[60]⟩:ByteArray)++bU),(0),q'c,q'c,H',⟨Nat.le_refl _⟩,⟨by(with_reducible repeat(first|refine aT ?_ _|refine aY ?_ |refine aU ?_ _));exact kL.out⟩,⟨bs Cg.out⟩⟩
  case round=>
   clear H'
   try clear c1
   try clear c2
   try clear CJ
   try clear c2b1
   try clear c2b2
   try clear p2
   try clear hcz4_0
   try clear hcz4_1
   try clear hcz4_2
   try clear hcz4_3
   try clear hcz4_4
   try clear hfz4_0
   try clear hfz4_1
   try clear hfz4_2
   try clear hfz4_3
   try clear hfz4_4
   obtain⟨nI,gI,rfl,rfl,HA,HK1,kL,HB⟩:=hrel;cases gk with
   |zero=>exact absurd HA.out (by simp[dW.l0])
   |succ k1=>
    have H:=HA.out;clear HA;simp only[dW.l0]at H
    by_cases c5:gI<(bq.length:Int)
    ·rw[if_pos c5]at H
     have uf:decide (gI<(bq.length:Int))=true:=decide_eq_true c5;clear c5
     by_cases c6:0≤gI
     ·rw[if_pos c6]at H
      have zm:decide (0≤gI)=true:=decide_eq_true c6;clear c6
      by_cases c7:gI<(bq.length:Int)
      ·rw[if_pos c7]at H
       have c7b0:decide (gI<(bq.length:Int))=true:=decide_eq_true c7;clear c7
       by_cases c8:1+((bg bq gI).f0).size≤9223372036854775807
       ·rw[if_pos c8]at H
        have xB:=eq_true c8;have c8b1:decide (1+((bg bq gI).f0).size≤9223372036854775807)=true:=decide_eq_true c8
        try have c8b2:(9223372036854775807<1+((bg bq gI).f0).size)=False:=eq_false (Nat.not_lt.2 c8)
        by_cases c9:((⟨#[32]⟩:ByteArray)++((bg bq gI).f0)).size+2≤9223372036854775807
        ·rw[if_pos c9]at H
         have c9b0:=eq_true c9;have c9b1:decide (((⟨#[32]⟩:ByteArray)++((bg bq gI).f0)).size+2≤9223372036854775807)=true:=decide_eq_true c9
         try have c9b2:(9223372036854775807<((⟨#[32]⟩:ByteArray)++((bg bq gI).f0)).size+2)=False:=eq_false (Nat.not_lt.2 c9)
         try have c9b3:=c9b2
         try simp only[ByteArray.size_append,(show∀a:UInt8,(ByteArray.mk #[a]).size=1 from fun _=>rfl),(show∀a b:UInt8,(ByteArray.mk #[a,b]).size=2 from fun _ _=>rfl),(show∀a b c:UInt8,(ByteArray.mk #[a,b,c]).size=3 from fun _ _ _=>rfl),(show∀a b c d:UInt8,(ByteArray.mk #[a,b,c,d]).size=4 from fun _ _ _ _=>rfl),(show∀a b c d e:UInt8,(ByteArray.mk #[a,b,c,d,e]).size=5 from fun _ _ _ _ _=>rfl),(show∀a b c d e f:UInt8,(ByteArray.mk #[a,b,c,d,e,f]).size=6 from fun _ _ _ _ _ _=>rfl)]at c9b3
         replace H:=Option.bind_eq_some_iff.mp H;obtain⟨uo,A100,H⟩:=H;replace H:(if(((⟨#[32]⟩:ByteArray)++((bg bq gI).f0))++(⟨#[61,34]⟩:ByteArray)).size+uo.size≤9223372036854775807 then(if((((⟨#[32]⟩:ByteArray)++((bg bq gI).f0))++(⟨#[61,34]⟩:ByteArray))++uo).size+1≤9223372036854775807 then(if nI.size+(((((⟨#[32]⟩:ByteArray)++((bg bq gI).f0))++(⟨#[61,34]⟩:ByteArray))++uo)++(⟨#[34]⟩:ByteArray)).size≤9223372036854775807 then(dW.l0 k1 (nI++(((((⟨#[32]⟩:ByteArray)++((bg bq gI).f0))++(⟨#[61,34]⟩:ByteArray))++uo)++(⟨#[34]⟩:ByteArray))) bq (bq.length:Int) (wrap64 (gI+1)))else(none))else(none))else(none))=some r:=H;have A10:=ak.mk A100;clear A100
         by_cases c11:(((⟨#[32]⟩:ByteArray)++((bg bq gI).f0))++(⟨#[61,34]⟩:ByteArray)).size+uo.size≤9223372036854775807
         ·rw[if_pos c11]at H
          have c11b0:=eq_true c11;have c11b1:decide ((((⟨#[32]⟩:ByteArray)++((bg bq gI).f0))++(⟨#[61,34]⟩:ByteArray)).size+uo.size≤9223372036854775807)=true:=decide_eq_true c11
          try have c11b2:(9223372036854775807<(((⟨#[32]⟩:ByteArray)++((bg bq gI).f0))++(⟨#[61,34]⟩:ByteArray)).size+uo.size)=False:=eq_false (Nat.not_lt.2 c11)
          try have c11b3:=c11b2
          try simp only[ByteArray.size_append,(show∀a:UInt8,(ByteArray.mk #[a]).size=1 from fun _=>rfl),(show∀a b:UInt8,(ByteArray.mk #[a,b]).size=2 from fun _ _=>rfl),(show∀a b c:UInt8,(ByteArray.mk #[a,b,c]).size=3 from fun _ _ _=>rfl),(show∀a b c d:UInt8,(ByteArray.mk #[a,b,c,d]).size=4 from fun _ _ _ _=>rfl),(show∀a b c d e:UInt8,(ByteArray.mk #[a,b,c,d,e]).size=5 from fun _ _ _ _ _=>rfl),(show∀a b c d e f:UInt8,(ByteArray.mk #[a,b,c,d,e,f]).size=6 from fun _ _ _ _ _ _=>rfl)]at c11b3
          by_cases c12:((((⟨#[32]⟩:ByteArray)++((bg bq gI).f0))++(⟨#[61,34]⟩:ByteArray))++uo).size+1≤9223372036854775807
          ·rw[if_pos c12]at H
           have Ad:=eq_true c12;have Ky:decide (((((⟨#[32]⟩:ByteArray)++((bg bq gI).f0))++(⟨#[61,34]⟩:ByteArray))++uo).size+1≤9223372036854775807)=true:=decide_eq_true c12
           try have c12b2:(9223372036854775807<((((⟨#[32]⟩:ByteArray)++((bg bq gI).f0))++(⟨#[61,34]⟩:ByteArray))++uo).size+1)=False:=eq_false (Nat.not_lt.2 c12)
           try have c12b3:=c12b2
           try simp only[ByteArray.size_append,(show∀a:UInt8,(ByteArray.mk #[a]).size=1 from fun _=>rfl),(show∀a b:UInt8,(ByteArray.mk #[a,b]).size=2 from fun _ _=>rfl),(show∀a b c:UInt8,(ByteArray.mk #[a,b,c]).size=3 from fun _ _ _=>rfl),(show∀a b c d:UInt8,(ByteArray.mk #[a,b,c,d]).size=4 from fun _ _ _ _=>rfl),(show∀a b c d e:UInt8,(ByteArray.mk #[a,b,c,d,e]).size=5 from fun _ _ _ _ _=>rfl),(show∀a b c d e f:UInt8,(ByteArray.mk #[a,b,c,d,e,f]).size=6 from fun _ _ _ _ _ _=>rfl)]at c12b3
           by_cases c13:nI.size+(((((⟨#[32]⟩:ByteArray)++((bg bq gI).f0))++(⟨#[61,34]⟩:ByteArray))++uo)++(⟨#[34]⟩:ByteArray)).size≤9223372036854775807
           ·rw[if_pos c13]at H
            have tY:=eq_true c13;have Ec:decide (nI.size+(((((⟨#[32]⟩:ByteArray)++((bg bq gI).f0))++(⟨#[61,34]⟩:ByteArray))++uo)++(⟨#[34]⟩:ByteArray)).size≤9223372036854775807)=true:=decide_eq_true c13
            try have c13b2:(9223372036854775807<nI.size+(((((⟨#[32]⟩:ByteArray)++((bg bq gI).f0))++(⟨#[61,34]⟩:ByteArray))++uo)++(⟨#[34]⟩:ByteArray)).size)=False:=eq_false (Nat.not_lt.2 c13)
            try have c13b3:=c13b2
            try simp only[ByteArray.size_append,(show∀a:UInt8,(ByteArray.mk #[a]).size=1 from fun _=>rfl),(show∀a b:UInt8,(ByteArray.mk #[a,b]).size=2 from fun _ _=>rfl),(show∀a b c:UInt8,(ByteArray.mk #[a,b,c]).size=3 from fun _ _ _=>rfl),(show∀a b c d:UInt8,(ByteArray.mk #[a,b,c,d]).size=4 from fun _ _ _ _=>rfl),(show∀a b c d e:UInt8,(ByteArray.mk #[a,b,c,d,e]).size=5 from fun _ _ _ _ _=>rfl),(show∀a b c d e f:UInt8,(ByteArray.mk #[a,b,c,d,e,f]).size=6 from fun _ _ _ _ _ _=>rfl)]at c13b3
            have H':=ak.mk H;clear H;have p587:0≤(gI:Int):=q'b;have q587:gI<(bq.length:Int):=q'b;obtain⟨KA,e587,IB,IC⟩:=lI xF.out gI p587 q587;cases e587;replace IB:=(HB.out.cell (World.block_lt_of_cell? w _ IB)).trans IB;replace IC:=(HB.out.cell (World.block_lt_of_cell? w _ IC)).trans IC;replace p587:=eq_true p587;replace q587:=eq_true q587
            try go_wp2_with(first|((with_reducible refine cB (N:=5) rfl ?_);refine eG ?hg (N:=5) ?hd (cs:=#[.string (⟨#[]⟩:ByteArray),.string (⟨#[]⟩:ByteArray)]) (t:=36) ?hr ?_;(case hd=>rfl);(case hg=>rfl);(case hr=>first|(go_simp;done)|(go_simp;rfl));intro oL hg w14 fK hb;have n0_:=ak.mk (dJ (g:=qZ) (o:=.cells #[.int .i64 dN,.int .i64 dz,.string bU,.string dL,.slice (some KA) bq.length eP] 34 (0,0)) (kz kL.out) hb);have n1_:=ak.mk (aG (bs Cg.out) hb);have n2_:=ak.mk (fK);have n3_:=ak.mk ((by rw[hg];exact(aR (bs Cg.out)):w.heap.size≤oL));have n4_:=ak.mk ((by rw[hg];exact(aR (bs Cg.out)):w.heap.size≤oL));have n5_:=ak.mk ((by rw[hg];exact Nat.ne_of_lt (gU (g:=qZ) (o:=.cells #[.int .i64 dN,.int .i64 dz,.string bU,.string dL,.slice (some KA) bq.length eP] 34 (0,0)) (kz kL.out)):qZ≠oL));have n6_:=ak.mk ((by rw[hg];exact Nat.ne_of_gt (gU (g:=qZ) (o:=.cells #[.int .i64 dN,.int .i64 dz,.string bU,.string dL,.slice (some KA) bq.length eP] 34 (0,0)) (kz kL.out)):oL≠qZ));clear kL;clear HB;have kL:=n0_;have HB:=n1_;have oM:=n2_;have GW588:=n3_;have GE588:=n4_;have BF:=n5_;have Qo:=n6_;clear n0_ n1_ n2_ n3_ n4_ n5_ n6_;clear hb fK hg;have hnb15:=Qo.out;have hnc15:=BF.out;have vV:w14.cell? ⟨oL,0,none⟩=some (.string (⟨#[]⟩:ByteArray)):=(aC oM.out 0).trans rfl;have vW:w14.cell? ⟨oL,1,none⟩=some (.string (⟨#[]⟩:ByteArray)):=(aC oM.out 1).trans rfl;have vX:=ay oM.out 0;have vY:=ay oM.out 1))
            have n0_:ak (((w14.setCell ⟨oL,0,none⟩ (.string ((bg bq gI).f0))).setCell ⟨oL,1,none⟩ (.string ((bg bq gI).f1))).heap[qZ]?=some (.cells #[.int .i64 dN,.int .i64 dz,.string bU,.string dL,.slice (some KA) bq.length eP] 34 (0,0))):=⟨by(with_reducible repeat(first|refine aT ?_ _|refine aY ?_ |refine aU ?_ _));refine lV ?_ BF.out _;(with_reducible repeat(first|refine aT ?_ _|refine aY ?_ |refine aU ?_ _));refine lV ?_ BF.out _;(with_reducible repeat(first|refine aT ?_ _|refine aY ?_ |refine aU ?_ _));exact kL.out⟩
            have n1_:ak (((w14.setCell ⟨oL,0,none⟩ (.string ((bg bq gI).f0))).setCell ⟨oL,1,none⟩ (.string ((bg bq gI).f1))).heap[oL]?=some (.cells #[.string ((bg bq gI).f0),.string ((bg bq gI).f1)] 36 (0,0))):=⟨by(with_reducible repeat(first|refine aT ?_ _|refine aY ?_ |refine aU ?_ _));refine bT (cs:=#[.string ((bg bq gI).f0),.string (⟨#[]⟩:ByteArray)]) ?_ 1 _ rfl;(with_reducible repeat(first|refine aT ?_ _|refine aY ?_ |refine aU ?_ _));refine bT (cs:=#[.string (⟨#[]⟩:ByteArray),.string (⟨#[]⟩:ByteArray)]) ?_ 0 _ rfl;(with_reducible repeat(first|refine aT ?_ _|refine aY ?_ |refine aU ?_ _));exact oM.out⟩;have n2_:ak (Below w.heap.size w ((w14.setCell ⟨oL,0,none⟩ (.string ((bg bq gI).f0))).setCell ⟨oL,1,none⟩ (.string ((bg bq gI).f1)))):=⟨by repeat(first|(with_reducible first|exact HB.out|apply bX|apply bE|apply dn|refine aH ?_ Cg.out|refine aH ?_ GE588.out)|exact HB.out)⟩
            (try clear kL)
            (try clear oM)
            (try clear HB)
            generalize ((w14.setCell ⟨oL,0,none⟩ (.string ((bg bq gI).f0))).setCell ⟨oL,1,none⟩ (.string ((bg bq gI).f1)))=w17 at n0_ n1_ n2_⊢;have kL:=n0_;have oM:=n1_;have HB:=n2_;clear n0_ n1_ n2_;have n0_:=ak.mk (aY kL.out);have n1_:=ak.mk (aY oM.out);have n2_:=ak.mk (dn HB.out);clear kL;clear oM;clear HB;have kL:=n0_;have oM:=n1_;have HB:=n2_;clear n0_ n1_ n2_;refine uO (n:=12) (S:=fun w'=>w'.cell? ⟨oL,0,none⟩=some (.string ((bg bq gI).f0))∧w'.cell? ⟨oL,1,none⟩=some (.string ((bg bq gI).f1))) (ds:=[]) (fl 12 0) (by kernel_rfl) rfl rfl ⟨(aC oM.out 0).trans rfl,(aC oM.out 1).trans rfl⟩ (fun hHeld=>?_);refine Qp dW.tab5 dW.bits5 (fun HT_ HW_=>?_)
            generalize w17.drew=w18 at kL oM HB hHeld⊢;refine pw 0 16 (fl 12 1) ?_;refine pw 1 17 (fl 12 2) ?_;refine pw 5 21 (fb 12 35) ?_;refine pt 2 18 (fb 12 39) ?_;refine pw 3 19 (fb 12 47) ?_;refine pw 4 20 (fl 12 6) ?_;refine pt 6 22 (fl 12 7) ?_;refine one_ (i:=7) (N:=some 23) (fl 12 8) rfl rfl (one_of HT_.out (by kernel_rfl)) (by decide) (fun K hK=>?_);refine FM Tryz.func176 (by kernel_rfl) rfl #[.string ((bg bq gI).f1)] (by rfl) rfl rfl q'a ?_
            with_reducible refine(qV.calls ((bg bq gI).f1) uo _ A10.out).mono ?_
            rintro e w19 ⟨rfl,hb⟩;refine⟨_,rfl,?_⟩;have n0_:=ak.mk (dJ (g:=qZ) (o:=.cells #[.int .i64 dN,.int .i64 dz,.string bU,.string dL,.slice (some KA) bq.length eP] 34 (0,0)) (kz kL.out) hb);have n1_:=ak.mk (dJ (g:=oL) (o:=.cells #[.string ((bg bq gI).f0),.string ((bg bq gI).f1)] 36 (0,0)) (kz oM.out) hb);have n2_:=ak.mk (aG (by repeat(first|(with_reducible first|exact HB.out|apply bX|apply bE|apply dn|refine aH ?_ Cg.out|refine aH ?_ GE588.out)|exact HB.out)) hb);clear kL;clear oM;clear HB;have kL:=n0_;have oM:=n1_;have HB:=n2_;clear n0_ n1_ n2_
            (try clear hb)
            (try clear hb2)
            (try clear hk)
            (try clear hi)
            refine hK.out _ _ ⟨(aC oM.out 0).trans rfl,(aC oM.out 1).trans rfl⟩ (fun hHeld=>?_);clear hK K;refine pn ?_;refine pw 8 24 (fl 12 9) ?_;refine pw 9 25 (fl 12 10) ?_;refine pw 10 26 (fl 12 11) ?_;refine pw 11 3 (fl 12 12) ?_;refine zQ (done_of HT_.out (by kernel_rfl)) ?_
            try go_wp2
            go_roundg k1
            case measure=>have:=HK1.out;omega
            case rel=>exact⟨(nI++(((((⟨#[32]⟩:ByteArray)++((bg bq gI).f0))++(⟨#[61,34]⟩:ByteArray))++uo)++(⟨#[34]⟩:ByteArray))),(wrap64 (gI+1)),q'c,q'c,H',⟨by have:=HK1.out;omega⟩,⟨by(with_reducible repeat(first|refine aT ?_ _|refine aY ?_ |refine aU ?_ _));exact kL.out⟩,⟨by repeat(first|(with_reducible first|exact HB.out|apply bX|apply bE|apply dn|refine aH ?_ Cg.out|refine aH ?_ GE588.out)|exact HB.out)⟩⟩
           ·rw[if_neg c13]at H
            exact absurd H (by simp)
          ·rw[if_neg c12]at H
           exact absurd H (by simp)
         ·rw[if_neg c11]at H
          exact absurd H (by simp)
        ·rw[if_neg c9]at H
         exact absurd H (by simp)
       ·rw[if_neg c8]at H
        exact absurd H (by simp)
      ·rw[if_neg c7]at H
       exact absurd H (by simp)
     ·rw[if_neg c6]at H
      exact absurd H (by simp)
    ·rw[if_neg c5]at H
     have uf:decide (gI<(bq.length:Int))=false:=decide_eq_false c5;clear c5
     by_cases c20:nI.size+1≤9223372036854775807
     ·rw[if_pos c20]at H
      have c20b0:=eq_true c20;have c20b1:decide (nI.size+1≤9223372036854775807)=true:=decide_eq_true c20
      try have c20b2:(9223372036854775807<nI.size+1)=False:=eq_false (Nat.not_lt.2 c20)
      obtain rfl:=Option.some.inj H;go_wp2;go_ret;exact⟨by first|rfl|(simp[aJ,aM]<;>rfl)|(simp[*,aJ,aM]<;>rfl),bs Cg.out⟩
     ·rw[if_neg c20]at H
      exact absurd H (by simp)
 ·rw[if_neg c2]at H
  exact absurd H (by simp)
def kQ.f(k:Nat)(a0:ByteArray):Option (Bool):=(bA.f k a0 (([(⟨#[105,102,114,97,109,101]⟩:ByteArray),(⟨#[110,111,101,109,98,101,100]⟩:ByteArray),(⟨#[110,111,102,114,97,109,101,115]⟩:ByteArray),(⟨#[115,99,114,105,112,116]⟩:ByteArray),(⟨#[115,116,121,108,101]⟩:ByteArray),(⟨#[120,109,112]⟩:ByteArray)] :List ByteArray))).bind fun t372=>(some t372)
theorem kQ.calls(k:Nat)(a0:ByteArray)(r:Bool)(w:World)(h:kQ.f k a0=some r):
 Calls Tryz.prog 32 #[.string a0] w fun e w'=>e=.returned (.bool r)∧Below w.heap.size w w':=by
 have HB:=ak.mk (Below.refl w.heap.size w);have H:((bA.f k a0 (([(⟨#[105,102,114,97,109,101]⟩:ByteArray),(⟨#[110,111,101,109,98,101,100]⟩:ByteArray),(⟨#[110,111,102,114,97,109,101,115]⟩:ByteArray),(⟨#[115,99,114,105,112,116]⟩:ByteArray),(⟨#[115,116,121,108,101]⟩:ByteArray),(⟨#[120,109,112]⟩:ByteArray)] :List ByteArray))).bind fun t372=>(some t372))=some r:=h;clear h;obtain⟨y369,Kv⟩:∃y_:List ByteArray,y_=(([(⟨#[105,102,114,97,109,101]⟩:ByteArray),(⟨#[110,111,101,109,98,101,100]⟩:ByteArray),(⟨#[110,111,102,114,97,109,101,115]⟩:ByteArray),(⟨#[115,99,114,105,112,116]⟩:ByteArray),(⟨#[115,116,121,108,101]⟩:ByteArray),(⟨#[120,109,112]⟩:ByteArray)] :List ByteArray)):=⟨_,rfl⟩
 replace H:((bA.f k a0 y369).bind fun t372=>(some t372))=some r:=by first|(rw[Kv];with_reducible exact H)|(have H2_:=(Option.bind_some _ _).symm.trans H;rw[Kv];with_reducible exact H2_)|(have H2_:=(Option.bind_some _ _).symm.trans H;with_reducible exact H2_)|with_reducible exact H|(rw[Kv];exact H)|exact H
 have Ny369:=ak.mk Kv;clear Kv;replace H:=Option.bind_eq_some_iff.mp H;obtain⟨t372,A20,H⟩:=H;replace H:(some t372)=some r:=H;have A2:=ak.mk A20;clear A20;obtain rfl:=Option.some.inj H;go_enter Tryz.func32,Tryz.ntmps32
 go_wp2_with(first|((with_reducible refine cB (N:=4) rfl ?_);refine Kd.jN Kd.string _ 9 ?hg (N:=4) ?hd (xs:=([(⟨#[105,102,114,97,109,101]⟩:ByteArray),(⟨#[110,111,101,109,98,101,100]⟩:ByteArray),(⟨#[110,111,102,114,97,109,101,115]⟩:ByteArray),(⟨#[115,99,114,105,112,116]⟩:ByteArray),(⟨#[115,116,121,108,101]⟩:ByteArray),(⟨#[120,109,112]⟩:ByteArray)] :List ByteArray)) (inner:=[.string (⟨#[105,102,114,97,109,101]⟩:ByteArray),.string (⟨#[110,111,101,109,98,101,100]⟩:ByteArray),.string (⟨#[110,111,102,114,97,109,101,115]⟩:ByteArray),.string (⟨#[115,99,114,105,112,116]⟩:ByteArray),.string (⟨#[115,116,121,108,101]⟩:ByteArray),.string (⟨#[120,109,112]⟩:ByteArray)]) (ok:=fun _=>True) (okp:=fun _=>True) ?hr ?hp (fun _ hk=>hk) trivial (Below.refl _ _) (Nat.le_refl _) (by simp) ?_;(case hd=>rfl);(case hg=>rfl);(case hr=>first|(go_simp;done)|(go_simp;rfl));(case hp=>exact(bK.one (show Kd.M Kd.string _ _ _ (⟨#[105,102,114,97,109,101]⟩:ByteArray) [.string (⟨#[105,102,114,97,109,101]⟩:ByteArray)]from rfl) (bK.one (show Kd.M Kd.string _ _ _ (⟨#[110,111,101,109,98,101,100]⟩:ByteArray) [.string (⟨#[110,111,101,109,98,101,100]⟩:ByteArray)]from rfl) (bK.one (show Kd.M Kd.string _ _ _ (⟨#[110,111,102,114,97,109,101,115]⟩:ByteArray) [.string (⟨#[110,111,102,114,97,109,101,115]⟩:ByteArray)]from rfl) (bK.one (show Kd.M Kd.string _ _ _ (⟨#[115,99,114,105,112,116]⟩:ByteArray) [.string (⟨#[115,99,114,105,112,116]⟩:ByteArray)]from rfl) (bK.one (show Kd.M Kd.string _ _ _ (⟨#[115,116,121,108,101]⟩:ByteArray) [.string (⟨#[115,116,121,108,101]⟩:ByteArray)]from rfl) (bK.one (show Kd.M Kd.string _ _ _ (⟨#[120,109,112]⟩:ByteArray) [.string (⟨#[120,109,112]⟩:ByteArray)]from rfl) (bK.none _ _))))))));intro v370 w3 ho4 hb hg_ fH;clear hg_ fH;(first|rw[←Ny369.out]at ho4|(simp only[Int.reduceToNat]at ho4;rw[←Ny369.out]at ho4));have n0_:=ak.mk (Kd.d9 ho4 (aR bz));have n1_:=ak.mk (aG bz hb);clear HB;have HO371:=n0_;have HB:=n1_;clear n0_ n1_;clear hb ho4;obtain⟨Ao5,co5,eo5⟩:=Kd.dH HO371.out;subst eo5)|((with_reducible refine aZ (f:=81) rfl ?_);refine dI (some 5) rfl rfl Tryz.func81 (by kernel_rfl) rfl #[.string a0,.slice Ao5 y369.length co5] rfl q'a ?_;(with_reducible refine(bA.calls k a0 _ _ y369 t372 _ ?cO ?dG A2.out).mono ?_);(case cO=>exact cz (Kd.bJ HO371.out).2.2);(case dG=>exact(Kd.bJ HO371.out).2.1);rintro e w' ⟨rfl,⟨nd,rfl⟩⟩;refine⟨_,rfl,?_⟩))
 go_ret;exact⟨by first|rfl|(simp[aJ,aM]<;>rfl)|(simp[*,aJ,aM]<;>rfl),bz⟩
end Go.Proofs.aj.W7
