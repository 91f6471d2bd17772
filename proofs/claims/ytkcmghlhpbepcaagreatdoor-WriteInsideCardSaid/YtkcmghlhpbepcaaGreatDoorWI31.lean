/- Lemmas and walks, part 31. -/
import Derived.Test.YtkcmghlhpbepcaaGreatDoorWI30
import Derived.Test.YtkcmghlhpbepcaaGreatDoorRows
import Derived.ProofKit
import Derived.OpenShut
import Derived.Deep.DeepWitnessRowRef
import Derived.Stop.LaidErr
import Derived.Lib.LaidIn
import Derived.Lib.LaidU8T
set_option linter.unusedVariables false
set_option linter.unusedSimpArgs false
namespace Go.Proofs.aj.W7
open Go.RowKit Go.Proofs aj YtkcmghlhpbepcaaGreatDoor ah.aD YtkcmghlhpbepcaaGreatDoor.Ch
theorem QD(xs:List Rw)(D:Nat)(hD:D≤1000000)(hl:xs.length<1000000)(hd:∀x∈xs,0≤x.f0∧x.f0≤1000000)(ha:∀x∈xs,x.f4.length≤1000000):∀(d i k:Nat) (acc:List Rw),i+d=xs.length→acc.length=i→d<k→bV.l0 k xs (-(D:Int)) acc i=some (acc++(xs.drop i).map (sh D)):=by
 intro d
 induction d with
 |zero=>
  intro i k acc hi hacc hk;obtain⟨k,rfl⟩:∃m,k=m+1:=⟨k - 1,by omega⟩
  simp only[bV.l0];rw[if_neg (by omega),List.drop_of_length_le (by omega),List.map_nil,List.append_nil]
 |succ d ih=>
  intro i k acc hi hacc hk;obtain⟨k,rfl⟩:∃m,k=m+1:=⟨k - 1,by omega⟩
  have hlt:i<xs.length:=by omega
  have h0:=hd xs[i] (List.getElem_mem hlt);have h4:=ha xs[i] (List.getElem_mem hlt);simp only[bV.l0];rw[if_pos (by omega),if_pos (by omega),Option.bind_some,nJ xs i hlt,if_pos (by simp;omega),if_pos (by omega),wN (by omega),w64 (by omega) (by omega),List.nil_append];rw[ih (i+1) k _ (by omega) (by simp[hacc]) (by omega),List.append_assoc,List.drop_eq_getElem_cons hlt];rfl
theorem U4(xs:List Rw)(D:Nat)(hD:D≤1000000)(hl:xs.length<1000000)(hd:∀x∈xs,0≤x.f0∧x.f0≤1000000)(ha:∀x∈xs,x.f4.length≤1000000)(k:Nat)(hk:xs.length<k):bV.f k xs (-(D:Int))=some (xs.map (sh D)):=by
 unfold bV.f;have:=QD xs D hD hl hd ha xs.length 0 k [] (by omega) rfl hk;simpa using this
theorem writeInside(a:Bt)(i:Int):aQ.f 1000000 a i=some true:=by
 have hm:0≤mn (a.size:Int) 300∧mn (a.size:Int) 300≤(a.size:Int)∧mn (a.size:Int) 300≤300:=by unfold mn;split<;>omega
 have hfx:eX.f=some true:=rfl;unfold aQ.f;rw[if_pos hm.1,if_pos hm.2.1];have hx:(a.extract 0 (mn (a.size:Int) 300).toNat).size≤300:=by rw[ByteArray.size_extract];omega
 generalize a.extract 0 (mn (a.size:Int) 300).toNat=s at *;have hz:s.data.toList.length=s.size:=Array.length_toList;rw[UL s (by omega),Option.bind_some]
 have htrue:∀l,aQ.j0 1000000 i l true=some true:=by
  intro l;rw[aQ.j0,if_pos rfl,hfx];rfl
 cases h:jQ (uY s.data.toList []) [] []with
 |none=>
  rw[if_neg (by decide)];exact htrue _
 |some o=>
  show(if(0:Int)=0 then aQ.j0 1000000 i o ((o.length:Int)==0)else _)=_;rw[if_pos rfl]
  by_cases h0:o.length=0
  ·have e:((o.length:Int)==0)=true:=by rw[h0];rfl
   rw[e];exact htrue _
  ·have e:((o.length:Int)==0)=false:=by rw[beq_eq_false_iff_ne];omega
   rw[e];obtain⟨hf,hg,op,hB,hA⟩:=parsed s.data.toList [] (by omega) o h;have hlen:=hB.len;obtain⟨b1,b2⟩:=UH i 65535 (by decide);have b3:Go.bits .and .i64 i ((65535:Nat):Int)=Go.bits .and .i64 i 65535:=rfl;rw[b3]at b1 b2
   obtain⟨k,hk,hkl⟩:∃k:Nat,Int.tmod (Go.bits .and .i64 i 65535) (o.length:Int)=(k:Int)∧k<o.length:=by
    have h1:=Int.tmod_nonneg (o.length:Int) b1;have h2:=Int.tmod_lt_of_pos (Go.bits .and .i64 i 65535) (b:=(o.length:Int)) (by omega);exact⟨(Int.tmod (Go.bits .and .i64 i 65535) (o.length:Int)).toNat,by omega,by omega⟩
   rw[aQ.j0,if_neg (by decide),if_neg (by omega),hk,if_pos (by omega),if_pos (by omega),nJ o k hkl]
   by_cases hel:o[k].f1=0
   ·obtain⟨T,t1,t2⟩:=O5 s.data.toList (by omega) o h k hkl hel 999999 (by omega)
    have hgt:=lg o k;have hle:=oP o k hkl;have hd0:=hB.depth o[k] (List.getElem_mem hkl)
    have hmv:=U4 (iq o (k+1) (fK o k)) (o[k].f0.toNat+1) (by omega) (by unfold iq;rw[List.length_take,List.length_drop];omega)
     (fun x hx=>by obtain⟨m,hm2,_,_,rfl⟩:=pR _ _ _ (Nat.le_refl _) hle hx;have:=hB.depth _ (List.getElem_mem hm2);omega)
     (fun x hx=>by obtain⟨m,hm2,_,_,rfl⟩:=pR _ _ _ (Nat.le_refl _) hle hx;have:=hA _ (List.getElem_mem hm2);omega) 999999 (by unfold iq;rw[List.length_take,List.length_drop];omega)
    have hdr:(o.take (((fK o k:Nat):Int)).toNat).drop (((k+1:Nat):Int)).toNat=iq o (k+1) (fK o k):=by
     rw[Int.toNat_natCast,Int.toNat_natCast,List.drop_take];rfl
    have hneg:wrap64 ((-1) - o[k].f0)= -((o[k].f0.toNat+1:Nat):Int):=by rw[w64 (by omega) (by omega)];omega
    rw[if_pos hel,t1,Option.bind_some,t2,Option.bind_some,if_pos rfl,refEnd_f o (by omega) k 999999 hkl (by omega),Option.bind_some,wN (by omega),if_pos (by omega),if_pos (by omega),if_pos (by omega),hdr,hneg,hmv,Option.bind_some];unfold gY.f;rw[decide_eq_true rfl,Option.bind_some,if_pos rfl,hfx];rfl
   ·rw[if_neg hel]
    unfold gF.f;rw[if_neg (by omega),if_neg (by omega),if_neg (by omega),if_pos (by omega),if_pos (by omega),nJ o k hkl,if_neg hel,Option.bind_some,if_pos (by rw[Lib.toList_data]),hfx];rfl
end Go.Proofs.aj.W7
namespace Go.Proofs.YtkcmghlhpbepcaaGreatDoor
open Go.RowKit Go.Proofs aj aj.W7 ah.aD
theorem Jk(s:Bt)(i:Int){W:World}(hb:s.size≤maxLen)(hi:(Lit.int .i64 i).wf=true)(hS:Std W):
 Calls Tryz.prog 14 #[.string s,.int .i64 i] W fun e w'=>e=.returned (.bool true)∧Below W.heap.size W w':=
 aQ.calls 1000000 s i true W (writeInside s i) hS
end Go.Proofs.YtkcmghlhpbepcaaGreatDoor
namespace Go.Proofs.YtkcmghlhpbepcaaGreatDoor
open Go.ChangeShapes Go.WideShapes Go.ChangeAt Go.RowKit
theorem own:ownKnob Tryz.prog.godebug=none:=by kernel_rfl
theorem gER:Tryz.prog.globalNamed "strconv.ErrRange" =some 4:=by kernel_rfl
theorem gERType:(Tryz.prog.globals[4]?).map (·.type)=some 109:=by kernel_rfl
theorem cellsES:Tryz.prog.cellsOf 199=1:=by kernel_rfl
theorem cellsStr:Tryz.prog.cellsOf 9=1:=by kernel_rfl
theorem starES: "*" ++ "errors.errorString" = "*errors.errorString" :=by decide
theorem rowES(u:TypeId)(h:Tryz.prog.typeName? 3 u=some "*errors.errorString"):u=197:=
 typeName_ptr_named (nm:= "errors.errorString") (by rw[starES];kernel_rfl) (by kernel_rfl) (by decide) u (by rw[starES];exact h)
def T9:DataW Unit→Value
 | .lit (.int k n)=>.int k n
 |_=>.bool false
def litCells:DataW Unit→List Value
 | .agg l=>l.map T9
 |d=>[T9 d]
def wK:DataW Unit→Array Value
 | .agg l=>(l.flatMap litCells).toArray
 |_=>#[]
abbrev synS:Bt:={data:=#[105,110,118,97,108,105,100,32,115,121,110,116,97,120] }
abbrev rngS:Bt:={data:=#[118,97,108,117,101,32,111,117,116,32,111,102,32,114,97,110,103,101] }
noncomputable def low:Nat:=(World.holding Tryz.prog default ⟨#[],#[],[]⟩).heap.size
noncomputable def DX(os:Os):World:=
 let w0:=World.holding Tryz.prog os ⟨#[.cells #[.string synS] 199,.cells #[.string rngS] 199],#[],[]⟩
 let put (h:Array Obj) (g:Nat) (cs:Array Value):Array Obj:=h.modify g fun
  | .cells _ t frozen=>.cells cs t frozen
  |o=>o
 let h1:=put w0.heap 6 (wK Rows.laid_math_bits_deBruijn32tab)
 let h2:=put h1 7 (wK Rows.laid_math_bits_deBruijn64tab)
 let h3:=put h2 5 (wK Rows.laid_internal_strconv_uint64pow10)
 let h4:=put h3 1 (wK Rows.laid_unicode_utf8_acceptRanges)
 let h5:=put h4 3 #[.iface 197 (.pointer (some ⟨low,0,none⟩))]
 let h6:=put h5 4 #[.iface 197 (.pointer (some ⟨low+1,0,none⟩))]
 let h7:=put h6 0 (wK Rows.laid_unicode_utf8_first)
 {w0 with heap:=h7 }
def listed:List (String×DataW Unit):=[("math/bits.deBruijn32tab",Rows.laid_math_bits_deBruijn32tab),("math/bits.deBruijn64tab",Rows.laid_math_bits_deBruijn64tab),("internal/strconv.uint64pow10",Rows.laid_internal_strconv_uint64pow10),("unicode/utf8.acceptRanges",Rows.laid_unicode_utf8_acceptRanges),("strconv.ErrRange",Rows.laid_strconv_ErrRange),("strconv.ErrSyntax",Rows.laid_strconv_ErrSyntax),("unicode/utf8.first",Rows.laid_unicode_utf8_first)]
theorem acc_eq:(Rows.laid_unicode_utf8_acceptRanges:DataW Unit)=Lib.acceptData:=by kernel_rfl
theorem fst_eq:(Rows.laid_unicode_utf8_first:DataW Unit)=Lib.firstData:=by kernel_rfl
set_option maxRecDepth 100000 in
theorem laid_met(os:Os)(args:Array Value):laidMet Tryz.prog listed ((DX os).forCall (fun _ _=>0) ⟨#[],args,[]⟩).memory:=
 (LaidIn.of_run [6,7,5,1,4,3,low,low+1,0] 8 (by kernel_rfl) (by kernel_rfl) (by kernel_rfl) (by kernel_rfl)).met
theorem std_of{W:World}(hL:laidMetH Tryz.prog listed W)(hsh:W.ShapedOpen Tryz.prog):Std W:=by
 have h0:laidMet Tryz.prog listed W:=hL;have h3:=h0.tail.tail.tail.tail;obtain⟨a1,s1,hv1,-,-,-⟩:=laid_sentinel h3 gER gERType Tryz.underlying109 rowES Tryz.underlying197 Tryz.underlying199 rfl rfl Tryz.underlying9 cellsES cellsStr;refine⟨cell_of_shapedOpen_int (zero:=#[.int .i64 0]) (t:=3) hsh (of_decide_eq_true (by kernel_rfl)) (by kernel_rfl) rfl (by kernel_rfl) (by kernel_rfl) Tryz.underlying3,⟨_,_,by have h0:=World.var?_cell gER hv1 0;simpa using h0⟩,?_⟩;have h4:laidMet Tryz.prog listed W:=hL;unfold listed at h4;rw[acc_eq,fst_eq]at h4;exact utf8Tabs_of_readsT (U8Types.of196 Ik) ⟨by kernel_rfl,by kernel_rfl,by kernel_rfl,by kernel_rfl,by kernel_rfl,by kernel_rfl,by kernel_rfl⟩ (Lib.laidMet.reads h4 (.tail _ (.tail _ (.tail _ (.tail _ (.tail _ (.tail _ (.head _)))))))) (Lib.laidMet.reads h4 (.tail _ (.tail _ (.tail _ (.head _)))))
end Go.Proofs.YtkcmghlhpbepcaaGreatDoor
