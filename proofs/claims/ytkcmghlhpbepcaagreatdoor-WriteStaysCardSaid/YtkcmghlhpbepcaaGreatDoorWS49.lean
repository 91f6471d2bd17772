/- Lemmas and walks, part 49. -/
import Derived.Test.YtkcmghlhpbepcaaGreatDoorWS48
import Derived.Test.YtkcmghlhpbepcaaGreatDoorRows
import Derived.ProofKit
import Derived.OpenShut
import Derived.Deep.DeepWitnessRowRef
import Derived.Stop.LaidErr
import Derived.Lib.LaidIn
import Derived.Lib.LaidU8T
set_option linter.unusedVariables false
set_option linter.unusedSimpArgs false
namespace Go.Proofs.aj.W7
open Go.RowKit Go.Proofs Go.Proofs.aj Go.Proofs.YtkcmghlhpbepcaaGreatDoor Go.Proofs.ah.aD Go.Proofs.YtkcmghlhpbepcaaGreatDoor.Ch
theorem opA_len(op:List Bt)(x:Rw):(opA (op.take x.f0.toNat) x).length≤x.f0.toNat+1:=by
 unfold opA
 split
 ·rw[List.length_append,List.length_take,List.length_singleton];omega
 ·rw[List.length_take];omega
theorem Ei:∀(r:List Rw) (op:List Bt) (out:List Rw),RowsFit r op out→∀j,(h:j<r.length)→
 (r[j].f1=0∨r[j].f1=1∨r[j].f1=2)∧0≤r[j].f0∧r[j].f0≤op.length+j∧∀i,(e:i+1=j)→r[j].f0≤r[i].f0+1
 | [],_,_,_,j,h=>by simp at h
 |x::r,op,out,hf,0,h=>⟨hf.1.kind,hf.1.lo,by have:=hf.1.hi;simpa using this,fun i e=>by omega⟩
 |x::r,op,out,hf,j+1,h=>by
  have hl:=opA_len op x;have hlo:=hf.1.lo;have hhi:=hf.1.hi;have hj:j<r.length:=by simpa using h
  obtain⟨a,b,c,d⟩:=Ei r _ _ hf.2 j hj;refine⟨a,b,by simp only[List.getElem_cons_succ];omega,fun i e=>?_⟩;obtain rfl:i=j:=by omega
  cases i with
  |zero=>simp only[List.getElem_cons_succ,List.getElem_cons_zero];omega
  |succ i=>exact d i rfl
theorem Sr{xs:List Rw}(h:RowsFit xs [] []):Ow xs:=by
 intro j hj;obtain⟨a,b,c,d⟩:=Ei xs [] [] h j hj;have hr:=qO xs j hj;refine⟨by rw[hr];exact a,by rw[lZ xs j hj];exact b,by rw[lZ xs j hj];simpa using c,fun h0=>?_⟩;rw[lZ xs j hj,lZ xs (j - 1) (by omega)];exact d (j - 1) (by omega)
def enN(n:Bt):Nat:=n.data.toList.length+3
def mR(x:Rw):Nat:=wt (lT x)+if x.f1=0 then enN x.f2 else 0
def mS(l:List Rw):Nat:=(l.map mR).sum
theorem CS(a b:List Rw):mS (a++b)=mS a+mS b:=by simp[mS]
theorem CU(x:Rw):mS [x]=mR x:=by simp[mS]
def enS(l:List Bt):Nat:=(l.map enN).sum
theorem Sv(op:List Bt)(k:Nat):enS op=enS (op.take k)+enS (op.drop k):=by
 unfold enS
 conv=>lhs;rw[←List.take_append_drop k op]
 rw[List.map_append,List.sum_append]
theorem end_len(b:Bool)(n:Bt):(nP b (endP n)).length=enN n:=by
 unfold endP nP enN;simp[jG,dS,lX]
theorem Gc:∀(m:List Bt) (b:Bool) (L:List Tok),(eu b (m.map endP++L)).length≤enS m+max (eu false L).length (eu b L).length
 | [],b,L=>by simp[enS];omega
 |n::m,b,L=>by
  have h:=Gc m (qL (endP n)) L;have e:qL (endP n)=false:=by simp[qL,endP]
  rw[e]at h;rw[List.map_cons,List.cons_append,eu,List.length_append,end_len,e];have e2:enS (n::m)=enN n+enS m:=by simp[enS]
  omega
theorem Na:∀(r:List Rw) (op:List Bt) (b:Bool),(eu b (jZ r op)).length≤mS r+enS op
 | [],op,b=>by
   have h:=Gc op.reverse b [];have e:enS op.reverse=enS op:=by simp[enS]
   rw[List.append_nil]at h;rw[jZ];have e2:mS []=0:=rfl;have e3:∀c,(eu c []).length=0:=fun _=>rfl
   rw[e3,e3]at h;omega
 |x::r,op,b=>by
  have hs:=Sv op x.f0.toNat
  have h1:∀c,(eu c (lT x::jZ r (opA (op.take x.f0.toNat) x))).length≤mS (x::r)+enS (op.take x.f0.toNat):=by
   intro c;have h2:=Na r (opA (op.take x.f0.toNat) x) (qL (lT x));have h3:=tokW_le c (lT x)
   have h4:enS (opA (op.take x.f0.toNat) x)≤enS (op.take x.f0.toNat)+if x.f1=0 then enN x.f2 else 0:=by
    unfold opA
    split
    ·rename_i hc
     rw[if_pos hc.1];simp[enS]
    ·omega
   have e:mS (x::r)=mR x+mS r:=by simp[mS]
   rw[eu,List.length_append,e];unfold mR;omega
  have h5:=Gc (op.drop x.f0.toNat).reverse b (lT x::jZ r (opA (op.take x.f0.toNat) x));have e:enS (op.drop x.f0.toNat).reverse=enS (op.drop x.f0.toNat):=by simp[enS]
  have h6:=h1 false;have h7:=h1 b;rw[jZ];omega
theorem Ii(a b:List (Txt×Txt)):dS (a++b)=dS a++dS b:=by simp[dS]
theorem CV:∀(l out:List At),(dS ((pq out l).map kJ)).length≤(dS (out.map kJ)).length+(dS (l.map kJ)).length
 | [],out=>by simp[pq]
 |a::r,out=>by
  have e:dS ((a::r).map kJ)=dS ([a].map kJ)++dS (r.map kJ):=by rw[←Ii];rfl
  rw[pq,e,List.length_append]
  split
  ·have:=CV r out
   omega
  ·have:=CV r (out++[a])
   rw[List.map_append,Ii,List.length_append]at this;omega
theorem el_m(d:Int)(nm:Bt)(l:List At):mR ⟨d,0,nm,⟨#[]⟩,l⟩=2 * nm.data.toList.length+(dS (l.map kJ)).length+5:=by
 unfold mR lT;simp only[if_true];rw[MC];simp[jG,lX,enN];omega
theorem tx_m(d:Int)(s:Bt):mR ⟨d,1,⟨#[]⟩,s,[]⟩=6 * s.data.toList.length:=by simp[mR,lT,wt]
theorem tx_gen(x:Rw)(h:x.f1=1):mR x=6 * x.f3.data.toList.length:=by
 unfold mR lT;rw[h];simp[wt]
theorem nt_m(d:Int)(s:Bt):mR ⟨d,2,⟨#[]⟩,s,[]⟩=s.data.toList.length+7:=by
 unfold mR lT;simp only;rw[if_neg (by decide),if_neg (by decide),if_neg (by decide),wt_k3];simp
theorem step_m(t:Tok)(op:List Bt)(out:List Rw)(ht:kY t)(hb:(fV op out (l9 t)).2.2=false):3 * mS (fV op out (l9 t)).2.1≤3 * mS out+7 * wt t:=by
 have hsame:3 * mS out≤3 * mS out+7 * wt t:=by omega
 have hk:=ht.le;have hk0:=ht.ge
 rcases(show t.kind=0∨t.kind=1∨t.kind=2∨t.kind=3∨t.kind=4 from by omega)with k|k|k|k|k
 ·obtain⟨kd,nm,l,d,sf⟩:=t
  simp only at k;subst k;have e:fV op out (l9 ⟨0,nm,l,d,sf⟩)=(op,Go.Proofs.aj.W7.gI op out false ⟨d.toArray⟩):=by simp[fV,l9]
  rw[e]at hb⊢;have hw:wt ⟨0,nm,l,d,sf⟩=6 * d.length:=by simp[wt]
  rw[hw];unfold Go.Proofs.aj.W7.gI at hb⊢
  by_cases e1:(⟨d.toArray⟩:Bt).data.toList=[]
  ·rw[if_pos e1];simp only;omega
  rw[if_neg e1]at hb⊢;cases hj:ou op out with
  |false=>
   rw[hj,if_neg (by decide)]at hb;rw[if_neg (by decide)];show 3 * mS (kg op out false ⟨0,1,⟨#[]⟩,⟨d.toArray⟩,[]⟩).1≤_;rw[wY hb,CS,CU,tx_m];show 3 * (mS out+6 * d.length)≤_;omega
  |true=>
   rw[if_pos rfl];unfold ou at hj;cases hL:out.getLast? with
   |none=>rw[hL]at hj;cases hj
   |some y=>
    rw[hL]at hj;simp only[Bool.and_eq_true,decide_eq_true_eq]at hj;have hpos:0<out.length:=by cases out with|nil=>cases hL|cons a l=>simp
    have hr:=BA out hpos;rw[hL]at hr;rw[←Option.some.inj hr];obtain⟨pre,rfl⟩:=List.getLast?_eq_some_iff.1 hL;have e2:(pre++[y]).set ((pre++[y]).length - 1) (tV y ⟨d.toArray⟩)=pre++[tV y ⟨d.toArray⟩]:=by simp
    show 3 * mS ((pre++[y]).set ((pre++[y]).length - 1) (tV y ⟨d.toArray⟩))≤_;rw[e2,CS,CS,CU,CU]
    have h1:mR (tV y ⟨d.toArray⟩)=mR y+6 * d.length:=by
     rw[tx_gen y hj.1,tx_gen (tV y ⟨d.toArray⟩) hj.1];have e3:(y.f3++(⟨d.toArray⟩:Bt)).data.toList=y.f3.data.toList++d:=FI _ _;show 6 * (y.f3++(⟨d.toArray⟩:Bt)).data.toList.length=_;rw[e3,List.length_append];omega
    rw[h1];omega
 ·obtain⟨kd,nm,l,d,sf⟩:=t
  simp only at k;subst k;have hd:=(ht.tag (.inl rfl)).2;simp only at hd;subst hd;rw[BM]at hb⊢
  have hw:wt ⟨1,nm,l,[],sf⟩=nm.length+(dS l).length+(lX sf).length+2:=by
   rw[MC];simp[jG];omega
  unfold ko at hb⊢
  by_cases e1:(⟨nm.toArray⟩:Bt).data.toList=[]
  ·rw[if_pos e1];exact hsame
  rw[if_neg e1]at hb⊢;have hne:0<nm.length:=List.length_pos_iff.2 e1;cases e2:lD ⟨nm.toArray⟩with
  |true=>rw[if_pos rfl];exact hsame
  |false=>
   rw[e2,if_neg (by decide)]at hb;rw[if_neg (by decide)];show 3 * mS (kg (fQ op ⟨nm.toArray⟩) out false ⟨0,0,⟨nm.toArray⟩,⟨#[]⟩,mh (l.map pairT)⟩).1≤_;rw[wY hb,CS,CU,el_m,hw];have h3:=CV (l.map pairT) [];rw[EF]at h3;have h3:(dS ((mh (l.map pairT)).map kJ)).length≤(dS l).length:=by simpa [dS,mh]using h3
   show 3 * (mS out+(2 * nm.length+(dS ((mh (l.map pairT)).map kJ)).length+5))≤_;omega
 ·obtain⟨kd,nm,l,d,sf⟩:=t
  simp only at k;subst k;have e:fV op out (l9 ⟨2,nm,l,d,sf⟩)=Go.Proofs.aj.W7.iy op out false ⟨nm.toArray⟩:=by simp[fV,l9]
  rw[e]at hb⊢;have hd:=(ht.tag (.inr rfl)).2;have hat:=ht.start (by simp);simp only at hd hat;obtain⟨rfl,rfl⟩:=hat;subst hd
  have hw:wt ⟨2,nm,[],[],false⟩=nm.length+3:=by
   rw[wt_k2];simp[jG,dS,lX]
  rw[hw]at hsame⊢;unfold Go.Proofs.aj.W7.iy at hb⊢
  by_cases e1:(⟨nm.toArray⟩:Bt).data.toList=[]
  ·rw[if_pos e1];exact hsame
  rw[if_neg e1]at hb⊢
  by_cases e2:lD ⟨nm.toArray⟩=true
  ·rw[if_pos e2];exact hsame
  rw[if_neg e2]at hb⊢
  by_cases e3:jv ⟨nm.toArray⟩=true
  ·rw[if_pos e3];exact hsame
  rw[if_neg e3]at hb⊢
  by_cases e4:0≤dU op [⟨nm.toArray⟩] (y9 ⟨nm.toArray⟩) op.length
  ·rw[if_pos e4];exact hsame
  rw[if_neg e4]at hb⊢
  by_cases e5:(⟨nm.toArray⟩:Bt).data.toList=[112]
  ·rw[if_pos e5]at hb⊢
   show 3 * mS (kg op out false ⟨0,0,⟨nm.toArray⟩,⟨#[]⟩,[]⟩).1≤_;rw[wY hb,CS,CU,el_m];have e6:nm=[112]:=e5;subst e6;show 3 * (mS out+(2 * 1+0+5))≤3 * mS out+7 * (1+3);omega
  ·rw[if_neg e5];exact hsame
 ·obtain⟨kd,nm,l,d,sf⟩:=t
  simp only at k;subst k;have hn:=ht.other (by simp) (by simp);have hat:=ht.start (by simp);simp only at hn hat;obtain⟨rfl,rfl⟩:=hat;subst hn;rw[QY]at hb⊢
  have hw:wt ⟨3,[],[],d,false⟩=d.length+7:=by
   rw[wt_k3];simp
  rw[hw];show 3 * mS (kg op out false ⟨0,2,⟨#[]⟩,⟨d.toArray⟩,[]⟩).1≤_;rw[wY hb,CS,CU,nt_m];show 3 * (mS out+(d.length+7))≤_;omega
 ·obtain⟨kd,nm,l,d,sf⟩:=t
  simp only at k;subst k;have e:fV op out (l9 ⟨4,nm,l,d,sf⟩)=(op,out,false):=by simp[fV,l9]
  rw[e];exact hsame
theorem tree_m:∀(L:List Tok) (op:List Bt) (out o:List Rw),(∀t∈L,kY t)→jY (L.map l9) op out=some o→3 * mS o≤3 * mS out+7 * wts L
 | [],op,out,o,_,h=>by
   obtain rfl:=Option.some.inj h;omega
 |t::L,op,out,o,ht,h=>by
  obtain⟨hb,h2⟩:=l6 h;have h3:=step_m t op out (ht t (by simp)) hb;have h4:=tree_m L _ _ o (fun x hx=>ht x (by simp[hx])) h2;rw[Bv];omega
theorem Q0{α:Type}(f:α→Nat)(M:Nat):∀(l:List α),(∀x∈l,f x≤M)→(l.map f).sum≤l.length * M
 | [],_=>by simp
 |x::l,h=>by
  have h1:=h x (by simp);have h2:=Q0 f M l (fun y hy=>h y (by simp[hy]));rw[List.map_cons,List.sum_cons,List.length_cons,Nat.add_mul];omega
theorem Kz(s nm:Txt)(hs:s.length≤500)(o:List Rw)(h:jY (sK s nm) [] []=some o)(hR:Rows o)(hB:∃op,Built op o (o8 (sK s nm))∧∀x∈o,x.f4.length≤80 * s.length):
 (yh (jZ o [])).length≤65536∧SizeQ o∧(∀x∈o,x.f3.size≤40000)∧o.length≤4096:=by
 obtain⟨op,hb,ha⟩:=hB;have h1:=wW s;have h2:=Hy (kG s) nm;have h3:=tree_m (inL (kG s) nm) [] [] o (Oo _ _) h;have h4:=Na o [] false;have h5:=(zS s nm (by omega)).1;have h6:∀x∈o,x.f3.size≤40000:=fun x hx=>by have:=hb.size x hx;omega
 have e0:mS []=0:=rfl;have e1:enS []=0:=rfl
 have KA:∀x∈o,own x≤3000000:=by
  intro x hx;have h7:=(hR.base x hx).sz;have h8:=h6 x hx;have hz:x.f3.data.toList.length=x.f3.size:=Array.length_toList
  have h9:x.f4.flatMap atT=dS (x.f4.map kJ):=by
   unfold dS;rw[List.flatMap_map]
   congr 1
   funext a
   simp[atT,kJ]
  unfold own tagT;rw[h9];simp only[List.length_append,List.length_cons,List.length_nil];omega
 refine⟨by unfold yh;omega,⟨by have:=hb.len;omega,fun k hk=>by have:=KA o[k] (List.getElem_mem hk);omega,?_,fun x hx=>by have:=ha x hx;omega⟩,h6,hb.len⟩;have h7:=Q0 own 3000000 o KA;have h8:=hb.len;have h9:o.length * 3000000≤4096 * 3000000:=Nat.mul_le_mul_right _ h8;unfold yw;rw[List.drop_zero];omega
theorem Nb:∀ {xs:List Rw},uL xs→∀m,(h:m<xs.length)→BG xs[m] (xs.drop (m+1))
 | [],_,m,h=>by simp at h
 |x::r,hg,0,_=>hg.1
 |x::r,hg,m+1,h=>Nb hg.2 m (by simpa using h)
theorem stays(s:Txt)(hs:s.length≤500)(o:List Rw)(h:jY (sK s []) [] []=some o):∃T,dJ.f o=some T∧eP.f T=some (o,0):=by
 obtain⟨hf,hg,hB⟩:=parsed s [] (by omega) o h;have hi:inL (kG s) []=cutL (kG s):=by unfold inL;rw[if_neg (by decide)];rfl
 have hR:=hg (by rw[hi];exact cut_good _);obtain⟨z1,z2,z3,z4⟩:=Kz s [] hs o h hR hB;have hgood:=Ia o hR.inn hR.base;have hw:=Ov o hf (fun m hm=>(Ei o [] [] hf m hm).1) (fun m hm=>Nb hgood m hm) (fun m hm=>(Ei o [] [] hf m hm).2.1);have hraw:FY o (-1)=false:=rfl;refine⟨⟨((jI o (-1)).flatMap (nL o o.length false)).toArray⟩,?_,?_⟩
 ·unfold dJ.f
  rw[Si o z2 (Sr hf) (-1) (.inl rfl),Option.bind_some,hraw]
 ·have e:(⟨((jI o (-1)).flatMap (nL o o.length false)).toArray⟩:Bt).data.toList=yh (jZ o []):=hw
  have hsz:(⟨((jI o (-1)).flatMap (nL o o.length false)).toArray⟩:Bt).size=(yh (jZ o [])).length:=by rw[←e];exact Array.length_toList.symm
  have hmul:o.length * 40000≤4096 * 40000:=Nat.mul_le_mul_right _ z4;exact(OB o _ e (by omega) hf hgood (fun x hx=>(hR.base x hx).cln) 40000 (fun x hx=>⟨z3 x hx,by obtain⟨op,hb,ha⟩:=hB;have:=ha x hx;omega⟩) (by omega)).2
theorem writeStays(a:Bt):je.f a=some true:=by
 have hm:0≤mn (a.size:Int) 500∧mn (a.size:Int) 500≤(a.size:Int)∧mn (a.size:Int) 500≤500:=by unfold mn;split<;>omega
 have hfx:dL.f=some true:=rfl;unfold je.f;rw[if_pos hm.1,if_pos hm.2.1];have hx:(a.extract 0 (mn (a.size:Int) 500).toNat).size≤500:=by rw[ByteArray.size_extract];omega
 generalize a.extract 0 (mn (a.size:Int) 500).toNat=s at *;have hz:s.data.toList.length=s.size:=Array.length_toList;rw[RY s (by omega),Option.bind_some];cases h:jY (sK s.data.toList []) [] []with
 |none=>
  rw[if_neg (by decide),hfx];rfl
 |some o=>
  obtain⟨T,h1,h2⟩:=stays s.data.toList (by omega) o h;show(if(0:Int)=0 then _ else _)=_;rw[if_pos rfl];simp only[ansF];rw[h1,Option.bind_some,h2,Option.bind_some,if_pos rfl];unfold fH.f;have h1':dJ.f (o,(0:Int)).fst=some T:=h1;rw[decide_eq_true rfl,Option.bind_some,if_pos rfl,h1',Option.bind_some,Option.bind_some,if_pos rfl,hfx];rfl
end Go.Proofs.aj.W7
namespace Go.Proofs.YtkcmghlhpbepcaaGreatDoor
open Go.RowKit Go.Proofs Go.Proofs.aj Go.Proofs.aj.W7 Go.Proofs.ah.aD
theorem IJ(s:Bt){W:World}(hb:s.size≤maxLen)(hS:Std W):
 Calls Tryz.prog 13 #[.string s] W fun e w'=>e=.returned (.bool true)∧Below W.heap.size W w':=
 je.calls s true W (writeStays s) hS
end Go.Proofs.YtkcmghlhpbepcaaGreatDoor
namespace Go.Proofs.YtkcmghlhpbepcaaGreatDoor
open Go.ChangeShapes Go.WideShapes Go.ChangeAt Go.RowKit
theorem own:ownKnob Tryz.prog.godebug=none:=by kernel_rfl
theorem gER:Tryz.prog.globalNamed "strconv.ErrRange" =some 4:=by kernel_rfl
theorem gERType:(Tryz.prog.globals[4]?).map (·.type)=some 109:=by kernel_rfl
theorem cellsES:Tryz.prog.cellsOf 199=1:=by kernel_rfl
theorem cellsStr:Tryz.prog.cellsOf 9=1:=by kernel_rfl
theorem starES: "*" ++ "errors.errorString" = "*errors.errorString" :=by decide
theorem rowES(u:TypeId)(h:Tryz.prog.typeName? 3 u=some "*errors.errorString"):u=197:=
 typeName_ptr_named (nm:= "errors.errorString") (by rw[starES];kernel_rfl) (by kernel_rfl) (by decide) u (by rw[starES];exact h)
def Rf:DataW Unit→Value
 | .lit (.int k n)=>.int k n
 |_=>.bool false
def litCells:DataW Unit→List Value
 | .agg l=>l.map Rf
 |d=>[Rf d]
def uR:DataW Unit→Array Value
 | .agg l=>(l.flatMap litCells).toArray
 |_=>#[]
abbrev synS:Bt:={data:=#[105,110,118,97,108,105,100,32,115,121,110,116,97,120] }
abbrev rngS:Bt:={data:=#[118,97,108,117,101,32,111,117,116,32,111,102,32,114,97,110,103,101] }
noncomputable def low:Nat:=(World.holding Tryz.prog default ⟨#[],#[],[]⟩).heap.size
noncomputable def Cy(os:Os):World:=
 let w0:=World.holding Tryz.prog os ⟨#[.cells #[.string synS] 199,.cells #[.string rngS] 199],#[],[]⟩
 let put (h:Array Obj) (g:Nat) (cs:Array Value):Array Obj:=h.modify g fun
  | .cells _ t frozen=>.cells cs t frozen
  |o=>o
 let h1:=put w0.heap 6 (uR Rows.laid_math_bits_deBruijn32tab)
 let h2:=put h1 7 (uR Rows.laid_math_bits_deBruijn64tab)
 let h3:=put h2 5 (uR Rows.laid_internal_strconv_uint64pow10)
 let h4:=put h3 1 (uR Rows.laid_unicode_utf8_acceptRanges)
 let h5:=put h4 3 #[.iface 197 (.pointer (some ⟨low,0,none⟩))]
 let h6:=put h5 4 #[.iface 197 (.pointer (some ⟨low+1,0,none⟩))]
 let h7:=put h6 0 (uR Rows.laid_unicode_utf8_first)
 {w0 with heap:=h7 }
def listed:List (String×DataW Unit):=[("math/bits.deBruijn32tab",Rows.laid_math_bits_deBruijn32tab),("math/bits.deBruijn64tab",Rows.laid_math_bits_deBruijn64tab),("internal/strconv.uint64pow10",Rows.laid_internal_strconv_uint64pow10),("unicode/utf8.acceptRanges",Rows.laid_unicode_utf8_acceptRanges),("strconv.ErrRange",Rows.laid_strconv_ErrRange),("strconv.ErrSyntax",Rows.laid_strconv_ErrSyntax),("unicode/utf8.first",Rows.laid_unicode_utf8_first)]
theorem acc_eq:(Rows.laid_unicode_utf8_acceptRanges:DataW Unit)=Lib.acceptData:=by kernel_rfl
theorem fst_eq:(Rows.laid_unicode_utf8_first:DataW Unit)=Lib.firstData:=by kernel_rfl
set_option maxRecDepth 100000 in
theorem laid_met(os:Os)(args:Array Value):laidMet Tryz.prog listed ((Cy os).forCall (fun _ _=>0) ⟨#[],args,[]⟩).memory:=
 (LaidIn.of_run [6,7,5,1,4,3,low,low+1,0] 8 (by kernel_rfl) (by kernel_rfl) (by kernel_rfl) (by kernel_rfl)).met
theorem std_of{W:World}(hL:laidMetH Tryz.prog listed W)(hsh:W.ShapedOpen Tryz.prog):Std W:=by
 have h0:laidMet Tryz.prog listed W:=hL;have h3:=h0.tail.tail.tail.tail;obtain⟨a1,s1,hv1,-,-,-⟩:=laid_sentinel h3 gER gERType Tryz.underlying109 rowES Tryz.underlying197 Tryz.underlying199 rfl rfl Tryz.underlying9 cellsES cellsStr;refine⟨Go.Proofs.cell_of_shapedOpen_int (zero:=#[.int .i64 0]) (t:=3) hsh (of_decide_eq_true (by kernel_rfl)) (by kernel_rfl) rfl (by kernel_rfl) (by kernel_rfl) Tryz.underlying3,⟨_,_,by have h0:=World.var?_cell gER hv1 0;simpa using h0⟩,?_⟩;have h4:laidMet Tryz.prog listed W:=hL;unfold listed at h4;rw[acc_eq,fst_eq]at h4;exact utf8Tabs_of_readsT (U8Types.of196 FE) ⟨by kernel_rfl,by kernel_rfl,by kernel_rfl,by kernel_rfl,by kernel_rfl,by kernel_rfl,by kernel_rfl⟩ (Lib.laidMet.reads h4 (.tail _ (.tail _ (.tail _ (.tail _ (.tail _ (.tail _ (.head _)))))))) (Lib.laidMet.reads h4 (.tail _ (.tail _ (.tail _ (.head _)))))
end Go.Proofs.YtkcmghlhpbepcaaGreatDoor
