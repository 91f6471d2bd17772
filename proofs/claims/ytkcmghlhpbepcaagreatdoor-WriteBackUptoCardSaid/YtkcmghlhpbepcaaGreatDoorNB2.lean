/- Lemmas and walks, part 2. -/
import Derived.Test.YtkcmghlhpbepcaaGreatDoorNB1
set_option linter.unusedVariables false
set_option linter.unusedSimpArgs false
namespace Go.Proofs.ah.bH
section
variable {P : Program} {ops : Array Oper} {Q : Exit → Act → World → Prop} {md : Region.Mode} {S : World → Prop} {ds : List Nat}
def Region.qw(md:Region.Mode)(ops:Array Oper)(i:Nat):Nat→Nat→Bool
 |0,_=>false
 |fuel+1,d=>match ops[d]? with
  |some o=>o.after.any fun e=>Region.binds md e&&(e.on==i||Region.qw md ops i fuel e.on)
  |none=>false
def Region.AZ(md:Region.Mode)(ops:Array Oper)(listed:Array Bool):Bool:=
 (List.range ops.size).all fun j=>!listed.getD j false||match ops[j]? with
   |some o=>o.after.all fun e=>!Region.binds md e||listed.getD e.on false
   |none=>true
def Region.lastB(md:Region.Mode)(ops:Array Oper)(listed:Array Bool)(ds:List Nat)(i:Nat):Bool:=
 ds.all fun d=>listed.getD d true||Region.qw md ops i ops.size d
def lg(md:Region.Mode)(ops:Array Oper)(listed:Array Bool):Prop:=
 ∀j oj,ops[j]?=some oj→listed.getD j false=true→∀e∈oj.after,Region.binds md e=true→listed.getD e.on false=true
theorem Region.Jp{listed:Array Bool}(h:Region.AZ md ops listed=true):lg md ops listed:=by
 intro j oj hj hl e he hb;have hlt:j<ops.size:=(Array.getElem?_eq_some_iff.1 hj).1;have h1:=List.all_eq_true.1 h j (List.mem_range.2 hlt);simp only[hl,hj,Bool.not_true,Bool.false_or]at h1;have h2:=Array.all_eq_true_iff_forall_mem.1 h1 e he;simpa [hb]using h2
theorem lg.set{listed:Array Bool}{i:Nat}(h:lg md ops listed)(hi:i∈Region.ready md ops listed):lg md ops (listed.setIfInBounds i true):=by
 obtain⟨_,oi,hoi,hall⟩:=mem_ready.1 hi;intro j oj hj hl e he hb
 by_cases hij:i=j
 ·subst hij
  have:oj=oi:=Option.some.inj (hj.symm.trans hoi);subst this;exact getD_set_true (hall e he hb)
 ·rw[getD_set_ne false hij]at hl
  exact getD_set_true (h j oj hj hl e he hb)
theorem Region.Ba{listed:Array Bool}{i:Nat}(hc:lg md ops listed):∀(fuel d:Nat),Region.qw md ops i fuel d=true→listed.getD d false=true→listed.getD i false=true
 |0,_,h,_=>by simp[Region.qw]at h
 |fuel+1,d,h,hl=>by
  unfold Region.qw at h;cases ho:ops[d]? with
  |none=>rw[ho]at h;simp at h
  |some o=>
   rw[ho]at h;obtain⟨e,he,h1⟩:=Array.any_eq_true'.1 h;simp only[Bool.and_eq_true,Bool.or_eq_true,beq_iff_eq]at h1;have hle:=hc d o ho hl e he h1.1
   rcases h1.2 with h2|h2
   ·rw[←h2];exact hle
   ·exact Region.Ba hc fuel e.on h2 hle
theorem Region.CS{listed:Array Bool}{i d fuel:Nat}(hc:lg md ops listed)(hr:Region.qw md ops i fuel d=true)(hun:listed.getD i true=false):d∉Region.ready md ops listed:=by
 intro hd;obtain⟨_,o,ho,hall⟩:=mem_ready.1 hd
 have hi:listed.getD i false=true:=by
  cases fuel with
  |zero=>simp[Region.qw]at hr
  |succ n=>
   unfold Region.qw at hr;rw[ho]at hr;obtain⟨e,he,h1⟩:=Array.any_eq_true'.1 hr;simp only[Bool.and_eq_true,Bool.or_eq_true,beq_iff_eq]at h1;have hle:=hall e he h1.1
   rcases h1.2 with h2|h2
   ·rw[←h2];exact hle
   ·exact Region.Ba hc n e.on h2 hle
 rcases Nat.lt_or_ge i listed.size with h'|h'
 ·simp[h']at hun hi
  rw[hun]at hi;cases hi
 ·simp[Array.getElem?_eq_none h']at hun
def cu(P:Program)(md:Region.Mode)(ops:Array Oper)(Q:Exit→Act→World→Prop)(S:World→Prop)(ds:List Nat):Nat→Array Bool→Act→World→Prop
 |0,listed,a,w=>Region.ready md ops listed=[]∧Q .normal a w
 |fuel+1,listed,a,w=>
  (Region.ready md ops listed=[]→Q .normal a w)∧
  ∀i∈Region.ready md ops listed,wpOp P ops Q i (fun a' w'=>(i∉ds→S w→S w')∧cu P md ops Q S ds fuel (listed.setIfInBounds i true) a' w') a w
theorem yX:∀(fuel:Nat) (listed:Array Bool) (a:Act) (w:World),cu P md ops Q S ds fuel listed a w→wpAny P md ops Q fuel listed a w
 |0,_,_,_,h=>h
 |fuel+1,_,_,_,h=>⟨h.1,fun i hi=>wpOp_mono (fun a' w' h'=>yX fuel _ a' w' h'.2) (h.2 i hi)⟩
theorem CU{i:Nat}{oi:Oper}{v:Value}(hi:ops[i]?=some oi)(hsel:∀(j:Nat) (o:Oper) cs b,ops[j]?=some o→o.op≠.select cs b)
 (hQ:∀c a w,Q (.panic c) (a.put oi.dst v) w→Q (.panic c) a w) (n:Nat):
 ∀(fuel:Nat) (listed:Array Bool) (a:Act) (w:World),
  (∀j oj,ops[j]?=some oj→j≠i→listed.getD j true=false→(∀e∈oj.after,Region.binds md e=true→e.on≠i)→oi.apart ops oj=true)→
  lg md ops listed→(∀d∈ds,listed.getD d true=false→Region.qw md ops i n d=true)→
  i∈Region.ready md ops listed→YieldsIf P ops S oi v a→S w→
  cu P md ops Q S ds fuel (listed.setIfInBounds i true) (a.put oi.dst v) w→cu P md ops Q S ds (fuel+1) listed a w:=by
 intro fuel
 induction fuel with
 |zero=>
  intro listed a w _ _ _ hr hy hS H;refine⟨fun h=>(by rw[h]at hr;cases hr),fun j hj=>?_⟩
  by_cases hji:j=i
  ·subst hji;exact hy.wpOp hi hS ⟨fun _ h=>h,H⟩
  ·have:=ready_mono hj hji
   rw[H.1]at this;cases this
 |succ fuel ih=>
  intro listed a w hfree hc hd hr hy hS H;refine⟨fun h=>(by rw[h]at hr;cases hr),fun j hj=>?_⟩
  by_cases hji:j=i
  ·subst hji;exact hy.wpOp hi hS ⟨fun _ h=>h,H⟩
  ·have h1:=H.2 j (ready_mono hj hji)
   obtain⟨hjun,oj,hoj,hall⟩:=mem_ready.1 hj;have hiun:=(mem_ready.1 hr).1
   have hnot:∀e∈oj.after,Region.binds md e=true→e.on≠i:=fun e he hb heq=>by
    have h1:=hall e he hb;rw[heq]at h1
    rcases Nat.lt_or_ge i listed.size with h'|h'
    ·simp[h']at hiun h1;rw[hiun]at h1;cases h1
    ·simp[Array.getElem?_eq_none h']at h1
   have hjd:j∉ds:=fun hm=>Region.CS hc (hd j hm hjun) hiun hj
   have h2:=wpOp_putIf hoj (hfree j oj hoj hji hjun hnot) (fun cs b=>hsel i oi cs b hi) (fun cs b=>hsel j oj cs b hoj) hQ hy h1
   have hfree':∀k ok,ops[k]?=some ok→k≠i→(listed.setIfInBounds j true).getD k true=false→
    (∀e∈ok.after,Region.binds md e=true→e.on≠i)→oi.apart ops ok=true:=fun k ok hk hki hun hno=>by
    refine hfree k ok hk hki ?_ hno
    by_cases hjk:j=k
    ·subst hjk;exact hjun
    ·rw[getD_set_ne true hjk]at hun;exact hun
   have hd':∀d∈ds,(listed.setIfInBounds j true).getD d true=false→Region.qw md ops i n d=true:=fun d hm hun=>by
    refine hd d hm ?_
    by_cases hjk:j=d
    ·subst hjk;exact hjun
    ·rw[getD_set_ne true hjk]at hun;exact hun
   refine wpOp_mono (fun a' w' h3=>⟨h3.2.1,ih (listed.setIfInBounds j true) a' w' hfree' (hc.set hj) hd' (ready_mono hr (Ne.symm hji)) h3.1 (h3.2.1 hjd hS) ?_⟩) h2;rw[Array.setIfInBounds_comm _ _ hji];exact h3.2.2
theorem FE{i:Nat}{oi:Oper}{v:Value}(hi:ops[i]?=some oi)(hsel:∀(j:Nat) (o:Oper) cs b,ops[j]?=some o→o.op≠.select cs b)
 (hQ:∀c a w,Q (.panic c) (a.put oi.dst v) w→Q (.panic c) a w):
 ∀(fuel:Nat) (listed:Array Bool) (a:Act) (w:World),
  (∀j oj,ops[j]?=some oj→j≠i→listed.getD j true=false→(∀e∈oj.after,Region.binds md e=true→e.on≠i)→oi.apart ops oj=true)→
  i∈Region.ready md ops listed→Yields P ops oi v a→
  cu P md ops Q S ds fuel (listed.setIfInBounds i true) (a.put oi.dst v) w→cu P md ops Q S ds (fuel+1) listed a w:=by
 intro fuel
 induction fuel with
 |zero=>
  intro listed a w _ hr hy H;refine⟨fun h=>(by rw[h]at hr;cases hr),fun j hj=>?_⟩
  by_cases hji:j=i
  ·subst hji;exact(hy.yieldsIf (S:=fun _=>True)).wpOp hi trivial ⟨fun _ h=>h,H⟩
  ·have:=ready_mono hj hji
   rw[H.1]at this;cases this
 |succ fuel ih=>
  intro listed a w hfree hr hy H;refine⟨fun h=>(by rw[h]at hr;cases hr),fun j hj=>?_⟩
  by_cases hji:j=i
  ·subst hji;exact(hy.yieldsIf (S:=fun _=>True)).wpOp hi trivial ⟨fun _ h=>h,H⟩
  ·have h1:=H.2 j (ready_mono hj hji)
   obtain⟨hjun,oj,hoj,hall⟩:=mem_ready.1 hj;have hiun:=(mem_ready.1 hr).1
   have hnot:∀e∈oj.after,Region.binds md e=true→e.on≠i:=fun e he hb heq=>by
    have h1:=hall e he hb;rw[heq]at h1
    rcases Nat.lt_or_ge i listed.size with h'|h'
    ·simp[h']at hiun h1;rw[hiun]at h1;cases h1
    ·simp[Array.getElem?_eq_none h']at h1
   have h2:=wpOp_put hoj (hfree j oj hoj hji hjun hnot) (fun cs b=>hsel i oi cs b hi) (fun cs b=>hsel j oj cs b hoj) hQ hy h1
   have hfree':∀k ok,ops[k]?=some ok→k≠i→(listed.setIfInBounds j true).getD k true=false→
    (∀e∈ok.after,Region.binds md e=true→e.on≠i)→oi.apart ops ok=true:=fun k ok hk hki hun hno=>by
    refine hfree k ok hk hki ?_ hno
    by_cases hjk:j=k
    ·subst hjk;exact hjun
    ·rw[getD_set_ne true hjk]at hun;exact hun
   refine wpOp_mono (fun a' w' h3=>⟨h3.2.1,ih (listed.setIfInBounds j true) a' w' hfree' (ready_mono hr (Ne.symm hji)) h3.1 ?_⟩) h2;rw[Array.setIfInBounds_comm _ _ hji];exact h3.2.2
theorem Fe{i:Nat}{oi:Oper}{v:Value}{fuel:Nat}{listed:Array Bool}{a:Act}{w:World}(hi:ops[i]?=some oi)
 (hs:Region.noSelect ops=true) (hf:Region.free md ops listed i=true) (hr:(Region.ready md ops listed).contains i=true)
 (hc:Region.AZ md ops listed=true) (hl:Region.lastB md ops listed ds i=true)
 (hQ:∀c a w,Q (.panic c) (a.put oi.dst v) w→Q (.panic c) a w) (hy:YieldsIf P ops S oi v a) (hS:S w)
 (h:cu P md ops Q S ds fuel (listed.setIfInBounds i true) (a.put oi.dst v) w):cu P md ops Q S ds (fuel+1) listed a w:=
 CU hi (Region.noSelect_spec hs) hQ ops.size fuel listed a w (Region.free_spec hi hf) (Region.Jp hc)
  (fun d hm hun=>by have:=List.all_eq_true.1 hl d hm;rw[hun]at this;simpa using this) (by simpa using hr) hy hS h
theorem FH{rs:List Nat}{fuel:Nat}{listed:Array Bool}{a:Act}{w:World}(hr:Region.ready md ops listed=rs)(hne:rs≠[])
 (h:∀i∈rs,wpOp P ops Q i (fun a' w'=>(i∉ds→S w→S w')∧cu P md ops Q S ds fuel (listed.setIfInBounds i true) a' w') a w):cu P md ops Q S ds (fuel+1) listed a w:=
 ⟨fun h0=>absurd (hr▸h0) hne,hr▸h⟩
theorem Fg{listed:Array Bool}{a:Act}{w:World}(hr:Region.ready md ops listed=[])(h:Q .normal a w):
 ∀fuel,cu P md ops Q S ds fuel listed a w
 |0=>⟨hr,h⟩
 |_+1=>⟨fun _=>h,by rw[hr];simp⟩
theorem Fh{id:Nat}{a:Act}{w:World}(hm:P.follows .mixedOrders=true)
 (h:cu P .any ops Q S ds ops.size (Array.replicate ops.size false) a {w with drawn:=w.drawn+1 }):(Code.region id ops true).wp P Q a w:=
 wp_region_any hm (yX _ _ _ _ h)
end
section
variable {P : Program} {ops : Array Oper} {Q : Exit → Act → World → Prop} {md : Region.Mode} {S : World → Prop} {ds : List Nat}
def jT(P:Program)(md:Region.Mode)(ops:Array Oper)(Q:Exit→Act→World→Prop)(S:World→Prop)(ds:List Nat)(fuel:Nat)(listed:Array Bool)(a:Act)(w:World)(rs:List Nat):Prop:=
 ∀i∈rs,wpOp P ops Q i (fun a' w'=>(i∉ds→S w→S w')∧cu P md ops Q S ds fuel (listed.setIfInBounds i true) a' w') a w
theorem jT.nil{fuel:Nat}{listed:Array Bool}{a:Act}{w:World}:jT P md ops Q S ds fuel listed a w []:=fun _ h=>by cases h
theorem jT.cons{fuel:Nat}{listed:Array Bool}{a:Act}{w:World}{i:Nat}{o:Oper}{rs:List Nat}(ho:ops[i]?=some o)(hd:i∉ds)
 (h:∀K':Act→World→Prop,Shut (∀a w,S w→(S w→cu P md ops Q S ds fuel (listed.setIfInBounds i true) a w)→K' a w)→if Region.wanted o (yielded ops a.tmps)=true then Oper.wp P o a w K' Q else K' (a.put o.dst undef) w)
 (hs:jT P md ops Q S ds fuel listed a w rs):jT P md ops Q S ds fuel listed a w (i::rs):=fun j hj=>by
 rcases List.mem_cons.1 hj with rfl|hj
 ·exact wpOp_step ho (fun K' hK=>h K' (fun a w hS hW=>hK a w ⟨fun _ _=>hS,hW hS⟩))
 ·exact hs j hj
theorem jT.QS{fuel:Nat}{listed:Array Bool}{a:Act}{w:World}{i:Nat}{o:Oper}{rs:List Nat}(ho:ops[i]?=some o)(hd:i∈ds)
 (h:∀K':Act→World→Prop,Shut (∀a w,cu P md ops Q S ds fuel (listed.setIfInBounds i true) a w→K' a w)→if Region.wanted o (yielded ops a.tmps)=true then Oper.wp P o a w K' Q else K' (a.put o.dst undef) w)
 (hs:jT P md ops Q S ds fuel listed a w rs):jT P md ops Q S ds fuel listed a w (i::rs):=fun j hj=>by
 rcases List.mem_cons.1 hj with rfl|hj
 ·exact wpOp_step ho (fun K' hK=>h K' (fun a w hW=>hK a w ⟨fun hn=>absurd hd hn,hW⟩))
 ·exact hs j hj
theorem wH{rs:List Nat}{fuel:Nat}{listed:Array Bool}{a:Act}{w:World}(hr:Region.ready md ops listed=rs)(hne:rs≠[])
 (h:jT P md ops Q S ds fuel listed a w rs):cu P md ops Q S ds (fuel+1) listed a w:=FH hr hne h
theorem uO{id n:Nat}{a:Act}{w:World}(l:Array Bool)(hm:P.follows .mixedOrders=true)(hn:ops.size=n)(hl:Array.replicate n false=l)(hS:S w.drew)
 (h:S w.drew→cu P .any ops Q S ds n l a w.drew):(Code.region id ops true).wp P Q a w:=by
 subst hn;subst hl;exact Fh hm (h hS)
def takeB(md:Region.Mode)(ops:Array Oper)(ds:List Nat)(l l':Array Bool)(i:Nat):Bool:=
 Region.noSelect ops&&Region.free md ops l i&&(Region.ready md ops l).contains i&&Region.AZ md ops l&&Region.lastB md ops l ds i&&(l.setIfInBounds i true==l')
theorem take_{i:Nat}{N:Option Tmp}{oi:Oper}{v:Value}{fuel:Nat}{l:Array Bool}{a:Act}{w:World}(l':Array Bool)(hi:ops[i]?=some oi)(hN:oi.dst=N)(hc:takeB md ops ds l l' i=true)
 (hQ:∀c a w,Q (.panic c) (a.put oi.dst v) w→Q (.panic c) a w) (hy:YieldsIf P ops S oi v a) (hS:S w) {a':Act} (ha:a.put N v=a')
 (h:cu P md ops Q S ds fuel l' a' w):cu P md ops Q S ds (fuel+1) l a w:=by
 subst ha;subst hN;simp only[takeB,Bool.and_eq_true,beq_iff_eq]at hc;obtain⟨⟨⟨⟨⟨h1,h2⟩,h3⟩,h4⟩,h5⟩,h6⟩:=hc;subst h6;exact Fe hi h1 h2 h3 h4 h5 hQ hy hS h
def anyB(md:Region.Mode)(ops:Array Oper)(l l':Array Bool)(i:Nat):Bool:=
 Region.noSelect ops&&Region.free md ops l i&&(Region.ready md ops l).contains i&&(l.setIfInBounds i true==l')
theorem pure_{i:Nat}{N:Option Tmp}{oi:Oper}{v:Value}{fuel:Nat}{l:Array Bool}{a:Act}{w:World}(l':Array Bool)(hi:ops[i]?=some oi)(hN:oi.dst=N)(hc:anyB md ops l l' i=true)
 (hQ:∀c a w,Q (.panic c) (a.put oi.dst v) w→Q (.panic c) a w) (hy:Yields P ops oi v a) {a':Act} (ha:a.put N v=a')
 (h:cu P md ops Q S ds fuel l' a' w):cu P md ops Q S ds (fuel+1) l a w:=by
 subst ha;subst hN;simp only[anyB,Bool.and_eq_true,beq_iff_eq]at hc;obtain⟨⟨⟨h1,h2⟩,h3⟩,h6⟩:=hc;subst h6;exact FE hi (Region.noSelect_spec h1) hQ fuel l a w (Region.free_spec hi h2) (by simpa using h3) hy h
def sV(md:Region.Mode)(ops:Array Oper)(l l':Array Bool)(i:Nat):Bool:=(Region.ready md ops l==[i])&&(l.setIfInBounds i true==l')
theorem one_{i:Nat}{N:Option Tmp}{oi:Oper}{fuel:Nat}{l:Array Bool}{a:Act}{w:World}(l':Array Bool)(hi:ops[i]?=some oi)(hN:oi.dst=N)(hc:sV md ops l l' i=true)(hd:i∉ds)
 (h:∀K:Act→World→Prop,Shut (∀a' w',S w'→(S w'→cu P md ops Q S ds fuel l' a' w')→K a' w')→if Region.wanted oi (yielded ops a.tmps)=true then Oper.wp P oi a w K Q else K (a.put N undef) w):
 cu P md ops Q S ds (fuel+1) l a w:=by
 subst hN;simp only[sV,Bool.and_eq_true,beq_iff_eq]at hc;obtain⟨h1,h2⟩:=hc;subst h2;exact wH h1 (by simp) (jT.cons hi hd (fun K hK=>h K hK) jT.nil)
theorem last_{i:Nat}{N:Option Tmp}{oi:Oper}{fuel:Nat}{l:Array Bool}{a:Act}{w:World}(l':Array Bool)(hi:ops[i]?=some oi)(hN:oi.dst=N)(hc:sV md ops l l' i=true)(hd:i∈ds)
 (h:∀K:Act→World→Prop,Shut (∀a' w',cu P md ops Q S ds fuel l' a' w'→K a' w')→if Region.wanted oi (yielded ops a.tmps)=true then Oper.wp P oi a w K Q else K (a.put N undef) w):
 cu P md ops Q S ds (fuel+1) l a w:=by
 subst hN;simp only[sV,Bool.and_eq_true,beq_iff_eq]at hc;obtain⟨h1,h2⟩:=hc;subst h2;exact wH h1 (by simp) (jT.QS hi hd (fun K hK=>h K hK) jT.nil)
theorem zQ{l:Array Bool}{a:Act}{w:World}{n:Nat}(hr:(Region.ready md ops l==[])=true)(h:Q .normal a w):cu P md ops Q S ds n l a w:=Fg (by simpa using hr) h n
def putAll:Act→List (Tmp×Value)→Act
 |a,[]=>a
 |a,(n,v)::r=>putAll (a.put (some n) v) r
theorem norm_{fuel:Nat}{l:Array Bool}{a a':Act}{w:World}(ha:a=a')(h:cu P md ops Q S ds fuel l a' w):cu P md ops Q S ds fuel l a w:=by
 subst ha;exact h
theorem call_{oi:Oper}{N:Option Tmp}{a:Act}{w:World}{K:Act→World→Prop}(f:FuncId)(args:Array Value)(hw:Region.wanted oi (yielded ops a.tmps)=true)(hN:oi.dst=N)(hrun:(execOp a.eval oi).run P w=.ok (.enter f args) w)
 (h:Calls P f args w fun e w'=>∃v,e=.returned v∧K (a.put N v) w'):if Region.wanted oi (yielded ops a.tmps)=true then Oper.wp P oi a w K Q else K (a.put N undef) w:=by
 rw[if_pos hw];subst hN;unfold Oper.wp;rw[hrun,Oper.upon_enter];refine h.mono fun e w'' hh=>?_
 obtain⟨v,rfl,hk⟩:=hh;exact hk
theorem PW{f:FuncId}{fn:Func}(hf:P.funcs[f]?=some fn)(hname:(fn.name== "runtime.NumGoroutine")=false)(hb:fn.body.isSome=true)(args:Array Value)(w:World):(callFunc f args).run P w=.ok (.enter f args) w:=by
 have h1:fn.name≠ "runtime.NumGoroutine" :=by simpa using hname
 obtain⟨c,hc⟩:=Option.isSome_iff_exists.1 hb;simp[callFunc,hf,h1,hc]
theorem FM{oi:Oper}{N:Option Tmp}{a:Act}{w:World}{K:Act→World→Prop}{f:FuncId}{fn:Func}{as_:Array Operand}{ts:Array TypeId}(hf:P.funcs[f]?=some fn)(hname:(fn.name== "runtime.NumGoroutine")=false)(hb:fn.body.isSome=true)(args:Array Value)
 (hw:Region.wanted oi (yielded ops a.tmps)=true) (hN:oi.dst=N) (hop:oi.op=.call {callee:=.value (.func f),args:=as_,argTypes:=ts }) (hargs:as_.map a.eval=args)
 (h:Calls P f args w fun e w'=>∃v,e=.returned v∧K (a.put N v) w'):if Region.wanted oi (yielded ops a.tmps)=true then Oper.wp P oi a w K Q else K (a.put N undef) w:=by
 refine call_ f args hw hN ?_ h;have he:=PW hf hname hb args w;unfold execOp;simp[hop,resolve,Deferred.ofValue,invoke,Act.eval,hargs,he]
theorem dI{rest:List Oper}{oi:Oper}{a:Act}{w:World}(N:Option Tmp)(hd:oi.dst=N)(hg:oi.guard=none){f:FuncId}{fn:Func}{as_:Array Operand}{ts:Array TypeId}(hf:P.funcs[f]?=some fn)(hname:(fn.name== "runtime.NumGoroutine")=false)(hb:fn.body.isSome=true)(args:Array Value)
 (hop:oi.op=.call {callee:=.value (.func f),args:=as_,argTypes:=ts }) (hargs:as_.map a.eval=args)
 (h:Calls P f args w fun e w'=>∃v,e=.returned v∧wpList P ops Q rest (a.put N v) w'):wpList P ops Q (oi::rest) a w:=by
 refine wpList_plain hg fun K hK=>?_
 have he:=PW hf hname hb args w
 have hrun:(execOp a.eval oi).run P w=.ok (.enter f args) w:=by
  unfold execOp;simp[hop,resolve,Deferred.ofValue,invoke,Act.eval,hargs,he]
 unfold Oper.wp;rw[hrun,Oper.upon_enter];refine h.mono fun e w'' hh=>?_
 obtain⟨v,rfl,hk⟩:=hh;subst hd;exact hK _ _ hk
theorem oD(n:Int):IntKind.i64.wrap n=Go.RowKit.wrap64 n:=by unfold Go.RowKit.wrap64;exact IntKind.wrap_i64 n
theorem oF(n:Int):IntKind.i32.wrap n=Go.RowKit.wrap32 n:=by unfold Go.RowKit.wrap32;exact IntKind.wrap_i32 n
end
section
open Go.RowKit Go
variable {P : Program} {ops : Array Oper} {Q : Exit → Act → World → Prop} {md : Region.Mode} {S : World → Prop} {ds : List Nat}
theorem pw(i T:Nat)(l':Array Bool){oi:Oper}{v:Value}{fuel:Nat}{l:Array Bool}{a:Act}{w:World}{a':Act}(h:cu P md ops Q S ds fuel l' a' w)
 (hi:ops[i]?=some oi:=by rfl) (hN:oi.dst=some T:=by rfl) (hc:anyB md ops l l' i=true:=by exact any_of HT_.out (by kernel_rfl)) (hQ:∀c a w,Q (.panic c) (a.put oi.dst v) w→Q (.panic c) a w:=by exact fun _ _ _ h=>h)
 (hy:Yields P ops oi v a:=by(refine Or.inl ⟨by rfl,?_⟩);intro w';go_simp;with_reducible rfl)
 (ha:a.put (some T) v=a':=by simp only[Act.put,List.setIfInBounds_toArray,List.set_cons_zero,List.set_cons_succ,oD,oF];rfl):cu P md ops Q S ds (fuel+1) l a w:=pure_ l' hi hN hc hQ hy ha h
theorem pu(i T:Nat)(l':Array Bool){oi:Oper}{fuel:Nat}{l:Array Bool}{a:Act}{w:World}{a':Act}(h:cu P md ops Q S ds fuel l' a' w)
 (hi:ops[i]?=some oi:=by rfl) (hN:oi.dst=some T:=by rfl) (hc:anyB md ops l l' i=true:=by exact any_of HT_.out (by kernel_rfl)) (hQ:∀c a w,Q (.panic c) (a.put oi.dst undef) w→Q (.panic c) a w:=by exact fun _ _ _ h=>h)
 (hy:Yields P ops oi undef a:=by exact Or.inr ⟨by rfl,rfl⟩)
 (ha:a.put (some T) undef=a':=by simp only[Act.put,List.setIfInBounds_toArray,List.set_cons_zero,List.set_cons_succ,oD,oF];rfl):cu P md ops Q S ds (fuel+1) l a w:=pure_ l' hi hN hc hQ hy ha h
theorem pt(i T:Nat)(l':Array Bool){oi:Oper}{v:Value}{fuel:Nat}{l:Array Bool}{a:Act}{w:World}{a':Act}(h:cu P md ops Q S ds fuel l' a' w)
 (hi:ops[i]?=some oi:=by rfl) (hN:oi.dst=some T:=by rfl) (hc:takeB md ops ds l l' i=true:=by exact take_ofW HT_.out HW_.out (by kernel_rfl)) (hQ:∀c a w,Q (.panic c) (a.put oi.dst v) w→Q (.panic c) a w:=by exact fun _ _ _ h=>h)
 (hy:YieldsIf P ops S oi v a:=by(refine Or.inl ⟨by rfl,?_⟩);intro w' hs_;(repeat(have s_:=hs_.1;replace hs_:=hs_.2));go_simp;with_reducible rfl)
 (hS:S w:=by exact hHeld)
 (ha:a.put (some T) v=a':=by simp only[Act.put,List.setIfInBounds_toArray,List.set_cons_zero,List.set_cons_succ,oD,oF];rfl):cu P md ops Q S ds (fuel+1) l a w:=take_ l' hi hN hc hQ hy hS ha h
theorem pn{fuel:Nat}{l:Array Bool}{a a':Act}{w:World}(h:cu P md ops Q S ds fuel l a' w)(ha:a=a':=by(show Act.put _ (some _) _=_);simp only[Act.put,List.setIfInBounds_toArray,List.set_cons_zero,List.set_cons_succ,oD,oF];rfl):cu P md ops Q S ds fuel l a w:=norm_ ha h
end
end Go.Proofs.ah.bH
namespace Go.Proofs.ah.bH
open Go.Proofs.ah.aD (ak)
def yJ(md:Region.Mode)(o:Oper):List Nat:=(o.after.toList.filter (fun e=>Region.binds md e)).map (fun e=>e.on)
def Js(md:Region.Mode)(ops:Array Oper)(i:Nat)(oi:Oper):List Nat:=(List.range ops.size).filter fun j=>!(j==i)&&match ops[j]? with
 |some oj=>!(oj.after.any (fun e=>Region.binds md e&&e.on==i)||oi.apart ops oj)
 |none=>false
def sS(md:Region.Mode)(ops:Array Oper):Bool×List (List Nat×List Nat):=(Region.noSelect ops,(List.range ops.size).map fun i=>match ops[i]? with
 |some o=>(yJ md o,Js md ops i o)
 |none=>([],[]))
def sI(T:List (List Nat×List Nat))(l:List Bool)(i:Nat):Bool:=!l.getD i true&&match T[i]? with
 |some r=>r.1.all (fun j=>l.getD j false)
 |none=>false
def Fp(T:List (List Nat×List Nat))(l:List Bool):List Nat:=(List.range T.length).filter (sI T l)
def LB(T:List (List Nat×List Nat))(l:List Bool)(i:Nat):Bool:=match T[i]? with
 |some r=>r.2.all (fun j=>l.getD j true)
 |none=>false
def Dw(T:List (List Nat×List Nat))(l:List Bool):Bool:=(List.range T.length).all fun j=>!l.getD j false||match T[j]? with
 |some r=>r.1.all (fun k=>l.getD k false)
 |none=>true
def BR(T:List (List Nat×List Nat))(i:Nat):Nat→Nat→Bool
 |0,_=>false
 |fuel+1,d=>match T[d]? with
  |some r=>r.1.any fun j=>j==i||BR T i fuel j
  |none=>false
def lastT(T:List (List Nat×List Nat))(l:List Bool)(ds:List Nat)(i:Nat):Bool:=ds.all fun d=>l.getD d true||BR T i T.length d
section
variable {md : Region.Mode} {ops : Array Oper} {T : Bool × List (List Nat × List Nat)} {l l' li lj lk : Array Bool} {ds : List Nat} {i j k : Nat}
theorem gd(l:Array Bool)(j:Nat)(b:Bool):l.getD j b=l.toList.getD j b:=by simp[Array.getD_eq_getD_getElem?,List.getD_eq_getElem?_getD]
theorem Gp(o:Oper)(p:Nat→Bool):o.after.all (fun e=>!Region.binds md e||p e.on)=(yJ md o).all p:=by
 unfold yJ;rw[←Array.all_toList]
 induction o.after.toList with
 |nil=>rfl
 |cons e r ih=>
  rw[List.all_cons,ih,List.filter_cons];cases h:Region.binds md e<;>simp
theorem QU(o:Oper)(p:Nat→Bool):o.after.any (fun e=>Region.binds md e&&p e.on)=(yJ md o).any p:=by
 unfold yJ;rw[←Array.any_toList]
 induction o.after.toList with
 |nil=>rfl
 |cons e r ih=>
  rw[List.any_cons,ih,List.filter_cons];cases h:Region.binds md e<;>simp
theorem sJ:(sS md ops).2.length=ops.size:=by simp[sS]
theorem yK{o:Oper}(h:ops[i]?=some o):(sS md ops).2[i]?=some (yJ md o,Js md ops i o):=by
 have hi:=(Array.getElem?_eq_some_iff.1 h).1;unfold sS;rw[List.getElem?_map,List.getElem?_range hi,Option.map_some,h]
theorem yL(h:ops[i]?=none):(sS md ops).2[i]?=none:=by
 have hi:ops.size≤i:=Array.getElem?_eq_none_iff.1 h;exact List.getElem?_eq_none (by rw[sJ];exact hi)
theorem MS:sI (sS md ops).2 l.toList i=(!l.getD i true&&((ops[i]?).map (·.after.all fun e=>!Region.binds md e||l.getD e.on false)).getD false):=by
 unfold sI;rw[gd];cases h:ops[i]? with
 |none=>rw[yL h];rfl
 |some o=>
  rw[yK h];simp only[Option.map_some,Option.getD_some];rw[←Gp];simp only[gd]
theorem ready_eq:Region.ready md ops l=Fp (sS md ops).2 l.toList:=by
 unfold Region.ready Fp;rw[sJ];refine List.filter_congr (fun i _=>?_);rw[MS]
theorem free_eq:Region.free md ops l i=LB (sS md ops).2 l.toList i:=by
 unfold Region.free LB;cases h:ops[i]? with
 |none=>rw[yL h]
 |some oi=>
  rw[yK h];simp only[Js];rw[List.all_filter]
  congr 1
  funext j
  rw[gd];cases hj:ops[j]? with
  |none=>cases(j==i)<;>cases(l.toList.getD j true)<;>simp
  |some oj=>
   cases(j==i)<;>cases(l.toList.getD j true)<;>cases(oj.after.any (fun e=>Region.binds md e&&e.on==i)||oi.apart ops oj)<;>simp_all
theorem QV:Region.AZ md ops l=Dw (sS md ops).2 l.toList:=by
 unfold Region.AZ Dw;rw[sJ]
 congr 1
 funext j
 rw[gd];cases h:ops[j]? with
 |none=>rw[yL h]
 |some o=>
  rw[yK h];simp only;rw[←Gp];simp only[gd]
theorem LC:∀(fuel d:Nat),Region.qw md ops i fuel d=BR (sS md ops).2 i fuel d
 |0,_=>rfl
 |fuel+1,d=>by
  unfold Region.qw BR;cases h:ops[d]? with
  |none=>rw[yL h]
  |some o=>
   rw[yK h];simp only;rw[←QU]
   congr 1
   funext e
   rw[LC fuel]
theorem last_eq:Region.lastB md ops l ds i=lastT (sS md ops).2 l.toList ds i:=by
 unfold Region.lastB lastT;rw[sJ]
 congr 1
 funext d
 rw[gd,LC]
theorem Cy(h:sI T.2 l.toList i=true)(hT:sS md ops=T):(Region.ready md ops l).contains i=true:=by
 subst hT;rw[ready_eq];unfold Fp;rw[List.contains_iff_mem,List.mem_filter,List.mem_range];refine⟨?_,h⟩;unfold sI at h;rw[Bool.and_eq_true]at h;cases hq:(sS md ops).2[i]? with
 |none=>rw[hq]at h;simp at h
 |some r=>exact(List.getElem?_eq_some_iff.1 hq).1
theorem MU(h:(l.toList.set i true==l'.toList)=true):(l.setIfInBounds i true==l')=true:=by
 rw[beq_iff_eq]at h⊢;apply Array.ext';rw[Array.toList_setIfInBounds];exact h
def anyT(T:Bool×List (List Nat×List Nat))(l l':List Bool)(i:Nat):Bool:=T.1&&LB T.2 l i&&sI T.2 l i&&(l.set i true==l')
theorem any_of(hT:sS md ops=T)(h:anyT T l.toList l'.toList i=true):anyB md ops l l' i=true:=by
 simp only[anyT,Bool.and_eq_true]at h;obtain⟨⟨⟨h1,h2⟩,h3⟩,h4⟩:=h;have h5:=Cy h3 hT;have h6:=MU h4;subst hT;simp only[anyB,Bool.and_eq_true];exact⟨⟨⟨h1,by rw[free_eq];exact h2⟩,h5⟩,h6⟩
def takeT(T:Bool×List (List Nat×List Nat))(ds:List Nat)(l l':List Bool)(i:Nat):Bool:=T.1&&LB T.2 l i&&sI T.2 l i&&Dw T.2 l&&lastT T.2 l ds i&&(l.set i true==l')
theorem take_of(hT:sS md ops=T)(h:takeT T ds l.toList l'.toList i=true):takeB md ops ds l l' i=true:=by
 simp only[takeT,Bool.and_eq_true]at h;obtain⟨⟨⟨⟨⟨h1,h2⟩,h3⟩,h4⟩,h5⟩,h6⟩:=h;have h7:=Cy h3 hT;have h8:=MU h6;subst hT;simp only[takeB,Bool.and_eq_true];exact⟨⟨⟨⟨⟨h1,by rw[free_eq];exact h2⟩,h7⟩,by rw[QV];exact h4⟩,by rw[last_eq];exact h5⟩,h8⟩
theorem one_of(hT:sS md ops=T)(h:(Fp T.2 l.toList==[i]&&l.toList.set i true==l'.toList)=true):sV md ops l l' i=true:=by
 simp only[Bool.and_eq_true]at h;obtain⟨h1,h2⟩:=h;subst hT;simp only[sV,Bool.and_eq_true];exact⟨by rw[ready_eq];exact h1,MU h2⟩
theorem done_of(hT:sS md ops=T)(h:(Fp T.2 l.toList==[])=true):(Region.ready md ops l==[])=true:=by
 subst hT;rw[ready_eq];exact h
def upM(B:List Nat)(d:Nat):List Nat→Nat
 | []=>0
 |n::r=>(2^n ||| (if n<d then B.getD n 0 else 0)) ||| upM B d r
def Af(T:List (List Nat×List Nat))(B:List Nat):Bool:=(List.range T.length).all fun d=>match T[d]? with
 |some r=>(B.getD d 0 ||| upM B d r.1)==upM B d r.1
 |none=>false
theorem PZ{B:List Nat}{d i:Nat}:∀ {ns:List Nat},(upM B d ns).testBit i=true→∃n∈ns,n=i∨(n<d∧(B.getD n 0).testBit i=true)
 | [],h=>by simp[upM]at h
 |n::r,h=>by
  unfold upM at h;rw[Nat.testBit_or,Nat.testBit_or,Bool.or_eq_true,Bool.or_eq_true]at h
  rcases h with(h|h)|h
  ·rw[Nat.testBit_two_pow]at h
   exact⟨n,List.mem_cons_self,.inl (by simpa using h)⟩
  ·by_cases hn:n<d
   ·rw[if_pos hn]at h
    exact⟨n,List.mem_cons_self,.inr ⟨hn,h⟩⟩
   ·rw[if_neg hn]at h
    simp at h
  ·obtain⟨m,hm,h2⟩:=PZ h
   exact⟨m,List.mem_cons_of_mem _ hm,h2⟩
theorem Gq{T:List (List Nat×List Nat)}{B:List Nat}(hB:Af T B=true):∀(fuel d:Nat),d<fuel→d<T.length→(B.getD d 0).testBit i=true→BR T i fuel d=true
 |0,d,h,_,_=>by omega
 |fuel+1,d,h,hd,hb=>by
  have h1:=List.all_eq_true.1 hB d (List.mem_range.2 hd);cases hr:T[d]? with
  |none=>rw[hr]at h1;simp at h1
  |some r=>
   rw[hr]at h1;simp only[beq_iff_eq]at h1;have h2:(upM B d r.1).testBit i=true:=by rw[←h1,Nat.testBit_or,hb,Bool.true_or]
   obtain⟨n,hn,h3⟩:=PZ h2;unfold BR;rw[hr];simp only;rw[List.any_eq_true];refine⟨n,hn,?_⟩
   rcases h3 with rfl|⟨h4,h5⟩
   ·simp
   ·rw[Gq hB fuel n (by omega) (by omega) h5,Bool.or_true]
def lastW(T:List (List Nat×List Nat))(B:List Nat)(l:List Bool)(ds:List Nat)(i:Nat):Bool:=ds.all fun d=>l.getD d true||(decide (d<T.length)&&(B.getD d 0).testBit i)
def takeW(T:Bool×List (List Nat×List Nat))(B ds:List Nat)(l l':List Bool)(i:Nat):Bool:=T.1&&LB T.2 l i&&sI T.2 l i&&Dw T.2 l&&lastW T.2 B l ds i&&(l.set i true==l')
theorem take_ofW{B:List Nat}(hT:sS md ops=T)(hB:Af T.2 B=true)(h:takeW T B ds l.toList l'.toList i=true):takeB md ops ds l l' i=true:=by
 refine take_of hT ?_;simp only[takeW,takeT,Bool.and_eq_true]at h⊢;obtain⟨⟨⟨⟨⟨h1,h2⟩,h3⟩,h4⟩,h5⟩,h6⟩:=h;refine⟨⟨⟨⟨⟨h1,h2⟩,h3⟩,h4⟩,?_⟩,h6⟩;unfold lastW at h5;unfold lastT;rw[List.all_eq_true]at h5⊢;intro d hd;have h7:=h5 d hd;rw[Bool.or_eq_true,Bool.and_eq_true,decide_eq_true_eq]at h7
 rcases h7 with h7|⟨h8,h9⟩
 ·rw[h7,Bool.true_or]
 ·rw[Gq hB _ d h8 h8 h9,Bool.or_true]
theorem Qp{P:Program}{Q:Exit→Act→World→Prop}{S:World→Prop}{n:Nat}{a:Act}{w:World}{B:List Nat}(hT:sS md ops=T)(hB:Af T.2 B=true)(h:ak (sS md ops=T)→ak (Af T.2 B=true)→cu P md ops Q S ds n l a w):cu P md ops Q S ds n l a w:=h ⟨hT⟩ ⟨hB⟩
end
def yY:Code→Nat→Option (Array Oper)
 | .region id ops _,k=>if id==k then some ops else none
 | .seq a b,k=>match yY a k with
   |some o=>some o
   |none=>yY b k
 | .cond _ a b,k=>match yY a k with
   |some o=>some o
   |none=>yY b k
 | .block _ c,k=>yY c k
 | .loop c,k=>yY c k
 | .scope c,k=>yY c k
 | .rangeFunc _ _ a b,k=>match yY a k with
   |some o=>some o
   |none=>yY b k
 |_,_=>none
def opsOf(f:Func)(k:Nat):Array Oper:=((f.body.bind fun c=>yY c k)).getD #[]
end Go.Proofs.ah.bH
namespace Go.Proofs.ah.bH
section
variable {P : Program} {ops : Array Oper} {Q : Exit → Act → World → Prop} {md : Region.Mode} {S : World → Prop} {ds : List Nat} {T : Bool × List (List Nat × List Nat)}
end
end Go.Proofs.ah.bH
namespace Go.Proofs.ah.aD
open Go.RowKit
namespace Kd
section
variable {α : Type} {d : Kd α} {e base g o n cap : Nat} {ok okp : Nat → Prop} {w W : World} {v : Value} {xs : List α}
end
section
variable {α : Type} {enc : α → Value} {h1 : ∀ x, (enc x).oneCell' = true} {e base g o n cap : Nat} {ok : Nat → Prop} {W : World} {xs : List α}
end
end Kd
namespace Kd
def tag{α:Type}(f:Nat→Nat)(d:Kd α):Kd (α×Nat) where
 sz:=d.sz
 E:=d.E
 K:=fun w x cs=>d.K w x.1 cs
 M:=fun w base ok x cs=>d.M w base (fun k=>ok k∧f k=x.2) x.1 cs
 j3:=fun h=>d.j3 h
 jP:=fun h=>d.jP h
 iK:=fun hb h=>d.iK hb h
 gY:=fun h=>d.gY h
 fZ:=fun hok h=>d.fZ (fun k hk=>⟨hok k hk.1,hk.2⟩) h
 gG:=fun h=>d.fZ (fun _ hk=>⟨⟨hk.1.1,hk.2⟩,hk.1.2⟩) (d.gG h)
 iU:=fun hm h=>d.iU (fun k hk=>hm k hk.1) h
 iL:=fun hb h=>d.iL hb h
def bare{α:Type}(d:Kd α):Kd α where
 sz:=d.sz
 E:=d.E
 K:=d.K
 M:=fun w base _ x cs=>d.M w base (fun _=>False) x cs
 j3:=fun h=>d.j3 h
 jP:=fun h=>d.jP h
 iK:=fun hb h=>d.iK hb h
 gY:=fun h=>d.gY h
 fZ:=fun _ h=>h
 gG:=fun h=>h
 iU:=fun _ h=>d.iU (fun _ hk=>hk.elim) h
 iL:=fun hb h=>d.iL hb h
def raw(sz:Nat):Kd (List Value) where
 sz:=sz
 E:=[]
 K:=fun _ x cs=>cs=x∧cs.length=sz∧∀u∈cs,u.oneCell'=true
 M:=fun _ _ _ x cs=>cs=x∧cs.length=sz∧∀u∈cs,u.oneCell'=true
 j3:=fun h=>h.2.1
 jP:=fun h=>h.2.2
 iK:=fun _ h=>h
 gY:=fun h=>h
 fZ:=fun _ h=>h
 gG:=fun h=>h
 iU:=fun _ h=>h
 iL:=fun _ h=>h
def S{α:Type}(d:Kd α)(e:Nat)(w:World)(base:Nat)(ok:Nat→Prop)(v:Value)(xs:List α):Prop:=∃f,(tag f d).R e w base ok v xs.zipIdx
section
variable {α β : Type} {d : Kd α} {d' : Kd β} {e e' : Nat} {w w1 W : World} {base b : Nat} {ok ok' okv oku : Nat → Prop} {u v : Value} {xs : List α} {ys : List β}
theorem R_tight(hE:d.E=[])(h:d.R e w base ok v xs):d.R e w base (fun k=>some k=v.ownBlock) v xs:=by
 obtain⟨h0,inner,ho,hr⟩:=h;refine⟨fun k hk=>hk.symm,inner,ho,hr.sZ (fun p c hp=>d.fZ (fun k hk=>?_) (d.gG hp))⟩;obtain⟨_,_,_,q,hq,_⟩:=hk;rw[hE]at hq;cases hq
theorem S_nil(d:Kd α)(e:Nat)(w:World)(base:Nat)(ok:Nat→Prop):S d e w base ok (.slice none 0 0) []:=⟨fun _=>0,ni _ _ _ _ _⟩
end
section
variable {α β : Type} {d : Kd α} {d' : Kd β} {e e' g : Nat} {w w1 W : World} {base b : Nat} {ok ok' okv oku : Nat → Prop} {u v : Value} {xs : List α} {ys : List β}
end
section
open Classical in
variable {P : Program} {ops : Array Oper} {rest : List Oper} {o : Oper} {a : Act} {Q : Exit → Act → World → Prop} {Kc : Act → World → Prop} {α : Type}
end
def gap{α:Type}(f:Nat→Nat)(d:Kd α)(i:Nat)(c:List Value):Kd (α×Nat) where
 sz:=d.sz
 E:=d.E
 K:=fun w x cs=>(x.2=i→cs=c∧cs.length=d.sz∧∀u∈cs,u.oneCell'=true)∧(x.2≠i→d.K w x.1 cs)
 M:=fun w base ok x cs=>(x.2=i→cs=c∧cs.length=d.sz∧∀u∈cs,u.oneCell'=true)∧(x.2≠i→d.M w base (fun k=>ok k∧f k=x.2) x.1 cs)
 j3:=fun {w x cs} h=>by
  by_cases hx:x.2=i
  ·exact(h.1 hx).2.1
  ·exact d.j3 (h.2 hx)
 jP:=fun {w x cs} h=>by
  by_cases hx:x.2=i
  ·exact(h.1 hx).2.2
  ·exact d.jP (h.2 hx)
 iK:=fun hb h=>⟨h.1,fun hx=>d.iK hb (h.2 hx)⟩
 gY:=fun h=>⟨h.1,fun hx=>d.gY (h.2 hx)⟩
 fZ:=fun hok h=>⟨h.1,fun hx=>d.fZ (fun k hk=>⟨hok k hk.1,hk.2⟩) (h.2 hx)⟩
 gG:=fun h=>⟨h.1,fun hx=>d.fZ (fun _ hk=>⟨⟨hk.1.1,hk.2⟩,hk.1.2⟩) (d.gG (h.2 hx))⟩
 iU:=fun hm h=>⟨h.1,fun hx=>d.iU (fun k hk=>hm k hk.1) (h.2 hx)⟩
 iL:=fun hb h=>⟨h.1,fun hx=>d.iL hb (h.2 hx)⟩
def H{α:Type}(d:Kd α)(e:Nat)(w:World)(base:Nat)(ok:Nat→Prop)(v:Value)(xs:List α)(i:Int)(oki:Nat→Prop)(c:List Value):Prop:=
 (∀k,oki k→ok k)∧∃f,(gap f d i.toNat c).R e w base (fun k=>ok k∧¬oki k) v xs.zipIdx
section
variable {α β : Type} {d : Kd α} {e e' g n cap : Nat} {w w1 W : World} {base : Nat} {ok ok' oki okp : Nat → Prop} {u v : Value} {xs : List α} {i : Int} {c : List Value}
open Classical in
end
section
variable {P : Program} {ops : Array Oper} {rest : List Oper} {o : Oper} {a : Act} {Q : Exit → Act → World → Prop} {α : Type}
end
end Kd
namespace Kd
theorem reps_one{α:Type}{R:α→List Value→Prop}{size:Nat}{ps:List α}{cs:List Value}(h:bK R size ps cs)(hs0:0<size)(hR:∀p c,R p c→∀u∈c,u.oneCell'=true):∀u∈cs,u.oneCell'=true:=by
 intro u hu;obtain⟨q,hq,rfl⟩:=List.mem_iff_getElem.1 hu
 have hql:q / size<ps.length:=by
  rw[Nat.div_lt_iff_lt_mul hs0,←h.1];exact hq
 refine hR _ _ (h.2 (q / size) _ (List.getElem?_eq_getElem hql)) _ ?_;rw[List.mem_iff_getElem?];refine⟨q % size,?_⟩;rw[List.getElem?_take,if_pos (Nat.mod_lt _ hs0),List.getElem?_drop,Nat.mul_comm,Nat.div_add_mod,List.getElem?_eq_getElem hq]
def arr{α:Type}(n:Nat)(d:Kd α)(hs:0<d.sz):Kd (List α) where
 sz:=n * d.sz
 E:=d.E
 K:=fun w xs cs=>xs.length=n∧bK (d.K w) d.sz xs cs
 M:=fun w base ok xs cs=>xs.length=n∧bK (d.M w base ok) d.sz xs cs
 j3:=fun h=>by rw[←h.1];exact h.2.1
 jP:=fun h=>reps_one h.2 hs (fun _ _ hk=>d.jP hk)
 iK:=fun hb h=>⟨h.1,h.2.sZ (fun _ _ hk=>d.iK hb hk)⟩
 gY:=fun h=>⟨h.1,h.2.sZ (fun _ _ hk=>d.gY hk)⟩
 fZ:=fun hok h=>⟨h.1,h.2.sZ (fun _ _ hk=>d.fZ hok hk)⟩
 gG:=fun h=>⟨h.1,h.2.sZ (fun _ _ hk=>d.gG hk)⟩
 iU:=fun hm h=>⟨h.1,h.2.sZ (fun _ _ hk=>d.iU hm hk)⟩
 iL:=fun hb h=>⟨h.1,h.2.sZ (fun _ _ hk=>d.iL hb hk)⟩
section
variable {α : Type} {n : Nat} {d : Kd α} {hs : 0 < d.sz} {w : World} {base : Nat} {ok : Nat → Prop} {xs : List α} {cs : List Value}
end
section
variable {α : Type} {n : Nat} {enc : α → Value} {h1 : ∀ x, (enc x).oneCell' = true} {hs : 0 < (scalar enc h1).sz} {w : World} {base : Nat} {ok : Nat → Prop} {xs : List α} {cs : List Value}
end
end Kd
section
variable {P : Program}
end
namespace Kd
section
variable {P : Program} {ops : Array Oper} {rest : List Oper} {o : Oper} {a : Act} {Q : Exit → Act → World → Prop} {Kc : Act → World → Prop} {α : Type}
end
def tagO{α:Type}(f:Nat→Nat)(d:Kd α):Kd (α×Option Nat) where
 sz:=d.sz
 E:=d.E
 K:=fun w x cs=>d.K w x.1 cs
 M:=fun w base ok x cs=>d.M w base (fun k=>ok k∧some (f k)=x.2) x.1 cs
 j3:=fun h=>d.j3 h
 jP:=fun h=>d.jP h
 iK:=fun hb h=>d.iK hb h
 gY:=fun h=>d.gY h
 fZ:=fun hok h=>d.fZ (fun k hk=>⟨hok k hk.1,hk.2⟩) h
 gG:=fun h=>d.fZ (fun _ hk=>⟨⟨hk.1.1,hk.2⟩,hk.1.2⟩) (d.gG h)
 iU:=fun hm h=>d.iU (fun k hk=>hm k hk.1) h
 iL:=fun hb h=>d.iL hb h
section
variable {α : Type} {d : Kd α} {e : Nat} {w : World} {base : Nat} {ok : Nat → Prop} {v : Value} {xs : List α}
def zipO(xs:List α)(z:α)(m:Nat):List (α×Option Nat):=xs.zipIdx.map (fun p=>(p.1,some p.2))++List.replicate m (z,none)
end
section
variable {P : Program} {ops : Array Oper} {rest : List Oper} {o : Oper} {a : Act} {Q : Exit → Act → World → Prop} {Kc : Act → World → Prop} {α : Type}
end
end Kd
namespace Kd
structure Heap {α:Type} (d:Kd α):Prop where
 K:∀ {w w1:World} {x:α} {cs:List Value},(∀k,k<w.heap.size→w1.heap[k]?=w.heap[k]?)→d.K w x cs→d.K w1 x cs
theorem QO{w w1:World}(hb:∀k,k<w.heap.size→w1.heap[k]?=w.heap[k]?){a:Addr}{v:Value}(h:w.cell? a=some v):w1.cell? a=some v:=by
 have:=hb a.block (World.block_lt_of_cell? w a h);simpa [World.cell?,this]using h
theorem Heap.C{α:Type}{d:Kd α}(hd:Heap d){w w1:World}{A:Option Addr}{n:Nat}{xs:List α}(hb:∀k,k<w.heap.size→w1.heap[k]?=w.heap[k]?)(h:d.C w A n xs):d.C w1 A n xs:=
 ⟨h.1,h.2.1,fun hn=>by
  obtain⟨ad,e,hc⟩:=h.2.2 hn;refine⟨ad,e,fun j p hj=>?_⟩;obtain⟨c,hs,hr,hcell⟩:=hc j p hj;exact⟨c,hs,hd.K hb hr,fun i u hu=>QO hb (hcell i u hu)⟩⟩
theorem J3(k:IntKind):Heap (Kd.int k):=⟨fun _ h=>h⟩
theorem rO:Heap Kd.string:=⟨fun _ h=>h⟩
theorem Mg{α:Type}{d:Kd α}(e:Nat)(hd:Heap d):Heap (slice e d):=⟨by
 rintro w w1 x cs hb ⟨A,c,rfl,hl,hr⟩;exact⟨A,c,rfl,hl,hd.C hb hr⟩⟩
theorem tX{α β:Type}{a:Kd α}{b:Kd β}(ha:Heap a)(hb':Heap b):Heap (pair a b):=⟨by
 rintro w w1 x cs hb ⟨c0,c1,rfl,h0,h1⟩;exact⟨c0,c1,rfl,ha.K hb h0,hb'.K hb h1⟩⟩
theorem J2{α β:Type}{d:Kd α}(f:β→α)(hd:Heap d):Heap (iso d f):=⟨fun hb h=>hd.K hb h⟩
section
variable {α : Type} {d : Kd α} {e base g n c : Nat} {ok : Nat → Prop} {w w0 W : World} {A : Option Addr} {xs : List α}
end
end Kd
def Kept(w W:World)(S:Nat→Prop):Prop:=w.heap.size≤W.heap.size∧∀i,i<w.heap.size→¬S i→W.heap[i]?=w.heap[i]?
section
variable {w W W2 : World} {S S2 S' : Nat → Prop}
theorem Kept.refl(w:World)(S:Nat→Prop):Kept w w S:=⟨Nat.le_refl _,fun _ _ _=>rfl⟩
theorem Kept.of_below(h:Below w.heap.size w W)(S:Nat→Prop):Kept w W S:=⟨h.size,fun i hi _=>h.block i hi⟩
theorem Kept.mono(h:Kept w W S)(hs:∀k,S k→S' k):Kept w W S':=⟨h.1,fun i hi hn=>h.2 i hi (fun hk=>hn (hs i hk))⟩
theorem Kept.then_(h:Kept w W S)(k:Kept W W2 S2)(hs:∀k,S2 k→S k∨w.heap.size≤k):Kept w W2 S:=
 ⟨Nat.le_trans h.1 k.1,fun i hi hn=>(k.2 i (Nat.lt_of_lt_of_le hi h.1) (fun h2=>(hs i h2).elim hn (fun h3=>by omega))).trans (h.2 i hi hn)⟩
theorem Kept.below(h:Kept w W S)(hb:Below W.heap.size W W2):Kept w W2 S:=h.then_ (Kept.of_below hb (fun _=>False)) (fun _ hk=>hk.elim)
theorem Kept.alloc(h:Kept w W S)(o:Obj):Kept w (W.alloc o) S:=h.below (bX (Below.refl _ _) o)
theorem Kept.drew(h:Kept w W S):Kept w W.drew S:=h
theorem Kept.drewN(h:Kept w W S)(m:Nat):Kept w (W.drewN m) S:=h
theorem Kept.setCell(h:Kept w W S){p:Addr}(hp:S p.block∨w.heap.size≤p.block)(u:Value):Kept w (W.setCell p u) S:=
 h.then_ (S2:=fun k=>k=p.block) ⟨by simp[World.setCell],fun i _ hn=>Below.heap_setCell W p u i hn⟩ (fun k hk=>by rw[hk];exact hp)
end
namespace Kd
section
variable {α : Type} {d : Kd α} {e base n c : Nat} {ok oki S S2 : Nat → Prop} {w w0 W W1 W2 : World} {v : Value} {A : Option Addr} {xs : List α} {i : Int} {cs : List Value}
end
end Kd
end Go.Proofs.ah.aD
