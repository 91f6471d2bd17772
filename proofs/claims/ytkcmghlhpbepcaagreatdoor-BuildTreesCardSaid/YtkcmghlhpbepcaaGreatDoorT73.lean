/- Lemmas and walks, part 3. -/
import Derived.Test.YtkcmghlhpbepcaaGreatDoorT72
set_option linter.unusedVariables false
set_option linter.unusedSimpArgs false
namespace Go.Proofs.ah.bX
section
variable {P : Program} {ops : Array Oper} {Q : Exit → Act → World → Prop} {md : Region.Mode} {S : World → Prop} {ds : List Nat}
def Region.ng(md:Region.Mode)(ops:Array Oper)(i:Nat):Nat→Nat→Bool
 |0,_=>false
 |fuel+1,d=>match ops[d]? with
  |some o=>o.after.any fun e=>Region.binds md e&&(e.on==i||Region.ng md ops i fuel e.on)
  |none=>false
def Region.wu(md:Region.Mode)(ops:Array Oper)(listed:Array Bool):Bool:=
 (List.range ops.size).all fun j=>!listed.getD j false||match ops[j]? with
   |some o=>o.after.all fun e=>!Region.binds md e||listed.getD e.on false
   |none=>true
def Region.lastB(md:Region.Mode)(ops:Array Oper)(listed:Array Bool)(ds:List Nat)(i:Nat):Bool:=
 ds.all fun d=>listed.getD d true||Region.ng md ops i ops.size d
def jH(md:Region.Mode)(ops:Array Oper)(listed:Array Bool):Prop:=
 ∀j oj,ops[j]?=some oj→listed.getD j false=true→∀e∈oj.after,Region.binds md e=true→listed.getD e.on false=true
theorem Region.Eh{listed:Array Bool}(h:Region.wu md ops listed=true):jH md ops listed:=by
 intro j oj hj hl e he hb;have hlt:j<ops.size:=(Array.getElem?_eq_some_iff.1 hj).1;have h1:=List.all_eq_true.1 h j (List.mem_range.2 hlt);simp only[hl,hj,Bool.not_true,Bool.false_or]at h1;have h2:=Array.all_eq_true_iff_forall_mem.1 h1 e he;simpa [hb]using h2
theorem jH.set{listed:Array Bool}{i:Nat}(h:jH md ops listed)(hi:i∈Region.ready md ops listed):jH md ops (listed.setIfInBounds i true):=by
 obtain⟨_,oi,hoi,hall⟩:=mem_ready.1 hi;intro j oj hj hl e he hb
 by_cases hij:i=j
 ·subst hij
  have:oj=oi:=Option.some.inj (hj.symm.trans hoi);subst this;exact getD_set_true (hall e he hb)
 ·rw[getD_set_ne false hij]at hl
  exact getD_set_true (h j oj hj hl e he hb)
theorem Region.wz{listed:Array Bool}{i:Nat}(hc:jH md ops listed):∀(fuel d:Nat),Region.ng md ops i fuel d=true→listed.getD d false=true→listed.getD i false=true
 |0,_,h,_=>by simp[Region.ng]at h
 |fuel+1,d,h,hl=>by
  unfold Region.ng at h;cases ho:ops[d]? with
  |none=>rw[ho]at h;simp at h
  |some o=>
   rw[ho]at h;obtain⟨e,he,h1⟩:=Array.any_eq_true'.1 h;simp only[Bool.and_eq_true,Bool.or_eq_true,beq_iff_eq]at h1;have hle:=hc d o ho hl e he h1.1
   rcases h1.2 with h2|h2
   ·rw[←h2];exact hle
   ·exact Region.wz hc fuel e.on h2 hle
theorem Region.yA{listed:Array Bool}{i d fuel:Nat}(hc:jH md ops listed)(hr:Region.ng md ops i fuel d=true)(hun:listed.getD i true=false):d∉Region.ready md ops listed:=by
 intro hd;obtain⟨_,o,ho,hall⟩:=mem_ready.1 hd
 have hi:listed.getD i false=true:=by
  cases fuel with
  |zero=>simp[Region.ng]at hr
  |succ n=>
   unfold Region.ng at hr;rw[ho]at hr;obtain⟨e,he,h1⟩:=Array.any_eq_true'.1 hr;simp only[Bool.and_eq_true,Bool.or_eq_true,beq_iff_eq]at h1;have hle:=hall e he h1.1
   rcases h1.2 with h2|h2
   ·rw[←h2];exact hle
   ·exact Region.wz hc n e.on h2 hle
 rcases Nat.lt_or_ge i listed.size with h'|h'
 ·simp[h']at hun hi
  rw[hun]at hi;cases hi
 ·simp[Array.getElem?_eq_none h']at hun
def bW(P:Program)(md:Region.Mode)(ops:Array Oper)(Q:Exit→Act→World→Prop)(S:World→Prop)(ds:List Nat):Nat→Array Bool→Act→World→Prop
 |0,listed,a,w=>Region.ready md ops listed=[]∧Q .normal a w
 |fuel+1,listed,a,w=>
  (Region.ready md ops listed=[]→Q .normal a w)∧
  ∀i∈Region.ready md ops listed,wpOp P ops Q i (fun a' w'=>(i∉ds→S w→S w')∧bW P md ops Q S ds fuel (listed.setIfInBounds i true) a' w') a w
theorem tV:∀(fuel:Nat) (listed:Array Bool) (a:Act) (w:World),bW P md ops Q S ds fuel listed a w→wpAny P md ops Q fuel listed a w
 |0,_,_,_,h=>h
 |fuel+1,_,_,_,h=>⟨h.1,fun i hi=>wpOp_mono (fun a' w' h'=>tV fuel _ a' w' h'.2) (h.2 i hi)⟩
theorem yB{i:Nat}{oi:Oper}{v:Value}(hi:ops[i]?=some oi)(hsel:∀(j:Nat) (o:Oper) cs b,ops[j]?=some o→o.op≠.select cs b)
 (hQ:∀c a w,Q (.panic c) (a.put oi.dst v) w→Q (.panic c) a w) (n:Nat):
 ∀(fuel:Nat) (listed:Array Bool) (a:Act) (w:World),
  (∀j oj,ops[j]?=some oj→j≠i→listed.getD j true=false→(∀e∈oj.after,Region.binds md e=true→e.on≠i)→oi.apart ops oj=true)→
  jH md ops listed→(∀d∈ds,listed.getD d true=false→Region.ng md ops i n d=true)→
  i∈Region.ready md ops listed→YieldsIf P ops S oi v a→S w→
  bW P md ops Q S ds fuel (listed.setIfInBounds i true) (a.put oi.dst v) w→bW P md ops Q S ds (fuel+1) listed a w:=by
 intro fuel
 induction fuel with
 |zero=>
  intro listed a w _ _ _ hr hy hS H;refine⟨fun h=>(by rw[h]at hr;cases hr),fun j hj=>?_⟩
  by_cases hji:j=i
  ·subst hji;exact hy.wpOp hi hS ⟨fun _ h=>h,H⟩
  ·have:=ready_mono hj hji
   rw[H.1]at this;cases this
 |succ fuel ih=>
  intro listed a w hfree hc hd hr hy hS H;refine⟨fun h=>(by rw[h]at hr;cases hr),fun j hj=>?_⟩
  by_cases hji:j=i
  ·subst hji;exact hy.wpOp hi hS ⟨fun _ h=>h,H⟩
  ·have h1:=H.2 j (ready_mono hj hji)
   obtain⟨hjun,oj,hoj,hall⟩:=mem_ready.1 hj;have hiun:=(mem_ready.1 hr).1
   have hnot:∀e∈oj.after,Region.binds md e=true→e.on≠i:=fun e he hb heq=>by
    have h1:=hall e he hb;rw[heq]at h1
    rcases Nat.lt_or_ge i listed.size with h'|h'
    ·simp[h']at hiun h1;rw[hiun]at h1;cases h1
    ·simp[Array.getElem?_eq_none h']at h1
   have hjd:j∉ds:=fun hm=>Region.yA hc (hd j hm hjun) hiun hj
   have h2:=wpOp_putIf hoj (hfree j oj hoj hji hjun hnot) (fun cs b=>hsel i oi cs b hi) (fun cs b=>hsel j oj cs b hoj) hQ hy h1
   have hfree':∀k ok,ops[k]?=some ok→k≠i→(listed.setIfInBounds j true).getD k true=false→
    (∀e∈ok.after,Region.binds md e=true→e.on≠i)→oi.apart ops ok=true:=fun k ok hk hki hun hno=>by
    refine hfree k ok hk hki ?_ hno
    by_cases hjk:j=k
    ·subst hjk;exact hjun
    ·rw[getD_set_ne true hjk]at hun;exact hun
   have hd':∀d∈ds,(listed.setIfInBounds j true).getD d true=false→Region.ng md ops i n d=true:=fun d hm hun=>by
    refine hd d hm ?_
    by_cases hjk:j=d
    ·subst hjk;exact hjun
    ·rw[getD_set_ne true hjk]at hun;exact hun
   refine wpOp_mono (fun a' w' h3=>⟨h3.2.1,ih (listed.setIfInBounds j true) a' w' hfree' (hc.set hj) hd' (ready_mono hr (Ne.symm hji)) h3.1 (h3.2.1 hjd hS) ?_⟩) h2;rw[Array.setIfInBounds_comm _ _ hji];exact h3.2.2
theorem Bt{i:Nat}{oi:Oper}{v:Value}(hi:ops[i]?=some oi)(hsel:∀(j:Nat) (o:Oper) cs b,ops[j]?=some o→o.op≠.select cs b)
 (hQ:∀c a w,Q (.panic c) (a.put oi.dst v) w→Q (.panic c) a w):
 ∀(fuel:Nat) (listed:Array Bool) (a:Act) (w:World),
  (∀j oj,ops[j]?=some oj→j≠i→listed.getD j true=false→(∀e∈oj.after,Region.binds md e=true→e.on≠i)→oi.apart ops oj=true)→
  i∈Region.ready md ops listed→Yields P ops oi v a→
  bW P md ops Q S ds fuel (listed.setIfInBounds i true) (a.put oi.dst v) w→bW P md ops Q S ds (fuel+1) listed a w:=by
 intro fuel
 induction fuel with
 |zero=>
  intro listed a w _ hr hy H;refine⟨fun h=>(by rw[h]at hr;cases hr),fun j hj=>?_⟩
  by_cases hji:j=i
  ·subst hji;exact(hy.yieldsIf (S:=fun _=>True)).wpOp hi trivial ⟨fun _ h=>h,H⟩
  ·have:=ready_mono hj hji
   rw[H.1]at this;cases this
 |succ fuel ih=>
  intro listed a w hfree hr hy H;refine⟨fun h=>(by rw[h]at hr;cases hr),fun j hj=>?_⟩
  by_cases hji:j=i
  ·subst hji;exact(hy.yieldsIf (S:=fun _=>True)).wpOp hi trivial ⟨fun _ h=>h,H⟩
  ·have h1:=H.2 j (ready_mono hj hji)
   obtain⟨hjun,oj,hoj,hall⟩:=mem_ready.1 hj;have hiun:=(mem_ready.1 hr).1
   have hnot:∀e∈oj.after,Region.binds md e=true→e.on≠i:=fun e he hb heq=>by
    have h1:=hall e he hb;rw[heq]at h1
    rcases Nat.lt_or_ge i listed.size with h'|h'
    ·simp[h']at hiun h1;rw[hiun]at h1;cases h1
    ·simp[Array.getElem?_eq_none h']at h1
   have h2:=wpOp_put hoj (hfree j oj hoj hji hjun hnot) (fun cs b=>hsel i oi cs b hi) (fun cs b=>hsel j oj cs b hoj) hQ hy h1
   have hfree':∀k ok,ops[k]?=some ok→k≠i→(listed.setIfInBounds j true).getD k true=false→
    (∀e∈ok.after,Region.binds md e=true→e.on≠i)→oi.apart ops ok=true:=fun k ok hk hki hun hno=>by
    refine hfree k ok hk hki ?_ hno
    by_cases hjk:j=k
    ·subst hjk;exact hjun
    ·rw[getD_set_ne true hjk]at hun;exact hun
   refine wpOp_mono (fun a' w' h3=>⟨h3.2.1,ih (listed.setIfInBounds j true) a' w' hfree' (ready_mono hr (Ne.symm hji)) h3.1 ?_⟩) h2;rw[Array.setIfInBounds_comm _ _ hji];exact h3.2.2
theorem Ba{i:Nat}{oi:Oper}{v:Value}{fuel:Nat}{listed:Array Bool}{a:Act}{w:World}(hi:ops[i]?=some oi)
 (hs:Region.noSelect ops=true) (hf:Region.free md ops listed i=true) (hr:(Region.ready md ops listed).contains i=true)
 (hc:Region.wu md ops listed=true) (hl:Region.lastB md ops listed ds i=true)
 (hQ:∀c a w,Q (.panic c) (a.put oi.dst v) w→Q (.panic c) a w) (hy:YieldsIf P ops S oi v a) (hS:S w)
 (h:bW P md ops Q S ds fuel (listed.setIfInBounds i true) (a.put oi.dst v) w):bW P md ops Q S ds (fuel+1) listed a w:=
 yB hi (Region.noSelect_spec hs) hQ ops.size fuel listed a w (Region.free_spec hi hf) (Region.Eh hc)
  (fun d hm hun=>by have:=List.all_eq_true.1 hl d hm;rw[hun]at this;simpa using this) (by simpa using hr) hy hS h
theorem Bu{rs:List Nat}{fuel:Nat}{listed:Array Bool}{a:Act}{w:World}(hr:Region.ready md ops listed=rs)(hne:rs≠[])
 (h:∀i∈rs,wpOp P ops Q i (fun a' w'=>(i∉ds→S w→S w')∧bW P md ops Q S ds fuel (listed.setIfInBounds i true) a' w') a w):bW P md ops Q S ds (fuel+1) listed a w:=
 ⟨fun h0=>absurd (hr▸h0) hne,hr▸h⟩
theorem Bb{listed:Array Bool}{a:Act}{w:World}(hr:Region.ready md ops listed=[])(h:Q .normal a w):
 ∀fuel,bW P md ops Q S ds fuel listed a w
 |0=>⟨hr,h⟩
 |_+1=>⟨fun _=>h,by rw[hr];simp⟩
theorem Bc{id:Nat}{a:Act}{w:World}(hm:P.follows .mixedOrders=true)
 (h:bW P .any ops Q S ds ops.size (Array.replicate ops.size false) a {w with drawn:=w.drawn+1 }):(Code.region id ops true).wp P Q a w:=
 wp_region_any hm (tV _ _ _ _ h)
end
section
variable {P : Program} {ops : Array Oper} {Q : Exit → Act → World → Prop} {md : Region.Mode} {S : World → Prop} {ds : List Nat}
def iP(P:Program)(md:Region.Mode)(ops:Array Oper)(Q:Exit→Act→World→Prop)(S:World→Prop)(ds:List Nat)(fuel:Nat)(listed:Array Bool)(a:Act)(w:World)(rs:List Nat):Prop:=
 ∀i∈rs,wpOp P ops Q i (fun a' w'=>(i∉ds→S w→S w')∧bW P md ops Q S ds fuel (listed.setIfInBounds i true) a' w') a w
theorem iP.nil{fuel:Nat}{listed:Array Bool}{a:Act}{w:World}:iP P md ops Q S ds fuel listed a w []:=fun _ h=>by cases h
theorem iP.cons{fuel:Nat}{listed:Array Bool}{a:Act}{w:World}{i:Nat}{o:Oper}{rs:List Nat}(ho:ops[i]?=some o)(hd:i∉ds)
 (h:∀K':Act→World→Prop,Shut (∀a w,S w→(S w→bW P md ops Q S ds fuel (listed.setIfInBounds i true) a w)→K' a w)→if Region.wanted o (yielded ops a.tmps)=true then Oper.wp P o a w K' Q else K' (a.put o.dst undef) w)
 (hs:iP P md ops Q S ds fuel listed a w rs):iP P md ops Q S ds fuel listed a w (i::rs):=fun j hj=>by
 rcases List.mem_cons.1 hj with rfl|hj
 ·exact wpOp_step ho (fun K' hK=>h K' (fun a w hS hW=>hK a w ⟨fun _ _=>hS,hW hS⟩))
 ·exact hs j hj
theorem iP.Ki{fuel:Nat}{listed:Array Bool}{a:Act}{w:World}{i:Nat}{o:Oper}{rs:List Nat}(ho:ops[i]?=some o)(hd:i∈ds)
 (h:∀K':Act→World→Prop,Shut (∀a w,bW P md ops Q S ds fuel (listed.setIfInBounds i true) a w→K' a w)→if Region.wanted o (yielded ops a.tmps)=true then Oper.wp P o a w K' Q else K' (a.put o.dst undef) w)
 (hs:iP P md ops Q S ds fuel listed a w rs):iP P md ops Q S ds fuel listed a w (i::rs):=fun j hj=>by
 rcases List.mem_cons.1 hj with rfl|hj
 ·exact wpOp_step ho (fun K' hK=>h K' (fun a w hW=>hK a w ⟨fun hn=>absurd hd hn,hW⟩))
 ·exact hs j hj
theorem rA{rs:List Nat}{fuel:Nat}{listed:Array Bool}{a:Act}{w:World}(hr:Region.ready md ops listed=rs)(hne:rs≠[])
 (h:iP P md ops Q S ds fuel listed a w rs):bW P md ops Q S ds (fuel+1) listed a w:=Bu hr hne h
theorem jm{id n:Nat}{a:Act}{w:World}(l:Array Bool)(hm:P.follows .mixedOrders=true)(hn:ops.size=n)(hl:Array.replicate n false=l)(hS:S w.drew)
 (h:S w.drew→bW P .any ops Q S ds n l a w.drew):(Code.region id ops true).wp P Q a w:=by
 subst hn;subst hl;exact Bc hm (h hS)
def takeB(md:Region.Mode)(ops:Array Oper)(ds:List Nat)(l l':Array Bool)(i:Nat):Bool:=
 Region.noSelect ops&&Region.free md ops l i&&(Region.ready md ops l).contains i&&Region.wu md ops l&&Region.lastB md ops l ds i&&(l.setIfInBounds i true==l')
theorem BS{i:Nat}{N:Option Tmp}{oi:Oper}{v:Value}{fuel:Nat}{l:Array Bool}{a:Act}{w:World}(l':Array Bool)(hi:ops[i]?=some oi)(hN:oi.dst=N)(hc:takeB md ops ds l l' i=true)
 (hQ:∀c a w,Q (.panic c) (a.put oi.dst v) w→Q (.panic c) a w) (hy:YieldsIf P ops S oi v a) (hS:S w) {a':Act} (ha:a.put N v=a')
 (h:bW P md ops Q S ds fuel l' a' w):bW P md ops Q S ds (fuel+1) l a w:=by
 subst ha;subst hN;simp only[takeB,Bool.and_eq_true,beq_iff_eq]at hc;obtain⟨⟨⟨⟨⟨h1,h2⟩,h3⟩,h4⟩,h5⟩,h6⟩:=hc;subst h6;exact Ba hi h1 h2 h3 h4 h5 hQ hy hS h
def anyB(md:Region.Mode)(ops:Array Oper)(l l':Array Bool)(i:Nat):Bool:=
 Region.noSelect ops&&Region.free md ops l i&&(Region.ready md ops l).contains i&&(l.setIfInBounds i true==l')
theorem xP{i:Nat}{N:Option Tmp}{oi:Oper}{v:Value}{fuel:Nat}{l:Array Bool}{a:Act}{w:World}(l':Array Bool)(hi:ops[i]?=some oi)(hN:oi.dst=N)(hc:anyB md ops l l' i=true)
 (hQ:∀c a w,Q (.panic c) (a.put oi.dst v) w→Q (.panic c) a w) (hy:Yields P ops oi v a) {a':Act} (ha:a.put N v=a')
 (h:bW P md ops Q S ds fuel l' a' w):bW P md ops Q S ds (fuel+1) l a w:=by
 subst ha;subst hN;simp only[anyB,Bool.and_eq_true,beq_iff_eq]at hc;obtain⟨⟨⟨h1,h2⟩,h3⟩,h6⟩:=hc;subst h6;exact Bt hi (Region.noSelect_spec h1) hQ fuel l a w (Region.free_spec hi h2) (by simpa using h3) hy h
def pG(md:Region.Mode)(ops:Array Oper)(l l':Array Bool)(i:Nat):Bool:=(Region.ready md ops l==[i])&&(l.setIfInBounds i true==l')
theorem tH{i:Nat}{N:Option Tmp}{oi:Oper}{fuel:Nat}{l:Array Bool}{a:Act}{w:World}(l':Array Bool)(hi:ops[i]?=some oi)(hN:oi.dst=N)(hc:pG md ops l l' i=true)(hd:i∉ds)
 (h:∀K:Act→World→Prop,Shut (∀a' w',S w'→(S w'→bW P md ops Q S ds fuel l' a' w')→K a' w')→if Region.wanted oi (yielded ops a.tmps)=true then Oper.wp P oi a w K Q else K (a.put N undef) w):
 bW P md ops Q S ds (fuel+1) l a w:=by
 subst hN;simp only[pG,Bool.and_eq_true,beq_iff_eq]at hc;obtain⟨h1,h2⟩:=hc;subst h2;exact rA h1 (by simp) (iP.cons hi hd (fun K hK=>h K hK) iP.nil)
theorem last_{i:Nat}{N:Option Tmp}{oi:Oper}{fuel:Nat}{l:Array Bool}{a:Act}{w:World}(l':Array Bool)(hi:ops[i]?=some oi)(hN:oi.dst=N)(hc:pG md ops l l' i=true)(hd:i∈ds)
 (h:∀K:Act→World→Prop,Shut (∀a' w',bW P md ops Q S ds fuel l' a' w'→K a' w')→if Region.wanted oi (yielded ops a.tmps)=true then Oper.wp P oi a w K Q else K (a.put N undef) w):
 bW P md ops Q S ds (fuel+1) l a w:=by
 subst hN;simp only[pG,Bool.and_eq_true,beq_iff_eq]at hc;obtain⟨h1,h2⟩:=hc;subst h2;exact rA h1 (by simp) (iP.Ki hi hd (fun K hK=>h K hK) iP.nil)
theorem kS{l:Array Bool}{a:Act}{w:World}{n:Nat}(hr:(Region.ready md ops l==[])=true)(h:Q .normal a w):bW P md ops Q S ds n l a w:=Bb (by simpa using hr) h n
def putAll:Act→List (Tmp×Value)→Act
 |a,[]=>a
 |a,(n,v)::r=>putAll (a.put (some n) v) r
theorem norm_{fuel:Nat}{l:Array Bool}{a a':Act}{w:World}(ha:a=a')(h:bW P md ops Q S ds fuel l a' w):bW P md ops Q S ds fuel l a w:=by
 subst ha;exact h
theorem call_{oi:Oper}{N:Option Tmp}{a:Act}{w:World}{K:Act→World→Prop}(f:FuncId)(args:Array Value)(hw:Region.wanted oi (yielded ops a.tmps)=true)(hN:oi.dst=N)(hrun:(execOp a.eval oi).run P w=.ok (.enter f args) w)
 (h:Calls P f args w fun e w'=>∃v,e=.returned v∧K (a.put N v) w'):if Region.wanted oi (yielded ops a.tmps)=true then Oper.wp P oi a w K Q else K (a.put N undef) w:=by
 rw[if_pos hw];subst hN;unfold Oper.wp;rw[hrun,Oper.upon_enter];refine h.mono fun e w'' hh=>?_
 obtain⟨v,rfl,hk⟩:=hh;exact hk
theorem JE{f:FuncId}{fn:Func}(hf:P.funcs[f]?=some fn)(hname:(fn.name== "runtime.NumGoroutine")=false)(hb:fn.body.isSome=true)(args:Array Value)(w:World):(callFunc f args).run P w=.ok (.enter f args) w:=by
 have h1:fn.name≠ "runtime.NumGoroutine" :=by simpa using hname
 obtain⟨c,hc⟩:=Option.isSome_iff_exists.1 hb;simp[callFunc,hf,h1,hc]
theorem nM{oi:Oper}{N:Option Tmp}{a:Act}{w:World}{K:Act→World→Prop}{f:FuncId}{fn:Func}{as_:Array Operand}{ts:Array TypeId}(hf:P.funcs[f]?=some fn)(hname:(fn.name== "runtime.NumGoroutine")=false)(hb:fn.body.isSome=true)(args:Array Value)
 (hw:Region.wanted oi (yielded ops a.tmps)=true) (hN:oi.dst=N) (hop:oi.op=.call {callee:=.value (.func f),args:=as_,argTypes:=ts }) (hargs:as_.map a.eval=args)
 (h:Calls P f args w fun e w'=>∃v,e=.returned v∧K (a.put N v) w'):if Region.wanted oi (yielded ops a.tmps)=true then Oper.wp P oi a w K Q else K (a.put N undef) w:=by
 refine call_ f args hw hN ?_ h;have he:=JE hf hname hb args w;unfold execOp;simp[hop,resolve,Deferred.ofValue,invoke,Act.eval,hargs,he]
theorem dH{rest:List Oper}{oi:Oper}{a:Act}{w:World}(N:Option Tmp)(hd:oi.dst=N)(hg:oi.guard=none){f:FuncId}{fn:Func}{as_:Array Operand}{ts:Array TypeId}(hf:P.funcs[f]?=some fn)(hname:(fn.name== "runtime.NumGoroutine")=false)(hb:fn.body.isSome=true)(args:Array Value)
 (hop:oi.op=.call {callee:=.value (.func f),args:=as_,argTypes:=ts }) (hargs:as_.map a.eval=args)
 (h:Calls P f args w fun e w'=>∃v,e=.returned v∧wpList P ops Q rest (a.put N v) w'):wpList P ops Q (oi::rest) a w:=by
 refine wpList_plain hg fun K hK=>?_
 have he:=JE hf hname hb args w
 have hrun:(execOp a.eval oi).run P w=.ok (.enter f args) w:=by
  unfold execOp;simp[hop,resolve,Deferred.ofValue,invoke,Act.eval,hargs,he]
 unfold Oper.wp;rw[hrun,Oper.upon_enter];refine h.mono fun e w'' hh=>?_
 obtain⟨v,rfl,hk⟩:=hh;subst hd;exact hK _ _ hk
theorem value_{oi:Oper}{N:Option Tmp}{a:Act}{w w1:World}{v:Value}{K:Act→World→Prop}(hw:Region.wanted oi (yielded ops a.tmps)=true)(hN:oi.dst=N)(hrun:(execOp a.eval oi).run P w=.ok (.value v) w1)
 (h:K (a.put N v) w1):if Region.wanted oi (yielded ops a.tmps)=true then Oper.wp P oi a w K Q else K (a.put N undef) w:=by
 rw[if_pos hw];subst hN;unfold Oper.wp;rw[hrun];exact h
theorem gM(n:Int):IntKind.i64.wrap n=Go.RowKit.wrap64 n:=by unfold Go.RowKit.wrap64;exact IntKind.wrap_i64 n
theorem gX(n:Int):IntKind.i32.wrap n=Go.RowKit.wrap32 n:=by unfold Go.RowKit.wrap32;exact IntKind.wrap_i32 n
end
section
open Go.RowKit Go
variable {P : Program} {ops : Array Oper} {Q : Exit → Act → World → Prop} {md : Region.Mode} {S : World → Prop} {ds : List Nat}
theorem pw(i T:Nat)(l':Array Bool){oi:Oper}{v:Value}{fuel:Nat}{l:Array Bool}{a:Act}{w:World}{a':Act}(h:bW P md ops Q S ds fuel l' a' w)
 (hi:ops[i]?=some oi:=by rfl) (hN:oi.dst=some T:=by rfl) (hc:anyB md ops l l' i=true:=by exact any_of HT_.out (by kernel_rfl)) (hQ:∀c a w,Q (.panic c) (a.put oi.dst v) w→Q (.panic c) a w:=by exact fun _ _ _ h=>h)
 (hy:Yields P ops oi v a:=by(refine Or.inl ⟨by rfl,?_⟩);intro w';go_simp;with_reducible rfl)
 (ha:a.put (some T) v=a':=by simp only[Act.put,List.setIfInBounds_toArray,List.set_cons_zero,List.set_cons_succ,gM,gX];rfl):bW P md ops Q S ds (fuel+1) l a w:=xP l' hi hN hc hQ hy ha h
theorem pu(i T:Nat)(l':Array Bool){oi:Oper}{fuel:Nat}{l:Array Bool}{a:Act}{w:World}{a':Act}(h:bW P md ops Q S ds fuel l' a' w)
 (hi:ops[i]?=some oi:=by rfl) (hN:oi.dst=some T:=by rfl) (hc:anyB md ops l l' i=true:=by exact any_of HT_.out (by kernel_rfl)) (hQ:∀c a w,Q (.panic c) (a.put oi.dst undef) w→Q (.panic c) a w:=by exact fun _ _ _ h=>h)
 (hy:Yields P ops oi undef a:=by exact Or.inr ⟨by rfl,rfl⟩)
 (ha:a.put (some T) undef=a':=by simp only[Act.put,List.setIfInBounds_toArray,List.set_cons_zero,List.set_cons_succ,gM,gX];rfl):bW P md ops Q S ds (fuel+1) l a w:=xP l' hi hN hc hQ hy ha h
theorem pt(i T:Nat)(l':Array Bool){oi:Oper}{v:Value}{fuel:Nat}{l:Array Bool}{a:Act}{w:World}{a':Act}(h:bW P md ops Q S ds fuel l' a' w)
 (hi:ops[i]?=some oi:=by rfl) (hN:oi.dst=some T:=by rfl) (hc:takeB md ops ds l l' i=true:=by exact take_ofW HT_.out HW_.out (by kernel_rfl)) (hQ:∀c a w,Q (.panic c) (a.put oi.dst v) w→Q (.panic c) a w:=by exact fun _ _ _ h=>h)
 (hy:YieldsIf P ops S oi v a:=by(refine Or.inl ⟨by rfl,?_⟩);intro w' hs_;(repeat(have s_:=hs_.1;replace hs_:=hs_.2));go_simp;with_reducible rfl)
 (hS:S w:=by exact hHeld)
 (ha:a.put (some T) v=a':=by simp only[Act.put,List.setIfInBounds_toArray,List.set_cons_zero,List.set_cons_succ,gM,gX];rfl):bW P md ops Q S ds (fuel+1) l a w:=BS l' hi hN hc hQ hy hS ha h
theorem pn{fuel:Nat}{l:Array Bool}{a a':Act}{w:World}(h:bW P md ops Q S ds fuel l a' w)(ha:a=a':=by(show Act.put _ (some _) _=_);simp only[Act.put,List.setIfInBounds_toArray,List.set_cons_zero,List.set_cons_succ,gM,gX];rfl):bW P md ops Q S ds fuel l a w:=norm_ ha h
end
end Go.Proofs.ah.bX
namespace Go.Proofs.ah.bX
open Go.Proofs.ah.aG (ak)
def sV(md:Region.Mode)(o:Oper):List Nat:=(o.after.toList.filter (fun e=>Region.binds md e)).map (fun e=>e.on)
def El(md:Region.Mode)(ops:Array Oper)(i:Nat)(oi:Oper):List Nat:=(List.range ops.size).filter fun j=>!(j==i)&&match ops[j]? with
 |some oj=>!(oj.after.any (fun e=>Region.binds md e&&e.on==i)||oi.apart ops oj)
 |none=>false
def nY(md:Region.Mode)(ops:Array Oper):Bool×List (List Nat×List Nat):=(Region.noSelect ops,(List.range ops.size).map fun i=>match ops[i]? with
 |some o=>(sV md o,El md ops i o)
 |none=>([],[]))
def oZ(T:List (List Nat×List Nat))(l:List Bool)(i:Nat):Bool:=!l.getD i true&&match T[i]? with
 |some r=>r.1.all (fun j=>l.getD j false)
 |none=>false
def Bg(T:List (List Nat×List Nat))(l:List Bool):List Nat:=(List.range T.length).filter (oZ T l)
def Gy(T:List (List Nat×List Nat))(l:List Bool)(i:Nat):Bool:=match T[i]? with
 |some r=>r.2.all (fun j=>l.getD j true)
 |none=>false
def zu(T:List (List Nat×List Nat))(l:List Bool):Bool:=(List.range T.length).all fun j=>!l.getD j false||match T[j]? with
 |some r=>r.1.all (fun k=>l.getD k false)
 |none=>true
def xA(T:List (List Nat×List Nat))(i:Nat):Nat→Nat→Bool
 |0,_=>false
 |fuel+1,d=>match T[d]? with
  |some r=>r.1.any fun j=>j==i||xA T i fuel j
  |none=>false
def lastT(T:List (List Nat×List Nat))(l:List Bool)(ds:List Nat)(i:Nat):Bool:=ds.all fun d=>l.getD d true||xA T i T.length d
section
variable {md : Region.Mode} {ops : Array Oper} {T : Bool × List (List Nat × List Nat)} {l l' li lj lk : Array Bool} {ds : List Nat} {i j k : Nat}
theorem gd(l:Array Bool)(j:Nat)(b:Bool):l.getD j b=l.toList.getD j b:=by simp[Array.getD_eq_getD_getElem?,List.getD_eq_getElem?_getD]
theorem Cn(o:Oper)(p:Nat→Bool):o.after.all (fun e=>!Region.binds md e||p e.on)=(sV md o).all p:=by
 unfold sV;rw[←Array.all_toList]
 induction o.after.toList with
 |nil=>rfl
 |cons e r ih=>
  rw[List.all_cons,ih,List.filter_cons];cases h:Region.binds md e<;>simp
theorem Kk(o:Oper)(p:Nat→Bool):o.after.any (fun e=>Region.binds md e&&p e.on)=(sV md o).any p:=by
 unfold sV;rw[←Array.any_toList]
 induction o.after.toList with
 |nil=>rfl
 |cons e r ih=>
  rw[List.any_cons,ih,List.filter_cons];cases h:Region.binds md e<;>simp
theorem o7:(nY md ops).2.length=ops.size:=by simp[nY]
theorem sW{o:Oper}(h:ops[i]?=some o):(nY md ops).2[i]?=some (sV md o,El md ops i o):=by
 have hi:=(Array.getElem?_eq_some_iff.1 h).1;unfold nY;rw[List.getElem?_map,List.getElem?_range hi,Option.map_some,h]
theorem sZ(h:ops[i]?=none):(nY md ops).2[i]?=none:=by
 have hi:ops.size≤i:=Array.getElem?_eq_none_iff.1 h;exact List.getElem?_eq_none (by rw[o7];exact hi)
theorem Ia:oZ (nY md ops).2 l.toList i=(!l.getD i true&&((ops[i]?).map (·.after.all fun e=>!Region.binds md e||l.getD e.on false)).getD false):=by
 unfold oZ;rw[gd];cases h:ops[i]? with
 |none=>rw[sZ h];rfl
 |some o=>
  rw[sW h];simp only[Option.map_some,Option.getD_some];rw[←Cn];simp only[gd]
theorem ready_eq:Region.ready md ops l=Bg (nY md ops).2 l.toList:=by
 unfold Region.ready Bg;rw[o7];refine List.filter_congr (fun i _=>?_);rw[Ia]
theorem free_eq:Region.free md ops l i=Gy (nY md ops).2 l.toList i:=by
 unfold Region.free Gy;cases h:ops[i]? with
 |none=>rw[sZ h]
 |some oi=>
  rw[sW h];simp only[El];rw[List.all_filter]
  congr 1
  funext j
  rw[gd];cases hj:ops[j]? with
  |none=>cases(j==i)<;>cases(l.toList.getD j true)<;>simp
  |some oj=>
   cases(j==i)<;>cases(l.toList.getD j true)<;>cases(oj.after.any (fun e=>Region.binds md e&&e.on==i)||oi.apart ops oj)<;>simp_all
theorem Kl:Region.wu md ops l=zu (nY md ops).2 l.toList:=by
 unfold Region.wu zu;rw[o7]
 congr 1
 funext j
 rw[gd];cases h:ops[j]? with
 |none=>rw[sZ h]
 |some o=>
  rw[sW h];simp only;rw[←Cn];simp only[gd]
theorem Gz:∀(fuel d:Nat),Region.ng md ops i fuel d=xA (nY md ops).2 i fuel d
 |0,_=>rfl
 |fuel+1,d=>by
  unfold Region.ng xA;cases h:ops[d]? with
  |none=>rw[sZ h]
  |some o=>
   rw[sW h];simp only;rw[←Kk]
   congr 1
   funext e
   rw[Gz fuel]
theorem last_eq:Region.lastB md ops l ds i=lastT (nY md ops).2 l.toList ds i:=by
 unfold Region.lastB lastT;rw[o7]
 congr 1
 funext d
 rw[gd,Gz]
theorem xV(h:oZ T.2 l.toList i=true)(hT:nY md ops=T):(Region.ready md ops l).contains i=true:=by
 subst hT;rw[ready_eq];unfold Bg;rw[List.contains_iff_mem,List.mem_filter,List.mem_range];refine⟨?_,h⟩;unfold oZ at h;rw[Bool.and_eq_true]at h;cases hq:(nY md ops).2[i]? with
 |none=>rw[hq]at h;simp at h
 |some r=>exact(List.getElem?_eq_some_iff.1 hq).1
theorem Ib(h:(l.toList.set i true==l'.toList)=true):(l.setIfInBounds i true==l')=true:=by
 rw[beq_iff_eq]at h⊢;apply Array.ext';rw[Array.toList_setIfInBounds];exact h
def anyT(T:Bool×List (List Nat×List Nat))(l l':List Bool)(i:Nat):Bool:=T.1&&Gy T.2 l i&&oZ T.2 l i&&(l.set i true==l')
theorem any_of(hT:nY md ops=T)(h:anyT T l.toList l'.toList i=true):anyB md ops l l' i=true:=by
 simp only[anyT,Bool.and_eq_true]at h;obtain⟨⟨⟨h1,h2⟩,h3⟩,h4⟩:=h;have h5:=xV h3 hT;have h6:=Ib h4;subst hT;simp only[anyB,Bool.and_eq_true];exact⟨⟨⟨h1,by rw[free_eq];exact h2⟩,h5⟩,h6⟩
def takeT(T:Bool×List (List Nat×List Nat))(ds:List Nat)(l l':List Bool)(i:Nat):Bool:=T.1&&Gy T.2 l i&&oZ T.2 l i&&zu T.2 l&&lastT T.2 l ds i&&(l.set i true==l')
theorem take_of(hT:nY md ops=T)(h:takeT T ds l.toList l'.toList i=true):takeB md ops ds l l' i=true:=by
 simp only[takeT,Bool.and_eq_true]at h;obtain⟨⟨⟨⟨⟨h1,h2⟩,h3⟩,h4⟩,h5⟩,h6⟩:=h;have h7:=xV h3 hT;have h8:=Ib h6;subst hT;simp only[takeB,Bool.and_eq_true];exact⟨⟨⟨⟨⟨h1,by rw[free_eq];exact h2⟩,h7⟩,by rw[Kl];exact h4⟩,by rw[last_eq];exact h5⟩,h8⟩
theorem pz(hT:nY md ops=T)(h:(Bg T.2 l.toList==[i]&&l.toList.set i true==l'.toList)=true):pG md ops l l' i=true:=by
 simp only[Bool.and_eq_true]at h;obtain⟨h1,h2⟩:=h;subst hT;simp only[pG,Bool.and_eq_true];exact⟨by rw[ready_eq];exact h1,Ib h2⟩
theorem qP(hT:nY md ops=T)(h:(Bg T.2 l.toList==[])=true):(Region.ready md ops l==[])=true:=by
 subst hT;rw[ready_eq];exact h
def upM(B:List Nat)(d:Nat):List Nat→Nat
 | []=>0
 |n::r=>(2^n ||| (if n<d then B.getD n 0 else 0)) ||| upM B d r
def qN(T:List (List Nat×List Nat))(B:List Nat):Bool:=(List.range T.length).all fun d=>match T[d]? with
 |some r=>(B.getD d 0 ||| upM B d r.1)==upM B d r.1
 |none=>false
theorem JG{B:List Nat}{d i:Nat}:∀ {ns:List Nat},(upM B d ns).testBit i=true→∃n∈ns,n=i∨(n<d∧(B.getD n 0).testBit i=true)
 | [],h=>by simp[upM]at h
 |n::r,h=>by
  unfold upM at h;rw[Nat.testBit_or,Nat.testBit_or,Bool.or_eq_true,Bool.or_eq_true]at h
  rcases h with(h|h)|h
  ·rw[Nat.testBit_two_pow]at h
   exact⟨n,List.mem_cons_self,.inl (by simpa using h)⟩
  ·by_cases hn:n<d
   ·rw[if_pos hn]at h
    exact⟨n,List.mem_cons_self,.inr ⟨hn,h⟩⟩
   ·rw[if_neg hn]at h
    simp at h
  ·obtain⟨m,hm,h2⟩:=JG h
   exact⟨m,List.mem_cons_of_mem _ hm,h2⟩
theorem Co{T:List (List Nat×List Nat)}{B:List Nat}(hB:qN T B=true):∀(fuel d:Nat),d<fuel→d<T.length→(B.getD d 0).testBit i=true→xA T i fuel d=true
 |0,d,h,_,_=>by omega
 |fuel+1,d,h,hd,hb=>by
  have h1:=List.all_eq_true.1 hB d (List.mem_range.2 hd);cases hr:T[d]? with
  |none=>rw[hr]at h1;simp at h1
  |some r=>
   rw[hr]at h1;simp only[beq_iff_eq]at h1;have h2:(upM B d r.1).testBit i=true:=by rw[←h1,Nat.testBit_or,hb,Bool.true_or]
   obtain⟨n,hn,h3⟩:=JG h2;unfold xA;rw[hr];simp only;rw[List.any_eq_true];refine⟨n,hn,?_⟩
   rcases h3 with rfl|⟨h4,h5⟩
   ·simp
   ·rw[Co hB fuel n (by omega) (by omega) h5,Bool.or_true]
def lastW(T:List (List Nat×List Nat))(B:List Nat)(l:List Bool)(ds:List Nat)(i:Nat):Bool:=ds.all fun d=>l.getD d true||(decide (d<T.length)&&(B.getD d 0).testBit i)
def takeW(T:Bool×List (List Nat×List Nat))(B ds:List Nat)(l l':List Bool)(i:Nat):Bool:=T.1&&Gy T.2 l i&&oZ T.2 l i&&zu T.2 l&&lastW T.2 B l ds i&&(l.set i true==l')
theorem take_ofW{B:List Nat}(hT:nY md ops=T)(hB:qN T.2 B=true)(h:takeW T B ds l.toList l'.toList i=true):takeB md ops ds l l' i=true:=by
 refine take_of hT ?_;simp only[takeW,takeT,Bool.and_eq_true]at h⊢;obtain⟨⟨⟨⟨⟨h1,h2⟩,h3⟩,h4⟩,h5⟩,h6⟩:=h;refine⟨⟨⟨⟨⟨h1,h2⟩,h3⟩,h4⟩,?_⟩,h6⟩;unfold lastW at h5;unfold lastT;rw[List.all_eq_true]at h5⊢;intro d hd;have h7:=h5 d hd;rw[Bool.or_eq_true,Bool.and_eq_true,decide_eq_true_eq]at h7
 rcases h7 with h7|⟨h8,h9⟩
 ·rw[h7,Bool.true_or]
 ·rw[Co hB _ d h8 h8 h9,Bool.or_true]
theorem mG{P:Program}{Q:Exit→Act→World→Prop}{S:World→Prop}{n:Nat}{a:Act}{w:World}{B:List Nat}(hT:nY md ops=T)(hB:qN T.2 B=true)(h:ak (nY md ops=T)→ak (qN T.2 B=true)→bW P md ops Q S ds n l a w):bW P md ops Q S ds n l a w:=h ⟨hT⟩ ⟨hB⟩
end
def tX:Code→Nat→Option (Array Oper)
 | .region id ops _,k=>if id==k then some ops else none
 | .seq a b,k=>match tX a k with
   |some o=>some o
   |none=>tX b k
 | .cond _ a b,k=>match tX a k with
   |some o=>some o
   |none=>tX b k
 | .block _ c,k=>tX c k
 | .loop c,k=>tX c k
 | .scope c,k=>tX c k
 | .rangeFunc _ _ a b,k=>match tX a k with
   |some o=>some o
   |none=>tX b k
 |_,_=>none
def opsOf(f:Func)(k:Nat):Array Oper:=((f.body.bind fun c=>tX c k)).getD #[]
end Go.Proofs.ah.bX
namespace Go.Proofs.ah.bX
section
variable {P : Program} {ops : Array Oper} {Q : Exit → Act → World → Prop} {md : Region.Mode} {S : World → Prop} {ds : List Nat} {T : Bool × List (List Nat × List Nat)}
end
end Go.Proofs.ah.bX
namespace Go.Proofs.ah.aG
open Go.RowKit
namespace Kd
section
variable {α : Type} {d : Kd α} {e base g o n cap : Nat} {ok okp : Nat → Prop} {w W : World} {v : Value} {xs : List α}
end
section
variable {α : Type} {enc : α → Value} {h1 : ∀ x, (enc x).oneCell' = true} {e base g o n cap : Nat} {ok : Nat → Prop} {W : World} {xs : List α}
end
end Kd
end Go.Proofs.ah.aG
