/- boltinglaw07.BuildTrees returns true and leaves its arguments as they were: the row and its card. Conditions: the row's own (the form's reach; the listed variables as the program's text lays them). -/
import Derived.Test.YtkcmghlhpbepcaaGreatDoorCards
import Derived.Test.YtkcmghlhpbepcaaGreatDoorTie
import Derived.Test.YtkcmghlhpbepcaaGreatDoorT739
import Derived.Test.YtkcmghlhpbepcaaGreatDoorT740
import Derived.ShutString
set_option linter.unusedVariables false
set_option linter.unusedSimpArgs false
/- boltinglaw07.BuildTrees returns true and leaves its arguments as they were: the row and its card. Conditions: the row's own (the form's reach; the listed variables as the program's text lays them). -/
namespace Go.Proofs.YtkcmghlhpbepcaaGreatDoor.fnBuildTrees
open Go.ChangeShapes Go.WideShapes Go.ChangeAt Go.RowKit Go.Proofs.aj.W7
open Go.ChangeMaps (open_string shut_string)
theorem laidOut:laidOutB Tryz.prog=true:=by kernel_rfl
set_option maxRecDepth 100000 in
theorem contract(H:Type)(enc:TypeId×Value→H)(W:World)(base:Nat)(args:Array Value)(ds gs:List (DataW H))(before:List MemPlace)
 (hval:∀(j:Nat) t v,Tryz.f4.params[j]?=some t→args[j]?=some v→Value.okWide Tryz.prog W .any base t v)
 (hW:DataW.Whole enc Tryz.prog Tryz.f4.params.toList Rows.buildTreesSpec.vars false W args.toList ds gs before)
 (hS:Std W)
 (hsz:(DataW.weightsEach Tryz.prog (Tryz.f4.params.toList++(OpenSpec.ofChange Rows.buildTreesSpec).bare.plain.varTypes Tryz.prog) (ds++gs)).all (· ≤reachBytes)=true):
 Calls Tryz.prog 4 args W fun e W'=>∃v,e=.returned v∧Rows.buildTreesSpec.post enc Tryz.prog Tryz.f4 false true false false W args v W':=by
 have hW':=hW;obtain⟨p,q,hA0,hV,rfl,hfz,hnd⟩:=hW;have hA:DataW.TrodAll enc Tryz.prog W 0 (fun _=>true) true Tryz.f4.params.toList args.toList ds p:=hA0;rw[Tryz.params4]at hA hval hsz;obtain⟨v0,vs0,d0,ds0,p0,q0,hargs,rfl,rfl,h0,r0⟩:=trodAll_cons hA;obtain⟨rfl,rfl,rfl⟩:=trodAll_nil r0;obtain rfl:args=#[v0]:=by cases args;simp_all
 obtain⟨rfl,rfl⟩:=trodVars_none hV;have hlt:∀x∈p0,x.block<W.heap.size:=fun x hx=>hW'.lt x (by simpa using hx)
 obtain⟨fuel0,hf0⟩:=id h0;obtain⟨a0,n0,m0,rfl⟩:=okWide_slice Tryz.underlying26 (hval 0 26 v0 rfl rfl);obtain⟨l0,⟨A0,c0,e0,hc0,hr0⟩,wM⟩:=opm26 hf0;have w0:=wM 140737488351232 (fun n hn=>Nat.le_trans (of_decide_eq_true (List.all_eq_true.1 hsz n (DataW.weights_mem_each (j:=0) (t:=26) rfl rfl n hn))) (by decide));clear hsz
 obtain⟨rfl,rfl,rfl⟩:a0=A0∧n0=l0.length∧m0=c0:=by
  simp only[Value.cells]at e0;simpa using e0
 clear hA0;simp only[List.append_nil]at hW';have walk:=Cy a0 m0 l0 hr0 hc0 w0 hS;refine walk.mono fun e W' ⟨he,hb⟩=>?_
 subst he;have e1:Rows.buildTreesSpec.fn H ([d0]++[])= {results:=[.lit (.bool true)],args:=[d0] }:=rfl;refine⟨_,rfl,_,_,_,[],(p0++[]),[],hW',?_,?_,?_,hb.frame _,fun h=>by cases h⟩
 ·rw[e1];exact trodAll_cons_mk (shut_bool Tryz.underlying4 _) trodAll_mk0
 ·rw[e1];exact(trodAll_cons_mk (Below.trod laidOut (by kernel_rfl) (of_decide_eq_true (by kernel_rfl)) h0 hb (fun x hx=>hlt x hx)) trodAll_mk0)
 ·rw[e1];rfl
theorem reads(os:Os){H:Type}(enc:TypeId×Value→H):∃places,DataW.whole enc Tryz.prog ((wZ os).forCall (fun _ _=>0) ⟨#[],#[.slice none 0 0],[]⟩).memory Tryz.f4.params.toList Rows.buildTreesSpec.vars false #[Value.slice none 0 0].toList 8=some ([.nil],[],places):=
 ⟨[],by kernel_rfl⟩
set_option maxRecDepth 100000 in
theorem lifted(os:Os)(started:os.Started)(H:Type)(enc:TypeId×Value→H)(F:Stop.Interp):
 ReturnsInHanded {} Tryz.checked os 4 .any ((OpenSpec.ofChange Rows.buildTreesSpec).preRow enc Tryz.prog Tryz.f4 Rows.buildTreesRow.domain false Rows.buildTreesRow.laid) (((OpenSpec.ofChange Rows.buildTreesSpec).at F).post enc Tryz.prog Tryz.f4 false true false false):=by
 obtain⟨places,hx⟩:=reads os enc
 refine returnsInHanded_of_row (C:=Tryz.checked) (s:=OpenSpec.ofChange Rows.buildTreesSpec) own started (by kernel_rfl) Tryz.func4
  (witness_row_atRef (enc:=enc) (C:=Tryz.checked) false (wZ os) #[.slice none 0 0] rfl (by kernel_rfl) (by kernel_rfl) (by kernel_rfl)
    (OpenSpec.preRow_of_cond 8 hx (by kernel_rfl) (fun k hk=>by cases hk) (by kernel_rfl) (laid_met os #[.slice none 0 0]))) ?_
 intro W base args ds gs before hval hW _ _ hsz hL hsh _;exact contract H enc W base args ds gs before hval hW (std_of hL hsh) hsz
theorem said:Rows.BuildTreesSaid:=
 OpenClaim.holds_of_cond 4 Tryz.f4 rfl rfl rfl rfl rfl rfl rfl ⟨rfl,rfl,rfl,rfl,rfl⟩ rfl rfl rfl rfl rfl (by kernel_rfl) Tryz.func4 facts
  (of_decide_eq_true (by kernel_rfl)) (by unfold Func.isWrapper;rw[if_neg (of_decide_eq_false (by kernel_rfl))];exact⟨rfl,rfl⟩)
  (fun os started H enc _ F=>by rw[OpenClaim.pre_eq_preRow];exact lifted os started H enc F)
theorem plain(f:FuncId)(fn:Func)(hf:Tryz.pinned.checked.prog.funcNamed "bolting/boltinglaw07.BuildTrees" =some f)(hfn:Tryz.pinned.checked.prog.funcs[f]?=some fn):
 true=Tryz.pinned.checked.prog.looks []∧∀(j:Nat) t,fn.params[j]?=some t→Tryz.pinned.checked.prog.wantsStandIn t=false:=by
 obtain rfl:f=4:=Option.some.inj ((show Tryz.prog.funcNamed "bolting/boltinglaw07.BuildTrees" =some 4 by kernel_rfl).symm.trans hf) |>.symm
 obtain rfl:fn=Tryz.f4:=(Option.some.inj (Tryz.func4.symm.trans hfn)).symm;refine⟨by kernel_rfl,fun j t ht=>?_⟩;rw[Tryz.params4]at ht;have hm:=Array.mem_of_getElem? ht;simp only[List.mem_toArray,List.mem_cons,List.mem_nil_iff,or_false]at hm
 rcases hm with rfl
 ·exact(show Tryz.prog.wantsStandIn 26=false by kernel_rfl)
theorem buildTrees_card:Rows.BuildTreesCardSaid:=
 Claim7.holds_tied_plain_at .later [] _ _ _ _ said (fun _ h=>by cases h) (by kernel_rfl) (fun _ h=>by cases h) buildTrees_row_tie rfl ⟨rfl,rfl⟩ (by kernel_rfl) rfl plain (by kernel_rfl)
end Go.Proofs.YtkcmghlhpbepcaaGreatDoor.fnBuildTrees
namespace Go.Proofs.YtkcmghlhpbepcaaGreatDoor
theorem buildTrees_holds:Rows.BuildTreesCardSaid:=fnBuildTrees.buildTrees_card
end Go.Proofs.YtkcmghlhpbepcaaGreatDoor
