/- boltinglaw08.WriteStays returns true and leaves its arguments as they were: the row and its card. Conditions: the row's own (the form's reach; the listed variables as the program's text lays them). -/
import Derived.Test.YtkcmghlhpbepcaaGreatDoorCards
import Derived.Test.YtkcmghlhpbepcaaGreatDoorTie
import Derived.Test.YtkcmghlhpbepcaaGreatDoorWS49
import Derived.Test.YtkcmghlhpbepcaaGreatDoorWS50
import Derived.ShutString
set_option linter.unusedVariables false
set_option linter.unusedSimpArgs false
/- boltinglaw08.WriteStays returns true and leaves its arguments as they were: the row and its card. Conditions: the row's own (the form's reach; the listed variables as the program's text lays them). -/
namespace Go.Proofs.YtkcmghlhpbepcaaGreatDoor.fnWriteStays
open Go.ChangeShapes Go.WideShapes Go.ChangeAt Go.RowKit
open Go.ChangeMaps (open_string shut_string)
theorem laidOut:laidOutB Tryz.prog=true:=by kernel_rfl
set_option maxRecDepth 100000 in
theorem contract(H:Type)(enc:TypeId×Value→H)(W:World)(base:Nat)(args:Array Value)(ds gs:List (DataW H))(before:List MemPlace)
 (hval:∀(j:Nat) t v,Tryz.f13.params[j]?=some t→args[j]?=some v→Value.okWide Tryz.prog W .any base t v)
 (hW:DataW.Whole enc Tryz.prog Tryz.f13.params.toList Rows.writeStaysSpec.vars false W args.toList ds gs before)
 (hS:Std W):
 Calls Tryz.prog 13 args W fun e W'=>∃v,e=.returned v∧Rows.writeStaysSpec.post enc Tryz.prog Tryz.f13 false true false false W args v W':=by
 have hW':=hW;obtain⟨p,q,hA0,hV,rfl,hfz,hnd⟩:=hW;have hA:DataW.TrodAll enc Tryz.prog W 0 (fun _=>true) true Tryz.f13.params.toList args.toList ds p:=hA0;rw[Tryz.params13]at hA hval;obtain⟨v0,vs0,d0,ds0,p0,q0,hargs,rfl,rfl,h0,r0⟩:=trodAll_cons hA;obtain⟨rfl,rfl,rfl⟩:=trodAll_nil r0;obtain rfl:args=#[v0]:=by cases args;simp_all
 obtain⟨rfl,rfl⟩:=trodVars_none hV;have hlt:∀x∈p0,x.block<W.heap.size:=fun x hx=>hW'.lt x (by simpa using hx)
 obtain⟨s0,rfl,rfl,rfl,ws0⟩:=open_string Tryz.underlying9 (hval 0 9 v0 rfl rfl) h0;clear hA0;simp only[List.append_nil]at hW';have walk:=IJ s0 ws0 hS;refine walk.mono fun e W' ⟨he,hb⟩=>?_
 subst he;have e1:Rows.writeStaysSpec.fn H ([.lit (.string s0.data.toList)]++[])= {results:=[.lit (.bool true)],args:=[.lit (.string s0.data.toList)] }:=rfl;refine⟨_,rfl,_,_,_,[],([]++[]),[],hW',?_,?_,?_,hb.frame _,fun h=>by cases h⟩
 ·rw[e1];exact trodAll_cons_mk (shut_bool Tryz.underlying4 _) trodAll_mk0
 ·rw[e1];exact(trodAll_cons_mk (shut_string Tryz.underlying9 ws0) trodAll_mk0)
 ·rw[e1];rfl
theorem reads(os:Os){H:Type}(enc:TypeId×Value→H):∃places,DataW.whole enc Tryz.prog ((Cy os).forCall (fun _ _=>0) ⟨#[],#[.string ⟨#[]⟩],[]⟩).memory Tryz.f13.params.toList Rows.writeStaysSpec.vars false #[Value.string ⟨#[]⟩].toList 8=some ([.lit (.string [])],[],places):=
 ⟨[],by kernel_rfl⟩
set_option maxRecDepth 100000 in
theorem lifted(os:Os)(started:os.Started)(H:Type)(enc:TypeId×Value→H)(F:Stop.Interp):
 ReturnsInHanded {} Tryz.checked os 13 .any ((OpenSpec.ofChange Rows.writeStaysSpec).preRow enc Tryz.prog Tryz.f13 Rows.writeStaysRow.domain false Rows.writeStaysRow.laid) (((OpenSpec.ofChange Rows.writeStaysSpec).at F).post enc Tryz.prog Tryz.f13 false true false false):=by
 obtain⟨places,hx⟩:=reads os enc
 refine returnsInHanded_of_row (C:=Tryz.checked) (s:=OpenSpec.ofChange Rows.writeStaysSpec) own started (by kernel_rfl) Tryz.func13
  (witness_row_atRef (enc:=enc) (C:=Tryz.checked) false (Cy os) #[.string ⟨#[]⟩] rfl (by kernel_rfl) (by kernel_rfl) (by kernel_rfl)
    (OpenSpec.preRow_of_cond 8 hx (by kernel_rfl) (fun k hk=>by cases hk) (by kernel_rfl) (laid_met os #[.string ⟨#[]⟩]))) ?_
 intro W base args ds gs before hval hW _ _ hsz hL hsh _;exact contract H enc W base args ds gs before hval hW (std_of hL hsh)
theorem said:Rows.WriteStaysSaid:=
 OpenClaim.holds_of_cond 13 Tryz.f13 rfl rfl rfl rfl rfl rfl rfl ⟨rfl,rfl,rfl,rfl,rfl⟩ rfl rfl rfl rfl rfl (by kernel_rfl) Tryz.func13 facts
  (of_decide_eq_true (by kernel_rfl)) (by unfold Func.isWrapper;rw[if_neg (of_decide_eq_false (by kernel_rfl))];exact⟨rfl,rfl⟩)
  (fun os started H enc _ F=>by rw[OpenClaim.pre_eq_preRow];exact lifted os started H enc F)
theorem plain(f:FuncId)(fn:Func)(hf:Tryz.pinned.checked.prog.funcNamed "bolting/boltinglaw08.WriteStays" =some f)(hfn:Tryz.pinned.checked.prog.funcs[f]?=some fn):
 true=Tryz.pinned.checked.prog.looks []∧∀(j:Nat) t,fn.params[j]?=some t→Tryz.pinned.checked.prog.wantsStandIn t=false:=by
 obtain rfl:f=13:=Option.some.inj ((show Tryz.prog.funcNamed "bolting/boltinglaw08.WriteStays" =some 13 by kernel_rfl).symm.trans hf) |>.symm
 obtain rfl:fn=Tryz.f13:=(Option.some.inj (Tryz.func13.symm.trans hfn)).symm;refine⟨by kernel_rfl,fun j t ht=>?_⟩;rw[Tryz.params13]at ht;have hm:=Array.mem_of_getElem? ht;simp only[List.mem_toArray,List.mem_cons,List.mem_nil_iff,or_false]at hm
 rcases hm with rfl
 ·exact(show Tryz.prog.wantsStandIn 9=false by kernel_rfl)
theorem writeStays_card:Rows.WriteStaysCardSaid:=
 Claim7.holds_tied_plain_at .later [] _ _ _ _ said (fun _ h=>by cases h) (by kernel_rfl) (fun _ h=>by cases h) writeStays_row_tie rfl ⟨rfl,rfl⟩ (by kernel_rfl) rfl plain (by kernel_rfl)
end Go.Proofs.YtkcmghlhpbepcaaGreatDoor.fnWriteStays
namespace Go.Proofs.YtkcmghlhpbepcaaGreatDoor
theorem writeStays_holds:Rows.WriteStaysCardSaid:=fnWriteStays.writeStays_card
end Go.Proofs.YtkcmghlhpbepcaaGreatDoor
