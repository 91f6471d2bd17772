/- boltinglaw07.BuildParts returns true and leaves its arguments as they were: the row and its card. Conditions: the row's own (the form's reach; the listed variables as the program's text lays them). -/
import Derived.Test.YtkcmghlhpbepcaaGreatDoorCards
import Derived.Test.YtkcmghlhpbepcaaGreatDoorTie
import Derived.Test.YtkcmghlhpbepcaaGreatDoorC7D7
import Derived.Test.YtkcmghlhpbepcaaGreatDoorC7D4
import Derived.Test.YtkcmghlhpbepcaaGreatDoorB727
import Derived.Test.YtkcmghlhpbepcaaGreatDoorC7D8
import Derived.Carry
import Derived.ShutString
set_option linter.unusedVariables false
set_option linter.unusedSimpArgs false

/- boltinglaw07.BuildParts returns true and leaves its arguments as they were: the row and its card. Conditions: the row's own (the form's reach; the listed variables as the program's text lays them). -/
namespace Go.Proofs.YtkcmghlhpbepcaaGreatDoor.fnBuildParts
open Go.ChangeShapes Go.WideShapes Go.ChangeAt Go.RowKit Go.Proofs.YtkcmghlhpbepcaaGreatDoorH.W7
open Go.ChangeMaps (open_string shut_string)
theorem laidOut : laidOutB Tryz.prog = true := by kernel_rfl
set_option maxRecDepth 100000 in
theorem contract (H : Type) (enc : TypeId × Value → H) (W : World) (base : Nat) (args : Array Value) (ds gs : List (DataW H)) (before : List MemPlace)
 (hval : ∀ (j : Nat) t v, Tryz.f10.params[j]? = some t → args[j]? = some v → Value.okWide Tryz.prog W .any base t v)
 (hW : DataW.Whole enc Tryz.prog Tryz.f10.params.toList Rows.buildPartsSpec.vars false W args.toList ds gs before)
 (hS : Std W) :
 Calls Tryz.prog 10 args W fun e W' => ∃ v, e = .returned v ∧ Rows.buildPartsSpec.post enc Tryz.prog Tryz.f10 false true false false W args v W' := by
 have hW' := hW
 obtain ⟨p, q, hA0, hV, rfl, hfz, hnd⟩ := hW
 have hA : DataW.TrodAll enc Tryz.prog W 0 (fun _ => true) true Tryz.f10.params.toList args.toList ds p := hA0
 rw [Tryz.params10] at hA hval
 obtain ⟨v0, vs0, d0, ds0, p0, q0, hargs, rfl, rfl, h0, r0⟩ := trodAll_cons hA
 obtain ⟨v1, vs1, d1, ds1, p1, q1, rfl, rfl, rfl, h1, r1⟩ := trodAll_cons r0
 obtain ⟨rfl, rfl, rfl⟩ := trodAll_nil r1
 obtain rfl : args = #[v0, v1] := by cases args; simp_all
 obtain ⟨rfl, rfl⟩ := trodVars_none hV
 have hlt : ∀ x ∈ p0 ++ p1, x.block < W.heap.size := fun x hx => hW'.lt x (by simpa using hx)
 obtain ⟨fuel0, hf0⟩ := id h0
 obtain ⟨a0, n0, m0, rfl⟩ := okWide_slice Tryz.underlying41 (hval 0 41 v0 rfl rfl)
 obtain ⟨l0, ⟨A0, c0, e0, hc0, hr0⟩, b0, w0⟩ := opn41 hf0
 obtain ⟨rfl, rfl, rfl⟩ : a0 = A0 ∧ n0 = l0.length ∧ m0 = c0 := by
  simp only [Value.cells] at e0
  simpa using e0
 obtain ⟨s1, rfl, rfl, rfl, ws1⟩ := open_string Tryz.underlying9 (hval 1 9 v1 rfl rfl) h1
 clear hA0
 simp only [List.append_nil] at hW'
 have walk := buildParts_w a0 m0 l0 hr0 hc0 w0 s1 ws1 hS
 refine walk.mono fun e W' ⟨he, hb⟩ => ?_
 subst he
 have e1 : Rows.buildPartsSpec.fn H ([d0, .lit (.string s1.data.toList)] ++ []) = { results := [.lit (.bool true)], args := [d0, .lit (.string s1.data.toList)] } := rfl
 refine ⟨_, rfl, _, _, _, [], (p0 ++ ([] ++ [])), [], hW', ?_, ?_, ?_, hb.frame _, fun h => by cases h⟩
 ·rw [e1]; exact trodAll_cons_mk (shut_bool Tryz.underlying4 _) trodAll_mk0
 ·rw [e1]; exact (trodAll_cons_mk (Below.trod laidOut (by kernel_rfl) (of_decide_eq_true (by kernel_rfl)) h0 hb (fun x hx => hlt x (List.mem_append.2 (.inl hx)))) (trodAll_cons_mk (shut_string Tryz.underlying9 ws1) trodAll_mk0))
 ·rw [e1]; rfl
theorem reads (os : Os) {H : Type} (enc : TypeId × Value → H) : ∃ places, DataW.whole enc Tryz.prog ((laidWorld os).forCall (fun _ _ => 0) ⟨#[], #[.slice none 0 0, .string ⟨#[]⟩], []⟩).memory Tryz.f10.params.toList Rows.buildPartsSpec.vars false #[Value.slice none 0 0, Value.string ⟨#[]⟩].toList 8 = some ([.nil, .lit (.string [])], [], places) :=
 ⟨[], by kernel_rfl⟩
set_option maxRecDepth 100000 in
theorem lifted (os : Os) (started : os.Started) (H : Type) (enc : TypeId × Value → H) (F : Stop.Interp) :
 ReturnsInHanded {} Tryz.checked os 10 .any ((OpenSpec.ofChange Rows.buildPartsSpec).preRow enc Tryz.prog Tryz.f10 Rows.buildPartsRow.domain false Rows.buildPartsRow.laid) (((OpenSpec.ofChange Rows.buildPartsSpec).at F).post enc Tryz.prog Tryz.f10 false true false false) := by
 obtain ⟨places, hx⟩ := reads os enc
 refine returnsInHanded_of_row (C := Tryz.checked) (s := OpenSpec.ofChange Rows.buildPartsSpec) own started (by kernel_rfl) Tryz.func10
  (witness_row_atRef (enc := enc) (C := Tryz.checked) false (laidWorld os) #[.slice none 0 0, .string ⟨#[]⟩] rfl (by kernel_rfl) (by kernel_rfl) (by kernel_rfl)
    (OpenSpec.preRow_of_cond 8 hx (by kernel_rfl) (fun k hk => by cases hk) (by kernel_rfl) (laid_met os #[.slice none 0 0, .string ⟨#[]⟩]))) ?_
 intro W base args ds gs before hval hW _ _ hsz hL hsh _
 exact contract H enc W base args ds gs before hval hW (std_of hL hsh)
theorem said : Rows.BuildPartsSaid :=
 OpenClaim.holds_of_cond 10 Tryz.f10 rfl rfl rfl rfl rfl rfl rfl ⟨rfl, rfl, rfl, rfl, rfl⟩ rfl rfl rfl rfl rfl (by kernel_rfl) Tryz.func10 facts
  (of_decide_eq_true (by kernel_rfl)) (by unfold Func.isWrapper; rw [if_neg (of_decide_eq_false (by kernel_rfl))]; exact ⟨rfl, rfl⟩)
  (fun os started H enc _ F => by rw [OpenClaim.pre_eq_preRow]; exact lifted os started H enc F)
theorem plain (f : FuncId) (fn : Func) (hf : Tryz.pinned.checked.prog.funcNamed "bolting/boltinglaw07.BuildParts" = some f) (hfn : Tryz.pinned.checked.prog.funcs[f]? = some fn) :
 true = Tryz.pinned.checked.prog.looks [] ∧ ∀ (j : Nat) t, fn.params[j]? = some t → Tryz.pinned.checked.prog.wantsStandIn t = false := by
 obtain rfl : f = 10 := Option.some.inj ((show Tryz.prog.funcNamed "bolting/boltinglaw07.BuildParts" = some 10 by kernel_rfl).symm.trans hf) |>.symm
 obtain rfl : fn = Tryz.f10 := (Option.some.inj (Tryz.func10.symm.trans hfn)).symm
 refine ⟨by kernel_rfl, fun j t ht => ?_⟩
 rw [Tryz.params10] at ht
 have hm := Array.mem_of_getElem? ht
 simp only [List.mem_toArray, List.mem_cons, List.mem_nil_iff, or_false] at hm
 rcases hm with rfl | rfl
 ·exact (show Tryz.prog.wantsStandIn 41 = false by kernel_rfl)
 ·exact (show Tryz.prog.wantsStandIn 9 = false by kernel_rfl)
theorem buildParts_card : Rows.BuildPartsCardSaid :=
 Claim7.holds_tied_plain_at .later [] _ _ _ _ said (fun _ h => by cases h) (by kernel_rfl) (fun _ h => by cases h) buildParts_row_tie rfl ⟨rfl, rfl⟩ (by kernel_rfl) rfl plain (by kernel_rfl)
end Go.Proofs.YtkcmghlhpbepcaaGreatDoor.fnBuildParts
namespace Go.Proofs.YtkcmghlhpbepcaaGreatDoor
theorem buildParts_holds : Rows.BuildPartsCardSaid := fnBuildParts.buildParts_card
end Go.Proofs.YtkcmghlhpbepcaaGreatDoor
