/- Lemmas and walks, part 30: QPW7x28, QLBuildNested, QWit07. -/
import Derived.Test.YtkcmghlhpbepcaaGreatDoorN73
import Derived.Test.YtkcmghlhpbepcaaGreatDoorN714
import Derived.Test.YtkcmghlhpbepcaaGreatDoorN718
import Derived.Test.YtkcmghlhpbepcaaGreatDoorN729
import Derived.Test.YtkcmghlhpbepcaaGreatDoorRows
import Derived.Test.YtkcmghlhpbepcaaGreatDoorN75
import Derived.WalkKit
import Derived.ProofKit
import Derived.OpenShut
import Derived.SizedLaws
import Derived.Deep.DeepHandedRow
import Derived.Deep.DeepWitnessRowRef
import Derived.Stop.LaidErr
import Derived.Lib.LaidIn
import Derived.Lib.LaidU8T
import Derived.Shelf.Vars
set_option linter.unusedVariables false
set_option linter.unusedSimpArgs false

/- Words and walks used below. -/
namespace Go.Proofs.YtkcmghlhpbepcaaGreatDoorH.W7
open Go.RowKit Go.Proofs.YtkcmghlhpbepcaaGreatDoorW.PrintWords Go.Proofs.YtkcmghlhpbepcaaGreatDoorW.PrintLast Go.Proofs.YtkcmghlhpbepcaaGreatDoorW.PrintMore
attribute [local go_sem] max2_int min2_int max_two min_two max_three min_three max_four min_four   -- for this text's walks alone
def boltinglaw07_BuildNested.f (k : Nat) (a0 : ByteArray) (l1 : List ByteArray) : Option (Bool) := if 0 ≤ (mn (l1.length : Int) 40) then (if (mn (l1.length : Int) 40) ≤ (l1.length : Int) then ((boltinglaw07_fixed.f).bind fun t311 => (if t311 = true then ((build_Nested.f k a0 (l1.take ((mn (l1.length : Int) 40) : Int).toNat)).bind fun t312 => ((boltingref07_Nested.f k a0 (l1.take ((mn (l1.length : Int) 40) : Int).toNat)).bind fun t313 => (some (t312 == t313)))) else (some false))) else (none)) else (none)
set_option maxHeartbeats 8000000 in
set_option maxRecDepth 100000 in
theorem boltinglaw07_BuildNested.calls (k : Nat) (a0 : ByteArray) (A1 : Option Addr) (c1 : Nat) (l1 : List ByteArray) (r : Bool) (w : World) (hr1 : Kd.C Kd.string w A1 l1.length l1) (hc1 : l1.length ≤ c1) (h : boltinglaw07_BuildNested.f k a0 l1 = some r) (hS_ : Go.Proofs.YtkcmghlhpbepcaaGreatDoor.Std w) :
 Calls Tryz.prog 6 #[.string a0, .slice A1 l1.length c1] w fun e w' => e = .returned (.bool r) ∧ Below w.heap.size w w' := by
 have HS_ := Aside0.mk hS_
 clear hS_
 have HR1 := Aside0.mk hr1
 have HC1 := Aside0.mk hc1
 clear hr1 hc1
 have HB := Aside0.mk (Below.refl w.heap.size w)
 have H : (if 0 ≤ (mn (l1.length : Int) 40) then (if (mn (l1.length : Int) 40) ≤ (l1.length : Int) then ((boltinglaw07_fixed.f).bind fun t311 => (if t311 = true then ((build_Nested.f k a0 (l1.take ((mn (l1.length : Int) 40) : Int).toNat)).bind fun t312 => ((boltingref07_Nested.f k a0 (l1.take ((mn (l1.length : Int) 40) : Int).toNat)).bind fun t313 => (some (t312 == t313)))) else (some false))) else (none)) else (none)) = some r := h
 clear h
 obtain ⟨ji3, hji3⟩ : ∃ j_ : Int, (mn (l1.length : Int) 40) = j_ := ⟨_, rfl⟩
 replace H : (if 0 ≤ (ji3) then (if (ji3) ≤ (l1.length : Int) then ((boltinglaw07_fixed.f).bind fun t311 => (if t311 = true then ((build_Nested.f k a0 (l1.take ((ji3) : Int).toNat)).bind fun t312 => ((boltingref07_Nested.f k a0 (l1.take ((ji3) : Int).toNat)).bind fun t313 => (some (t312 == t313)))) else (some false))) else (none)) else (none)) = some r := by first | (rw [hji3] at H; exact H) | (simp only [hji3] at H ⊢; exact H)
 (try (have hji3h : ji3 ≤ 40 := by (rw [← hji3]; unfold mn; (repeat' split) <;> omega)))
 (try (have hji3g : ji3 ≤ 64 := by omega))
 (try (have hji3l : 0 ≤ ji3 := by (rw [← hji3]; unfold mn; (repeat' split) <;> omega)))
 (try (have hji3m : 0 ≤ ji3 := by omega))
 have hji3_ : (if 40 < (l1.length : Int) then 40 else (l1.length : Int)) = ji3 := hji3
 by_cases c4 : 0 ≤ (ji3)
 ·rw [if_pos c4] at H
  have c4b0 := eq_true c4
  have c4b1 : decide (0 ≤ (ji3)) = true := decide_eq_true c4
  clear c4
  by_cases c5 : (ji3) ≤ (l1.length : Int)
  ·rw [if_pos c5] at H
   have c5b0 := eq_true c5
   have c5b1 : decide ((ji3) ≤ (l1.length : Int)) = true := decide_eq_true c5
   clear c5
   replace H := Option.bind_eq_some_iff.mp H
   obtain ⟨t311, A60, H⟩ := H
   replace H : (if t311 = true then ((build_Nested.f k a0 (l1.take ((ji3) : Int).toNat)).bind fun t312 => ((boltingref07_Nested.f k a0 (l1.take ((ji3) : Int).toNat)).bind fun t313 => (some (t312 == t313)))) else (some false)) = some r := H
   have A6 := Aside0.mk A60
   clear A60
   by_cases c7 : t311 = true
   ·subst c7
    have H1 : ((build_Nested.f k a0 (l1.take ((ji3) : Int).toNat)).bind fun t312 => ((boltingref07_Nested.f k a0 (l1.take ((ji3) : Int).toNat)).bind fun t313 => (some (t312 == t313)))) = some r := by rw [if_pos rfl] at H; exact H
    clear H
    have H := H1
    clear H1
    replace H := Option.bind_eq_some_iff.mp H
    obtain ⟨t312, A80, H⟩ := H
    replace H : ((boltingref07_Nested.f k a0 (l1.take ((ji3) : Int).toNat)).bind fun t313 => (some (t312 == t313))) = some r := H
    have A8 := Aside0.mk A80
    clear A80
    replace H := Option.bind_eq_some_iff.mp H
    obtain ⟨t313, A90, H⟩ := H
    replace H : (some (t312 == t313)) = some r := H
    have A9 := Aside0.mk A90
    clear A90
    obtain rfl := Option.some.inj H
    obtain ⟨i010, hi010, _, hsz10, _⟩ := info_parts info9
    obtain ⟨hcut10, hA10, hC10⟩ := print_take_of (P := Tryz.prog) Value.string (⟨#[]⟩ : ByteArray) 41 9 .i64 Tryz.underlying41 hi010 hsz10 A1 c1 l1 (ji3) ((by first | exact of_decide_eq_true (by first | (with_reducible assumption) | assumption) | assumption | omega)) ((by first | exact of_decide_eq_true (by first | (with_reducible assumption) | assumption) | assumption | omega)) HC1.out
    have E10_ := Aside0.mk (show (l1.take ((ji3) : Int).toNat).length = (ji3 : Int).toNat from by rw [List.length_take]; have q1 := of_decide_eq_true c4b1; have q2 := of_decide_eq_true c5b1; omega)
    have HR310 := Aside0.mk (Kd.C_of_reads (h1 := fun _ => rfl) (hA10 _ (Kd.reads_of_C HR1.out)))
    have HC310 := Aside0.mk hC10
    clear hA10 hC10 hi010 hsz10
    go_enter Tryz.func6, Tryz.ntmps6
    go_wp2_with (first | ((with_reducible refine gate_callee (f := 23) rfl ?_); refine goesL_ (some 10) rfl rfl Tryz.func23 (by kernel_rfl) rfl #[] rfl (by (try simp only [List.map_toArray, List.map_cons, List.map_nil]); first | done | rfl | (simp only [List.length_drop, List.length_take]; rfl)) ?_; (with_reducible refine (boltinglaw07_fixed.calls  true _ A6.out (Go.Proofs.YtkcmghlhpbepcaaGreatDoor.Std.below HS_.out bz)).mono ?_); rintro e w11 ⟨rfl, hb⟩; refine ⟨_, rfl, ?_⟩; have n0_ := Aside0.mk (below_step bz hb); clear HB; have HB := n0_; clear n0_; (try clear hb); (try clear hb2); (try clear hk); (try clear hi)) | (go_at_call 27; (try rw [← E10_.out]); (with_reducible refine (build_Nested.calls k a0 _ _ (l1.take ((ji3) : Int).toNat) t312 _ ?side1 ?side2 A8.out).mono ?_); (case side1 => exact cz (Kd.C_below HR310.out HB.out)); (case side2 => exact HC310.out); rintro e w12 ⟨rfl, hb⟩; have n0_ := Aside0.mk (below_step bz hb); clear HB; have HB := n0_; clear n0_; (try clear hb); (try clear hb2); (try clear hk); (try clear hi)) | (go_at_call 28; (try rw [← E10_.out]); (with_reducible refine (boltingref07_Nested.calls k a0 _ _ (l1.take ((ji3) : Int).toNat) t313 _ ?side1 ?side2 A9.out).mono ?_); (case side1 => exact cz (Kd.C_below HR310.out HB.out)); (case side2 => exact HC310.out); rintro e w13 ⟨rfl, hb⟩; have n0_ := Aside0.mk (below_step bz hb); clear HB; have HB := n0_; clear n0_; (try clear hb); (try clear hb2); (try clear hk); (try clear hi)))
    go_ret
    exact ⟨by first | rfl | (simp [errW_none, errW_some] <;> rfl) | (simp only [← hji3]; first | rfl | (simp [errW_none, errW_some] <;> rfl)) | (simp [*, errW_none, errW_some] <;> rfl), bz⟩
   ·exact absurd (Option.some.inj A6.out).symm c7
  ·rw [if_neg c5] at H
   exact absurd H (by simp)
 ·rw [if_neg c4] at H
  exact absurd H (by simp)
end Go.Proofs.YtkcmghlhpbepcaaGreatDoorH.W7

/- Whether an element of any name may stand within any others is as the document says: BuildNested is true. -/
namespace Go.Proofs.YtkcmghlhpbepcaaGreatDoor
open Go.RowKit Go.Proofs Go.Proofs.YtkcmghlhpbepcaaGreatDoorH Go.Proofs.YtkcmghlhpbepcaaGreatDoorH.W7 Go.Proofs.YtkcmghlhpbepcaaGreatDoorW.PrintWords
theorem nested_true (s : ByteArray) (l : List ByteArray) : boltinglaw07_BuildNested.f 40000 s l = some true := by
 have h40 : 0 ≤ mn (l.length : Int) 40 ∧ mn (l.length : Int) 40 ≤ (l.length : Int) ∧ mn (l.length : Int) 40 ≤ 40 := by
  unfold mn
  split <;> omega
 obtain ⟨b, h1, h2⟩ := nested_eq s (l.take (mn (l.length : Int) 40).toNat) 40000 (by rw [List.length_take]; omega) (Nat.le_refl _)
 unfold boltinglaw07_BuildNested.f
 rw [if_pos h40.1, if_pos h40.2.1, show boltinglaw07_fixed.f = some true from rfl, Option.bind_some, if_pos rfl, h1, Option.bind_some, h2, Option.bind_some]
 simp
theorem buildNested_w (s : ByteArray) (hs : s.size ≤ maxLen) (A : Option Addr) (c : Nat) (l : List ByteArray) {W : World} (hr : Kd.string.C W A l.length l) (hc : l.length ≤ c) (wf : ∀ x ∈ l, x.size ≤ maxLen) (hS : Std W) :
 Calls Tryz.prog 6 #[.string s, .slice A l.length c] W fun e w' => e = .returned (.bool true) ∧ Below W.heap.size W w' :=
 boltinglaw07_BuildNested.calls 40000 s A c l true W hr hc (nested_true s l) hS
end Go.Proofs.YtkcmghlhpbepcaaGreatDoor

/- A world that fits the rows of layer 7: the settled one, the listed variables holding what the program's text lays; and what a row's premises give the walks. -/
namespace Go.Proofs.YtkcmghlhpbepcaaGreatDoor
open Go.ChangeShapes Go.WideShapes Go.ChangeAt Go.RowKit
theorem own : ownKnob Tryz.prog.godebug = none := by kernel_rfl
theorem gER : Tryz.prog.globalNamed "strconv.ErrRange" = some 4 := by kernel_rfl
theorem gERType : (Tryz.prog.globals[4]?).map (·.type) = some 109 := by kernel_rfl
theorem cellsES : Tryz.prog.cellsOf 199 = 1 := by kernel_rfl
theorem cellsStr : Tryz.prog.cellsOf 9 = 1 := by kernel_rfl
theorem starES : "*" ++ "errors.errorString" = "*errors.errorString" := by decide
theorem rowES (u : TypeId) (h : Tryz.prog.typeName? 3 u = some "*errors.errorString") : u = 197 :=
 typeName_ptr_named (nm := "errors.errorString") (by rw [starES]; kernel_rfl) (by kernel_rfl) (by decide) u (by rw [starES]; exact h)
def litCell : DataW Unit → Value
 | .lit (.int k n) => .int k n
 | _ => .bool false
def litCells : DataW Unit → List Value
 | .agg l => l.map litCell
 | d => [litCell d]
def dataCells : DataW Unit → Array Value
 | .agg l => (l.flatMap litCells).toArray
 | _ => #[]
abbrev synS : ByteArray := { data := #[105, 110, 118, 97, 108, 105, 100, 32, 115, 121, 110, 116, 97, 120] }
abbrev rngS : ByteArray := { data := #[118, 97, 108, 117, 101, 32, 111, 117, 116, 32, 111, 102, 32, 114, 97, 110, 103, 101] }
noncomputable def low : Nat := (World.holding Tryz.prog default ⟨#[], #[], []⟩).heap.size
noncomputable def laidWorld (os : Os) : World :=
 let w0 := World.holding Tryz.prog os ⟨#[.cells #[.string synS] 199, .cells #[.string rngS] 199], #[], []⟩
 let put (h : Array Obj) (g : Nat) (cs : Array Value) : Array Obj := h.modify g fun
  | .cells _ t frozen => .cells cs t frozen
  | o => o
 let h1 := put w0.heap 6 (dataCells Rows.laid_math_bits_deBruijn32tab)
 let h2 := put h1 7 (dataCells Rows.laid_math_bits_deBruijn64tab)
 let h3 := put h2 5 (dataCells Rows.laid_internal_strconv_uint64pow10)
 let h4 := put h3 1 (dataCells Rows.laid_unicode_utf8_acceptRanges)
 let h5 := put h4 3 #[.iface 197 (.pointer (some ⟨low, 0, none⟩))]
 let h6 := put h5 4 #[.iface 197 (.pointer (some ⟨low + 1, 0, none⟩))]
 let h7 := put h6 0 (dataCells Rows.laid_unicode_utf8_first)
 { w0 with heap := h7 }
def listed : List (String × DataW Unit) := [("math/bits.deBruijn32tab", Rows.laid_math_bits_deBruijn32tab), ("math/bits.deBruijn64tab", Rows.laid_math_bits_deBruijn64tab), ("internal/strconv.uint64pow10", Rows.laid_internal_strconv_uint64pow10), ("unicode/utf8.acceptRanges", Rows.laid_unicode_utf8_acceptRanges), ("strconv.ErrRange", Rows.laid_strconv_ErrRange), ("strconv.ErrSyntax", Rows.laid_strconv_ErrSyntax), ("unicode/utf8.first", Rows.laid_unicode_utf8_first)]
set_option maxRecDepth 100000 in
theorem laid_met (os : Os) (args : Array Value) : laidMet Tryz.prog listed ((laidWorld os).forCall (fun _ _ => 0) ⟨#[], args, []⟩).memory :=
 (LaidIn.of_run [6, 7, 5, 1, 4, 3, low, low + 1, 0] 8 (by kernel_rfl) (by kernel_rfl) (by kernel_rfl) (by kernel_rfl)).met
theorem std_of {W : World} (hL : laidMetH Tryz.prog listed W) (hsh : W.ShapedOpen Tryz.prog) : Std W := by
 have h0 : laidMet Tryz.prog listed W := hL
 have h3 := h0.tail.tail.tail.tail
 obtain ⟨a1, s1, hv1, -, -, -⟩ := laid_sentinel h3 gER gERType Tryz.underlying109 rowES Tryz.underlying197 Tryz.underlying199 rfl rfl Tryz.underlying9 cellsES cellsStr
 exact ⟨Go.Proofs.cell_of_shapedOpen_int (zero := #[.int .i64 0]) (t := 3) hsh (of_decide_eq_true (by kernel_rfl)) (by kernel_rfl) rfl (by kernel_rfl) (by kernel_rfl) Tryz.underlying3, ⟨_, _, by have h0 := World.var?_cell gER hv1 0; simpa using h0⟩⟩
end Go.Proofs.YtkcmghlhpbepcaaGreatDoor
