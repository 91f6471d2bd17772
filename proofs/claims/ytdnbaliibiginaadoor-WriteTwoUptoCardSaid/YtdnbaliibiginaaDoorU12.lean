/- Lemmas and walks, part 12: QPW8x29. -/
import Derived.Test.YtdnbaliibiginaaDoorU4
set_option linter.unusedVariables false
set_option linter.unusedSimpArgs false

/- Words and walks used below. -/
namespace Go.Proofs.YtdnbaliibiginaaDoorH.W8
open Go.RowKit Go.Proofs.YtdnbaliibiginaaDoorW.PrintWords Go.Proofs.YtdnbaliibiginaaDoorW.PrintLast Go.Proofs.YtdnbaliibiginaaDoorW.PrintMore
attribute [local go_sem] max2_int min2_int max_two min_two max_three min_three max_four min_four   -- for this text's walks alone
def names_table.f (k : Nat) (a0 : ByteArray) : Option (Bool) := (names_among.f k a0 (([(⟨#[116, 114]⟩ : ByteArray), (⟨#[116, 100]⟩ : ByteArray), (⟨#[116, 104]⟩ : ByteArray), (⟨#[116, 98, 111, 100, 121]⟩ : ByteArray), (⟨#[116, 102, 111, 111, 116]⟩ : ByteArray), (⟨#[116, 104, 101, 97, 100]⟩ : ByteArray)] : List ByteArray))).bind fun t184 => (some t184)
set_option maxHeartbeats 8000000 in
set_option maxRecDepth 100000 in
theorem names_table.calls (k : Nat) (a0 : ByteArray) (r : Bool) (w : World) (h : names_table.f k a0 = some r) :
  Calls Tryd.prog 112 #[.string a0] w fun e w' => e = .returned (.bool r) ∧ Below w.heap.size w w' := by
 have HB := Aside0.mk (Below.refl w.heap.size w)
 have H : ((names_among.f k a0 (([(⟨#[116, 114]⟩ : ByteArray), (⟨#[116, 100]⟩ : ByteArray), (⟨#[116, 104]⟩ : ByteArray), (⟨#[116, 98, 111, 100, 121]⟩ : ByteArray), (⟨#[116, 102, 111, 111, 116]⟩ : ByteArray), (⟨#[116, 104, 101, 97, 100]⟩ : ByteArray)] : List ByteArray))).bind fun t184 => (some t184)) = some r := h
 clear h
 obtain ⟨y181, hy181⟩ : ∃ y_ : List ByteArray, y_ = (([(⟨#[116, 114]⟩ : ByteArray), (⟨#[116, 100]⟩ : ByteArray), (⟨#[116, 104]⟩ : ByteArray), (⟨#[116, 98, 111, 100, 121]⟩ : ByteArray), (⟨#[116, 102, 111, 111, 116]⟩ : ByteArray), (⟨#[116, 104, 101, 97, 100]⟩ : ByteArray)] : List ByteArray)) := ⟨_, rfl⟩
 replace H : ((names_among.f k a0 y181).bind fun t184 => (some t184)) = some r := by first | (rw [hy181]; with_reducible exact H) | (have H2_ := (Option.bind_some _ _).symm.trans H; rw [hy181]; with_reducible exact H2_) | (have H2_ := (Option.bind_some _ _).symm.trans H; with_reducible exact H2_) | with_reducible exact H | (rw [hy181]; exact H) | exact H
 have Ny181 := Aside0.mk hy181
 clear hy181
 replace H := Option.bind_eq_some_iff.mp H
 obtain ⟨t184, A20, H⟩ := H
 replace H : (some t184) = some r := H
 have A2 := Aside0.mk A20
 clear A20
 obtain rfl := Option.some.inj H
 go_enter Tryd.func112, Tryd.ntmps112
 go_wp2_with (first | ((with_reducible refine gate_dst (N := 4) rfl ?_); refine Kd.R_lit Kd.string _ 9 ?hg (N := 4) ?hd (xs := ([(⟨#[116, 114]⟩ : ByteArray), (⟨#[116, 100]⟩ : ByteArray), (⟨#[116, 104]⟩ : ByteArray), (⟨#[116, 98, 111, 100, 121]⟩ : ByteArray), (⟨#[116, 102, 111, 111, 116]⟩ : ByteArray), (⟨#[116, 104, 101, 97, 100]⟩ : ByteArray)] : List ByteArray)) (inner := [.string (⟨#[116, 114]⟩ : ByteArray), .string (⟨#[116, 100]⟩ : ByteArray), .string (⟨#[116, 104]⟩ : ByteArray), .string (⟨#[116, 98, 111, 100, 121]⟩ : ByteArray), .string (⟨#[116, 102, 111, 111, 116]⟩ : ByteArray), .string (⟨#[116, 104, 101, 97, 100]⟩ : ByteArray)]) (ok := fun _ => True) (okp := fun _ => True) ?hr ?hp (fun _ hk => hk) trivial (Below.refl _ _) (Nat.le_refl _) (by simp) ?_; (case hd => rfl); (case hg => rfl); (case hr => first | (go_simp; done) | (go_simp; rfl)); (case hp => exact (Reps.one (show Kd.M Kd.string _ _ _ (⟨#[116, 114]⟩ : ByteArray) [.string (⟨#[116, 114]⟩ : ByteArray)] from rfl) (Reps.one (show Kd.M Kd.string _ _ _ (⟨#[116, 100]⟩ : ByteArray) [.string (⟨#[116, 100]⟩ : ByteArray)] from rfl) (Reps.one (show Kd.M Kd.string _ _ _ (⟨#[116, 104]⟩ : ByteArray) [.string (⟨#[116, 104]⟩ : ByteArray)] from rfl) (Reps.one (show Kd.M Kd.string _ _ _ (⟨#[116, 98, 111, 100, 121]⟩ : ByteArray) [.string (⟨#[116, 98, 111, 100, 121]⟩ : ByteArray)] from rfl) (Reps.one (show Kd.M Kd.string _ _ _ (⟨#[116, 102, 111, 111, 116]⟩ : ByteArray) [.string (⟨#[116, 102, 111, 111, 116]⟩ : ByteArray)] from rfl) (Reps.one (show Kd.M Kd.string _ _ _ (⟨#[116, 104, 101, 97, 100]⟩ : ByteArray) [.string (⟨#[116, 104, 101, 97, 100]⟩ : ByteArray)] from rfl) (Reps.none _ _)))))))); intro v182 w3 ho4 hb hg_ hnew_; clear hg_ hnew_; (first | rw [← Ny181.out] at ho4 | (simp only [Int.reduceToNat] at ho4; rw [← Ny181.out] at ho4)); have n0_ := Aside0.mk (Kd.R_lower ho4 (below_size bz)); have n1_ := Aside0.mk (below_step bz hb); clear HB; have HO183 := n0_; have HB := n1_; clear n0_ n1_; clear hb ho4; obtain ⟨Ao5, co5, eo5⟩ := Kd.R_slice HO183.out; subst eo5) | ((with_reducible refine gate_callee (f := 52) rfl ?_); refine goesL_ (some 5) rfl rfl Tryd.func52 (by kernel_rfl) rfl #[.string a0, .slice Ao5 y181.length co5] rfl (by (try simp only [List.map_toArray, List.map_cons, List.map_nil]); first | done | rfl | (simp only [List.length_drop, List.length_take]; rfl)) ?_; (with_reducible refine (names_among.calls k a0 _ _ y181 t184 _ ?side1 ?side2 A2.out).mono ?_); (case side1 => exact cz (Kd.R_reads' HO183.out).2.2); (case side2 => exact (Kd.R_reads' HO183.out).2.1); rintro e w' ⟨rfl, ⟨nd, rfl⟩⟩; refine ⟨_, rfl, ?_⟩))
 go_ret
 exact ⟨by first | rfl | (simp [errW_none, errW_some] <;> rfl) | (simp [*, errW_none, errW_some] <;> rfl), bz⟩
end Go.Proofs.YtdnbaliibiginaaDoorH.W8
