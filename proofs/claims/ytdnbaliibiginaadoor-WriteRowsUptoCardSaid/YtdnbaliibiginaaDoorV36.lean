/- Lemmas and walks, part 36: QPW8x16, QE8X. -/
import Derived.Test.YtdnbaliibiginaaDoorV4
import Derived.Test.YtdnbaliibiginaaDoorV7
import Derived.Test.YtdnbaliibiginaaDoorV19
import Derived.Test.YtdnbaliibiginaaDoorV10
import Derived.Test.YtdnbaliibiginaaDoorV35
set_option linter.unusedVariables false
set_option linter.unusedSimpArgs false

/- Words and walks used below. -/
namespace Go.Proofs.YtdnbaliibiginaaDoorH.W8
open Go.RowKit Go.Proofs.YtdnbaliibiginaaDoorW.PrintWords Go.Proofs.YtdnbaliibiginaaDoorW.PrintLast Go.Proofs.YtdnbaliibiginaaDoorW.PrintMore
attribute [local go_sem] max2_int min2_int max_two min_two max_three min_three max_four min_four   -- for this text's walks alone
def boltinglaw08_one.f (a0 : ByteArray) (a1 : ByteArray) : Option ((List (S35))) := some (([(⟨0, 0, a0, (⟨#[]⟩ : ByteArray), ([] : List (S45))⟩ : S35), (⟨1, 1, (⟨#[]⟩ : ByteArray), a1, ([] : List (S45))⟩ : S35)] : List (S35)))
set_option maxHeartbeats 8000000 in
set_option maxRecDepth 100000 in
theorem boltinglaw08_one.calls (a0 : ByteArray) (a1 : ByteArray) (r : List (S35)) (w : World) (h : boltinglaw08_one.f a0 a1 = some r) :
  Calls Tryd.prog 24 #[.string a0, .string a1] w fun e w' => ∃ v0_ : Value, e = .returned (v0_) ∧ Kd.R k35 35 w' w.heap.size (fun _ => True) v0_ r ∧ Below w.heap.size w w' := by
 have hu35 := Tryd.underlying35
 have HB := Aside0.mk (Below.refl w.heap.size w)
 have H : (some (([(⟨0, 0, a0, (⟨#[]⟩ : ByteArray), ([] : List (S45))⟩ : S35), (⟨1, 1, (⟨#[]⟩ : ByteArray), a1, ([] : List (S45))⟩ : S35)] : List (S35)))) = some r := h
 clear h
 obtain ⟨y145, hy145⟩ : ∃ y_ : List (S35), y_ = (([(⟨0, 0, a0, (⟨#[]⟩ : ByteArray), ([] : List (S45))⟩ : S35), (⟨1, 1, (⟨#[]⟩ : ByteArray), a1, ([] : List (S45))⟩ : S35)] : List (S35))) := ⟨_, rfl⟩
 replace H : (some y145) = some r := by first | (rw [hy145]; with_reducible exact H) | (have H2_ := (Option.bind_some _ _).symm.trans H; rw [hy145]; with_reducible exact H2_) | (have H2_ := (Option.bind_some _ _).symm.trans H; with_reducible exact H2_) | with_reducible exact H | (rw [hy145]; exact H) | exact H
 have Ny145 := Aside0.mk hy145
 clear hy145
 obtain rfl := Option.some.inj H
 go_enter Tryd.func24, Tryd.ntmps24
 go_wp2_with (first | ((with_reducible refine gate_dst (N := 9) rfl ?_); refine Kd.R_lit k35 _ 35 ?hg (N := 9) ?hd (xs := ([(⟨0, 0, a0, (⟨#[]⟩ : ByteArray), ([] : List (S45))⟩ : S35), (⟨1, 1, (⟨#[]⟩ : ByteArray), a1, ([] : List (S45))⟩ : S35)] : List (S35))) (inner := [.int .i64 0, .int .i64 0, .string a0, .string (⟨#[]⟩ : ByteArray), .slice none 0 0, .int .i64 1, .int .i64 1, .string (⟨#[]⟩ : ByteArray), .string a1, .slice none 0 0]) (ok := fun _ => True) (okp := fun _ => True) ?hr ?hp (fun _ hk => hk) trivial (Below.refl _ _) (Nat.le_refl _) (by simp) ?_; (case hd => rfl); (case hg => rfl); (case hr => first | (go_simp; done) | (go_simp; rfl)); (case hp => exact (Reps.c5 (show Kd.M k35 _ _ _ (⟨0, 0, a0, (⟨#[]⟩ : ByteArray), ([] : List (S45))⟩ : S35) [.int .i64 0, .int .i64 0, .string a0, .string (⟨#[]⟩ : ByteArray), .slice none 0 0] from (k35_mkM _ _ _ (⟨0, 0, a0, (⟨#[]⟩ : ByteArray), ([] : List (S45))⟩ : S35) (Kd.R_nil _ _ _ _ _))) (Reps.c5 (show Kd.M k35 _ _ _ (⟨1, 1, (⟨#[]⟩ : ByteArray), a1, ([] : List (S45))⟩ : S35) [.int .i64 1, .int .i64 1, .string (⟨#[]⟩ : ByteArray), .string a1, .slice none 0 0] from (k35_mkM _ _ _ (⟨1, 1, (⟨#[]⟩ : ByteArray), a1, ([] : List (S45))⟩ : S35) (Kd.R_nil _ _ _ _ _))) (Reps.none _ _)))); intro v146 w3 ho4 hb hg_ hnew_; clear hg_ hnew_; (first | rw [← Ny145.out] at ho4 | (simp only [Int.reduceToNat] at ho4; rw [← Ny145.out] at ho4)); have n0_ := Aside0.mk (Kd.R_lower ho4 (below_size bz)); have n1_ := Aside0.mk (below_step bz hb); clear HB; have HO147 := n0_; have HB := n1_; clear n0_ n1_; clear hb ho4))
 go_ret
 exact ⟨_, by first | rfl | (simp [errW_none, errW_some] <;> rfl) | (simp [*, errW_none, errW_some] <;> rfl), by (with_reducible repeat (first | apply Kd.R_alloc | apply Kd.R_drewN | apply Kd.R_drew)); exact HO147.out, bz⟩
end Go.Proofs.YtdnbaliibiginaaDoorH.W8

/- The calls whose answers the document fixes: the walk; and that they are so, by the kernel. -/
namespace Go.Proofs.YtdnbaliibiginaaDoorH.W8
open Go.RowKit Go.Proofs Go.Proofs.YtdnbaliibiginaaDoor Go.Proofs.YtdnbaliibiginaaDoorW.PrintWords
abbrev aP : ByteArray := ⟨#[112]⟩
abbrev aS : ByteArray := ⟨#[115, 99, 114, 105, 112, 116]⟩
abbrev aAB : ByteArray := ⟨#[97, 60, 98]⟩
abbrev aASB : ByteArray := ⟨#[97, 60, 47, 98]⟩
abbrev aBR : ByteArray := ⟨#[98, 114]⟩
abbrev aA : ByteArray := ⟨#[97]⟩
abbrev a0 : ByteArray := ⟨#[]⟩
def oneR (a b : ByteArray) : List Rw := [⟨0, 0, a, a0, []⟩, ⟨1, 1, a0, b, []⟩]
def ppR : List Rw := [⟨0, 0, aP, a0, []⟩, ⟨1, 0, aP, a0, []⟩]
def brR : List Rw := [⟨0, 0, aBR, a0, [⟨aA, ⟨#[34]⟩⟩]⟩, ⟨0, 2, a0, ⟨#[99]⟩, []⟩]
theorem f1 : write_Rows.f (oneR aP aAB) = some ⟨#[60, 112, 62, 97, 38, 108, 116, 59, 98, 60, 47, 112, 62]⟩ := by kernel_rfl
theorem f2 : write_Rows.f (oneR aS aAB) = some ⟨#[60, 115, 99, 114, 105, 112, 116, 62, 97, 60, 98, 60, 47, 115, 99, 114, 105, 112, 116, 62]⟩ := by kernel_rfl
theorem f3 : write_Inside.f 100 (oneR aP aAB) 0 = some ⟨#[97, 38, 108, 116, 59, 98]⟩ := by kernel_rfl
theorem f4 : write_Rows.f brR = some ⟨#[60, 98, 114, 32, 97, 61, 34, 38, 113, 117, 111, 116, 59, 34, 62, 60, 33, 45, 45, 99, 45, 45, 62]⟩ := by kernel_rfl
theorem g1 : write_Legal.f 200 (oneR aP aAB) = some true := by kernel_rfl
theorem g2 : write_Legal.f 200 (oneR aS aAB) = some true := by kernel_rfl
theorem g3 : write_Legal.f 200 (oneR aS aASB) = some false := by kernel_rfl
theorem g4 : write_Legal.f 200 ppR = some false := by kernel_rfl
theorem g5 : write_Legal.f 200 (oneR aBR aA) = some false := by kernel_rfl
theorem one_c (a b : ByteArray) (w : World) : Calls Tryd.prog 24 #[.string a, .string b] w fun e w' => ∃ A c, e = .returned (.slice A 2 c) ∧ 2 ≤ c ∧ k35.C w' A 2 (oneR a b) ∧ Below w.heap.size w w' := by
 refine (boltinglaw08_one.calls a b (oneR a b) w rfl).mono ?_
 rintro e w' ⟨v, rfl, hR, hb⟩
 obtain ⟨A, c, rfl, hc, hC⟩ := Kd.R_reads hR
 exact ⟨A, c, rfl, hc, hC, hb⟩
abbrev ppO : Obj := .cells #[.int .i64 0, .int .i64 0, .string aP, .string a0, .slice none 0 0, .int .i64 1, .int .i64 0, .string aP, .string a0, .slice none 0 0] 35
abbrev brA : Obj := .cells #[.string aA, .string ⟨#[34]⟩] 45
abbrev brO (b : Nat) : Obj := .cells #[.int .i64 0, .int .i64 0, .string aBR, .string a0, .slice (some ⟨b, 0, none⟩) 1 1, .int .i64 0, .int .i64 2, .string a0, .string ⟨#[99]⟩, .slice none 0 0] 35
theorem nilC (W : World) : k45.C W none 0 [] := ⟨rfl, by omega, fun h => by omega⟩
abbrev ppV : List Value := [.int .i64 0, .int .i64 0, .string aP, .string a0, .slice none 0 0, .int .i64 1, .int .i64 0, .string aP, .string a0, .slice none 0 0]
theorem pp_C (w : World) : k35.C (w.alloc ppO) (some ⟨w.heap.size, 0, none⟩) 2 ppR := by
 have ho : (w.alloc ppO).ownsRow w.heap.size 35 5 (.slice (some ⟨w.heap.size, 0, none⟩) 2 2) 2 ppV := ⟨rfl, .inr ⟨w.heap.size, 2, _, rfl, Nat.le_refl _, new_cells w _ _, Nat.le_refl _, by unfold maxLen; omega, rfl, rfl⟩⟩
 have hr : Reps (k35.K (w.alloc ppO)) 5 ppR ppV := Reps.c5 (k35_mk _ ⟨0, 0, aP, a0, []⟩ (Nat.le_refl _) (nilC _)) (Reps.c5 (k35_mk _ ⟨1, 0, aP, a0, []⟩ (Nat.le_refl _) (nilC _)) (Reps.none _ _))
 obtain ⟨A, c, e, h⟩ := own_reads_row ho hr rfl
 cases e
 exact h
abbrev brV (b : Nat) : List Value := [.int .i64 0, .int .i64 0, .string aBR, .string a0, .slice (some ⟨b, 0, none⟩) 1 1, .int .i64 0, .int .i64 2, .string a0, .string ⟨#[99]⟩, .slice none 0 0]
theorem at_C (w : World) : k45.C (w.alloc brA) (some ⟨w.heap.size, 0, none⟩) 1 [⟨aA, ⟨#[34]⟩⟩] := by
 have ho : (w.alloc brA).ownsRow w.heap.size 45 2 (.slice (some ⟨w.heap.size, 0, none⟩) 1 1) 1 [.string aA, .string ⟨#[34]⟩] := ⟨rfl, .inr ⟨w.heap.size, 1, _, rfl, Nat.le_refl _, new_cells w _ _, Nat.le_refl _, by unfold maxLen; omega, rfl, rfl⟩⟩
 have hr : Reps (k45.K (w.alloc brA)) 2 [(⟨aA, ⟨#[34]⟩⟩ : S45)] [.string aA, .string ⟨#[34]⟩] := Reps.c2 (k45_mk _ ⟨aA, ⟨#[34]⟩⟩) (Reps.none _ _)
 obtain ⟨A, c, e, h⟩ := own_reads_row ho hr rfl
 cases e
 exact h
theorem br_C (w : World) : k35.C ((w.alloc brA).alloc (brO w.heap.size)) (some ⟨w.heap.size + 1, 0, none⟩) 2 brR := by
 have hn := new_cells (w.alloc brA) #[.int .i64 0, .int .i64 0, .string aBR, .string a0, .slice (some ⟨w.heap.size, 0, none⟩) 1 1, .int .i64 0, .int .i64 2, .string a0, .string ⟨#[99]⟩, .slice none 0 0] 35
 rw [World.size_alloc] at hn
 have ho : ((w.alloc brA).alloc (brO w.heap.size)).ownsRow 0 35 5 (.slice (some ⟨w.heap.size + 1, 0, none⟩) 2 2) 2 (brV w.heap.size) := ⟨rfl, .inr ⟨w.heap.size + 1, 2, _, rfl, Nat.zero_le _, hn, Nat.le_refl _, by unfold maxLen; omega, rfl, rfl⟩⟩
 have hr : Reps (k35.K ((w.alloc brA).alloc (brO w.heap.size))) 5 brR (brV w.heap.size) := Reps.c5 (k35_mk _ ⟨0, 0, aBR, a0, [⟨aA, ⟨#[34]⟩⟩]⟩ (Nat.le_refl _) (Kd.C_alloc (at_C w) _)) (Reps.c5 (k35_mk _ ⟨0, 2, a0, ⟨#[99]⟩, []⟩ (Nat.le_refl _) (nilC _)) (Reps.none _ _))
 obtain ⟨A, c, e, h⟩ := own_reads_row ho hr rfl
 cases e
 exact h
set_option maxHeartbeats 1600000 in
set_option maxRecDepth 100000 in
theorem fixed_c (w : World) (hS : Std8 w) : Calls Tryd.prog 9 #[] w fun e w' => e = .returned (.bool true) ∧ Below w.heap.size w w' := by
 have hpp := pp_C w
 have HB := (Below.refl w.heap.size w).alloc (Nat.le_refl _) ppO
 have HP := Below.refl (w.alloc ppO).heap.size (w.alloc ppO)
 go_enter Tryd.func9, Tryd.ntmps9
 go_wp2_with (first
  | (go_at_call 24; ((with_reducible refine (one_c _ _ _).mono ?_); rintro e w1 ⟨A1, c1, rfl, hc1, hC1, hb1⟩; have HBn := Go.Proofs.YtdnbaliibiginaaDoor.below_then HB HB.size hb1; have HPn := Go.Proofs.YtdnbaliibiginaaDoor.below_then HP HP.size hb1; clear HB HP; have HB := HBn; have HP := HPn; clear HBn HPn))
  | (go_at_call 10; ((first | refine (write_Rows.calls A1 c1 _ _ _ hC1 hc1 f1 (hS.below HB)).mono ?_ | refine (write_Rows.calls A1 c1 _ _ _ hC1 hc1 f2 (hS.below HB)).mono ?_); rintro e w2 ⟨rfl, hb2⟩; have HBn := Go.Proofs.YtdnbaliibiginaaDoor.below_then HB HB.size hb2; have HPn := Go.Proofs.YtdnbaliibiginaaDoor.below_then HP HP.size hb2; clear HB HP; have HB := HBn; have HP := HPn; clear HBn HPn))
  | (go_at_call 12; ((refine (write_Inside.calls 100 A1 c1 _ 0 _ _ hC1 hc1 f3 (hS.below HB)).mono ?_); rintro e w3 ⟨rfl, hb3⟩; have HBn := Go.Proofs.YtdnbaliibiginaaDoor.below_then HB HB.size hb3; have HPn := Go.Proofs.YtdnbaliibiginaaDoor.below_then HP HP.size hb3; clear HB HP; have HB := HBn; have HP := HPn; clear HBn HPn))
  | (go_at_call 10; (have HBm := (HB.alloc HB.size brA).alloc (by rw [World.size_alloc]; exact Nat.le_succ_of_le HB.size) (brO w3.heap.size); have HPm := (HP.alloc HP.size brA).alloc (Nat.le_trans HP.size (by rw [World.size_alloc w3]; exact Nat.le_succ _)) (brO w3.heap.size); (refine (write_Rows.calls (some ⟨w3.heap.size + 1, 0, none⟩) 2 brR _ _ (br_C w3) (by decide) f4 (hS.below HBm)).mono ?_); rintro e w4 ⟨rfl, hb4⟩; have HBn := Go.Proofs.YtdnbaliibiginaaDoor.below_then HBm HBm.size hb4; have HPn := Go.Proofs.YtdnbaliibiginaaDoor.below_then HPm HPm.size hb4; clear HB HP HBm HPm; have HB := HBn; have HP := HPn; clear HBn HPn))
  | (go_at_call 17; ((first | refine (write_Legal.calls 200 A1 c1 _ _ _ hC1 hc1 g1 (hS.below HB)).mono ?_ | refine (write_Legal.calls 200 A1 c1 _ _ _ hC1 hc1 g2 (hS.below HB)).mono ?_ | refine (write_Legal.calls 200 A1 c1 _ _ _ hC1 hc1 g3 (hS.below HB)).mono ?_ | refine (write_Legal.calls 200 A1 c1 _ _ _ hC1 hc1 g5 (hS.below HB)).mono ?_ | refine (write_Legal.calls 200 (some ⟨w.heap.size, 0, none⟩) 2 _ _ _ (Kd.C_below hpp HP) (by decide) g4 (hS.below HB)).mono ?_); rintro e w5 ⟨rfl, hb5⟩; have HBn := Go.Proofs.YtdnbaliibiginaaDoor.below_then HB HB.size hb5; have HPn := Go.Proofs.YtdnbaliibiginaaDoor.below_then HP HP.size hb5; clear HB HP; have HB := HBn; have HP := HPn; clear HBn HPn)))
 go_ret
 exact ⟨rfl, HB⟩
def boltinglaw08_fixed.f : Option Bool := some true
theorem boltinglaw08_fixed.calls (r : Bool) (w : World) (h : boltinglaw08_fixed.f = some r) (hS_ : Std8 w) : Calls Tryd.prog 9 #[] w fun e w' => e = .returned (.bool r) ∧ Below w.heap.size w w' := by
 obtain rfl := Option.some.inj h
 exact fixed_c w hS_
end Go.Proofs.YtdnbaliibiginaaDoorH.W8
